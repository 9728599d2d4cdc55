/- diff.Kind.String: an array of words, one of them: its contract. No conditions beside those stated. -/
import Derived.Test.YtpflenjhmeaeoaaGreatDoorGUtx0
namespace Go.Proofs.YtpflenjhmeaeoaaGreatDoor.GUt
open Go.RowKit Go.Proofs.YtpflenjhmeaeoaaGreatDoorW.PrintWords Go.Proofs.YtpflenjhmeaeoaaGreatDoorW.PrintLast Go.Proofs.YtpflenjhmeaeoaaGreatDoorW.PrintMore
set_option linter.unusedVariables false
set_option linter.unusedSimpArgs false
def dF.f (a : Int) : Option ByteArray := if a = 0 then some ⟨#[97, 100, 100]⟩ else if a = 1 then some ⟨#[117, 112, 100, 97, 116, 101]⟩ else if a = 2 then some ⟨#[114, 101, 109, 111, 118, 101]⟩ else some ⟨#[110, 111, 110, 101]⟩
set_option maxHeartbeats 4000000 in
set_option maxRecDepth 100000 in
theorem dF.calls (a0 : Int) (r : ByteArray) (w : World) (h : dF.f a0 = some r) :
    Calls Tryz.prog 13 #[.int .i64 a0] w fun e w' => e = .returned (.string r) ∧ Below w.heap.size w w' := by
  have hu64 := Tryz.underlying64
  have HB := Aside0.mk ((Below.refl _ w).alloc (Nat.le_refl _) (.cells #[.string ⟨#[97, 100, 100]⟩, .string ⟨#[117, 112, 100, 97, 116, 101]⟩, .string ⟨#[114, 101, 109, 111, 118, 101]⟩] 64))
  unfold dF.f at h
  by_cases h0 : a0 = 0
  · subst h0
    obtain rfl := Option.some.inj h
    clear h
    go_enter Tryz.func13, Tryz.ntmps13
    go_wp2
    go_ret
    exact ⟨rfl, HB.out⟩
  rw [if_neg h0] at h
  by_cases h1 : a0 = 1
  · subst h1
    obtain rfl := Option.some.inj h
    clear h h0
    go_enter Tryz.func13, Tryz.ntmps13
    go_wp2
    go_ret
    exact ⟨rfl, HB.out⟩
  rw [if_neg h1] at h
  by_cases h2 : a0 = 2
  · subst h2
    obtain rfl := Option.some.inj h
    clear h h0 h1
    go_enter Tryz.func13, Tryz.ntmps13
    go_wp2
    go_ret
    exact ⟨rfl, HB.out⟩
  rw [if_neg h2] at h
  obtain rfl := Option.some.inj h
  by_cases h3 : a0 < 0
  · have c1 : decide (a0 < 0) = true := decide_eq_true h3
    clear h h0 h1 h2
    go_enter Tryz.func13, Tryz.ntmps13
    go_wp2
    go_ret
    exact ⟨rfl, HB.out⟩
  · have c1 : decide (a0 < 0) = false := decide_eq_false h3
    have h4 : 2 < a0 := by omega
    have c2 : decide (2 < a0) = true := decide_eq_true h4
    clear h h0 h1 h2
    go_enter Tryz.func13, Tryz.ntmps13
    go_wp2
    go_ret
    exact ⟨rfl, HB.out⟩
end Go.Proofs.YtpflenjhmeaeoaaGreatDoor.GUt
