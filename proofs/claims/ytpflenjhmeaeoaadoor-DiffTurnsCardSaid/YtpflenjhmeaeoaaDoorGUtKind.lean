/- diff.Kind.String: an array of words, one of them: its contract. No conditions beside those stated. -/
import Derived.Test.YtpflenjhmeaeoaaDoorGUtx0
namespace Go.Proofs.YtpflenjhmeaeoaaDoor.GUt
open Go.RowKit Go.Proofs.YtpflenjhmeaeoaaDoorW.PrintWords Go.Proofs.YtpflenjhmeaeoaaDoorW.PrintLast Go.Proofs.YtpflenjhmeaeoaaDoorW.PrintMore
set_option linter.unusedVariables false
set_option linter.unusedSimpArgs false
def gL.f (a : Int) : Option ByteArray := if a = 0 then some ⟨#[97, 100, 100]⟩ else if a = 1 then some ⟨#[117, 112, 100, 97, 116, 101]⟩ else if a = 2 then some ⟨#[114, 101, 109, 111, 118, 101]⟩ else some ⟨#[110, 111, 110, 101]⟩
set_option maxHeartbeats 4000000 in
set_option maxRecDepth 100000 in
theorem gL.calls (a0 : Int) (r : ByteArray) (w : World) (h : gL.f a0 = some r) :
    Calls Tryd.prog 80 #[.int .i64 a0] w fun e w' => e = .returned (.string r) ∧ Below w.heap.size w w' := by
  have Al := Tryd.underlying119
  have HB := Aside0.mk ((Below.refl _ w).alloc (Nat.le_refl _) (.cells #[.string ⟨#[97, 100, 100]⟩, .string ⟨#[117, 112, 100, 97, 116, 101]⟩, .string ⟨#[114, 101, 109, 111, 118, 101]⟩] 119))
  unfold gL.f at h
  by_cases h0 : a0 = 0
  · subst h0
    obtain rfl := Option.some.inj h
    clear h
    go_enter Tryd.func80, Tryd.ntmps80
    go_wp2
    go_ret
    exact ⟨rfl, HB.out⟩
  rw [if_neg h0] at h
  by_cases h1 : a0 = 1
  · subst h1
    obtain rfl := Option.some.inj h
    clear h h0
    go_enter Tryd.func80, Tryd.ntmps80
    go_wp2
    go_ret
    exact ⟨rfl, HB.out⟩
  rw [if_neg h1] at h
  by_cases h2 : a0 = 2
  · subst h2
    obtain rfl := Option.some.inj h
    clear h h0 h1
    go_enter Tryd.func80, Tryd.ntmps80
    go_wp2
    go_ret
    exact ⟨rfl, HB.out⟩
  rw [if_neg h2] at h
  obtain rfl := Option.some.inj h
  by_cases h3 : a0 < 0
  · have c1 : decide (a0 < 0) = true := decide_eq_true h3
    clear h h0 h1 h2
    go_enter Tryd.func80, Tryd.ntmps80
    go_wp2
    go_ret
    exact ⟨rfl, HB.out⟩
  · have c1 : decide (a0 < 0) = false := decide_eq_false h3
    have h4 : 2 < a0 := by omega
    have c2 : decide (2 < a0) = true := decide_eq_true h4
    clear h h0 h1 h2
    go_enter Tryd.func80, Tryd.ntmps80
    go_wp2
    go_ret
    exact ⟨rfl, HB.out⟩
end Go.Proofs.YtpflenjhmeaeoaaDoor.GUt
