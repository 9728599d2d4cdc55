/- spec.Container.parts of a container without lists: its contract. No conditions beside those stated. -/
import Derived.Test.YtpncpefppifgdaaGreatDoorGUtx0
import Derived.Maps.Own
import Derived.Maps.OwnOps
import Derived.Maps.Views
namespace Go.Proofs.YtpncpefppifgdaaGreatDoor.GUt
open Go.RowKit Go.Maps Go.WideMaps Go.Proofs.YtpncpefppifgdaaGreatDoorW.PrintWords Go.Proofs.YtpncpefppifgdaaGreatDoorW.PrintLast Go.Proofs.YtpncpefppifgdaaGreatDoorW.PrintMore
set_option linter.unusedVariables false
set_option linter.unusedSimpArgs false
def fM.f (_ _ : ByteArray) (l2 : List ByteArray) (l3 : List S126) (_ _ : Int) (l6 : List S127) : Option Int := if l2.length = 0 ∧ l3.length = 0 ∧ l6.length = 0 then some 0 else none
set_option maxHeartbeats 4000000 in
set_option maxRecDepth 100000 in
theorem fM.calls (a0 a1 : ByteArray) (A2 : Option Addr) (c2 : Nat) (l2 : List ByteArray) (A3 : Option Addr) (c3 : Nat) (l3 : List S126) (a4 a5 : Int) (A6 : Option Addr) (c6 : Nat) (l6 : List S127) (r : Int) (w : World)
    (hr2 : Kd.C Kd.string w A2 l2.length l2) (hc2 : l2.length ≤ c2) (hr3 : Kd.C jG w A3 l3.length l3) (hc3 : l3.length ≤ c3) (Bw : Kd.C jH w A6 l6.length l6) (hc6 : l6.length ≤ c6) (h : fM.f a0 a1 l2 l3 a4 a5 l6 = some r) :
    Calls Tryz.prog 108 #[.agg #[.string a0, .string a1, .slice A2 l2.length c2, .slice A3 l3.length c3, .int .i64 a4, .int .i64 a5, .slice A6 l6.length c6]] w fun e w' => e = .returned (.int .i64 r) ∧ Below w.heap.size w w' := by
  unfold fM.f at h
  split at h
  case isFalse => cases h
  rename_i hc
  obtain ⟨h2, h3, h6⟩ := hc
  obtain rfl := Option.some.inj h
  rw [h2, h3, h6]
  clear hr2 hc2 hr3 hc3 Bw hc6 h h2 h3 h6
  have hmm := @run_makeMap Tryz.prog
  have Bz := Tryz.underlying84
  have HK := Aside0.mk ((Below.refl _ w).alloc (Nat.le_refl _) (.cells #[.string a0, .string a1, .slice A2 0 c2, .slice A3 0 c3, .int .i64 a4, .int .i64 a5, .slice A6 0 c6] 84))
  go_enter Tryz.func108, Tryz.ntmps108
  go_wp2
  go_loopg [17] 0 (fun kq v17 w' => v17 = .int .i64 0 ∧ Aside0 (w'.heap[w.heap.size]? = some (.cells #[.string a0, .string a1, .slice A2 0 c2, .slice A3 0 c3, .int .i64 a4, .int .i64 a5, .slice A6 0 c6] 84 (0, 0))) ∧ Aside0 (Below w.heap.size w w'))
  case atStart => exact ⟨rfl, ⟨heap_alloc_new w _⟩, HK⟩
  case round =>
    obtain ⟨rfl, HG, B⟩ := hrel
    have z3 : (wr.alloc (Obj.map #[] 0)).cell? ⟨w.heap.size,3,none⟩ = some (.slice A3 0 c3) := (ah (ak HG.out _) 3).trans rfl
    clear HK
    go_wp2
    clear z3
    go_loopg [31] 0 (fun kq v31 w' => v31 = .int .i64 0 ∧ Aside0 (w'.heap[w.heap.size]? = some (.cells #[.string a0, .string a1, .slice A2 0 c2, .slice A3 0 c3, .int .i64 a4, .int .i64 a5, .slice A6 0 c6] 84 (0, 0))) ∧ Aside0 (Below w.heap.size w w'))
    case atStart => exact ⟨rfl, ⟨by repeat (first | exact HG.out | apply ak)⟩, ⟨by repeat (first | exact B.out | apply dG)⟩⟩
    case round =>
      clear HG B
      obtain ⟨rfl, HG, B⟩ := hrel
      have z6 : (wr.alloc (Obj.map #[] 0)).cell? ⟨w.heap.size,6,none⟩ = some (.slice A6 0 c6) := (ah (ak HG.out _) 6).trans rfl
      go_wp2
      clear z6
      go_loopg [71] 0 (fun kq v71 w' => v71 = .int .i64 0 ∧ Aside0 (Below w.heap.size w w'))
      case atStart => exact ⟨rfl, ⟨by repeat (first | exact B.out | apply dG)⟩⟩
      case round =>
        clear HG B
        obtain ⟨rfl, B⟩ := hrel
        go_wp2
        go_ret
        exact ⟨rfl, B.out⟩
end Go.Proofs.YtpncpefppifgdaaGreatDoor.GUt
