/- EvictStands: First of all loads has each once, of fewer it is the beginning, none that is left out goes ahead of one that isn't, and the loads stay as they were: the given statement, for every input. No conditions beside those in the statement. -/
import Derived.Test.YthnbkhggbfnpcaaRows
import Derived.Test.YthnbkhggbfnpcaaEvStPure
import Derived.Test.YthnbkhggbfnpcaaEvStands
import Derived.Test.YthnbkhggbfnpcaaOpens
import Derived.WalkKit
import Derived.ProofKit
import Derived.OpenShut
import Derived.ShutString
import Derived.ChangeOld
import Derived.Below
import Derived.SizedLaws
namespace Go.Proofs.Ythnbkhggbfnpcaa.evictStands
open Go.ChangeShapes Go.WideShapes Go.ChangeAt Go.RowKit Go.Proofs.Ythnbkhggbfnpcaa.GEv Go.Proofs.Ythnbkhggbfnpcaa.Opens Go.Proofs.YthnbkhggbfnpcaaW.PrintWords Go.Proofs.Ythnbkhggbfnpcaa.Ev
open Go.ChangeMaps (open_string shut_string)
set_option linter.unusedSimpArgs false
set_option linter.unusedVariables false
theorem own : ownKnob Try.prog.godebug = none := by kernel_rfl
theorem laidOut : laidOutB Try.prog = true := by kernel_rfl
theorem trod_float {P : Program} {H : Type} {enc : TypeId × Value → H} {w : World} {base : Nat} {spare : Nat → Bool} {held : Bool} {fuel : Nat} {t : TypeId} {cs : List Value} {x : DataW H × List MemPlace} {k : FloatKind} (ht : P.underlying t = some (.float k)) (h : DataW.trod enc P w base spare held fuel t cs = some x) : ∃ n, cs = [.float k n] := by
  cases fuel with
  | zero => simp [DataW.trod] at h
  | succ n =>
    unfold DataW.trod at h
    rw [ht] at h
    split at h <;> simp_all
theorem opens_float {P : Program} {t : TypeId} (ht : P.underlying t = some (.float .f64)) : Opens P t kF (fun _ => True) := by
  intro H enc w base spare held fuel cs x h _
  obtain ⟨n, rfl⟩ := trod_float ht h
  exact ⟨n, rfl, trivial⟩
def G27 (x : S27) : Prop := x.f0.size ≤ 140737488351232 ∧ True ∧ True
theorem o27 : Opens Try.prog 27 k27 G27 := opens_iso _ (fun p => ⟨p.1, p.2.1, p.2.2⟩) (fun _ => rfl) (opens_struct Try.underlying27 (by kernel_rfl) (opensF_cons rfl (by kernel_rfl) (opens_string Try.underlying9) (opensF_cons rfl (by kernel_rfl) (opens_float Try.underlying25) (opensF_one rfl (by kernel_rfl) (opens_float Try.underlying25)))))
theorem u8_range {a : Int} (h : (Lit.int .u8 a).wf = true) : 0 ≤ a ∧ a ≤ 255 := by
  have := h
  simp [Lit.wf, IntKind.min, IntKind.max, IntKind.bits, IntKind.signed] at this
  omega
theorem call (A0 : Option Addr) (c0 : Nat) (x0 : List S27) (a1 : Int) (W : World) (hC0 : Kd.C k27 W A0 x0.length x0) (hl0 : x0.length ≤ c0) (hk : 0 ≤ a1 ∧ a1 ≤ 255) (hG : ∀ x ∈ x0, G27 x) :
    Calls Try.prog 3 #[.slice A0 x0.length c0, .int .u8 a1] W fun e w' => e = .returned (.bool true) ∧ Below W.heap.size W w' := by
  by_cases hl : x0.length ≤ 40
  · exact bosunlaw24_EvictStands.few _ A0 c0 x0 a1 (filesOf x0) W hC0 hl0 hl hk.1 hk.2 (fun x hx => (hG x hx).1) (first_all x0 hl) _ rfl (first_f x0 a1 (by omega)) (filesOf_len x0) (stands_texts x0 a1 hl) (stands_pure x0)
  · exact bosunlaw24_EvictStands.many A0 c0 x0 a1 W hl
set_option maxRecDepth 100000 in
set_option maxHeartbeats 1000000 in
theorem lifted (os : Os) (started : os.Started) (H : Type) (enc : TypeId × Value → H) :
    ReturnsInHanded {} Try.checked os 3 .any (Rows.evictStandsSpec.pre6 enc Try.prog Try.f3 Rows.evictStandsRow.domain false) (Rows.evictStandsSpec.post enc Try.prog Try.f3 false true false false) := by
  refine returnsInHanded_of_change_sized (C := Try.checked) own started (by kernel_rfl) Try.func3
    (ChangeSpec.witness6 (enc := enc) (C := Try.checked) false ⟨#[], #[.slice none 0 0, .int .u8 0], []⟩ 8 (by kernel_rfl) (by kernel_rfl) (by kernel_rfl) (by kernel_rfl)) ?_
  intro W base args ds gs before hval0 hW hcnd hsz0 _
  have hsz : (DataW.weightsEach Try.prog (Try.f3.params.toList ++ Rows.evictStandsSpec.plain.varTypes Try.prog) (ds ++ gs)).all (· ≤ reachBytes) = true := hsz0
  have hval : ∀ (j : Nat) t v, Try.f3.params[j]? = some t → args[j]? = some v → Value.okWide Try.prog W .any base t v := hval0
  have hW' := hW
  obtain ⟨p, q, hA0, hV, rfl, hfz, hnd⟩ := hW
  have hA : DataW.TrodAll enc Try.prog W 0 (fun _ => true) true Try.f3.params.toList args.toList ds p := hA0
  rw [Try.params3] at hA hval hsz
  obtain ⟨v0, vs0, d0, ds0, p0, q0, hargs, rfl, rfl, h0, r0⟩ := trodAll_cons hA
  obtain ⟨v1, vs1, d1, ds1, p1, q1, rfl, rfl, rfl, h1, r1⟩ := trodAll_cons r0
  obtain ⟨rfl, rfl, rfl⟩ := trodAll_nil r1
  obtain rfl : args = #[v0, v1] := by cases args; simp_all
  obtain ⟨rfl, rfl⟩ := trodVars_none hV
  have k0 := h0
  have lt0 : ∀ x ∈ p0, x.block < W.heap.size := by obtain ⟨m, hm⟩ := k0; exact DataW.trod_lt m _ _ _ hm
  obtain ⟨x0, hK0, hG0⟩ := Opens.arg (opens_slice (B := 32) Try.underlying22 (by kernel_rfl) (by kernel_rfl) o27) h0 hsz (j := 0) rfl rfl
  obtain ⟨a0, len0, cap0, rfl⟩ := okWide_slice Try.underlying22 (hval 0 22 v0 rfl rfl)
  obtain ⟨A0, c0, he0, hl0, hC0⟩ := hK0
  have he0' : (Value.slice a0 len0 cap0) = .slice A0 x0.length c0 := by simpa [Value.cells] using he0
  injection he0' with e1_0 e2_0 e3_0
  subst e1_0 e2_0 e3_0
  obtain ⟨a1, rfl, rfl, rfl, w1⟩ := open_int Try.underlying5 (hval 1 5 v1 rfl rfl) h1
  clear hA0 hval0 hsz0 hsz
  refine (call _ _ x0 a1 W hC0 hl0 (u8_range w1) hG0.2.2).mono fun e W' ⟨he, bel⟩ => ?_
  subst he
  exact ⟨_, rfl, _, _, _, [], _, [], hW', trodAll_mk1 (shut_bool Try.underlying4 _), (trodAll_cons_mk (Below.trod laidOut (by kernel_rfl) (of_decide_eq_true (by kernel_rfl)) k0 bel lt0) (trodAll_cons_mk (shut_int Try.underlying5 w1) trodAll_mk0)), rfl, bel.frame _, fun h => by cases h⟩
theorem over : Rows.evictStandsRow.holds Try.pinned (OpenSpec.ofChange Rows.evictStandsSpec) :=
  OpenClaim.holds_of_wide 3 Try.f3 rfl rfl rfl rfl rfl rfl rfl ⟨rfl, rfl, rfl, rfl, rfl⟩ rfl rfl rfl rfl rfl (by kernel_rfl) Try.func3 (by kernel_rfl)
    (of_decide_eq_true (by kernel_rfl)) (by unfold Func.isWrapper; first | (rw [if_pos (by decide +kernel)]; kernel_rfl) | (rw [if_neg (by decide +kernel)]; exact ⟨rfl, rfl⟩))
    (fun os started H enc _ => lifted os started H enc)
theorem proved : Rows.EvictStandsSaid := over
#print axioms proved
end Go.Proofs.Ythnbkhggbfnpcaa.evictStands
namespace Go.Proofs.Ythnbkhggbfnpcaa
/-- The row, under a short name, for the claim. -/
theorem evictStands_holds : Rows.EvictStandsSaid := evictStands.proved
end Go.Proofs.Ythnbkhggbfnpcaa
