/- EvictOrders: of any loads, what goes first, up to any number, and until there is enough, is the document's: the given statement, for every input. No conditions beside those in the statement. -/
import Derived.Test.YthnbkhggbfnpcaaRows
import Derived.Test.YthnbkhggbfnpcaaEvPure
import Derived.Test.YthnbkhggbfnpcaaOpens
import Derived.WalkKit
import Derived.ProofKit
import Derived.OpenShut
import Derived.ShutString
import Derived.ChangeOld
import Derived.Below
import Derived.SizedLaws
namespace Go.Proofs.Ythnbkhggbfnpcaa.evictOrders
open Go.ChangeShapes Go.WideShapes Go.ChangeAt Go.RowKit Go.Proofs.Ythnbkhggbfnpcaa.GEv Go.Proofs.Ythnbkhggbfnpcaa.Opens Go.Proofs.YthnbkhggbfnpcaaW.PrintWords Go.Proofs.Ythnbkhggbfnpcaa.Ev
open Go.ChangeMaps (open_string shut_string)
set_option linter.unusedSimpArgs false
set_option linter.unusedVariables false
theorem own : ownKnob Try.prog.godebug = none := by kernel_rfl
theorem laidOut : laidOutB Try.prog = true := by kernel_rfl
theorem trod_float {P : Program} {H : Type} {enc : TypeId × Value → H} {w : World} {base : Nat} {spare : Nat → Bool} {held : Bool} {fuel : Nat} {t : TypeId} {cs : List Value} {x : DataW H × List MemPlace} {k : FloatKind} (ht : P.underlying t = some (.float k)) (h : DataW.trod enc P w base spare held fuel t cs = some x) : ∃ n, cs = [.float k n] := by
  cases fuel with
  | zero => simp [DataW.trod] at h
  | succ n =>
    unfold DataW.trod at h
    rw [ht] at h
    split at h <;> simp_all
theorem opens_float {P : Program} {t : TypeId} (ht : P.underlying t = some (.float .f64)) : Opens P t kF (fun _ => True) := by
  intro H enc w base spare held fuel cs x h _
  obtain ⟨n, rfl⟩ := trod_float ht h
  exact ⟨n, rfl, trivial⟩
def G27 (x : S27) : Prop := x.f0.size ≤ 140737488351232 ∧ True ∧ True
theorem o27 : Opens Try.prog 27 k27 G27 := opens_iso _ (fun p => ⟨p.1, p.2.1, p.2.2⟩) (fun _ => rfl) (opens_struct Try.underlying27 (by kernel_rfl) (opensF_cons rfl (by kernel_rfl) (opens_string Try.underlying9) (opensF_cons rfl (by kernel_rfl) (opens_float Try.underlying25) (opensF_one rfl (by kernel_rfl) (opens_float Try.underlying25)))))
theorem int_le {a : Int} (h : (Lit.int .i64 a).wf = true) : a ≤ 9223372036854775807 := by
  have := h
  simp [Lit.wf, IntKind.min, IntKind.max, IntKind.bits, IntKind.signed] at this
  omega
theorem call (A0 : Option Addr) (c0 : Nat) (x0 : List S27) (a1 : Int) (a2 : Nat) (W : World) (hC0 : Kd.C k27 W A0 x0.length x0) (hl0 : x0.length ≤ c0) (hk : a1 ≤ 9223372036854775807) :
    Calls Try.prog 4 #[.slice A0 x0.length c0, .int .i64 a1, .float .f64 a2] W fun e w' => e = .returned (.bool true) ∧ Below W.heap.size W w' := by
  by_cases hl : x0.length ≤ 40
  · obtain ⟨K, r1, r2, h1, h2, h3, h4, h5, h6, h7⟩ := evict_pure x0 a1 a2 hl hk
    exact bosunlaw24_EvictOrders.few K A0 c0 x0 a1 a2 r1 r2 W hC0 hl0 hl h1 h2 h3 h4 h5 h6 h7
  · exact bosunlaw24_EvictOrders.many A0 c0 x0 a1 a2 W hl
set_option maxRecDepth 100000 in
set_option maxHeartbeats 1000000 in
theorem lifted (os : Os) (started : os.Started) (H : Type) (enc : TypeId × Value → H) :
    ReturnsInHanded {} Try.checked os 4 .any (Rows.evictOrdersSpec.pre6 enc Try.prog Try.f4 Rows.evictOrdersRow.domain false) (Rows.evictOrdersSpec.post enc Try.prog Try.f4 false true false false) := by
  refine returnsInHanded_of_change_sized (C := Try.checked) own started (by kernel_rfl) Try.func4
    (ChangeSpec.witness6 (enc := enc) (C := Try.checked) false ⟨#[], #[.slice none 0 0, .int .i64 0, .float .f64 0], []⟩ 8 (by kernel_rfl) (by kernel_rfl) (by kernel_rfl) (by kernel_rfl)) ?_
  intro W base args ds gs before hval0 hW hcnd hsz0 _
  have hsz : (DataW.weightsEach Try.prog (Try.f4.params.toList ++ Rows.evictOrdersSpec.plain.varTypes Try.prog) (ds ++ gs)).all (· ≤ reachBytes) = true := hsz0
  have hval : ∀ (j : Nat) t v, Try.f4.params[j]? = some t → args[j]? = some v → Value.okWide Try.prog W .any base t v := hval0
  have hW' := hW
  obtain ⟨p, q, hA0, hV, rfl, hfz, hnd⟩ := hW
  have hA : DataW.TrodAll enc Try.prog W 0 (fun _ => true) true Try.f4.params.toList args.toList ds p := hA0
  rw [Try.params4] at hA hval hsz
  obtain ⟨v0, vs0, d0, ds0, p0, q0, hargs, rfl, rfl, h0, r0⟩ := trodAll_cons hA
  obtain ⟨v1, vs1, d1, ds1, p1, q1, rfl, rfl, rfl, h1, r1⟩ := trodAll_cons r0
  obtain ⟨v2, vs2, d2, ds2, p2, q2, rfl, rfl, rfl, h2, r2⟩ := trodAll_cons r1
  obtain ⟨rfl, rfl, rfl⟩ := trodAll_nil r2
  obtain rfl : args = #[v0, v1, v2] := by cases args; simp_all
  obtain ⟨rfl, rfl⟩ := trodVars_none hV
  have k0 := h0
  have lt0 : ∀ x ∈ p0, x.block < W.heap.size := by obtain ⟨m, hm⟩ := k0; exact DataW.trod_lt m _ _ _ hm
  obtain ⟨x0, hK0, hG0⟩ := Opens.arg (opens_slice (B := 32) Try.underlying22 (by kernel_rfl) (by kernel_rfl) o27) h0 hsz (j := 0) rfl rfl
  obtain ⟨a0, len0, cap0, rfl⟩ := okWide_slice Try.underlying22 (hval 0 22 v0 rfl rfl)
  obtain ⟨A0, c0, he0, hl0, hC0⟩ := hK0
  have he0' : (Value.slice a0 len0 cap0) = .slice A0 x0.length c0 := by simpa [Value.cells] using he0
  injection he0' with e1_0 e2_0 e3_0
  subst e1_0 e2_0 e3_0
  obtain ⟨a1, rfl, rfl, rfl, w1⟩ := open_int Try.underlying3 (hval 1 3 v1 rfl rfl) h1
  obtain ⟨a2, rfl, rfl, rfl, w2⟩ := open_float Try.underlying25 (hval 2 25 v2 rfl rfl) h2
  clear hA0 hval0 hsz0 hsz
  refine (call _ _ x0 a1 a2 W hC0 hl0 (int_le w1)).mono fun e W' ⟨he, bel⟩ => ?_
  subst he
  exact ⟨_, rfl, _, _, _, [], _, [], hW', trodAll_mk1 (shut_bool Try.underlying4 _), (trodAll_cons_mk (Below.trod laidOut (by kernel_rfl) (of_decide_eq_true (by kernel_rfl)) k0 bel lt0) (trodAll_cons_mk (shut_int Try.underlying3 w1) (trodAll_cons_mk (shut_float Try.underlying25 w2) trodAll_mk0))), rfl, bel.frame _, fun h => by cases h⟩
theorem over : Rows.evictOrdersRow.holds Try.pinned (OpenSpec.ofChange Rows.evictOrdersSpec) :=
  OpenClaim.holds_of_wide 4 Try.f4 rfl rfl rfl rfl rfl rfl rfl ⟨rfl, rfl, rfl, rfl, rfl⟩ rfl rfl rfl rfl rfl (by kernel_rfl) Try.func4 (by kernel_rfl)
    (of_decide_eq_true (by kernel_rfl)) (by unfold Func.isWrapper; first | (rw [if_pos (by decide +kernel)]; kernel_rfl) | (rw [if_neg (by decide +kernel)]; exact ⟨rfl, rfl⟩))
    (fun os started H enc _ => lifted os started H enc)
theorem proved : Rows.EvictOrdersSaid := over
#print axioms proved
end Go.Proofs.Ythnbkhggbfnpcaa.evictOrders
namespace Go.Proofs.Ythnbkhggbfnpcaa
/-- The row, under a short name, for the claim. -/
theorem evictOrders_holds : Rows.EvictOrdersSaid := evictOrders.proved
end Go.Proofs.Ythnbkhggbfnpcaa
