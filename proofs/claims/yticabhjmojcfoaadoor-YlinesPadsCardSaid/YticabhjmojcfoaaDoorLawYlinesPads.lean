/- Written by this session's own program (wip/gen.py) out of the translation: plain Lean functions of the Go functions, and proofs that the calls come to their answers. No conditions beside those in the statements. -/
import Derived.Test.YticabhjmojcfoaaDoorCards
import Derived.Test.YticabhjmojcfoaaDoorTie
import Derived.Lib.LaidIn
import Derived.Lib.LaidU8
import Derived.Deep.DeepHandedRow
import Derived.Deep.DeepWitnessRowRef
import Derived.Test.YticabhjmojcfoaaDoorGUtYlinesPadsS
import Derived.Test.YticabhjmojcfoaaDoorPureYlinesPads
import Derived.WalkKit
import Derived.ProofKit
import Derived.OpenShut
import Derived.ShutString
import Derived.ChangeOld
import Derived.Below
import Derived.SizedLaws
namespace Go.Proofs.YticabhjmojcfoaaDoor.ylinesPads
open Go.ChangeShapes Go.WideShapes Go.ChangeAt Go.RowKit Go.Proofs.YticabhjmojcfoaaDoor.GUt Go.Proofs.YticabhjmojcfoaaDoor.Opens Go.Proofs.YticabhjmojcfoaaDoorW.PrintWords
open Go.ChangeMaps (open_string shut_string)
set_option linter.unusedVariables false
theorem own : ownKnob Tryd.prog.godebug = none:=by kernel_rfl
theorem laidOut : laidOutB Tryd.prog = true:=by kernel_rfl
set_option maxRecDepth 100000 in
set_option maxHeartbeats 1000000 in
theorem contract (H : Type) (enc : TypeId × Value → H) (W : World) (base : Nat) (args : Array Value) (ds gs : List (DataW H)) (before : List MemPlace)
  (hval0 : ∀ (j : Nat) t v,Tryd.f4.params[j]? = some t → args[j]? = some v → Value.okWide Tryd.prog W .any base t v)
  (hW : DataW.Whole enc Tryd.prog Tryd.f4.params.toList Rows.ylinesPadsSpec.vars false W args.toList ds gs before)
  (hsz0 : (DataW.weightsEach Tryd.prog (Tryd.f4.params.toList ++ Rows.ylinesPadsSpec.plain.varTypes Tryd.prog) (ds ++ gs)).all (· ≤ reachBytes) = true)
  (hG : GW.GW W)
  : Calls Tryd.prog 4 args W fun e W'=>∃ v,e = .returned v ∧ Rows.ylinesPadsSpec.post enc Tryd.prog Tryd.f4 false true false false W args v W':=by
 have hsz : (DataW.weightsEach Tryd.prog (Tryd.f4.params.toList ++ Rows.ylinesPadsSpec.plain.varTypes Tryd.prog) (ds ++ gs)).all (· ≤ reachBytes) = true:=hsz0
 have hval : ∀ (j : Nat) t v,Tryd.f4.params[j]? = some t → args[j]? = some v → Value.okWide Tryd.prog W .any base t v:=hval0
 have hW':=hW
 obtain ⟨p,q,hA0,hV,rfl,hfz,hnd⟩:=hW
 have hA : DataW.TrodAll enc Tryd.prog W 0 (fun _=>true) true Tryd.f4.params.toList args.toList ds p:=hA0
 rw [Tryd.params4] at hA hval hsz
 obtain ⟨v0,vs0,d0,ds0,p0,q0,hargs,rfl,rfl,h0,r0⟩:=trodAll_cons hA
 obtain ⟨v1,vs1,d1,ds1,p1,q1,rfl,rfl,rfl,h1,r1⟩:=trodAll_cons r0
 obtain ⟨rfl,rfl,rfl⟩:=trodAll_nil r1
 obtain rfl : args = #[v0,v1]:=by cases args;simp_all
 obtain ⟨rfl,rfl⟩:=trodVars_none hV
 have k0:=h0
 have lt0 : ∀ x ∈ p0,x.block < W.heap.size:=by obtain ⟨m,hm⟩:=k0;exact DataW.trod_lt m _ _ _ hm
 obtain ⟨x0,hK0,hG0⟩:=Opens.arg (opens_slice (B:=16) Tryd.underlying34 (by kernel_rfl) (by kernel_rfl) (opens_string Tryd.underlying9)) h0 hsz (j:=0) rfl rfl
 obtain ⟨a0,len0,cap0,rfl⟩:=okWide_slice Tryd.underlying34 (hval 0 34 v0 rfl rfl)
 obtain ⟨A0,c0,he0,hl0,hC0⟩:=hK0
 have he0' : (Value.slice a0 len0 cap0) = .slice A0 x0.length c0:=by simpa [Value.cells] using he0
 injection he0' with e1_0 e2_0 e3_0
 subst e1_0 e2_0 e3_0
 have k1:=h1
 have lt1 : ∀ x ∈ p1,x.block < W.heap.size:=by obtain ⟨m,hm⟩:=k1;exact DataW.trod_lt m _ _ _ hm
 obtain ⟨x1,hK1,hG1⟩:=Opens.arg (opens_slice (B:=1) Tryd.underlying35 (by kernel_rfl) (by kernel_rfl) (opens_int Tryd.underlying5)) h1 hsz (j:=1) rfl rfl
 obtain ⟨a1,len1,cap1,rfl⟩:=okWide_slice Tryd.underlying35 (hval 1 35 v1 rfl rfl)
 obtain ⟨A1,c1,he1,hl1,hC1⟩:=hK1
 have he1' : (Value.slice a1 len1 cap1) = .slice A1 x1.length c1:=by simpa [Value.cells] using he1
 injection he1' with e1_1 e2_1 e3_1
 subst e1_1 e2_1 e3_1
 clear hA0 hval0 hsz0 hsz
 obtain ⟨k,h⟩:=Pure.YlinesPads x0 x1 hG0 hG1
 refine (bosunlaw10_YlinesPads.calls k _ _ x0 _ _ x1 true W hC0 hl0 hC1 hl1 h hG).mono fun e W' ⟨he,bel0⟩=>?_
 have bel : Below W.heap.size W W':=bel0
 subst he
 exact ⟨_,rfl,_,_,_,[],_,[],hW',trodAll_mk1 (shut_bool Tryd.underlying4 _),(trodAll_cons_mk (Below.trod laidOut (by kernel_rfl) (of_decide_eq_true (by kernel_rfl)) k0 bel lt0) (trodAll_cons_mk (Below.trod laidOut (by kernel_rfl) (of_decide_eq_true (by kernel_rfl)) k1 bel lt1) trodAll_mk0)),rfl,bel.frame _,fun h=>by cases h⟩
noncomputable def laidWorld (os : Os) : World :=
 let w0:=World.holding Tryd.prog os ⟨#[],#[],[]⟩
 let put (h : Array Obj) (g : Nat) (cs : Array Value) : Array Obj:=h.modify g fun
  | .cells _ t frozen=>.cells cs t frozen
  | o=>o
 let h1:=put w0.heap 0 (Lib.firstTab.map fun z=>Value.int .u8 z).toArray
 let h2:=put h1 1 ((List.range 16).flatMap fun i=>[Value.int .u8 (Lib.accLo i),Value.int .u8 (Lib.accHi i)]).toArray
 { w0 with heap:=h2 }
theorem laid_met (os : Os) (args : Array Value) : laidMet Tryd.prog Rows.ylinesPadsRow.laid ((laidWorld os).forCall (fun _ _=>0) ⟨#[],args,[]⟩).memory :=
 (LaidIn.of_run (l:=Rows.ylinesPadsRow.laid) [1,0] 8 (by kernel_rfl) (by kernel_rfl) (by kernel_rfl) (by kernel_rfl)).met
theorem witness_row (os : Os) {H : Type} (enc : TypeId × Value → H) :
  (OpenSpec.ofChange Rows.ylinesPadsSpec).preRow enc Tryd.prog Tryd.f4 Rows.ylinesPadsRow.domain false Rows.ylinesPadsRow.laid ((laidWorld os).forCall (fun _ _=>0) ⟨#[],#[.slice none 0 0,.slice none 0 0],[]⟩).memory #[.slice none 0 0,.slice none 0 0]:=by
 have hw : (DataW.whole enc Tryd.prog ((laidWorld os).forCall (fun _ _=>0) ⟨#[],#[.slice none 0 0,.slice none 0 0],[]⟩).memory Tryd.f4.params.toList Rows.ylinesPadsSpec.vars false (#[.slice none 0 0,.slice none 0 0] : Array Value).toList 8).map (fun x=>(x.1,x.2.1)) =
   some ([.nil,.nil],[]):=by kernel_rfl
 obtain ⟨⟨x1,x2,x3⟩,hx,hx1⟩:=Option.map_eq_some_iff.1 hw
 simp only [Prod.mk.injEq] at hx1
 obtain ⟨rfl,rfl⟩:=hx1
 exact OpenSpec.preRow_of_cond 8 hx (by kernel_rfl) (fun k hk=>by cases hk) (by kernel_rfl) (laid_met os _)
set_option maxRecDepth 100000 in
theorem lifted (os : Os) (started : os.Started) (H : Type) (enc : TypeId × Value → H) (F : Stop.Interp) :
  ReturnsInHanded {} Tryd.checked os 4 .any ((OpenSpec.ofChange Rows.ylinesPadsSpec).preRow enc Tryd.prog Tryd.f4 Rows.ylinesPadsRow.domain false Rows.ylinesPadsRow.laid) (((OpenSpec.ofChange Rows.ylinesPadsSpec).at F).post enc Tryd.prog Tryd.f4 false true false false):=by
 refine returnsInHanded_of_row (C:=Tryd.checked) (s:=OpenSpec.ofChange Rows.ylinesPadsSpec) own started (by kernel_rfl) Tryd.func4
  (witness_row_atRef (enc:=enc) (C:=Tryd.checked) false (laidWorld os) #[.slice none 0 0,.slice none 0 0] rfl (by kernel_rfl) (by kernel_rfl) (by kernel_rfl) (witness_row os enc)) ?_
 intro W base args ds gs before hval hW _ _ hsz hL hS _
 exact contract H enc W base args ds gs before hval hW hsz (GW.gw_of hL hS (.tail _ (.head _)) (.head _))
theorem said : Rows.YlinesPadsSaid :=
 OpenClaim.holds_of_cond 4 Tryd.f4 rfl rfl rfl rfl rfl rfl rfl ⟨rfl,rfl,rfl,rfl,rfl⟩ rfl rfl rfl rfl rfl (by kernel_rfl) Tryd.func4 (by kernel_rfl)
  (of_decide_eq_true (by kernel_rfl)) (by unfold Func.isWrapper;first|(rw [if_pos (by decide +kernel)];kernel_rfl)|(rw [if_neg (by decide +kernel)];exact ⟨rfl,rfl⟩))
  (fun os started H enc _ F=>by rw [OpenClaim.pre_eq_preRow];exact lifted os started H enc F)
theorem plain (f : FuncId) (fn : Func) (hf : Tryd.pinned.checked.prog.funcNamed "bosun/bosunlaw10.YlinesPads" = some f) (hfn : Tryd.pinned.checked.prog.funcs[f]? = some fn) :
  false = Tryd.pinned.checked.prog.looks [] ∧ ∀ (j : Nat) t,fn.params[j]? = some t → Tryd.pinned.checked.prog.wantsStandIn t = false:=by
 obtain rfl : f = 4:=Option.some.inj ((show Tryd.prog.funcNamed "bosun/bosunlaw10.YlinesPads" = some 4 by kernel_rfl).symm.trans hf) |>.symm
 obtain rfl : fn = Tryd.f4:=(Option.some.inj (Tryd.func4.symm.trans hfn)).symm
 refine ⟨by kernel_rfl,fun j t ht=>?_⟩
 rw [Tryd.params4] at ht
 have hm:=Array.mem_of_getElem? ht
 simp at hm
 rcases hm with rfl|rfl
 ·exact (show Tryd.prog.wantsStandIn 34 = false by kernel_rfl)
 ·exact (show Tryd.prog.wantsStandIn 35 = false by kernel_rfl)
theorem card : Rows.YlinesPadsCardSaid :=
 Claim7.holds_tied_plain_at .later [] _ _ _ _ said (fun _ h=>by cases h) (by kernel_rfl) (fun _ h=>by cases h) ylinesPads_row_tie rfl ⟨rfl,rfl⟩ (by kernel_rfl) rfl plain (by kernel_rfl)
#print axioms card
end Go.Proofs.YticabhjmojcfoaaDoor.ylinesPads
namespace Go.Proofs.YticabhjmojcfoaaDoor
/-- The card, under a short name, for the claim. -/
theorem ylinesPads_holds : Rows.YlinesPadsCardSaid:=ylinesPads.card
end Go.Proofs.YticabhjmojcfoaaDoor
