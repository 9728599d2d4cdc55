/- Written by this session's own program (wip/gen.py) out of the translation: plain Lean functions of the Go functions, and proofs that the calls come to their answers. No conditions beside those in the statements. -/
import Derived.Test.YtpmbdcljphpcnaaDoorCards
import Derived.Test.YtpmbdcljphpcnaaDoorTie
import Derived.Lib.LaidIn
import Derived.Lib.LaidU8
import Derived.Deep.DeepHandedRow
import Derived.Deep.DeepWitnessRowRef
import Derived.Test.YtpmbdcljphpcnaaDoorGCkCkoneCodesS
import Derived.Test.YtpmbdcljphpcnaaDoorPureCkoneCodes
import Derived.WalkKit
import Derived.ProofKit
import Derived.OpenShut
import Derived.ShutString
import Derived.ChangeOld
import Derived.Below
import Derived.SizedLaws
namespace Go.Proofs.YtpmbdcljphpcnaaDoor.ckoneCodes
open Go.ChangeShapes Go.WideShapes Go.ChangeAt Go.RowKit Go.Proofs.YtpmbdcljphpcnaaDoor.GCk Go.Proofs.YtpmbdcljphpcnaaDoor.Opens Go.Proofs.YtpmbdcljphpcnaaDoorW.PrintWords
open Go.ChangeMaps (open_string shut_string)
set_option linter.unusedVariables false
theorem own : ownKnob Tryd.prog.godebug = none:=by kernel_rfl
theorem laidOut : laidOutB Tryd.prog = true:=by kernel_rfl
set_option maxRecDepth 100000 in
set_option maxHeartbeats 1000000 in
theorem contract (H : Type) (enc : TypeId × Value → H) (W : World) (base : Nat) (args : Array Value) (ds gs : List (DataW H)) (before : List MemPlace)
  (hval0 : ∀ (j : Nat) t v,Tryd.f3.params[j]? = some t → args[j]? = some v → Value.okWide Tryd.prog W .any base t v)
  (hW : DataW.Whole enc Tryd.prog Tryd.f3.params.toList Rows.ckoneCodesSpec.vars false W args.toList ds gs before)
  (hsz0 : (DataW.weightsEach Tryd.prog (Tryd.f3.params.toList ++ Rows.ckoneCodesSpec.plain.varTypes Tryd.prog) (ds ++ gs)).all (· ≤ reachBytes) = true)
  : Calls Tryd.prog 3 args W fun e W'=>∃ v,e = .returned v ∧ Rows.ckoneCodesSpec.post enc Tryd.prog Tryd.f3 false true false false W args v W':=by
 have hsz : (DataW.weightsEach Tryd.prog (Tryd.f3.params.toList ++ Rows.ckoneCodesSpec.plain.varTypes Tryd.prog) (ds ++ gs)).all (· ≤ reachBytes) = true:=hsz0
 have hval : ∀ (j : Nat) t v,Tryd.f3.params[j]? = some t → args[j]? = some v → Value.okWide Tryd.prog W .any base t v:=hval0
 have hW':=hW
 obtain ⟨p,q,hA0,hV,rfl,hfz,hnd⟩:=hW
 have hA : DataW.TrodAll enc Tryd.prog W 0 (fun _=>true) true Tryd.f3.params.toList args.toList ds p:=hA0
 rw [Tryd.params3] at hA hval hsz
 obtain ⟨v0,vs0,d0,ds0,p0,q0,hargs,rfl,rfl,h0,r0⟩:=trodAll_cons hA
 obtain ⟨v1,vs1,d1,ds1,p1,q1,rfl,rfl,rfl,h1,r1⟩:=trodAll_cons r0
 obtain ⟨v2,vs2,d2,ds2,p2,q2,rfl,rfl,rfl,h2,r2⟩:=trodAll_cons r1
 obtain ⟨rfl,rfl,rfl⟩:=trodAll_nil r2
 obtain rfl : args = #[v0,v1,v2]:=by cases args;simp_all
 obtain ⟨rfl,rfl⟩:=trodVars_none hV
 have k0:=h0
 have lt0 : ∀ x ∈ p0,x.block < W.heap.size:=by obtain ⟨m,hm⟩:=k0;exact DataW.trod_lt m _ _ _ hm
 obtain ⟨x0,hK0,hG0⟩:=Opens.arg o25 h0 hsz (j:=0) rfl rfl
 obtain ⟨cs0,rfl,hz0⟩:=okWide_struct Tryd.underlying25 (hval 0 25 v0 rfl rfl)
 have hO0:=k25_open hK0
 obtain ⟨A0_1,c0_1,he0,hl0_1,hC0_1⟩:=hO0
 obtain rfl : cs0 = #[.int .u32 x0.f0,.slice A0_1 x0.f1.length c0_1]:=by
  have h_ : cs0.toList = _:=he0
  exact Array.toList_inj.1 h_
 have k1:=h1
 have lt1 : ∀ x ∈ p1,x.block < W.heap.size:=by obtain ⟨m,hm⟩:=k1;exact DataW.trod_lt m _ _ _ hm
 obtain ⟨x1,hK1,hG1⟩:=Opens.arg o25 h1 hsz (j:=1) rfl rfl
 obtain ⟨cs1,rfl,hz1⟩:=okWide_struct Tryd.underlying25 (hval 1 25 v1 rfl rfl)
 have hO1:=k25_open hK1
 obtain ⟨A1_1,c1_1,he1,hl1_1,hC1_1⟩:=hO1
 obtain rfl : cs1 = #[.int .u32 x1.f0,.slice A1_1 x1.f1.length c1_1]:=by
  have h_ : cs1.toList = _:=he1
  exact Array.toList_inj.1 h_
 obtain ⟨a2,rfl,rfl,rfl,y2⟩:=open_string Tryd.underlying9 (hval 2 9 v2 rfl rfl) h2
 have w2 : a2.size ≤ 140737488351232:=by
  have z:=sized_string hsz (j:=2) (t:=9) rfl rfl
  rw [Array.length_toList] at z
  exact z
 clear hA0 hval0 hsz0 hsz
 obtain ⟨k,h⟩:=Pure.CkoneCodes x0 x1 a2 hG0 hG1 w2
 refine (bosunlaw17_CkoneCodes.calls k x0.f0 _ _ x0.f1 x1.f0 _ _ x1.f1 a2 true W hC0_1 hl0_1 hC1_1 hl1_1 h).mono fun e W' ⟨he,bel0⟩=>?_
 have bel : Below W.heap.size W W':=bel0
 subst he
 exact ⟨_,rfl,_,_,_,[],_,[],hW',trodAll_mk1 (shut_bool Tryd.underlying4 _),(trodAll_cons_mk (Below.trod laidOut (by kernel_rfl) (of_decide_eq_true (by kernel_rfl)) k0 bel lt0) (trodAll_cons_mk (Below.trod laidOut (by kernel_rfl) (of_decide_eq_true (by kernel_rfl)) k1 bel lt1) (trodAll_cons_mk (shut_string Tryd.underlying9 y2) trodAll_mk0))),rfl,bel.frame _,fun h=>by cases h⟩
noncomputable def laidWorld (os : Os) : World :=
 let w0:=World.holding Tryd.prog os ⟨#[],#[],[]⟩
 let put (h : Array Obj) (g : Nat) (cs : Array Value) : Array Obj:=h.modify g fun
  | .cells _ t frozen=>.cells cs t frozen
  | o=>o
 let h1:=put w0.heap 1 (Lib.firstTab.map fun z=>Value.int .u8 z).toArray
 let h2:=put h1 2 ((List.range 16).flatMap fun i=>[Value.int .u8 (Lib.accLo i),Value.int .u8 (Lib.accHi i)]).toArray
 { w0 with heap:=h2 }
theorem laid_met (os : Os) (args : Array Value) : laidMet Tryd.prog Rows.ckoneCodesRow.laid ((laidWorld os).forCall (fun _ _=>0) ⟨#[],args,[]⟩).memory :=
 (LaidIn.of_run (l:=Rows.ckoneCodesRow.laid) [2,1] 8 (by kernel_rfl) (by kernel_rfl) (by kernel_rfl) (by kernel_rfl)).met
theorem witness_row (os : Os) {H : Type} (enc : TypeId × Value → H) :
  (OpenSpec.ofChange Rows.ckoneCodesSpec).preRow enc Tryd.prog Tryd.f3 Rows.ckoneCodesRow.domain false Rows.ckoneCodesRow.laid ((laidWorld os).forCall (fun _ _=>0) ⟨#[],#[.agg #[.int .u32 0,.slice none 0 0],.agg #[.int .u32 0,.slice none 0 0],.string ⟨#[]⟩],[]⟩).memory #[.agg #[.int .u32 0,.slice none 0 0],.agg #[.int .u32 0,.slice none 0 0],.string ⟨#[]⟩]:=by
 have hw : (DataW.whole enc Tryd.prog ((laidWorld os).forCall (fun _ _=>0) ⟨#[],#[.agg #[.int .u32 0,.slice none 0 0],.agg #[.int .u32 0,.slice none 0 0],.string ⟨#[]⟩],[]⟩).memory Tryd.f3.params.toList Rows.ckoneCodesSpec.vars false (#[.agg #[.int .u32 0,.slice none 0 0],.agg #[.int .u32 0,.slice none 0 0],.string ⟨#[]⟩] : Array Value).toList 8).map (fun x=>(x.1,x.2.1)) =
   some ([.agg [.lit (.int .u32 0),.nil],.agg [.lit (.int .u32 0),.nil],.lit (.string [])],[]):=by kernel_rfl
 obtain ⟨⟨x1,x2,x3⟩,hx,hx1⟩:=Option.map_eq_some_iff.1 hw
 simp only [Prod.mk.injEq] at hx1
 obtain ⟨rfl,rfl⟩:=hx1
 exact OpenSpec.preRow_of_cond 8 hx (by kernel_rfl) (fun k hk=>by cases hk) (by kernel_rfl) (laid_met os _)
set_option maxRecDepth 100000 in
theorem lifted (os : Os) (started : os.Started) (H : Type) (enc : TypeId × Value → H) (F : Stop.Interp) :
  ReturnsInHanded {} Tryd.checked os 3 .any ((OpenSpec.ofChange Rows.ckoneCodesSpec).preRow enc Tryd.prog Tryd.f3 Rows.ckoneCodesRow.domain false Rows.ckoneCodesRow.laid) (((OpenSpec.ofChange Rows.ckoneCodesSpec).at F).post enc Tryd.prog Tryd.f3 false true false false):=by
 refine returnsInHanded_of_row (C:=Tryd.checked) (s:=OpenSpec.ofChange Rows.ckoneCodesSpec) own started (by kernel_rfl) Tryd.func3
  (witness_row_atRef (enc:=enc) (C:=Tryd.checked) false (laidWorld os) #[.agg #[.int .u32 0,.slice none 0 0],.agg #[.int .u32 0,.slice none 0 0],.string ⟨#[]⟩] rfl (by kernel_rfl) (by kernel_rfl) (by kernel_rfl) (witness_row os enc)) ?_
 intro W base args ds gs before hval hW _ _ hsz hL hS _
 exact contract H enc W base args ds gs before hval hW hsz
theorem said : Rows.CkoneCodesSaid :=
 OpenClaim.holds_of_cond 3 Tryd.f3 rfl rfl rfl rfl rfl rfl rfl ⟨rfl,rfl,rfl,rfl,rfl⟩ rfl rfl rfl rfl rfl (by kernel_rfl) Tryd.func3 (by kernel_rfl)
  (of_decide_eq_true (by kernel_rfl)) (by unfold Func.isWrapper;first|(rw [if_pos (by decide +kernel)];kernel_rfl)|(rw [if_neg (by decide +kernel)];exact ⟨rfl,rfl⟩))
  (fun os started H enc _ F=>by rw [OpenClaim.pre_eq_preRow];exact lifted os started H enc F)
theorem plain (f : FuncId) (fn : Func) (hf : Tryd.pinned.checked.prog.funcNamed "bosun/bosunlaw17.CkoneCodes" = some f) (hfn : Tryd.pinned.checked.prog.funcs[f]? = some fn) :
  false = Tryd.pinned.checked.prog.looks [] ∧ ∀ (j : Nat) t,fn.params[j]? = some t → Tryd.pinned.checked.prog.wantsStandIn t = false:=by
 obtain rfl : f = 3:=Option.some.inj ((show Tryd.prog.funcNamed "bosun/bosunlaw17.CkoneCodes" = some 3 by kernel_rfl).symm.trans hf) |>.symm
 obtain rfl : fn = Tryd.f3:=(Option.some.inj (Tryd.func3.symm.trans hfn)).symm
 refine ⟨by kernel_rfl,fun j t ht=>?_⟩
 rw [Tryd.params3] at ht
 have hm:=Array.mem_of_getElem? ht
 simp at hm
 rcases hm with rfl|rfl
 ·exact (show Tryd.prog.wantsStandIn 25 = false by kernel_rfl)
 ·exact (show Tryd.prog.wantsStandIn 9 = false by kernel_rfl)
theorem card : Rows.CkoneCodesCardSaid :=
 Claim7.holds_tied_plain_at .later [] _ _ _ _ said (fun _ h=>by cases h) (by kernel_rfl) (fun _ h=>by cases h) ckoneCodes_row_tie rfl ⟨rfl,rfl⟩ (by kernel_rfl) rfl plain (by kernel_rfl)
#print axioms card
end Go.Proofs.YtpmbdcljphpcnaaDoor.ckoneCodes
namespace Go.Proofs.YtpmbdcljphpcnaaDoor
/-- The card, under a short name, for the claim. -/
theorem ckoneCodes_holds : Rows.CkoneCodesCardSaid:=ckoneCodes.card
end Go.Proofs.YtpmbdcljphpcnaaDoor
