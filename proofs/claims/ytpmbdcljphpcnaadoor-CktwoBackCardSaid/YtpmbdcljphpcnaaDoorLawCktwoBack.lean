/- Written by this session's own program (wip/gen.py) out of the translation: plain Lean functions of the Go functions, and proofs that the calls come to their answers. No conditions beside those in the statements. -/
import Derived.Test.YtpmbdcljphpcnaaDoorCards
import Derived.Test.YtpmbdcljphpcnaaDoorTie
import Derived.Lib.LaidIn
import Derived.Lib.LaidU8
import Derived.Deep.DeepHandedRow
import Derived.Deep.DeepWitnessRowRef
import Derived.Test.YtpmbdcljphpcnaaDoorGC2CktwoBackS
import Derived.Test.YtpmbdcljphpcnaaDoorPureCktwoBack
import Derived.WalkKit
import Derived.ProofKit
import Derived.OpenShut
import Derived.ShutString
import Derived.ChangeOld
import Derived.Below
import Derived.SizedLaws
namespace Go.Proofs.YtpmbdcljphpcnaaDoor.cktwoBack
open Go.ChangeShapes Go.WideShapes Go.ChangeAt Go.RowKit Go.Proofs.YtpmbdcljphpcnaaDoor.GC2 Go.Proofs.YtpmbdcljphpcnaaDoor.Opens Go.Proofs.YtpmbdcljphpcnaaDoorW.PrintWords
open Go.ChangeMaps (open_string shut_string)
set_option linter.unusedVariables false
theorem own : ownKnob Tryd.prog.godebug = none:=by kernel_rfl
theorem laidOut : laidOutB Tryd.prog = true:=by kernel_rfl
set_option maxRecDepth 100000 in
set_option maxHeartbeats 1000000 in
theorem contract (H : Type) (enc : TypeId × Value → H) (W : World) (base : Nat) (args : Array Value) (ds gs : List (DataW H)) (before : List MemPlace)
  (hval0 : ∀ (j : Nat) t v,Tryd.f8.params[j]? = some t → args[j]? = some v → Value.okWide Tryd.prog W .any base t v)
  (hW : DataW.Whole enc Tryd.prog Tryd.f8.params.toList Rows.cktwoBackSpec.vars false W args.toList ds gs before)
  (hsz0 : (DataW.weightsEach Tryd.prog (Tryd.f8.params.toList ++ Rows.cktwoBackSpec.plain.varTypes Tryd.prog) (ds ++ gs)).all (· ≤ reachBytes) = true)
  : Calls Tryd.prog 8 args W fun e W'=>∃ v,e = .returned v ∧ Rows.cktwoBackSpec.post enc Tryd.prog Tryd.f8 false true false false W args v W':=by
 have hsz : (DataW.weightsEach Tryd.prog (Tryd.f8.params.toList ++ Rows.cktwoBackSpec.plain.varTypes Tryd.prog) (ds ++ gs)).all (· ≤ reachBytes) = true:=hsz0
 have hval : ∀ (j : Nat) t v,Tryd.f8.params[j]? = some t → args[j]? = some v → Value.okWide Tryd.prog W .any base t v:=hval0
 have hW':=hW
 obtain ⟨p,q,hA0,hV,rfl,hfz,hnd⟩:=hW
 have hA : DataW.TrodAll enc Tryd.prog W 0 (fun _=>true) true Tryd.f8.params.toList args.toList ds p:=hA0
 rw [Tryd.params8] at hA hval hsz
 obtain ⟨v0,vs0,d0,ds0,p0,q0,hargs,rfl,rfl,h0,r0⟩:=trodAll_cons hA
 obtain ⟨v1,vs1,d1,ds1,p1,q1,rfl,rfl,rfl,h1,r1⟩:=trodAll_cons r0
 obtain ⟨rfl,rfl,rfl⟩:=trodAll_nil r1
 obtain rfl : args = #[v0,v1]:=by cases args;simp_all
 obtain ⟨rfl,rfl⟩:=trodVars_none hV
 have k0:=h0
 have lt0 : ∀ x ∈ p0,x.block < W.heap.size:=by obtain ⟨m,hm⟩:=k0;exact DataW.trod_lt m _ _ _ hm
 obtain ⟨x0,hK0,hG0⟩:=Opens.arg o49 h0 hsz (j:=0) rfl rfl
 obtain ⟨cs0,rfl,hz0⟩:=okWide_struct Tryd.underlying49 (hval 0 49 v0 rfl rfl)
 have hO0:=k49_open hK0
 obtain ⟨A0_1,c0_1,he0,hl0_1,hC0_1⟩:=hO0
 obtain rfl : cs0 = #[.int .u64 x0.f0,.slice A0_1 x0.f1.length c0_1]:=by
  have h_ : cs0.toList = _:=he0
  exact Array.toList_inj.1 h_
 obtain ⟨a1,rfl,rfl,rfl,y1⟩:=open_string Tryd.underlying9 (hval 1 9 v1 rfl rfl) h1
 have w1 : a1.size ≤ 140737488351232:=by
  have z:=sized_string hsz (j:=1) (t:=9) rfl rfl
  rw [Array.length_toList] at z
  exact z
 clear hA0 hval0 hsz0 hsz
 obtain ⟨k,h⟩:=Pure.CktwoBack x0 a1 hG0 w1
 refine (bosunlaw18_CktwoBack.calls k x0.f0 _ _ x0.f1 a1 true W hC0_1 hl0_1 h).mono fun e W' ⟨he,bel0⟩=>?_
 have bel : Below W.heap.size W W':=bel0
 subst he
 exact ⟨_,rfl,_,_,_,[],_,[],hW',trodAll_mk1 (shut_bool Tryd.underlying4 _),(trodAll_cons_mk (Below.trod laidOut (by kernel_rfl) (of_decide_eq_true (by kernel_rfl)) k0 bel lt0) (trodAll_cons_mk (shut_string Tryd.underlying9 y1) trodAll_mk0)),rfl,bel.frame _,fun h=>by cases h⟩
noncomputable def laidWorld (os : Os) : World :=
 let w0:=World.holding Tryd.prog os ⟨#[],#[],[]⟩
 let put (h : Array Obj) (g : Nat) (cs : Array Value) : Array Obj:=h.modify g fun
  | .cells _ t frozen=>.cells cs t frozen
  | o=>o
 let h1:=put w0.heap 1 (Lib.firstTab.map fun z=>Value.int .u8 z).toArray
 let h2:=put h1 2 ((List.range 16).flatMap fun i=>[Value.int .u8 (Lib.accLo i),Value.int .u8 (Lib.accHi i)]).toArray
 { w0 with heap:=h2 }
theorem laid_met (os : Os) (args : Array Value) : laidMet Tryd.prog Rows.cktwoBackRow.laid ((laidWorld os).forCall (fun _ _=>0) ⟨#[],args,[]⟩).memory :=
 (LaidIn.of_run (l:=Rows.cktwoBackRow.laid) [2,1] 8 (by kernel_rfl) (by kernel_rfl) (by kernel_rfl) (by kernel_rfl)).met
theorem witness_row (os : Os) {H : Type} (enc : TypeId × Value → H) :
  (OpenSpec.ofChange Rows.cktwoBackSpec).preRow enc Tryd.prog Tryd.f8 Rows.cktwoBackRow.domain false Rows.cktwoBackRow.laid ((laidWorld os).forCall (fun _ _=>0) ⟨#[],#[.agg #[.int .u64 0,.slice none 0 0],.string ⟨#[]⟩],[]⟩).memory #[.agg #[.int .u64 0,.slice none 0 0],.string ⟨#[]⟩]:=by
 have hw : (DataW.whole enc Tryd.prog ((laidWorld os).forCall (fun _ _=>0) ⟨#[],#[.agg #[.int .u64 0,.slice none 0 0],.string ⟨#[]⟩],[]⟩).memory Tryd.f8.params.toList Rows.cktwoBackSpec.vars false (#[.agg #[.int .u64 0,.slice none 0 0],.string ⟨#[]⟩] : Array Value).toList 8).map (fun x=>(x.1,x.2.1)) =
   some ([.agg [.lit (.int .u64 0),.nil],.lit (.string [])],[]):=by kernel_rfl
 obtain ⟨⟨x1,x2,x3⟩,hx,hx1⟩:=Option.map_eq_some_iff.1 hw
 simp only [Prod.mk.injEq] at hx1
 obtain ⟨rfl,rfl⟩:=hx1
 exact OpenSpec.preRow_of_cond 8 hx (by kernel_rfl) (fun k hk=>by cases hk) (by kernel_rfl) (laid_met os _)
set_option maxRecDepth 100000 in
theorem lifted (os : Os) (started : os.Started) (H : Type) (enc : TypeId × Value → H) (F : Stop.Interp) :
  ReturnsInHanded {} Tryd.checked os 8 .any ((OpenSpec.ofChange Rows.cktwoBackSpec).preRow enc Tryd.prog Tryd.f8 Rows.cktwoBackRow.domain false Rows.cktwoBackRow.laid) (((OpenSpec.ofChange Rows.cktwoBackSpec).at F).post enc Tryd.prog Tryd.f8 false true false false):=by
 refine returnsInHanded_of_row (C:=Tryd.checked) (s:=OpenSpec.ofChange Rows.cktwoBackSpec) own started (by kernel_rfl) Tryd.func8
  (witness_row_atRef (enc:=enc) (C:=Tryd.checked) false (laidWorld os) #[.agg #[.int .u64 0,.slice none 0 0],.string ⟨#[]⟩] rfl (by kernel_rfl) (by kernel_rfl) (by kernel_rfl) (witness_row os enc)) ?_
 intro W base args ds gs before hval hW _ _ hsz hL hS _
 exact contract H enc W base args ds gs before hval hW hsz
theorem said : Rows.CktwoBackSaid :=
 OpenClaim.holds_of_cond 8 Tryd.f8 rfl rfl rfl rfl rfl rfl rfl ⟨rfl,rfl,rfl,rfl,rfl⟩ rfl rfl rfl rfl rfl (by kernel_rfl) Tryd.func8 (by kernel_rfl)
  (of_decide_eq_true (by kernel_rfl)) (by unfold Func.isWrapper;first|(rw [if_pos (by decide +kernel)];kernel_rfl)|(rw [if_neg (by decide +kernel)];exact ⟨rfl,rfl⟩))
  (fun os started H enc _ F=>by rw [OpenClaim.pre_eq_preRow];exact lifted os started H enc F)
theorem plain (f : FuncId) (fn : Func) (hf : Tryd.pinned.checked.prog.funcNamed "bosun/bosunlaw18.CktwoBack" = some f) (hfn : Tryd.pinned.checked.prog.funcs[f]? = some fn) :
  false = Tryd.pinned.checked.prog.looks [] ∧ ∀ (j : Nat) t,fn.params[j]? = some t → Tryd.pinned.checked.prog.wantsStandIn t = false:=by
 obtain rfl : f = 8:=Option.some.inj ((show Tryd.prog.funcNamed "bosun/bosunlaw18.CktwoBack" = some 8 by kernel_rfl).symm.trans hf) |>.symm
 obtain rfl : fn = Tryd.f8:=(Option.some.inj (Tryd.func8.symm.trans hfn)).symm
 refine ⟨by kernel_rfl,fun j t ht=>?_⟩
 rw [Tryd.params8] at ht
 have hm:=Array.mem_of_getElem? ht
 simp at hm
 rcases hm with rfl|rfl
 ·exact (show Tryd.prog.wantsStandIn 49 = false by kernel_rfl)
 ·exact (show Tryd.prog.wantsStandIn 9 = false by kernel_rfl)
theorem card : Rows.CktwoBackCardSaid :=
 Claim7.holds_tied_plain_at .later [] _ _ _ _ said (fun _ h=>by cases h) (by kernel_rfl) (fun _ h=>by cases h) cktwoBack_row_tie rfl ⟨rfl,rfl⟩ (by kernel_rfl) rfl plain (by kernel_rfl)
#print axioms card
end Go.Proofs.YtpmbdcljphpcnaaDoor.cktwoBack
namespace Go.Proofs.YtpmbdcljphpcnaaDoor
/-- The card, under a short name, for the claim. -/
theorem cktwoBack_holds : Rows.CktwoBackCardSaid:=cktwoBack.card
end Go.Proofs.YtpmbdcljphpcnaaDoor
