/- Written by this session's own program (wip/gen.py) out of the translation: plain Lean functions of the Go functions, and proofs that the calls come to their answers. No conditions beside those in the statements. -/
import Derived.Test.YtpflenjhmeaeoaaDoorCards
import Derived.Test.YtpflenjhmeaeoaaDoorTie
import Derived.Lib.LaidIn
import Derived.Lib.LaidU8
import Derived.Deep.DeepHandedRow
import Derived.Deep.DeepWitnessRowRef
import Derived.Test.YtpflenjhmeaeoaaDoorGUtDiffTurnsS
import Derived.Test.YtpflenjhmeaeoaaDoorPureDiffTurns
import Derived.WalkKit
import Derived.ProofKit
import Derived.OpenShut
import Derived.ShutString
import Derived.ChangeOld
import Derived.Below
import Derived.SizedLaws
namespace Go.Proofs.YtpflenjhmeaeoaaDoor.diffTurns
open Go.ChangeShapes Go.WideShapes Go.ChangeAt Go.RowKit Go.Proofs.YtpflenjhmeaeoaaDoor.GUt Go.Proofs.YtpflenjhmeaeoaaDoor.Opens Go.Proofs.YtpflenjhmeaeoaaDoorW.PrintWords
open Go.ChangeMaps (open_string shut_string)
set_option linter.unusedVariables false
theorem own : ownKnob Tryd.prog.godebug = none:=by kernel_rfl
theorem laidOut : laidOutB Tryd.prog = true:=by kernel_rfl
set_option maxRecDepth 100000 in
set_option maxHeartbeats 1000000 in
theorem contract (H : Type) (enc : TypeId × Value → H) (W : World) (base : Nat) (args : Array Value) (ds gs : List (DataW H)) (before : List MemPlace)
  (hval0 : ∀ (j : Nat) t v,Tryd.f6.params[j]? = some t → args[j]? = some v → Value.okWide Tryd.prog W .any base t v)
  (hW : DataW.Whole enc Tryd.prog Tryd.f6.params.toList Rows.diffTurnsSpec.vars false W args.toList ds gs before)
  (hsz0 : (DataW.weightsEach Tryd.prog (Tryd.f6.params.toList ++ Rows.diffTurnsSpec.plain.varTypes Tryd.prog) (ds ++ gs)).all (· ≤ reachBytes) = true)
  (hG : GW.GW W)
  : Calls Tryd.prog 6 args W fun e W'=>∃ v,e = .returned v ∧ Rows.diffTurnsSpec.post enc Tryd.prog Tryd.f6 false true false false W args v W':=by
 have hsz : (DataW.weightsEach Tryd.prog (Tryd.f6.params.toList ++ Rows.diffTurnsSpec.plain.varTypes Tryd.prog) (ds ++ gs)).all (· ≤ reachBytes) = true:=hsz0
 have hval : ∀ (j : Nat) t v,Tryd.f6.params[j]? = some t → args[j]? = some v → Value.okWide Tryd.prog W .any base t v:=hval0
 have hW':=hW
 obtain ⟨p,q,AA,hV,rfl,hfz,hnd⟩:=hW
 have hA : DataW.TrodAll enc Tryd.prog W 0 (fun _=>true) true Tryd.f6.params.toList args.toList ds p:=AA
 rw [Tryd.params6] at hA hval hsz
 obtain ⟨v0,AQ,d0,ds0,p0,q0,hargs,rfl,rfl,h0,r0⟩:=trodAll_cons hA
 obtain ⟨v1,vs1,d1,ds1,p1,q1,rfl,rfl,rfl,h1,r1⟩:=trodAll_cons r0
 obtain ⟨rfl,rfl,rfl⟩:=trodAll_nil r1
 obtain rfl : args = #[v0,v1]:=by cases args;simp_all
 obtain ⟨rfl,rfl⟩:=trodVars_none hV
 have k0:=h0
 have AB : ∀ x ∈ p0,x.block < W.heap.size:=by obtain ⟨m,hm⟩:=k0;exact DataW.trod_lt m _ _ _ hm
 obtain ⟨x0,AJ,hG0⟩:=Opens.arg o59 h0 hsz (j:=0) rfl rfl
 obtain ⟨cs0,rfl,hz0⟩:=okWide_struct Tryd.underlying59 (hval 0 59 v0 rfl rfl)
 have AL:=qN AJ
 obtain ⟨Aq,Au,he0,Al,Am⟩:=AL
 obtain rfl : cs0 = #[.int .u64 x0.f0,.slice Aq x0.f1.length Au]:=by
  have h_ : cs0.toList = _:=he0
  exact Array.toList_inj.1 h_
 have k1:=h1
 have AO : ∀ x ∈ p1,x.block < W.heap.size:=by obtain ⟨m,hm⟩:=k1;exact DataW.trod_lt m _ _ _ hm
 obtain ⟨x1,hK1,hG1⟩:=Opens.arg o59 h1 hsz (j:=1) rfl rfl
 obtain ⟨cs1,rfl,hz1⟩:=okWide_struct Tryd.underlying59 (hval 1 59 v1 rfl rfl)
 have AP:=qN hK1
 obtain ⟨Aw,Ay,he1,Ao,Ap⟩:=AP
 obtain rfl : cs1 = #[.int .u64 x1.f0,.slice Aw x1.f1.length Ay]:=by
  have h_ : cs1.toList = _:=he1
  exact Array.toList_inj.1 h_
 clear AA hval0 hsz0 hsz
 obtain ⟨k,h⟩:=Pure.DiffTurns x0 x1 hG0 hG1
 refine (ak.calls k x0.f0 _ _ x0.f1 x1.f0 _ _ x1.f1 true W Am Al Ap Ao h hG rfl).mono fun e W' ⟨he,Az⟩=>?_
 have bel : Below W.heap.size W W':=Az
 subst he
 exact ⟨_,rfl,_,_,_,[],_,[],hW',trodAll_mk1 (shut_bool Tryd.underlying4 _),(trodAll_cons_mk (Below.trod laidOut (by kernel_rfl) (of_decide_eq_true (by kernel_rfl)) k0 bel AB) (trodAll_cons_mk (Below.trod laidOut (by kernel_rfl) (of_decide_eq_true (by kernel_rfl)) k1 bel AO) trodAll_mk0)),rfl,bel.frame _,fun h=>by cases h⟩
noncomputable def kV (os : Os) : World :=
 let w0:=World.holding Tryd.prog os ⟨#[],#[],[]⟩
 let put (h : Array Obj) (g : Nat) (cs : Array Value) : Array Obj:=h.modify g fun
  | .cells _ t frozen=>.cells cs t frozen
  | o=>o
 let h1:=put w0.heap 0 (Lib.firstTab.map fun z=>Value.int .u8 z).toArray
 let h2:=put h1 1 ((List.range 16).flatMap fun i=>[Value.int .u8 (Lib.accLo i),Value.int .u8 (Lib.accHi i)]).toArray
 { w0 with heap:=h2 }
theorem wC (os : Os) (args : Array Value) : laidMet Tryd.prog Rows.diffTurnsRow.laid ((kV os).forCall (fun _ _=>0) ⟨#[],args,[]⟩).memory :=
 (LaidIn.of_run (l:=Rows.diffTurnsRow.laid) [1,0] 8 (by kernel_rfl) (by kernel_rfl) (by kernel_rfl) (by kernel_rfl)).met
theorem qZ (os : Os) {H : Type} (enc : TypeId × Value → H) :
  (OpenSpec.ofChange Rows.diffTurnsSpec).preRow enc Tryd.prog Tryd.f6 Rows.diffTurnsRow.domain false Rows.diffTurnsRow.laid ((kV os).forCall (fun _ _=>0) ⟨#[],#[.agg #[.int .u64 0,.slice none 0 0],.agg #[.int .u64 0,.slice none 0 0]],[]⟩).memory #[.agg #[.int .u64 0,.slice none 0 0],.agg #[.int .u64 0,.slice none 0 0]]:=by
 have hw : (DataW.whole enc Tryd.prog ((kV os).forCall (fun _ _=>0) ⟨#[],#[.agg #[.int .u64 0,.slice none 0 0],.agg #[.int .u64 0,.slice none 0 0]],[]⟩).memory Tryd.f6.params.toList Rows.diffTurnsSpec.vars false (#[.agg #[.int .u64 0,.slice none 0 0],.agg #[.int .u64 0,.slice none 0 0]] : Array Value).toList 8).map (fun x=>(x.1,x.2.1)) =
   some ([.agg [.lit (.int .u64 0),.nil],.agg [.lit (.int .u64 0),.nil]],[]):=by kernel_rfl
 obtain ⟨⟨x1,x2,x3⟩,hx,hx1⟩:=Option.map_eq_some_iff.1 hw
 simp only [Prod.mk.injEq] at hx1
 obtain ⟨rfl,rfl⟩:=hx1
 exact OpenSpec.preRow_of_cond 8 hx (by kernel_rfl) (fun k hk=>by cases hk) (by kernel_rfl) (wC os _)
set_option maxRecDepth 100000 in
theorem lifted (os : Os) (started : os.Started) (H : Type) (enc : TypeId × Value → H) (F : Stop.Interp) :
  ReturnsInHanded {} Tryd.checked os 6 .any ((OpenSpec.ofChange Rows.diffTurnsSpec).preRow enc Tryd.prog Tryd.f6 Rows.diffTurnsRow.domain false Rows.diffTurnsRow.laid) (((OpenSpec.ofChange Rows.diffTurnsSpec).at F).post enc Tryd.prog Tryd.f6 false true false false):=by
 refine returnsInHanded_of_row (C:=Tryd.checked) (s:=OpenSpec.ofChange Rows.diffTurnsSpec) own started (by kernel_rfl) Tryd.func6
  (witness_row_atRef (enc:=enc) (C:=Tryd.checked) false (kV os) #[.agg #[.int .u64 0,.slice none 0 0],.agg #[.int .u64 0,.slice none 0 0]] rfl (by kernel_rfl) (by kernel_rfl) (by kernel_rfl) (qZ os enc)) ?_
 intro W base args ds gs before hval hW _ _ hsz hL hS _
 exact contract H enc W base args ds gs before hval hW hsz (GW.zL hL hS (.tail _ (.head _)) (.head _))
theorem said : Rows.DiffTurnsSaid :=
 OpenClaim.holds_of_cond 6 Tryd.f6 rfl rfl rfl rfl rfl rfl rfl ⟨rfl,rfl,rfl,rfl,rfl⟩ rfl rfl rfl rfl rfl (by kernel_rfl) Tryd.func6 (by kernel_rfl)
  (of_decide_eq_true (by kernel_rfl)) (by unfold Func.isWrapper;first|(rw [if_pos (by decide +kernel)];kernel_rfl)|(rw [if_neg (by decide +kernel)];exact ⟨rfl,rfl⟩))
  (fun os started H enc _ F=>by rw [OpenClaim.pre_eq_preRow];exact lifted os started H enc F)
theorem plain (f : FuncId) (fn : Func) (hf : Tryd.pinned.checked.prog.funcNamed "bosun/bosunlaw23.DiffTurns" = some f) (hfn : Tryd.pinned.checked.prog.funcs[f]? = some fn) :
  false = Tryd.pinned.checked.prog.looks [] ∧ ∀ (j : Nat) t,fn.params[j]? = some t → Tryd.pinned.checked.prog.wantsStandIn t = false:=by
 obtain rfl : f = 6:=Option.some.inj ((show Tryd.prog.funcNamed "bosun/bosunlaw23.DiffTurns" = some 6 by kernel_rfl).symm.trans hf) |>.symm
 obtain rfl : fn = Tryd.f6:=(Option.some.inj (Tryd.func6.symm.trans hfn)).symm
 refine ⟨by kernel_rfl,fun j t ht=>?_⟩
 rw [Tryd.params6] at ht
 have hm:=Array.mem_of_getElem? ht
 simp at hm
 obtain rfl:=hm
 ·exact (show Tryd.prog.wantsStandIn 59 = false by kernel_rfl)
theorem card : Rows.DiffTurnsCardSaid :=
 Claim7.holds_tied_plain_at .later [] _ _ _ _ said (fun _ h=>by cases h) (by kernel_rfl) (fun _ h=>by cases h) diffTurns_row_tie rfl ⟨rfl,rfl⟩ (by kernel_rfl) rfl plain (by kernel_rfl)
#print axioms card
end Go.Proofs.YtpflenjhmeaeoaaDoor.diffTurns
namespace Go.Proofs.YtpflenjhmeaeoaaDoor
theorem diffTurns_holds : Rows.DiffTurnsCardSaid:=diffTurns.card
end Go.Proofs.YtpflenjhmeaeoaaDoor
