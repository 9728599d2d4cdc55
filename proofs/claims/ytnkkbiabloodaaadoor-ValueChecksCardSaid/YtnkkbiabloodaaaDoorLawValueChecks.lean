/- Written by this session's own program (wip/gen.py) out of the translation: plain Lean functions of the Go functions, and proofs that the calls come to their answers. No conditions beside those in the statements. -/
import Derived.Test.YtnkkbiabloodaaaDoorCards
import Derived.Test.YtnkkbiabloodaaaDoorTie
import Derived.Lib.LaidIn
import Derived.Lib.LaidU8
import Derived.Deep.DeepHandedRow
import Derived.Deep.DeepWitnessRowRef
import Derived.Test.YtnkkbiabloodaaaDoorGVaValueChecksS
import Derived.Test.YtnkkbiabloodaaaDoorPureValueChecks
import Derived.WalkKit
import Derived.ProofKit
import Derived.OpenShut
import Derived.ShutString
import Derived.ChangeOld
import Derived.Below
import Derived.SizedLaws
namespace Go.Proofs.YtnkkbiabloodaaaDoor.valueChecks
open Go.ChangeShapes Go.WideShapes Go.ChangeAt Go.RowKit Go.Proofs.YtnkkbiabloodaaaDoor.GVa Go.Proofs.YtnkkbiabloodaaaDoor.Opens Go.Proofs.YtnkkbiabloodaaaDoorW.PrintWords
open Go.ChangeMaps (open_string shut_string)
set_option linter.unusedVariables false
theorem own : ownKnob Tryd.prog.godebug = none:=by kernel_rfl
theorem laidOut : laidOutB Tryd.prog = true:=by kernel_rfl
set_option maxRecDepth 100000 in
set_option maxHeartbeats 1000000 in
theorem contract (H : Type) (enc : TypeId × Value → H) (W : World) (base : Nat) (args : Array Value) (ds gs : List (DataW H)) (before : List MemPlace)
  (hval0 : ∀ (j : Nat) t v,Tryd.f4.params[j]? = some t → args[j]? = some v → Value.okWide Tryd.prog W .any base t v)
  (hW : DataW.Whole enc Tryd.prog Tryd.f4.params.toList Rows.valueChecksSpec.vars false W args.toList ds gs before)
  (hsz0 : (DataW.weightsEach Tryd.prog (Tryd.f4.params.toList ++ Rows.valueChecksSpec.plain.varTypes Tryd.prog) (ds ++ gs)).all (· ≤ reachBytes) = true)
  (hG : GW.GW W)
  : Calls Tryd.prog 4 args W fun e W'=>∃ v,e = .returned v ∧ Rows.valueChecksSpec.post enc Tryd.prog Tryd.f4 false true false false W args v W':=by
 have hsz : (DataW.weightsEach Tryd.prog (Tryd.f4.params.toList ++ Rows.valueChecksSpec.plain.varTypes Tryd.prog) (ds ++ gs)).all (· ≤ reachBytes) = true:=hsz0
 have hval : ∀ (j : Nat) t v,Tryd.f4.params[j]? = some t → args[j]? = some v → Value.okWide Tryd.prog W .any base t v:=hval0
 have hW':=hW
 obtain ⟨p,q,yh,hV,rfl,hfz,hnd⟩:=hW
 have hA : DataW.TrodAll enc Tryd.prog W 0 (fun _=>true) true Tryd.f4.params.toList args.toList ds p:=yh
 rw [Tryd.params4] at hA hval hsz
 obtain ⟨v0,yx,d0,ds0,p0,q0,hargs,rfl,rfl,h0,r0⟩:=trodAll_cons hA
 obtain ⟨v1,vs1,d1,ds1,p1,q1,rfl,rfl,rfl,h1,r1⟩:=trodAll_cons r0
 obtain ⟨rfl,rfl,rfl⟩:=trodAll_nil r1
 obtain rfl : args = #[v0,v1]:=by cases args;simp_all
 obtain ⟨rfl,rfl⟩:=trodVars_none hV
 have k0:=h0
 have yj : ∀ x ∈ p0,x.block < W.heap.size:=by obtain ⟨m,hm⟩:=k0;exact DataW.trod_lt m _ _ _ hm
 obtain ⟨x0,yt,hG0⟩:=Opens.arg (kW (B:=48) Tryd.underlying22 (by kernel_rfl) (by kernel_rfl) o75) h0 hsz (j:=0) rfl rfl
 obtain ⟨a0,xS,cap0,rfl⟩:=okWide_slice Tryd.underlying22 (hval 0 22 v0 rfl rfl)
 obtain ⟨A0,c0,he0,hl0,hC0⟩:=yt
 have he0' : (Value.slice a0 xS cap0) = .slice A0 x0.length c0:=by simpa [Value.cells] using he0
 injection he0' with xU xV xW
 subst xU xV xW
 have k1:=h1
 have yu : ∀ x ∈ p1,x.block < W.heap.size:=by obtain ⟨m,hm⟩:=k1;exact DataW.trod_lt m _ _ _ hm
 obtain ⟨x1,hK1,hG1⟩:=Opens.arg (kW (B:=48) Tryd.underlying22 (by kernel_rfl) (by kernel_rfl) o75) h1 hsz (j:=1) rfl rfl
 obtain ⟨a1,len1,xX,rfl⟩:=okWide_slice Tryd.underlying22 (hval 1 22 v1 rfl rfl)
 obtain ⟨A1,c1,he1,hl1,yw⟩:=hK1
 have he1' : (Value.slice a1 len1 xX) = .slice A1 x1.length c1:=by simpa [Value.cells] using he1
 injection he1' with xY xZ yc
 subst xY xZ yc
 clear yh hval0 hsz0 hsz
 obtain ⟨k,h⟩:=Pure.ValueChecks x0 x1 hG0 hG1
 refine (aY.calls k _ _ x0 _ _ x1 true W hC0 hl0 yw hl1 h hG rfl).mono fun e W' ⟨he,yg⟩=>?_
 have bel : Below W.heap.size W W':=yg
 subst he
 exact ⟨_,rfl,_,_,_,[],_,[],hW',trodAll_mk1 (shut_bool Tryd.underlying4 _),(trodAll_cons_mk (Below.trod laidOut (by kernel_rfl) (of_decide_eq_true (by kernel_rfl)) k0 bel yj) (trodAll_cons_mk (Below.trod laidOut (by kernel_rfl) (of_decide_eq_true (by kernel_rfl)) k1 bel yu) trodAll_mk0)),rfl,bel.frame _,fun h=>by cases h⟩
noncomputable def jO (os : Os) : World :=
 let w0:=World.holding Tryd.prog os ⟨#[],#[],[]⟩
 let put (h : Array Obj) (g : Nat) (cs : Array Value) : Array Obj:=h.modify g fun
  | .cells _ t frozen=>.cells cs t frozen
  | o=>o
 let h1:=put w0.heap 0 (Lib.firstTab.map fun z=>Value.int .u8 z).toArray
 let h2:=put h1 1 ((List.range 16).flatMap fun i=>[Value.int .u8 (Lib.accLo i),Value.int .u8 (Lib.accHi i)]).toArray
 { w0 with heap:=h2 }
theorem tF (os : Os) (args : Array Value) : laidMet Tryd.prog Rows.valueChecksRow.laid ((jO os).forCall (fun _ _=>0) ⟨#[],args,[]⟩).memory :=
 (LaidIn.of_run (l:=Rows.valueChecksRow.laid) [1,0] 8 (by kernel_rfl) (by kernel_rfl) (by kernel_rfl) (by kernel_rfl)).met
theorem oU (os : Os) {H : Type} (enc : TypeId × Value → H) :
  (OpenSpec.ofChange Rows.valueChecksSpec).preRow enc Tryd.prog Tryd.f4 Rows.valueChecksRow.domain false Rows.valueChecksRow.laid ((jO os).forCall (fun _ _=>0) ⟨#[],#[.slice none 0 0,.slice none 0 0],[]⟩).memory #[.slice none 0 0,.slice none 0 0]:=by
 have hw : (DataW.whole enc Tryd.prog ((jO os).forCall (fun _ _=>0) ⟨#[],#[.slice none 0 0,.slice none 0 0],[]⟩).memory Tryd.f4.params.toList Rows.valueChecksSpec.vars false (#[.slice none 0 0,.slice none 0 0] : Array Value).toList 8).map (fun x=>(x.1,x.2.1)) =
   some ([.nil,.nil],[]):=by kernel_rfl
 obtain ⟨⟨x1,x2,x3⟩,hx,hx1⟩:=Option.map_eq_some_iff.1 hw
 simp only [Prod.mk.injEq] at hx1
 obtain ⟨rfl,rfl⟩:=hx1
 exact OpenSpec.preRow_of_cond 8 hx (by kernel_rfl) (fun k hk=>by cases hk) (by kernel_rfl) (tF os _)
set_option maxRecDepth 100000 in
theorem lifted (os : Os) (started : os.Started) (H : Type) (enc : TypeId × Value → H) (F : Stop.Interp) :
  ReturnsInHanded {} Tryd.checked os 4 .any ((OpenSpec.ofChange Rows.valueChecksSpec).preRow enc Tryd.prog Tryd.f4 Rows.valueChecksRow.domain false Rows.valueChecksRow.laid) (((OpenSpec.ofChange Rows.valueChecksSpec).at F).post enc Tryd.prog Tryd.f4 false true false false):=by
 refine returnsInHanded_of_row (C:=Tryd.checked) (s:=OpenSpec.ofChange Rows.valueChecksSpec) own started (by kernel_rfl) Tryd.func4
  (witness_row_atRef (enc:=enc) (C:=Tryd.checked) false (jO os) #[.slice none 0 0,.slice none 0 0] rfl (by kernel_rfl) (by kernel_rfl) (by kernel_rfl) (oU os enc)) ?_
 intro W base args ds gs before hval hW _ _ hsz hL hS _
 exact contract H enc W base args ds gs before hval hW hsz (GW.wL hL hS (.tail _ (.head _)) (.head _))
theorem said : Rows.ValueChecksSaid :=
 OpenClaim.holds_of_cond 4 Tryd.f4 rfl rfl rfl rfl rfl rfl rfl ⟨rfl,rfl,rfl,rfl,rfl⟩ rfl rfl rfl rfl rfl (by kernel_rfl) Tryd.func4 (by kernel_rfl)
  (of_decide_eq_true (by kernel_rfl)) (by unfold Func.isWrapper;first|(rw [if_pos (by decide +kernel)];kernel_rfl)|(rw [if_neg (by decide +kernel)];exact ⟨rfl,rfl⟩))
  (fun os started H enc _ F=>by rw [OpenClaim.pre_eq_preRow];exact lifted os started H enc F)
theorem plain (f : FuncId) (fn : Func) (hf : Tryd.pinned.checked.prog.funcNamed "bosun/bosunlaw05.ValueChecks" = some f) (hfn : Tryd.pinned.checked.prog.funcs[f]? = some fn) :
  false = Tryd.pinned.checked.prog.looks [] ∧ ∀ (j : Nat) t,fn.params[j]? = some t → Tryd.pinned.checked.prog.wantsStandIn t = false:=by
 obtain rfl : f = 4:=Option.some.inj ((show Tryd.prog.funcNamed "bosun/bosunlaw05.ValueChecks" = some 4 by kernel_rfl).symm.trans hf) |>.symm
 obtain rfl : fn = Tryd.f4:=(Option.some.inj (Tryd.func4.symm.trans hfn)).symm
 refine ⟨by kernel_rfl,fun j t ht=>?_⟩
 rw [Tryd.params4] at ht
 have hm:=Array.mem_of_getElem? ht
 simp at hm
 obtain rfl:=hm
 ·exact (show Tryd.prog.wantsStandIn 22 = false by kernel_rfl)
theorem card : Rows.ValueChecksCardSaid :=
 Claim7.holds_tied_plain_at .later [] _ _ _ _ said (fun _ h=>by cases h) (by kernel_rfl) (fun _ h=>by cases h) valueChecks_row_tie rfl ⟨rfl,rfl⟩ (by kernel_rfl) rfl plain (by kernel_rfl)
#print axioms card
end Go.Proofs.YtnkkbiabloodaaaDoor.valueChecks
namespace Go.Proofs.YtnkkbiabloodaaaDoor
theorem valueChecks_holds : Rows.ValueChecksCardSaid:=valueChecks.card
end Go.Proofs.YtnkkbiabloodaaaDoor
