/- Written by this session's own program (wip/gen.py) out of the translation: plain Lean functions of the Go functions, and proofs that the calls come to their answers. No conditions beside those in the statements. -/
import Derived.Test.YtnkkbiabloodaaaDoorCards
import Derived.Test.YtnkkbiabloodaaaDoorTie
import Derived.Lib.LaidIn
import Derived.Lib.LaidU8
import Derived.Deep.DeepHandedRow
import Derived.Deep.DeepWitnessRowRef
import Derived.Test.YtnkkbiabloodaaaDoorGVaValueGetsS
import Derived.Test.YtnkkbiabloodaaaDoorPureValueGets
import Derived.WalkKit
import Derived.ProofKit
import Derived.OpenShut
import Derived.ShutString
import Derived.ChangeOld
import Derived.Below
import Derived.SizedLaws
namespace Go.Proofs.YtnkkbiabloodaaaDoor.valueGets
open Go.ChangeShapes Go.WideShapes Go.ChangeAt Go.RowKit Go.Proofs.YtnkkbiabloodaaaDoor.GVa Go.Proofs.YtnkkbiabloodaaaDoor.Opens Go.Proofs.YtnkkbiabloodaaaDoorW.PrintWords
open Go.ChangeMaps (open_string shut_string)
set_option linter.unusedVariables false
theorem own : ownKnob Tryd.prog.godebug = none:=by kernel_rfl
theorem laidOut : laidOutB Tryd.prog = true:=by kernel_rfl
set_option maxRecDepth 100000 in
set_option maxHeartbeats 1000000 in
theorem contract (H : Type) (enc : TypeId × Value → H) (W : World) (base : Nat) (args : Array Value) (ds gs : List (DataW H)) (before : List MemPlace)
  (hval0 : ∀ (j : Nat) t v,Tryd.f3.params[j]? = some t → args[j]? = some v → Value.okWide Tryd.prog W .any base t v)
  (hW : DataW.Whole enc Tryd.prog Tryd.f3.params.toList Rows.valueGetsSpec.vars false W args.toList ds gs before)
  (hsz0 : (DataW.weightsEach Tryd.prog (Tryd.f3.params.toList ++ Rows.valueGetsSpec.plain.varTypes Tryd.prog) (ds ++ gs)).all (· ≤ reachBytes) = true)
  (hG : GW.GW W)
  : Calls Tryd.prog 3 args W fun e W'=>∃ v,e = .returned v ∧ Rows.valueGetsSpec.post enc Tryd.prog Tryd.f3 false true false false W args v W':=by
 have hsz : (DataW.weightsEach Tryd.prog (Tryd.f3.params.toList ++ Rows.valueGetsSpec.plain.varTypes Tryd.prog) (ds ++ gs)).all (· ≤ reachBytes) = true:=hsz0
 have hval : ∀ (j : Nat) t v,Tryd.f3.params[j]? = some t → args[j]? = some v → Value.okWide Tryd.prog W .any base t v:=hval0
 have hW':=hW
 obtain ⟨p,q,xY,hV,rfl,hfz,hnd⟩:=hW
 have hA : DataW.TrodAll enc Tryd.prog W 0 (fun _=>true) true Tryd.f3.params.toList args.toList ds p:=xY
 rw [Tryd.params3] at hA hval hsz
 obtain ⟨v0,yg,d0,ds0,p0,q0,hargs,rfl,rfl,h0,r0⟩:=trodAll_cons hA
 obtain ⟨v1,vs1,d1,ds1,p1,q1,rfl,rfl,rfl,h1,r1⟩:=trodAll_cons r0
 obtain ⟨v2,vs2,d2,yh,p2,q2,rfl,rfl,rfl,h2,r2⟩:=trodAll_cons r1
 obtain ⟨v3,vs3,d3,ds3,p3,q3,rfl,rfl,rfl,h3,r3⟩:=trodAll_cons r2
 obtain ⟨rfl,rfl,rfl⟩:=trodAll_nil r3
 obtain rfl : args = #[v0,v1,v2,v3]:=by cases args;simp_all
 obtain ⟨rfl,rfl⟩:=trodVars_none hV
 have k0:=h0
 have xZ : ∀ x ∈ p0,x.block < W.heap.size:=by obtain ⟨m,hm⟩:=k0;exact DataW.trod_lt m _ _ _ hm
 obtain ⟨x0,yc,hG0⟩:=Opens.arg (pO (B:=48) Tryd.underlying22 (by kernel_rfl) (by kernel_rfl) o75) h0 hsz (j:=0) rfl rfl
 obtain ⟨a0,xS,cap0,rfl⟩:=okWide_slice Tryd.underlying22 (hval 0 22 v0 rfl rfl)
 obtain ⟨A0,c0,he0,hl0,hC0⟩:=yc
 have he0' : (Value.slice a0 xS cap0) = .slice A0 x0.length c0:=by simpa [Value.cells] using he0
 injection he0' with xU xV xW
 subst xU xV xW
 obtain ⟨a1,rfl,rfl,rfl,y1⟩:=open_string Tryd.underlying9 (hval 1 9 v1 rfl rfl) h1
 have w1 : a1.size ≤ 140737488351232:=by
  have z:=sized_string hsz (j:=1) (t:=9) rfl rfl
  rw [Array.length_toList] at z
  exact z
 obtain ⟨a2,rfl,rfl,rfl,w2⟩:=open_int Tryd.underlying2 (hval 2 2 v2 rfl rfl) h2
 obtain ⟨a3,rfl,rfl,rfl⟩:=open_bool Tryd.underlying4 (hval 3 4 v3 rfl rfl) h3
 clear xY hval0 hsz0 hsz
 obtain ⟨k,h⟩:=Pure.ValueGets x0 a1 a2 a3 hG0 w1 w2
 refine (bA.calls k _ _ x0 a1 a2 a3 true W hC0 hl0 h hG rfl).mono fun e W' ⟨he,xX⟩=>?_
 have bel : Below W.heap.size W W':=xX
 subst he
 exact ⟨_,rfl,_,_,_,[],_,[],hW',trodAll_mk1 (shut_bool Tryd.underlying4 _),(trodAll_cons_mk (Below.trod laidOut (by kernel_rfl) (of_decide_eq_true (by kernel_rfl)) k0 bel xZ) (trodAll_cons_mk (shut_string Tryd.underlying9 y1) (trodAll_cons_mk (shut_int Tryd.underlying2 w2) (trodAll_cons_mk (shut_bool Tryd.underlying4 _) trodAll_mk0)))),rfl,bel.frame _,fun h=>by cases h⟩
noncomputable def j6 (os : Os) : World :=
 let w0:=World.holding Tryd.prog os ⟨#[],#[],[]⟩
 let put (h : Array Obj) (g : Nat) (cs : Array Value) : Array Obj:=h.modify g fun
  | .cells _ t frozen=>.cells cs t frozen
  | o=>o
 let h1:=put w0.heap 0 (Lib.firstTab.map fun z=>Value.int .u8 z).toArray
 let h2:=put h1 1 ((List.range 16).flatMap fun i=>[Value.int .u8 (Lib.accLo i),Value.int .u8 (Lib.accHi i)]).toArray
 { w0 with heap:=h2 }
theorem tQ (os : Os) (args : Array Value) : laidMet Tryd.prog Rows.valueGetsRow.laid ((j6 os).forCall (fun _ _=>0) ⟨#[],args,[]⟩).memory :=
 (LaidIn.of_run (l:=Rows.valueGetsRow.laid) [1,0] 8 (by kernel_rfl) (by kernel_rfl) (by kernel_rfl) (by kernel_rfl)).met
theorem pQ (os : Os) {H : Type} (enc : TypeId × Value → H) :
  (OpenSpec.ofChange Rows.valueGetsSpec).preRow enc Tryd.prog Tryd.f3 Rows.valueGetsRow.domain false Rows.valueGetsRow.laid ((j6 os).forCall (fun _ _=>0) ⟨#[],#[.slice none 0 0,.string ⟨#[]⟩,.int .i64 0,.bool false],[]⟩).memory #[.slice none 0 0,.string ⟨#[]⟩,.int .i64 0,.bool false]:=by
 have hw : (DataW.whole enc Tryd.prog ((j6 os).forCall (fun _ _=>0) ⟨#[],#[.slice none 0 0,.string ⟨#[]⟩,.int .i64 0,.bool false],[]⟩).memory Tryd.f3.params.toList Rows.valueGetsSpec.vars false (#[.slice none 0 0,.string ⟨#[]⟩,.int .i64 0,.bool false] : Array Value).toList 8).map (fun x=>(x.1,x.2.1)) =
   some ([.nil,.lit (.string []),.lit (.int .i64 0),.lit (.bool false)],[]):=by kernel_rfl
 obtain ⟨⟨x1,x2,x3⟩,hx,hx1⟩:=Option.map_eq_some_iff.1 hw
 simp only [Prod.mk.injEq] at hx1
 obtain ⟨rfl,rfl⟩:=hx1
 exact OpenSpec.preRow_of_cond 8 hx (by kernel_rfl) (fun k hk=>by cases hk) (by kernel_rfl) (tQ os _)
set_option maxRecDepth 100000 in
theorem lifted (os : Os) (started : os.Started) (H : Type) (enc : TypeId × Value → H) (F : Stop.Interp) :
  ReturnsInHanded {} Tryd.checked os 3 .any ((OpenSpec.ofChange Rows.valueGetsSpec).preRow enc Tryd.prog Tryd.f3 Rows.valueGetsRow.domain false Rows.valueGetsRow.laid) (((OpenSpec.ofChange Rows.valueGetsSpec).at F).post enc Tryd.prog Tryd.f3 false true false false):=by
 refine returnsInHanded_of_row (C:=Tryd.checked) (s:=OpenSpec.ofChange Rows.valueGetsSpec) own started (by kernel_rfl) Tryd.func3
  (witness_row_atRef (enc:=enc) (C:=Tryd.checked) false (j6 os) #[.slice none 0 0,.string ⟨#[]⟩,.int .i64 0,.bool false] rfl (by kernel_rfl) (by kernel_rfl) (by kernel_rfl) (pQ os enc)) ?_
 intro W base args ds gs before hval hW _ _ hsz hL hS _
 exact contract H enc W base args ds gs before hval hW hsz (GW.wQ hL hS (.tail _ (.head _)) (.head _))
theorem said : Rows.ValueGetsSaid :=
 OpenClaim.holds_of_cond 3 Tryd.f3 rfl rfl rfl rfl rfl rfl rfl ⟨rfl,rfl,rfl,rfl,rfl⟩ rfl rfl rfl rfl rfl (by kernel_rfl) Tryd.func3 (by kernel_rfl)
  (of_decide_eq_true (by kernel_rfl)) (by unfold Func.isWrapper;first|(rw [if_pos (by decide +kernel)];kernel_rfl)|(rw [if_neg (by decide +kernel)];exact ⟨rfl,rfl⟩))
  (fun os started H enc _ F=>by rw [OpenClaim.pre_eq_preRow];exact lifted os started H enc F)
theorem plain (f : FuncId) (fn : Func) (hf : Tryd.pinned.checked.prog.funcNamed "bosun/bosunlaw05.ValueGets" = some f) (hfn : Tryd.pinned.checked.prog.funcs[f]? = some fn) :
  false = Tryd.pinned.checked.prog.looks [] ∧ ∀ (j : Nat) t,fn.params[j]? = some t → Tryd.pinned.checked.prog.wantsStandIn t = false:=by
 obtain rfl : f = 3:=Option.some.inj ((show Tryd.prog.funcNamed "bosun/bosunlaw05.ValueGets" = some 3 by kernel_rfl).symm.trans hf) |>.symm
 obtain rfl : fn = Tryd.f3:=(Option.some.inj (Tryd.func3.symm.trans hfn)).symm
 refine ⟨by kernel_rfl,fun j t ht=>?_⟩
 rw [Tryd.params3] at ht
 have hm:=Array.mem_of_getElem? ht
 simp at hm
 rcases hm with rfl|rfl|rfl|rfl
 ·exact (show Tryd.prog.wantsStandIn 22 = false by kernel_rfl)
 ·exact (show Tryd.prog.wantsStandIn 9 = false by kernel_rfl)
 ·exact (show Tryd.prog.wantsStandIn 2 = false by kernel_rfl)
 ·exact (show Tryd.prog.wantsStandIn 4 = false by kernel_rfl)
theorem card : Rows.ValueGetsCardSaid :=
 Claim7.holds_tied_plain_at .later [] _ _ _ _ said (fun _ h=>by cases h) (by kernel_rfl) (fun _ h=>by cases h) valueGets_row_tie rfl ⟨rfl,rfl⟩ (by kernel_rfl) rfl plain (by kernel_rfl)
#print axioms card
end Go.Proofs.YtnkkbiabloodaaaDoor.valueGets
namespace Go.Proofs.YtnkkbiabloodaaaDoor
theorem valueGets_holds : Rows.ValueGetsCardSaid:=valueGets.card
end Go.Proofs.YtnkkbiabloodaaaDoor
