/- Written by this session's own program (wip/gen.py) out of the translation: plain Lean functions of the Go functions, and proofs that the calls come to their answers. No conditions beside those in the statements. -/
import Derived.Test.YtpncpefppifgdaaGreatDoorCards
import Derived.Test.YtpncpefppifgdaaGreatDoorTie
import Derived.Lib.LaidIn
import Derived.Lib.LaidU8
import Derived.Deep.DeepHandedRow
import Derived.Deep.DeepWitnessRowRef
import Derived.Test.YtpncpefppifgdaaGreatDoorGUtUpgradeDownS
import Derived.Test.YtpncpefppifgdaaGreatDoorPureUpgradeDown
import Derived.WalkKit
import Derived.ProofKit
import Derived.OpenShut
import Derived.ShutString
import Derived.ChangeOld
import Derived.Below
import Derived.SizedLaws
namespace Go.Proofs.YtpncpefppifgdaaGreatDoor.upgradeDown
open Go.ChangeShapes Go.WideShapes Go.ChangeAt Go.RowKit Go.Proofs.YtpncpefppifgdaaGreatDoor.GUt Go.Proofs.YtpncpefppifgdaaGreatDoor.Opens Go.Proofs.YtpncpefppifgdaaGreatDoorW.PrintWords
open Go.ChangeMaps (open_string shut_string)
set_option linter.unusedVariables false
theorem own : ownKnob Tryz.prog.godebug = none:=by kernel_rfl
theorem laidOut : laidOutB Tryz.prog = true:=by kernel_rfl
set_option maxRecDepth 100000 in
set_option maxHeartbeats 1000000 in
theorem contract (H : Type) (enc : TypeId × Value → H) (W : World) (base : Nat) (args : Array Value) (ds gs : List (DataW H)) (before : List MemPlace)
  (hval0 : ∀ (j : Nat) t v,Tryz.f4.params[j]? = some t → args[j]? = some v → Value.okWide Tryz.prog W .any base t v)
  (hW : DataW.Whole enc Tryz.prog Tryz.f4.params.toList Rows.upgradeDownSpec.vars false W args.toList ds gs before)
  (hsz0 : (DataW.weightsEach Tryz.prog (Tryz.f4.params.toList ++ Rows.upgradeDownSpec.plain.varTypes Tryz.prog) (ds ++ gs)).all (· ≤ reachBytes) = true)
  (hG : GW.GW W)
  : Calls Tryz.prog 4 args W fun e W'=>∃ v,e = .returned v ∧ Rows.upgradeDownSpec.post enc Tryz.prog Tryz.f4 false true false false W args v W':=by
 have hsz : (DataW.weightsEach Tryz.prog (Tryz.f4.params.toList ++ Rows.upgradeDownSpec.plain.varTypes Tryz.prog) (ds ++ gs)).all (· ≤ reachBytes) = true:=hsz0
 have hval : ∀ (j : Nat) t v,Tryz.f4.params[j]? = some t → args[j]? = some v → Value.okWide Tryz.prog W .any base t v:=hval0
 have hW':=hW
 obtain ⟨p,q,BH,hV,rfl,hfz,hnd⟩:=hW
 have hA : DataW.TrodAll enc Tryz.prog W 0 (fun _=>true) true Tryz.f4.params.toList args.toList ds p:=BH
 rw [Tryz.params4] at hA hval hsz
 obtain ⟨v0,BL,d0,ds0,p0,q0,hargs,rfl,rfl,h0,r0⟩:=trodAll_cons hA
 obtain ⟨rfl,rfl,rfl⟩:=trodAll_nil r0
 obtain rfl : args = #[v0]:=by cases args;simp_all
 obtain ⟨rfl,rfl⟩:=trodVars_none hV
 have k0:=h0
 have BI : ∀ x ∈ p0,x.block < W.heap.size:=by obtain ⟨m,hm⟩:=k0;exact DataW.trod_lt m _ _ _ hm
 obtain ⟨x0,BJ,hG0⟩:=Opens.arg o51 h0 hsz (j:=0) rfl rfl
 obtain ⟨cs0,rfl,hz0⟩:=okWide_struct Tryz.underlying51 (hval 0 51 v0 rfl rfl)
 have BK:=vO BJ
 obtain ⟨BD,BF,he0,Bw,Bz⟩:=BK
 obtain rfl : cs0 = #[.int .u64 x0.f0,.slice BD x0.f1.length BF]:=by
  have h_ : cs0.toList = _:=he0
  exact Array.toList_inj.1 h_
 clear BH hval0 hsz0 hsz
 obtain ⟨k,h⟩:=Pure.UpgradeDown x0 hG0
 refine (bI.calls k x0.f0 _ _ x0.f1 true W Bz Bw h hG rfl).mono fun e W' ⟨he,BG⟩=>?_
 have bel : Below W.heap.size W W':=BG
 subst he
 exact ⟨_,rfl,_,_,_,[],_,[],hW',trodAll_mk1 (shut_bool Tryz.underlying4 _),(trodAll_cons_mk (Below.trod laidOut (by kernel_rfl) (of_decide_eq_true (by kernel_rfl)) k0 bel BI) trodAll_mk0),rfl,bel.frame _,fun h=>by cases h⟩
noncomputable def lN (os : Os) : World :=
 let w0:=World.holding Tryz.prog os ⟨#[],#[],[]⟩
 let put (h : Array Obj) (g : Nat) (cs : Array Value) : Array Obj:=h.modify g fun
  | .cells _ t frozen=>.cells cs t frozen
  | o=>o
 let h1:=put w0.heap 0 (Lib.firstTab.map fun z=>Value.int .u8 z).toArray
 let h2:=put h1 1 ((List.range 16).flatMap fun i=>[Value.int .u8 (Lib.accLo i),Value.int .u8 (Lib.accHi i)]).toArray
 { w0 with heap:=h2 }
theorem wT (os : Os) (args : Array Value) : laidMet Tryz.prog Rows.upgradeDownRow.laid ((lN os).forCall (fun _ _=>0) ⟨#[],args,[]⟩).memory :=
 (LaidIn.of_run (l:=Rows.upgradeDownRow.laid) [1,0] 8 (by kernel_rfl) (by kernel_rfl) (by kernel_rfl) (by kernel_rfl)).met
theorem rE (os : Os) {H : Type} (enc : TypeId × Value → H) :
  (OpenSpec.ofChange Rows.upgradeDownSpec).preRow enc Tryz.prog Tryz.f4 Rows.upgradeDownRow.domain false Rows.upgradeDownRow.laid ((lN os).forCall (fun _ _=>0) ⟨#[],#[.agg #[.int .u64 0,.slice none 0 0]],[]⟩).memory #[.agg #[.int .u64 0,.slice none 0 0]]:=by
 have hw : (DataW.whole enc Tryz.prog ((lN os).forCall (fun _ _=>0) ⟨#[],#[.agg #[.int .u64 0,.slice none 0 0]],[]⟩).memory Tryz.f4.params.toList Rows.upgradeDownSpec.vars false (#[.agg #[.int .u64 0,.slice none 0 0]] : Array Value).toList 8).map (fun x=>(x.1,x.2.1)) =
   some ([.agg [.lit (.int .u64 0),.nil]],[]):=by kernel_rfl
 obtain ⟨⟨x1,x2,x3⟩,hx,hx1⟩:=Option.map_eq_some_iff.1 hw
 simp only [Prod.mk.injEq] at hx1
 obtain ⟨rfl,rfl⟩:=hx1
 exact OpenSpec.preRow_of_cond 8 hx (by kernel_rfl) (fun k hk=>by cases hk) (by kernel_rfl) (wT os _)
set_option maxRecDepth 100000 in
theorem lifted (os : Os) (started : os.Started) (H : Type) (enc : TypeId × Value → H) (F : Stop.Interp) :
  ReturnsInHanded {} Tryz.checked os 4 .any ((OpenSpec.ofChange Rows.upgradeDownSpec).preRow enc Tryz.prog Tryz.f4 Rows.upgradeDownRow.domain false Rows.upgradeDownRow.laid) (((OpenSpec.ofChange Rows.upgradeDownSpec).at F).post enc Tryz.prog Tryz.f4 false true false false):=by
 refine returnsInHanded_of_row (C:=Tryz.checked) (s:=OpenSpec.ofChange Rows.upgradeDownSpec) own started (by kernel_rfl) Tryz.func4
  (witness_row_atRef (enc:=enc) (C:=Tryz.checked) false (lN os) #[.agg #[.int .u64 0,.slice none 0 0]] rfl (by kernel_rfl) (by kernel_rfl) (by kernel_rfl) (rE os enc)) ?_
 intro W base args ds gs before hval hW _ _ hsz hL hS _
 exact contract H enc W base args ds gs before hval hW hsz (GW.Ap hL hS (.tail _ (.head _)) (.head _))
theorem said : Rows.UpgradeDownSaid :=
 OpenClaim.holds_of_cond 4 Tryz.f4 rfl rfl rfl rfl rfl rfl rfl ⟨rfl,rfl,rfl,rfl,rfl⟩ rfl rfl rfl rfl rfl (by kernel_rfl) Tryz.func4 (by kernel_rfl)
  (of_decide_eq_true (by kernel_rfl)) (by unfold Func.isWrapper;first|(rw [if_pos (by decide +kernel)];kernel_rfl)|(rw [if_neg (by decide +kernel)];exact ⟨rfl,rfl⟩))
  (fun os started H enc _ F=>by rw [OpenClaim.pre_eq_preRow];exact lifted os started H enc F)
theorem plain (f : FuncId) (fn : Func) (hf : Tryz.pinned.checked.prog.funcNamed "bosun/bosunlaw20.UpgradeDown" = some f) (hfn : Tryz.pinned.checked.prog.funcs[f]? = some fn) :
  false = Tryz.pinned.checked.prog.looks [] ∧ ∀ (j : Nat) t,fn.params[j]? = some t → Tryz.pinned.checked.prog.wantsStandIn t = false:=by
 obtain rfl : f = 4:=Option.some.inj ((show Tryz.prog.funcNamed "bosun/bosunlaw20.UpgradeDown" = some 4 by kernel_rfl).symm.trans hf) |>.symm
 obtain rfl : fn = Tryz.f4:=(Option.some.inj (Tryz.func4.symm.trans hfn)).symm
 refine ⟨by kernel_rfl,fun j t ht=>?_⟩
 rw [Tryz.params4] at ht
 have hm:=Array.mem_of_getElem? ht
 simp at hm
 obtain rfl:=hm
 ·exact (show Tryz.prog.wantsStandIn 51 = false by kernel_rfl)
theorem card : Rows.UpgradeDownCardSaid :=
 Claim7.holds_tied_plain_at .later [] _ _ _ _ said (fun _ h=>by cases h) (by kernel_rfl) (fun _ h=>by cases h) upgradeDown_row_tie rfl ⟨rfl,rfl⟩ (by kernel_rfl) rfl plain (by kernel_rfl)
#print axioms card
end Go.Proofs.YtpncpefppifgdaaGreatDoor.upgradeDown
namespace Go.Proofs.YtpncpefppifgdaaGreatDoor
theorem upgradeDown_holds : Rows.UpgradeDownCardSaid:=upgradeDown.card
end Go.Proofs.YtpncpefppifgdaaGreatDoor
