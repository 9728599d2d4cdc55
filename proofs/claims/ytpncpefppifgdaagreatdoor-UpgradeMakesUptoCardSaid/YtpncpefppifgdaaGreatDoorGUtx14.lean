/- Written by this session's own program (wip/gen.py) out of the translation: plain Lean functions of the Go functions, and proofs that the calls come to their answers. No conditions beside those in the statements. -/
import Derived.Test.YtpncpefppifgdaaGreatDoorCp
import Derived.Test.YtpncpefppifgdaaGreatDoorGUtx0
import Derived.Test.YtpncpefppifgdaaGreatDoorGUtx4
import Derived.Test.YtpncpefppifgdaaGreatDoorGUtx5
import Derived.Test.YtpncpefppifgdaaGreatDoorGUtx13
import Derived.Test.YtpncpefppifgdaaGreatDoorGUtUp
import Derived.Test.YtpncpefppifgdaaGreatDoorGW
namespace Go.Proofs.YtpncpefppifgdaaGreatDoor.GUt
open Go.RowKit Go.Proofs.YtpncpefppifgdaaGreatDoorW.PrintWords Go.Proofs.YtpncpefppifgdaaGreatDoorW.PrintLast Go.Proofs.YtpncpefppifgdaaGreatDoorW.PrintMore
attribute [local go_sem] fZ gq gM gN fM fO gu gD
set_option linter.unusedVariables false
set_option linter.unusedSimpArgs false
def aW.j0 : Nat → Bool → Int → List (S79) → Option (Bool)
 | 0,_,_,_=>none
 | k + 1,x20,EO,Ct=>if x20 = true then (some false) else (if 0 < (Ct.length : Int) then (if 0 < (((aX Ct 0).f1.f5).length : Int) then ((bI.f k).bind fun Dz=>(if Dz = true then ((cO.f k).bind fun CJ=>(if CJ = true then ((bU.f k).bind fun t201=>(if t201 = true then (if ((au ((aX Ct 0).f1.f5) 0).f0).toList = ([109,97,105,110] : List UInt8) then (if ((au ((aX Ct 0).f1.f5) 0).f1).toList = ([110,103,105,110,120] : List UInt8) then (some (((au ((aX Ct 0).f1.f5) 0).f4) == 100)) else (some false)) else (some false)) else (some false))) else (some false))) else (some false))) else (none)) else (none))
def aW.f (k : Nat)  : Option (Bool):=(dG.f 0 (([(⟨(⟨#[97]⟩ : ByteArray),(⟨#[119,101,98]⟩ : ByteArray),(⟨#[110,103,105,110,120]⟩ : ByteArray),0⟩ : S67)] : List (S67)))).bind fun BO=>(if (BO.2.length : Int) = 1 then (if 0 < (BO.2.length : Int) then (aW.j0 k ((((aX BO.2 0).f1.f5).length : Int) != 1) BO.1 BO.2) else (none)) else (aW.j0 k true BO.1 BO.2))
theorem aW.eB : ∀ k,(∀ y0 y1 y2,LeO (aW.j0 k y0 y1 y2) (aW.j0 (k + 1) y0 y1 y2))
 | 0=>fun _ _ _ r h=>by simp [aW.j0] at h
 | k + 1=>by
  have EC:=aW.eB k
  ·intro y0 y1 y2
   unfold aW.j0
   repeat' first
   | (with_reducible exact EC _ _ _)
   | (with_reducible exact bI.mono _)
   | (with_reducible exact cO.mono _)
   | (with_reducible exact bU.mono _)
   | (with_reducible exact LeO.refl _)
   | (with_reducible exact LeO.none _)
   | (with_reducible refine LeO.ite ?_ ?_)
   | (with_reducible refine LeO.bind ?_ (fun _=>?_))
   | exact EC _ _ _
   | exact bI.mono _
   | exact cO.mono _
   | exact bU.mono _
   | exact LeO.none _
   | refine LeO.ite ?_ ?_
   | refine LeO.bind ?_ (fun _=>?_)
theorem aW.mono : ∀ k,LeO (aW.f k ) (aW.f (k + 1) ):=by
 intro  k
 have EC:=aW.eB k
 unfold aW.f
 repeat' first
   | (with_reducible exact EC _ _ _)
   | (with_reducible exact bI.mono _)
   | (with_reducible exact cO.mono _)
   | (with_reducible exact bU.mono _)
   | (with_reducible exact LeO.refl _)
   | (with_reducible exact LeO.none _)
   | (with_reducible refine LeO.ite ?_ ?_)
   | (with_reducible refine LeO.bind ?_ (fun _=>?_))
   | exact EC _ _ _
   | exact bI.mono _
   | exact cO.mono _
   | exact bU.mono _
   | exact LeO.none _
   | refine LeO.ite ?_ ?_
   | refine LeO.bind ?_ (fun _=>?_)
set_option maxHeartbeats 8000000 in
set_option maxRecDepth 100000 in
theorem aW.kI (k : Nat)  (r : Bool) (w : World) (h : aW.f k  = some r) (hG : GW.GW w) (hT : r = true) :
  Calls Tryz.prog 8 #[] w fun e w'=>e = .returned (.bool r) ∧ Below w.heap.size w w':=by
 have HTr:=Aside0.mk hT
 clear hT
 have Gu:=Tryz.underlying67
 have Gv:=Tryz.underlying25
 have Gw:=Tryz.underlying51
 have Gx:=Tryz.underlying84
 have HB:=Aside0.mk (Below.refl w.heap.size w)
 have H : ((dG.f 0 (([(⟨(⟨#[97]⟩ : ByteArray),(⟨#[119,101,98]⟩ : ByteArray),(⟨#[110,103,105,110,120]⟩ : ByteArray),0⟩ : S67)] : List (S67)))).bind fun BO=>(if (BO.2.length : Int) = 1 then (if 0 < (BO.2.length : Int) then (aW.j0 k ((((aX BO.2 0).f1.f5).length : Int) != 1) BO.1 BO.2) else (none)) else (aW.j0 k true BO.1 BO.2))) = some r:=h
 clear h
 obtain ⟨DR,Da⟩ : ∃ y_ : List (S67),y_ = (([(⟨(⟨#[97]⟩ : ByteArray),(⟨#[119,101,98]⟩ : ByteArray),(⟨#[110,103,105,110,120]⟩ : ByteArray),0⟩ : S67)] : List (S67))):=⟨_,rfl⟩
 replace H : ((dG.f 0 DR).bind fun BO=>(if (BO.2.length : Int) = 1 then (if 0 < (BO.2.length : Int) then (aW.j0 k ((((aX BO.2 0).f1.f5).length : Int) != 1) BO.1 BO.2) else (none)) else (aW.j0 k true BO.1 BO.2))) = some r:=by first|(rw [Da];with_reducible exact H)|(have F5:=(Option.bind_some _ _).symm.trans H;rw [Da];with_reducible exact F5)|(have F5:=(Option.bind_some _ _).symm.trans H;with_reducible exact F5)|with_reducible exact H|(rw [Da];exact H)|exact H
 have Eo:=Aside0.mk Da
 clear Da
 replace H:=Option.bind_eq_some_iff.mp H
 obtain ⟨⟨Cg,Bu⟩,Gc,H⟩:=H
 replace H : (if (Bu.length : Int) = 1 then (if 0 < (Bu.length : Int) then (aW.j0 k ((((aX Bu 0).f1.f5).length : Int) != 1) Cg Bu) else (none)) else (aW.j0 k true Cg Bu)) = some r:=H
 have A1:=Aside0.mk Gc
 clear Gc
 have F6:=Aside0.mk H
 clear H
 go_enter Tryz.func8,Tryz.ntmps8
 go_upto_region 2 with (first|((with_reducible refine dz (N:=4) rfl ?_);(try (refine iJ (by rfl) ?_;dsimp only));refine Kd.qM k67 _ 67 ?hg (N:=4) ?hd (xs:=([(⟨(⟨#[97]⟩ : ByteArray),(⟨#[119,101,98]⟩ : ByteArray),(⟨#[110,103,105,110,120]⟩ : ByteArray),0⟩ : S67)] : List (S67))) (inner:=[.string (⟨#[97]⟩ : ByteArray),.string (⟨#[119,101,98]⟩ : ByteArray),.string (⟨#[110,103,105,110,120]⟩ : ByteArray),.int .u8 0]) (ok:=fun _=>True) (okp:=fun _=>True) ?hr ?hp (fun _ hk=>hk) trivial (Below.refl _ _) (Nat.le_refl _) (by simp) ?_;(case hd=>rfl);(case hg=>rfl);(case hr=>first|(go_simp;done)|(go_simp;rfl));(case hp=>exact (dW.c4 (show Kd.M k67 _ _ _ (⟨(⟨#[97]⟩ : ByteArray),(⟨#[119,101,98]⟩ : ByteArray),(⟨#[110,103,105,110,120]⟩ : ByteArray),0⟩ : S67) [.string (⟨#[97]⟩ : ByteArray),.string (⟨#[119,101,98]⟩ : ByteArray),.string (⟨#[110,103,105,110,120]⟩ : ByteArray),.int .u8 0] from (xH _ _ _ (⟨(⟨#[97]⟩ : ByteArray),(⟨#[119,101,98]⟩ : ByteArray),(⟨#[110,103,105,110,120]⟩ : ByteArray),0⟩ : S67) )) (dW.none _ _)));intro Gy w3 ED hb hg_ hnew_;clear hg_ hnew_;(first|rw [← Eo.out] at ED|(simp only [Int.reduceToNat] at ED;rw [← Eo.out] at ED));have CK:=Aside0.mk (Kd.jr ED (aU hb_));have CO:=Aside0.mk (aN hb_ hb);clear HB;have Cq:=CK;have HB:=CO;clear CK CO;clear hb ED;obtain ⟨Gd,Gf,Gz⟩:=Kd.gH Cq.out;subst Gz)|((with_reducible refine bO (f:=18) rfl ?_);refine dZ (some 6) rfl rfl Tryz.func18 (by kernel_rfl) rfl #[.agg #[.int .u32 0,.slice Gd DR.length Gf]] rfl (by (try simp only [List.map_toArray,List.map_cons,List.map_nil]);first|done|rfl|(simp only [List.length_drop,List.length_take];rfl)|(simp (disch:=first|omega|(simp at *;omega)) only [eu,dD,fA];rfl)) ?_;(with_reducible refine (dG.calls 0 _ _ DR Cg Bu _ ?EF ?EG A1.out).mono ?_);(case EF=>repeat (first|exact (Kd.fH Cq.out).2.2|(with_reducible refine Kd.dn ?_ _)|(with_reducible refine Kd.dw ?_ _)|(with_reducible refine Kd.dL ?_)));(case EG=>exact (Kd.fH Cq.out).2.1);rintro e w6 ⟨GA,rfl,ho0,hb⟩;refine ⟨_,rfl,?_⟩;have CK:=Aside0.mk (Kd.eG (kr_ Cq.out) hb);have CO:=Aside0.mk (Kd.jf (Kd.eO (ok':=fun k_=>some k_ ≠ (.slice Gd DR.length Gf : Value).ownBlock) ho0 (fun k_ hk_=>(Kd.fresh' (Kd.nS (kr_ Cq.out)) k_ hk_))) (aU hb_));have Db:=Aside0.mk (aN hb_ hb);clear Cq;clear HB;have Cq:=CK;have Cu:=CO;have HB:=Db;clear CK CO Db;(try clear hb);(try clear hb2);(try clear hk);(try clear hi);(try clear ho0))|((with_reducible refine dz (N:=1) rfl ?_);(try (refine iJ (by rfl) ?_;dsimp only));refine dJ ?hg (N:=1) ?hd (cs:=#[.int .u64 0,.slice none 0 0]) (t:=51) ?hr ?_;(case hd=>rfl);(case hg=>rfl);(case hr=>first|(go_simp;done)|(go_simp;rfl));intro Bw hg w7 hbox hb;have CK:=Aside0.mk (Kd.eG (kr_ Cq.out) hb);have CO:=Aside0.mk (Kd.dF (Kd.jM (kv_ Cu.out) Bw (Nat.le_of_eq hg.symm)) hb);have Db:=Aside0.mk (aN hb_ hb);have Dc:=Aside0.mk (hbox);have Df:=Aside0.mk ((by rw [hg];exact (aU hb_) : w.heap.size ≤ Bw));have Dh:=Aside0.mk ((by rw [hg];exact (aU hb_) : w.heap.size ≤ Bw));clear Cq;clear Cu;clear HB;have Cq:=CK;have Cu:=CO;have HB:=Db;have BH:=Dc;have Gg:=Df;have Gh:=Dh;clear CK CO Db Dc Df Dh;clear hb hbox hg;have Ep : w7.cell? ⟨Bw,0,none⟩ = some (.int .u64 0):=(ah BH.out 0).trans rfl;have Er : w7.cell? ⟨Bw,1,none⟩ = some (.slice none 0 0):=(ah BH.out 1).trans rfl;have Es:=ay BH.out 0;have Et:=ay BH.out 1;obtain ⟨EP,C9,GD⟩:=Kd.iw Cu.out;subst GD))
 (try simp only [Act.put,List.setIfInBounds_toArray,List.set_cons_zero,List.set_cons_succ])
 go_cut [20] (fun v20 wc=>∃ (kq : Nat) (Di : Bool),v20 = .bool Di ∧ Aside0 (aW.j0 kq Di Cg Bu = some r) ∧ Aside0 (kq ≤ k) ∧ Aside0 (Kd.V k79 79 wc w.heap.size (fun k_=>k_ ≠ Bw) (.slice EP Bu.length C9) Bu) ∧ Aside0 (wc.heap[Bw]? = some (.cells #[.int .u64 Cg,(.slice EP Bu.length C9)] 51 (0,0))) ∧ Aside0 (Below w.heap.size w wc))
 case first =>
  have H:=F6.out
  clear F6
  by_cases c10 : (Bu.length : Int) = 1
  ·rw [if_pos c10] at H
   have c10b0 : ((Bu.length : Int) == 1) = true:=beq_iff_eq.mpr c10
   have c10b1 : ((Bu.length : Int) != 1) = false:=bne_eq_false_iff_eq.mpr c10
   clear c10
   (first|rw [c10b0]|(simp only [bJ,bK];rw [c10b0])|skip)
   by_cases c11 : 0 < (Bu.length : Int)
   ·rw [if_pos c11] at H
    have c11b0 : decide (0 < (Bu.length : Int)) = true:=decide_eq_true c11
    have c11b1 : decide (0 < Bu.length) = true:=decide_eq_true (by omega)
    clear c11
    have H':=Aside0.mk H
    clear H
    have DT : w7.cell? ⟨Bw,0,none⟩ = some (.int .u64 0):=(ah BH.out 0).trans rfl
    have DU : w7.cell? ⟨Bw,1,none⟩ = some (.slice none 0 0):=(ah BH.out 1).trans rfl
    have DV:=ay BH.out 0
    have DW:=ay BH.out 1
    have DX : 0 ≤ (0 : Int):=(by omega)
    have DY : 0 < (Bu.length : Int):=of_decide_eq_true (by first|(with_reducible assumption)|assumption)
    obtain ⟨Cr,F7,F8,e195,Ch,Ci,Cj,Ck,Cm,Cn,Co,Dj,Dk⟩:=r9 (Kd.eY Cu.out).2.2 0 DX DY
    cases e195
    have Gi : (0 < Bu.length) = True:=eq_true (by omega)
    (try simp only [show ((0 : Int)).toNat = 0 from rfl,show 0 * 7 = 0 from rfl,Addr.add_zero'] at Ch Ci Cj Ck Cm Cn Co)
    have Bz : Cr.block ≠ Bw:=Kd.tJ (fun _ hk=>(Kd.eY (Kd.vN Cu.out hk (fun _ h=>h.2))).2.2) (by omega) (by decide)
    have BD : Cr.block ≠ Bw:=Kd.tJ (fun _ hk=>(Kd.eY (Kd.vN Cu.out hk (fun _ h=>h.2))).2.2) (by omega) (by decide)
    have ER:=Aside0.mk Dk
    have ES:=Aside0.mk Dj
    clear Dk Dj
    replace Ch:=(cell_far (p:=⟨Bw,0,none⟩) (by first|(rw [add_block];exact Bz)|(show (Addr.add _ _).block ≠ _;rw [add_block];exact Bz)|exact Bz) (.int .u64 Cg)).trans Ch
    replace Ci:=(cell_far (p:=⟨Bw,0,none⟩) (by first|(rw [add_block];exact Bz)|(show (Addr.add _ _).block ≠ _;rw [add_block];exact Bz)|exact Bz) (.int .u64 Cg)).trans Ci
    replace Cj:=(cell_far (p:=⟨Bw,0,none⟩) (by first|(rw [add_block];exact Bz)|(show (Addr.add _ _).block ≠ _;rw [add_block];exact Bz)|exact Bz) (.int .u64 Cg)).trans Cj
    replace Ck:=(cell_far (p:=⟨Bw,0,none⟩) (by first|(rw [add_block];exact Bz)|(show (Addr.add _ _).block ≠ _;rw [add_block];exact Bz)|exact Bz) (.int .u64 Cg)).trans Ck
    replace Cm:=(cell_far (p:=⟨Bw,0,none⟩) (by first|(rw [add_block];exact Bz)|(show (Addr.add _ _).block ≠ _;rw [add_block];exact Bz)|exact Bz) (.int .u64 Cg)).trans Cm
    replace Cn:=(cell_far (p:=⟨Bw,0,none⟩) (by first|(rw [add_block];exact Bz)|(show (Addr.add _ _).block ≠ _;rw [add_block];exact Bz)|exact Bz) (.int .u64 Cg)).trans Cn
    replace Co:=(cell_far (p:=⟨Bw,0,none⟩) (by first|(rw [add_block];exact Bz)|(show (Addr.add _ _).block ≠ _;rw [add_block];exact Bz)|exact Bz) (.int .u64 Cg)).trans Co
    replace Ch:=(cell_far (p:=⟨Bw,1,none⟩) (by first|(rw [add_block];exact BD)|(show (Addr.add _ _).block ≠ _;rw [add_block];exact BD)|exact BD) (.slice (some Cr) Bu.length C9)).trans Ch
    replace Ci:=(cell_far (p:=⟨Bw,1,none⟩) (by first|(rw [add_block];exact BD)|(show (Addr.add _ _).block ≠ _;rw [add_block];exact BD)|exact BD) (.slice (some Cr) Bu.length C9)).trans Ci
    replace Cj:=(cell_far (p:=⟨Bw,1,none⟩) (by first|(rw [add_block];exact BD)|(show (Addr.add _ _).block ≠ _;rw [add_block];exact BD)|exact BD) (.slice (some Cr) Bu.length C9)).trans Cj
    replace Ck:=(cell_far (p:=⟨Bw,1,none⟩) (by first|(rw [add_block];exact BD)|(show (Addr.add _ _).block ≠ _;rw [add_block];exact BD)|exact BD) (.slice (some Cr) Bu.length C9)).trans Ck
    replace Cm:=(cell_far (p:=⟨Bw,1,none⟩) (by first|(rw [add_block];exact BD)|(show (Addr.add _ _).block ≠ _;rw [add_block];exact BD)|exact BD) (.slice (some Cr) Bu.length C9)).trans Cm
    replace Cn:=(cell_far (p:=⟨Bw,1,none⟩) (by first|(rw [add_block];exact BD)|(show (Addr.add _ _).block ≠ _;rw [add_block];exact BD)|exact BD) (.slice (some Cr) Bu.length C9)).trans Cn
    replace Co:=(cell_far (p:=⟨Bw,1,none⟩) (by first|(rw [add_block];exact BD)|(show (Addr.add _ _).block ≠ _;rw [add_block];exact BD)|exact BD) (.slice (some Cr) Bu.length C9)).trans Co
    clear Bz
    clear BD
    replace DX:=eq_true DX
    replace DY:=eq_true DY
    go_wp2
    go_meet
    case rel=>exact ⟨_,(((((aX Bu 0).f1.f5).length : Int) != 1)),(by first|rfl|(simp;done)|(simp [*];done)),H',⟨by first|omega|exact Nat.le_refl _⟩,⟨by (with_reducible repeat (first|apply Kd.iM|apply Kd.iN|apply Kd.jm));exact Kd.eO (Kd.dM (p:=⟨Bw,1,none⟩) (Kd.dM (p:=⟨Bw,0,none⟩) (Kd.eO Cu.out (fun k_ hk=>(⟨hk,hk.2⟩ : _ ∧ k_ ≠ Bw))) (fun _ hk=>hk.2) (.int .u64 Cg)) (fun _ hk=>hk.2) (.slice (some Cr) Bu.length C9)) (fun _ hk=>hk.1.2)⟩,⟨by (with_reducible repeat (first|apply aj|apply av|apply ak));refine aT (cs:=#[.int .u64 Cg,.slice none 0 0]) ?_ 1 _ rfl;(with_reducible repeat (first|apply aj|apply av|apply ak));refine aT (cs:=#[.int .u64 0,.slice none 0 0]) ?_ 0 _ rfl;(with_reducible repeat (first|apply aj|apply av|apply ak));exact BH.out⟩,⟨hb_⟩⟩
   ·rw [if_neg c11] at H
    exact absurd H (by simp)
  ·rw [if_neg c10] at H
   have c10b0 : ((Bu.length : Int) == 1) = false:=beq_eq_false_iff_ne.mpr c10
   have c10b1 : ((Bu.length : Int) != 1) = true:=bne_iff_ne.mpr c10
   (first|rw [c10b0]|(simp only [bJ,bK];rw [c10b0])|skip)
   have H':=Aside0.mk H
   clear H
   have DZ : w7.cell? ⟨Bw,0,none⟩ = some (.int .u64 0):=(ah BH.out 0).trans rfl
   have D5 : w7.cell? ⟨Bw,1,none⟩ = some (.slice none 0 0):=(ah BH.out 1).trans rfl
   have D6:=ay BH.out 0
   have D7:=ay BH.out 1
   go_wp2
   go_meet
   case rel=>exact ⟨_,(true),(by first|rfl|(simp;done)|(simp [*];done)),H',⟨by first|omega|exact Nat.le_refl _⟩,⟨by (with_reducible repeat (first|apply Kd.iM|apply Kd.iN|apply Kd.jm));exact Kd.eO (Kd.dM (p:=⟨Bw,1,none⟩) (Kd.dM (p:=⟨Bw,0,none⟩) (Kd.eO Cu.out (fun k_ hk=>(⟨hk,hk.2⟩ : _ ∧ k_ ≠ Bw))) (fun _ hk=>hk.2) (.int .u64 Cg)) (fun _ hk=>hk.2) (.slice EP Bu.length C9)) (fun _ hk=>hk.1.2)⟩,⟨by (with_reducible repeat (first|apply aj|apply av|apply ak));refine aT (cs:=#[.int .u64 Cg,.slice none 0 0]) ?_ 1 _ rfl;(with_reducible repeat (first|apply aj|apply av|apply ak));refine aT (cs:=#[.int .u64 0,.slice none 0 0]) ?_ 0 _ rfl;(with_reducible repeat (first|apply aj|apply av|apply ak));exact BH.out⟩,⟨hb_⟩⟩
 case rest =>
  clear F6
  try clear c1
  try clear p1
  try clear q1
  try clear hx1
  try clear GL
  try clear p2
  try clear c4
  try clear c8
  try clear c10
  try clear c10b0
  try clear c10b1
  try clear c11
  try clear c11b0
  try clear c11b1
  try clear DT
  try clear DU
  try clear DZ
  try clear D5
  try clear Ep
  try clear Er
  try clear DV
  try clear DW
  try clear D6
  try clear D7
  try clear Es
  try clear Et
  try clear Ch
  try clear Ci
  try clear Cj
  try clear Ck
  try clear Cm
  try clear Cn
  try clear Co
  try clear DX
  try clear DY
  obtain ⟨kq,Di,rfl,HA,GN,BG,BH,HB⟩:=hcut
  cases kq with
  | zero=>exact absurd HA.out (by simp [aW.j0])
  | succ DF =>
   have H:=HA.out
   clear HA
   simp only [aW.j0] at H
   by_cases c14 : Di = true
   ·subst c14
    have H1 : (some false) = some r:=by rw [if_pos rfl] at H;exact H
    clear H
    have H:=H1
    clear H1
    exact absurd ((Option.some.inj H).trans HTr.out) (by decide)
   ·replace c14:=Bool.eq_false_iff.mpr c14
    subst c14
    have H1 : (if 0 < (Bu.length : Int) then (if 0 < (((aX Bu 0).f1.f5).length : Int) then ((bI.f DF).bind fun Dz=>(if Dz = true then ((cO.f DF).bind fun CJ=>(if CJ = true then ((bU.f DF).bind fun t201=>(if t201 = true then (if ((au ((aX Bu 0).f1.f5) 0).f0).toList = ([109,97,105,110] : List UInt8) then (if ((au ((aX Bu 0).f1.f5) 0).f1).toList = ([110,103,105,110,120] : List UInt8) then (some (((au ((aX Bu 0).f1.f5) 0).f4) == 100)) else (some false)) else (some false)) else (some false))) else (some false))) else (some false))) else (none)) else (none)) = some r:=by rw [if_neg (show ¬ (false = true) by decide)] at H;exact H
    clear H
    have H:=H1
    clear H1
    by_cases c15 : 0 < (Bu.length : Int)
    ·rw [if_pos c15] at H
     have c15b0 : decide (0 < (Bu.length : Int)) = true:=decide_eq_true c15
     have c15b1 : decide (0 < Bu.length) = true:=decide_eq_true (by omega)
     clear c15
     by_cases c16 : 0 < (((aX Bu 0).f1.f5).length : Int)
     ·rw [if_pos c16] at H
      have c16b0 : decide (0 < (((aX Bu 0).f1.f5).length : Int)) = true:=decide_eq_true c16
      have c16b1 : decide (0 < ((aX Bu 0).f1.f5).length) = true:=decide_eq_true (by omega)
      clear c16
      replace H:=Option.bind_eq_some_iff.mp H
      obtain ⟨Dz,EH,H⟩:=H
      replace H : (if Dz = true then ((cO.f DF).bind fun CJ=>(if CJ = true then ((bU.f DF).bind fun t201=>(if t201 = true then (if ((au ((aX Bu 0).f1.f5) 0).f0).toList = ([109,97,105,110] : List UInt8) then (if ((au ((aX Bu 0).f1.f5) 0).f1).toList = ([110,103,105,110,120] : List UInt8) then (some (((au ((aX Bu 0).f1.f5) 0).f4) == 100)) else (some false)) else (some false)) else (some false))) else (some false))) else (some false)) = some r:=H
      have GI:=Aside0.mk EH
      clear EH
      by_cases c18 : Dz = true
      ·subst c18
       have H1 : ((cO.f DF).bind fun CJ=>(if CJ = true then ((bU.f DF).bind fun t201=>(if t201 = true then (if ((au ((aX Bu 0).f1.f5) 0).f0).toList = ([109,97,105,110] : List UInt8) then (if ((au ((aX Bu 0).f1.f5) 0).f1).toList = ([110,103,105,110,120] : List UInt8) then (some (((au ((aX Bu 0).f1.f5) 0).f4) == 100)) else (some false)) else (some false)) else (some false))) else (some false))) = some r:=by rw [if_pos rfl] at H;exact H
       clear H
       have H:=H1
       clear H1
       replace H:=Option.bind_eq_some_iff.mp H
       obtain ⟨CJ,EI,H⟩:=H
       replace H : (if CJ = true then ((bU.f DF).bind fun t201=>(if t201 = true then (if ((au ((aX Bu 0).f1.f5) 0).f0).toList = ([109,97,105,110] : List UInt8) then (if ((au ((aX Bu 0).f1.f5) 0).f1).toList = ([110,103,105,110,120] : List UInt8) then (some (((au ((aX Bu 0).f1.f5) 0).f4) == 100)) else (some false)) else (some false)) else (some false))) else (some false)) = some r:=H
       have GJ:=Aside0.mk EI
       clear EI
       by_cases c20 : CJ = true
       ·subst c20
        have H1 : ((bU.f DF).bind fun t201=>(if t201 = true then (if ((au ((aX Bu 0).f1.f5) 0).f0).toList = ([109,97,105,110] : List UInt8) then (if ((au ((aX Bu 0).f1.f5) 0).f1).toList = ([110,103,105,110,120] : List UInt8) then (some (((au ((aX Bu 0).f1.f5) 0).f4) == 100)) else (some false)) else (some false)) else (some false))) = some r:=by rw [if_pos rfl] at H;exact H
        clear H
        have H:=H1
        clear H1
        replace H:=Option.bind_eq_some_iff.mp H
        obtain ⟨t201,EJ,H⟩:=H
        replace H : (if t201 = true then (if ((au ((aX Bu 0).f1.f5) 0).f0).toList = ([109,97,105,110] : List UInt8) then (if ((au ((aX Bu 0).f1.f5) 0).f1).toList = ([110,103,105,110,120] : List UInt8) then (some (((au ((aX Bu 0).f1.f5) 0).f4) == 100)) else (some false)) else (some false)) else (some false)) = some r:=H
        have GK:=Aside0.mk EJ
        clear EJ
        by_cases ET : t201 = true
        ·subst ET
         have H1 : (if ((au ((aX Bu 0).f1.f5) 0).f0).toList = ([109,97,105,110] : List UInt8) then (if ((au ((aX Bu 0).f1.f5) 0).f1).toList = ([110,103,105,110,120] : List UInt8) then (some (((au ((aX Bu 0).f1.f5) 0).f4) == 100)) else (some false)) else (some false)) = some r:=by rw [if_pos rfl] at H;exact H
         clear H
         have H:=H1
         clear H1
         by_cases c23 : ((au ((aX Bu 0).f1.f5) 0).f0).toList = ([109,97,105,110] : List UInt8)
         ·rw [if_pos c23] at H
          have c23b0 : (((au ((aX Bu 0).f1.f5) 0).f0).toList == ([109,97,105,110] : List UInt8)) = true:=beq_iff_eq.mpr c23
          have c23b1 : (((au ((aX Bu 0).f1.f5) 0).f0).toList != ([109,97,105,110] : List UInt8)) = false:=bne_eq_false_iff_eq.mpr c23
          clear c23
          by_cases c24 : ((au ((aX Bu 0).f1.f5) 0).f1).toList = ([110,103,105,110,120] : List UInt8)
          ·rw [if_pos c24] at H
           have c24b0 : (((au ((aX Bu 0).f1.f5) 0).f1).toList == ([110,103,105,110,120] : List UInt8)) = true:=beq_iff_eq.mpr c24
           have c24b1 : (((au ((aX Bu 0).f1.f5) 0).f1).toList != ([110,103,105,110,120] : List UInt8)) = false:=bne_eq_false_iff_eq.mpr c24
           clear c24
           obtain rfl:=Option.some.inj H
           have EU : wc.cell? ⟨Bw,0,none⟩ = some (.int .u64 Cg):=(ah BH.out 0).trans rfl
           have EW : wc.cell? ⟨Bw,1,none⟩ = some (.slice EP Bu.length C9):=(ah BH.out 1).trans rfl
           have EX:=ay BH.out 0
           have EY:=ay BH.out 1
           have D8 : 0 ≤ (0 : Int):=(by omega)
           have D9 : 0 < (Bu.length : Int):=of_decide_eq_true (by first|(with_reducible assumption)|assumption)
           obtain ⟨CP,F9,Ga,Gb,Ea,Eb,Ec,Ed,Ee,Ef,Dl,Dm,Dn⟩:=r9 (Kd.eY BG.out).2.2 0 D8 D9
           cases Gb
           obtain ⟨Gj,Eu,Ew,DI⟩:=Kd.tK BG.out z79 0 D8 (by first|exact D9|exact of_decide_eq_true (by first|(with_reducible assumption)|assumption)|(have e_:=(Kd.eY BG.out).1;omega))
           obtain ⟨EZ,E5,rfl,CQ,CS⟩:=pV Ew
           have Cv:=DI 6 _ rfl
           rw [bR _ _ 6 (by omega)] at Cv
           replace Cv:=Option.some.inj (Cv.symm.trans Dl)
           injection Cv with hva_ hvn_ hvc_
           rw [hva_] at CS
           rw [hvc_] at CQ
           have BJ:=Aside0.mk (show Kd.V k84 84 _ w.heap.size _ _ ((aX Bu 0).f1.f5) from Kd.nD CQ CS)
           clear hva_ hvn_ hvc_ CS CQ
           clear DI Eu
           have Gl : (0 < Bu.length) = True:=eq_true (by omega)
           (try simp only [show ((0 : Int)).toNat = 0 from rfl,show 0 * 7 = 0 from rfl,Addr.add_zero'] at Ea Eb Ec Ed Ee Ef Dl)
           have BI:=Aside0.mk Dn
           have E8:=Aside0.mk Dm
           clear Dn Dm
           replace D8:=eq_true D8
           replace D9:=eq_true D9
           have Eh : 0 ≤ (0 : Int):=(by omega)
           have Ei : 0 < (((aX Bu 0).f1.f5).length : Int):=of_decide_eq_true (by first|(with_reducible assumption)|assumption)
           obtain ⟨Gm,BP,BQ,BZ,Ca,Cc,Ce,e197,Ej,El,Dp,Dq,Em,En,Dr,Dt,Du,Dv,Dw,Dx,Dy⟩:=ou (by repeat (first|(with_reducible exact BI.out)|(with_reducible refine Kd.dn ?_ _)|(with_reducible refine Kd.dw ?_ _)|(with_reducible refine Kd.dL ?_)|exact BI.out)) 0 Eh Ei
           cases e197
           obtain ⟨Gn,Ey,Ez,CU⟩:=Kd.tK BJ.out z84 0 Eh (by first|exact Ei|exact of_decide_eq_true (by first|(with_reducible assumption)|assumption)|(have e_:=(Kd.eY BJ.out).1;omega))
           obtain ⟨E9,Fa,Fb,Fe,Fg,Fh,rfl,CV,CW,CX,CY,CZ,C8⟩:=ko Ez
           have Cw:=CU 2 _ rfl
           rw [bR _ _ 2 (by omega)] at Cw
           replace Cw:=Option.some.inj (Cw.symm.trans Dp)
           injection Cw with hva_ hvn_ hvc_
           rw [hva_] at CW
           rw [hvc_] at CV
           have BR:=Aside0.mk (show Kd.V Kd.string 9 _ w.heap.size _ _ ((au ((aX Bu 0).f1.f5) 0).f2) from Kd.nD CV CW)
           clear hva_ hvn_ hvc_ CW CV
           have Cz:=CU 3 _ rfl
           rw [bR _ _ 3 (by omega)] at Cz
           replace Cz:=Option.some.inj (Cz.symm.trans Dq)
           injection Cz with hva_ hvn_ hvc_
           rw [hva_] at CY
           rw [hvc_] at CX
           have BS:=Aside0.mk (show Kd.V lH 126 _ w.heap.size _ _ ((au ((aX Bu 0).f1.f5) 0).f3) from Kd.nD CX CY)
           clear hva_ hvn_ hvc_ CY CX
           have CB:=CU 6 _ rfl
           rw [bR _ _ 6 (by omega)] at CB
           replace CB:=Option.some.inj (CB.symm.trans Dr)
           injection CB with hva_ hvn_ hvc_
           rw [hva_] at C8
           rw [hvc_] at CZ
           have BU:=Aside0.mk (show Kd.V lI 127 _ w.heap.size _ _ ((au ((aX Bu 0).f1.f5) 0).f6) from Kd.nD CZ C8)
           clear hva_ hvn_ hvc_ C8 CZ
           clear CU Ey
           have Gp : (0 < ((aX Bu 0).f1.f5).length) = True:=eq_true (by omega)
           (try simp only [show ((0 : Int)).toNat = 0 from rfl,show 0 * 7 = 0 from rfl,Addr.add_zero'] at Ej El Dp Dq Em En Dr)
           have BK:=Aside0.mk Du
           have Fj:=Aside0.mk Dt
           clear Du Dt
           have BL:=Aside0.mk Dw
           have Fp:=Aside0.mk Dv
           clear Dw Dv
           have BN:=Aside0.mk Dy
           have Fq:=Aside0.mk Dx
           clear Dy Dx
           replace Eh:=eq_true Eh
           replace Ei:=eq_true Ei
           go_wp2_with (first|((with_reducible refine dz (N:=2) rfl ?_);(try (refine iJ (by rfl) ?_;dsimp only));refine dJ ?hg (N:=2) ?hd (cs:=#[.string (⟨#[]⟩ : ByteArray),.string (⟨#[]⟩ : ByteArray),.slice none 0 0,.slice none 0 0,.int .i64 0,.int .i64 0,.slice none 0 0]) (t:=84) ?hr ?_;(case hd=>rfl);(case hg=>rfl);(case hr=>first|(go_simp;done)|(go_simp;rfl));intro Bv hg EA hbox hb;have CK:=Aside0.mk (Kd.dF (Kd.jM (kv_ BG.out) Bv (Nat.le_of_eq hg.symm)) hb);have CO:=Aside0.mk (Kd.dF (Kd.jM (kv_ BJ.out) Bv (Nat.le_of_eq hg.symm)) hb);have Db:=Aside0.mk (Kd.dF (Kd.jM (kv_ BR.out) Bv (Nat.le_of_eq hg.symm)) hb);have Dc:=Aside0.mk (Kd.dF (Kd.jM (kv_ BS.out) Bv (Nat.le_of_eq hg.symm)) hb);have Df:=Aside0.mk (Kd.dF (Kd.jM (kv_ BU.out) Bv (Nat.le_of_eq hg.symm)) hb);have Dh:=Aside0.mk (aI (g:=Bw) (o:=.cells #[.int .u64 Cg,.slice (some CP) Bu.length C9] 51 (0,0)) (bk_ BH.out) hb);have DJ:=Aside0.mk (Kd.cZ (by repeat (first|(with_reducible exact BI.out)|(with_reducible refine Kd.dn ?_ _)|(with_reducible refine Kd.dw ?_ _)|(with_reducible refine Kd.dL ?_)|exact BI.out)) hb);have DK:=Aside0.mk (Kd.cZ (by repeat (first|(with_reducible exact BK.out)|(with_reducible refine Kd.dn ?_ _)|(with_reducible refine Kd.dw ?_ _)|(with_reducible refine Kd.dL ?_)|exact BK.out)) hb);have DL:=Aside0.mk (Kd.cZ (by repeat (first|(with_reducible exact BL.out)|(with_reducible refine Kd.dn ?_ _)|(with_reducible refine Kd.dw ?_ _)|(with_reducible refine Kd.dL ?_)|exact BL.out)) hb);have DN:=Aside0.mk (Kd.cZ (by repeat (first|(with_reducible exact BN.out)|(with_reducible refine Kd.dn ?_ _)|(with_reducible refine Kd.dw ?_ _)|(with_reducible refine Kd.dL ?_)|exact BN.out)) hb);have CF:=Aside0.mk (aN hb_ hb);have CG:=Aside0.mk (hbox);have EK:=Aside0.mk ((by rw [hg];exact (aU hb_) : w.heap.size ≤ Bv));have EL:=Aside0.mk ((by rw [hg];exact (aU hb_) : w.heap.size ≤ Bv));have EM:=Aside0.mk ((by rw [hg];exact Nat.ne_of_lt (bE (g:=Bw) (o:=.cells #[.int .u64 Cg,.slice (some CP) Bu.length C9] 51 (0,0)) (bk_ BH.out)) : Bw ≠ Bv));have EN:=Aside0.mk ((by rw [hg];exact Nat.ne_of_gt (bE (g:=Bw) (o:=.cells #[.int .u64 Cg,.slice (some CP) Bu.length C9] 51 (0,0)) (bk_ BH.out)) : Bv ≠ Bw));clear BG;clear BJ;clear BR;clear BS;clear BU;clear BH;clear BI;clear BK;clear BL;clear BN;clear HB;have BG:=CK;have BJ:=CO;have BR:=Db;have BS:=Dc;have BU:=Df;have BH:=Dh;have BI:=DJ;have BK:=DK;have BL:=DL;have BN:=DN;have HB:=CF;have BF:=CG;have Gq:=EK;have Gr:=EL;have Cb:=EM;have DC:=EN;clear CK CO Db Dc Df Dh DJ DK DL DN CF CG EK EL EM EN;clear hb hbox hg;have Gs:=DC.out;have Gt:=Cb.out;have Fu : EA.cell? ⟨Bv,0,none⟩ = some (.string (⟨#[]⟩ : ByteArray)):=(ah BF.out 0).trans rfl;have Fv : EA.cell? ⟨Bv,1,none⟩ = some (.string (⟨#[]⟩ : ByteArray)):=(ah BF.out 1).trans rfl;have Fw : EA.cell? ⟨Bv,2,none⟩ = some (.slice none 0 0):=(ah BF.out 2).trans rfl;have Fx : EA.cell? ⟨Bv,3,none⟩ = some (.slice none 0 0):=(ah BF.out 3).trans rfl;have Fy : EA.cell? ⟨Bv,4,none⟩ = some (.int .i64 0):=(ah BF.out 4).trans rfl;have Fz : EA.cell? ⟨Bv,5,none⟩ = some (.int .i64 0):=(ah BF.out 5).trans rfl;have FB : EA.cell? ⟨Bv,6,none⟩ = some (.slice none 0 0):=(ah BF.out 6).trans rfl;have FC:=ay BF.out 0;have FD:=ay BF.out 1;have FE:=ay BF.out 2;have FH:=ay BF.out 3;have FI:=ay BF.out 4;have FJ:=ay BF.out 5;have FL:=ay BF.out 6)|((with_reducible refine bO (f:=26) rfl ?_);refine dZ (some 29) rfl rfl Tryz.func26 (by kernel_rfl) rfl #[] rfl (by (try simp only [List.map_toArray,List.map_cons,List.map_nil]);first|done|rfl|(simp only [List.length_drop,List.length_take];rfl)|(simp (disch:=first|omega|(simp at *;omega)) only [eu,dD,fA];rfl)) ?_;(with_reducible refine (bI.calls DF  true _ GI.out).mono ?_);rintro e GQ ⟨rfl,hb⟩;refine ⟨_,rfl,?_⟩;have CK:=Aside0.mk (Kd.dF (by (with_reducible repeat (first|apply Kd.iM|apply Kd.iN|apply Kd.jm));exact (Kd.eO (Kd.dM (p:=⟨Bv,6,none⟩) (Kd.dM (p:=⟨Bv,5,none⟩) (Kd.dM (p:=⟨Bv,4,none⟩) (Kd.dM (p:=⟨Bv,3,none⟩) (Kd.dM (p:=⟨Bv,2,none⟩) (Kd.dM (p:=⟨Bv,1,none⟩) (Kd.dM (p:=⟨Bv,0,none⟩) (Kd.eO BG.out (fun k_ hk=>(⟨hk,hk.2⟩ : _ ∧ k_ ≠ Bv))) (fun _ hk=>hk.2) (.string ((au ((aX Bu 0).f1.f5) 0).f0))) (fun _ hk=>hk.2) (.string ((au ((aX Bu 0).f1.f5) 0).f1))) (fun _ hk=>hk.2) (.slice BP ((au ((aX Bu 0).f1.f5) 0).f2).length BQ)) (fun _ hk=>hk.2) (.slice BZ ((au ((aX Bu 0).f1.f5) 0).f3).length Ca)) (fun _ hk=>hk.2) (.int .i64 ((au ((aX Bu 0).f1.f5) 0).f4))) (fun _ hk=>hk.2) (.int .i64 ((au ((aX Bu 0).f1.f5) 0).f5))) (fun _ hk=>hk.2) (.slice Cc ((au ((aX Bu 0).f1.f5) 0).f6).length Ce)) (fun _ h_=>h_.1))) hb);have CO:=Aside0.mk (Kd.dF (by (with_reducible repeat (first|apply Kd.iM|apply Kd.iN|apply Kd.jm));exact (Kd.eO (Kd.dM (p:=⟨Bv,6,none⟩) (Kd.dM (p:=⟨Bv,5,none⟩) (Kd.dM (p:=⟨Bv,4,none⟩) (Kd.dM (p:=⟨Bv,3,none⟩) (Kd.dM (p:=⟨Bv,2,none⟩) (Kd.dM (p:=⟨Bv,1,none⟩) (Kd.dM (p:=⟨Bv,0,none⟩) (Kd.eO BJ.out (fun k_ hk=>(⟨hk,hk.2⟩ : _ ∧ k_ ≠ Bv))) (fun _ hk=>hk.2) (.string ((au ((aX Bu 0).f1.f5) 0).f0))) (fun _ hk=>hk.2) (.string ((au ((aX Bu 0).f1.f5) 0).f1))) (fun _ hk=>hk.2) (.slice BP ((au ((aX Bu 0).f1.f5) 0).f2).length BQ)) (fun _ hk=>hk.2) (.slice BZ ((au ((aX Bu 0).f1.f5) 0).f3).length Ca)) (fun _ hk=>hk.2) (.int .i64 ((au ((aX Bu 0).f1.f5) 0).f4))) (fun _ hk=>hk.2) (.int .i64 ((au ((aX Bu 0).f1.f5) 0).f5))) (fun _ hk=>hk.2) (.slice Cc ((au ((aX Bu 0).f1.f5) 0).f6).length Ce)) (fun _ h_=>h_.1))) hb);have Db:=Aside0.mk (Kd.dF (by (with_reducible repeat (first|apply Kd.iM|apply Kd.iN|apply Kd.jm));exact (Kd.eO (Kd.dM (p:=⟨Bv,6,none⟩) (Kd.dM (p:=⟨Bv,5,none⟩) (Kd.dM (p:=⟨Bv,4,none⟩) (Kd.dM (p:=⟨Bv,3,none⟩) (Kd.dM (p:=⟨Bv,2,none⟩) (Kd.dM (p:=⟨Bv,1,none⟩) (Kd.dM (p:=⟨Bv,0,none⟩) (Kd.eO BR.out (fun k_ hk=>(⟨hk,hk.2⟩ : _ ∧ k_ ≠ Bv))) (fun _ hk=>hk.2) (.string ((au ((aX Bu 0).f1.f5) 0).f0))) (fun _ hk=>hk.2) (.string ((au ((aX Bu 0).f1.f5) 0).f1))) (fun _ hk=>hk.2) (.slice BP ((au ((aX Bu 0).f1.f5) 0).f2).length BQ)) (fun _ hk=>hk.2) (.slice BZ ((au ((aX Bu 0).f1.f5) 0).f3).length Ca)) (fun _ hk=>hk.2) (.int .i64 ((au ((aX Bu 0).f1.f5) 0).f4))) (fun _ hk=>hk.2) (.int .i64 ((au ((aX Bu 0).f1.f5) 0).f5))) (fun _ hk=>hk.2) (.slice Cc ((au ((aX Bu 0).f1.f5) 0).f6).length Ce)) (fun _ h_=>h_.1))) hb);have Dc:=Aside0.mk (Kd.dF (by (with_reducible repeat (first|apply Kd.iM|apply Kd.iN|apply Kd.jm));exact (Kd.eO (Kd.dM (p:=⟨Bv,6,none⟩) (Kd.dM (p:=⟨Bv,5,none⟩) (Kd.dM (p:=⟨Bv,4,none⟩) (Kd.dM (p:=⟨Bv,3,none⟩) (Kd.dM (p:=⟨Bv,2,none⟩) (Kd.dM (p:=⟨Bv,1,none⟩) (Kd.dM (p:=⟨Bv,0,none⟩) (Kd.eO BS.out (fun k_ hk=>(⟨hk,hk.2⟩ : _ ∧ k_ ≠ Bv))) (fun _ hk=>hk.2) (.string ((au ((aX Bu 0).f1.f5) 0).f0))) (fun _ hk=>hk.2) (.string ((au ((aX Bu 0).f1.f5) 0).f1))) (fun _ hk=>hk.2) (.slice BP ((au ((aX Bu 0).f1.f5) 0).f2).length BQ)) (fun _ hk=>hk.2) (.slice BZ ((au ((aX Bu 0).f1.f5) 0).f3).length Ca)) (fun _ hk=>hk.2) (.int .i64 ((au ((aX Bu 0).f1.f5) 0).f4))) (fun _ hk=>hk.2) (.int .i64 ((au ((aX Bu 0).f1.f5) 0).f5))) (fun _ hk=>hk.2) (.slice Cc ((au ((aX Bu 0).f1.f5) 0).f6).length Ce)) (fun _ h_=>h_.1))) hb);have Df:=Aside0.mk (Kd.dF (by (with_reducible repeat (first|apply Kd.iM|apply Kd.iN|apply Kd.jm));exact (Kd.eO (Kd.dM (p:=⟨Bv,6,none⟩) (Kd.dM (p:=⟨Bv,5,none⟩) (Kd.dM (p:=⟨Bv,4,none⟩) (Kd.dM (p:=⟨Bv,3,none⟩) (Kd.dM (p:=⟨Bv,2,none⟩) (Kd.dM (p:=⟨Bv,1,none⟩) (Kd.dM (p:=⟨Bv,0,none⟩) (Kd.eO BU.out (fun k_ hk=>(⟨hk,hk.2⟩ : _ ∧ k_ ≠ Bv))) (fun _ hk=>hk.2) (.string ((au ((aX Bu 0).f1.f5) 0).f0))) (fun _ hk=>hk.2) (.string ((au ((aX Bu 0).f1.f5) 0).f1))) (fun _ hk=>hk.2) (.slice BP ((au ((aX Bu 0).f1.f5) 0).f2).length BQ)) (fun _ hk=>hk.2) (.slice BZ ((au ((aX Bu 0).f1.f5) 0).f3).length Ca)) (fun _ hk=>hk.2) (.int .i64 ((au ((aX Bu 0).f1.f5) 0).f4))) (fun _ hk=>hk.2) (.int .i64 ((au ((aX Bu 0).f1.f5) 0).f5))) (fun _ hk=>hk.2) (.slice Cc ((au ((aX Bu 0).f1.f5) 0).f6).length Ce)) (fun _ h_=>h_.1))) hb);have Dh:=Aside0.mk (aI (g:=Bw) (o:=.cells #[.int .u64 Cg,.slice (some CP) Bu.length C9] 51 (0,0)) (by (with_reducible repeat (first|apply aj|apply av|apply ak));refine aH ?_ Cb.out _;(with_reducible repeat (first|apply aj|apply av|apply ak));refine aH ?_ Cb.out _;(with_reducible repeat (first|apply aj|apply av|apply ak));refine aH ?_ Cb.out _;(with_reducible repeat (first|apply aj|apply av|apply ak));refine aH ?_ Cb.out _;(with_reducible repeat (first|apply aj|apply av|apply ak));refine aH ?_ Cb.out _;(with_reducible repeat (first|apply aj|apply av|apply ak));refine aH ?_ Cb.out _;(with_reducible repeat (first|apply aj|apply av|apply ak));refine aH ?_ Cb.out _;(with_reducible repeat (first|apply aj|apply av|apply ak));exact BH.out) hb);have DJ:=Aside0.mk (Kd.cZ ((Kd.eY (by (with_reducible repeat (first|apply Kd.iM|apply Kd.iN|apply Kd.jm));exact (Kd.eO (Kd.dM (p:=⟨Bv,6,none⟩) (Kd.dM (p:=⟨Bv,5,none⟩) (Kd.dM (p:=⟨Bv,4,none⟩) (Kd.dM (p:=⟨Bv,3,none⟩) (Kd.dM (p:=⟨Bv,2,none⟩) (Kd.dM (p:=⟨Bv,1,none⟩) (Kd.dM (p:=⟨Bv,0,none⟩) (Kd.eO BJ.out (fun k_ hk=>(⟨hk,hk.2⟩ : _ ∧ k_ ≠ Bv))) (fun _ hk=>hk.2) (.string ((au ((aX Bu 0).f1.f5) 0).f0))) (fun _ hk=>hk.2) (.string ((au ((aX Bu 0).f1.f5) 0).f1))) (fun _ hk=>hk.2) (.slice BP ((au ((aX Bu 0).f1.f5) 0).f2).length BQ)) (fun _ hk=>hk.2) (.slice BZ ((au ((aX Bu 0).f1.f5) 0).f3).length Ca)) (fun _ hk=>hk.2) (.int .i64 ((au ((aX Bu 0).f1.f5) 0).f4))) (fun _ hk=>hk.2) (.int .i64 ((au ((aX Bu 0).f1.f5) 0).f5))) (fun _ hk=>hk.2) (.slice Cc ((au ((aX Bu 0).f1.f5) 0).f6).length Ce)) (fun _ h_=>h_.1)))).2.2) hb);have DK:=Aside0.mk (Kd.cZ ((Kd.eY (by (with_reducible repeat (first|apply Kd.iM|apply Kd.iN|apply Kd.jm));exact (Kd.eO (Kd.dM (p:=⟨Bv,6,none⟩) (Kd.dM (p:=⟨Bv,5,none⟩) (Kd.dM (p:=⟨Bv,4,none⟩) (Kd.dM (p:=⟨Bv,3,none⟩) (Kd.dM (p:=⟨Bv,2,none⟩) (Kd.dM (p:=⟨Bv,1,none⟩) (Kd.dM (p:=⟨Bv,0,none⟩) (Kd.eO BR.out (fun k_ hk=>(⟨hk,hk.2⟩ : _ ∧ k_ ≠ Bv))) (fun _ hk=>hk.2) (.string ((au ((aX Bu 0).f1.f5) 0).f0))) (fun _ hk=>hk.2) (.string ((au ((aX Bu 0).f1.f5) 0).f1))) (fun _ hk=>hk.2) (.slice BP ((au ((aX Bu 0).f1.f5) 0).f2).length BQ)) (fun _ hk=>hk.2) (.slice BZ ((au ((aX Bu 0).f1.f5) 0).f3).length Ca)) (fun _ hk=>hk.2) (.int .i64 ((au ((aX Bu 0).f1.f5) 0).f4))) (fun _ hk=>hk.2) (.int .i64 ((au ((aX Bu 0).f1.f5) 0).f5))) (fun _ hk=>hk.2) (.slice Cc ((au ((aX Bu 0).f1.f5) 0).f6).length Ce)) (fun _ h_=>h_.1)))).2.2) hb);have DL:=Aside0.mk (Kd.cZ ((Kd.eY (by (with_reducible repeat (first|apply Kd.iM|apply Kd.iN|apply Kd.jm));exact (Kd.eO (Kd.dM (p:=⟨Bv,6,none⟩) (Kd.dM (p:=⟨Bv,5,none⟩) (Kd.dM (p:=⟨Bv,4,none⟩) (Kd.dM (p:=⟨Bv,3,none⟩) (Kd.dM (p:=⟨Bv,2,none⟩) (Kd.dM (p:=⟨Bv,1,none⟩) (Kd.dM (p:=⟨Bv,0,none⟩) (Kd.eO BS.out (fun k_ hk=>(⟨hk,hk.2⟩ : _ ∧ k_ ≠ Bv))) (fun _ hk=>hk.2) (.string ((au ((aX Bu 0).f1.f5) 0).f0))) (fun _ hk=>hk.2) (.string ((au ((aX Bu 0).f1.f5) 0).f1))) (fun _ hk=>hk.2) (.slice BP ((au ((aX Bu 0).f1.f5) 0).f2).length BQ)) (fun _ hk=>hk.2) (.slice BZ ((au ((aX Bu 0).f1.f5) 0).f3).length Ca)) (fun _ hk=>hk.2) (.int .i64 ((au ((aX Bu 0).f1.f5) 0).f4))) (fun _ hk=>hk.2) (.int .i64 ((au ((aX Bu 0).f1.f5) 0).f5))) (fun _ hk=>hk.2) (.slice Cc ((au ((aX Bu 0).f1.f5) 0).f6).length Ce)) (fun _ h_=>h_.1)))).2.2) hb);have DN:=Aside0.mk (Kd.cZ ((Kd.eY (by (with_reducible repeat (first|apply Kd.iM|apply Kd.iN|apply Kd.jm));exact (Kd.eO (Kd.dM (p:=⟨Bv,6,none⟩) (Kd.dM (p:=⟨Bv,5,none⟩) (Kd.dM (p:=⟨Bv,4,none⟩) (Kd.dM (p:=⟨Bv,3,none⟩) (Kd.dM (p:=⟨Bv,2,none⟩) (Kd.dM (p:=⟨Bv,1,none⟩) (Kd.dM (p:=⟨Bv,0,none⟩) (Kd.eO BU.out (fun k_ hk=>(⟨hk,hk.2⟩ : _ ∧ k_ ≠ Bv))) (fun _ hk=>hk.2) (.string ((au ((aX Bu 0).f1.f5) 0).f0))) (fun _ hk=>hk.2) (.string ((au ((aX Bu 0).f1.f5) 0).f1))) (fun _ hk=>hk.2) (.slice BP ((au ((aX Bu 0).f1.f5) 0).f2).length BQ)) (fun _ hk=>hk.2) (.slice BZ ((au ((aX Bu 0).f1.f5) 0).f3).length Ca)) (fun _ hk=>hk.2) (.int .i64 ((au ((aX Bu 0).f1.f5) 0).f4))) (fun _ hk=>hk.2) (.int .i64 ((au ((aX Bu 0).f1.f5) 0).f5))) (fun _ hk=>hk.2) (.slice Cc ((au ((aX Bu 0).f1.f5) 0).f6).length Ce)) (fun _ h_=>h_.1)))).2.2) hb);have CF:=Aside0.mk (aI (g:=Bv) (o:=.cells #[.string ((au ((aX Bu 0).f1.f5) 0).f0),.string ((au ((aX Bu 0).f1.f5) 0).f1),.slice BP ((au ((aX Bu 0).f1.f5) 0).f2).length BQ,.slice BZ ((au ((aX Bu 0).f1.f5) 0).f3).length Ca,.int .i64 ((au ((aX Bu 0).f1.f5) 0).f4),.int .i64 ((au ((aX Bu 0).f1.f5) 0).f5),.slice Cc ((au ((aX Bu 0).f1.f5) 0).f6).length Ce] 84 (0,0)) (by (with_reducible repeat (first|apply aj|apply av|apply ak));refine aT (cs:=#[.string ((au ((aX Bu 0).f1.f5) 0).f0),.string ((au ((aX Bu 0).f1.f5) 0).f1),.slice BP ((au ((aX Bu 0).f1.f5) 0).f2).length BQ,.slice BZ ((au ((aX Bu 0).f1.f5) 0).f3).length Ca,.int .i64 ((au ((aX Bu 0).f1.f5) 0).f4),.int .i64 ((au ((aX Bu 0).f1.f5) 0).f5),.slice none 0 0]) ?_ 6 _ rfl;(with_reducible repeat (first|apply aj|apply av|apply ak));refine aT (cs:=#[.string ((au ((aX Bu 0).f1.f5) 0).f0),.string ((au ((aX Bu 0).f1.f5) 0).f1),.slice BP ((au ((aX Bu 0).f1.f5) 0).f2).length BQ,.slice BZ ((au ((aX Bu 0).f1.f5) 0).f3).length Ca,.int .i64 ((au ((aX Bu 0).f1.f5) 0).f4),.int .i64 0,.slice none 0 0]) ?_ 5 _ rfl;(with_reducible repeat (first|apply aj|apply av|apply ak));refine aT (cs:=#[.string ((au ((aX Bu 0).f1.f5) 0).f0),.string ((au ((aX Bu 0).f1.f5) 0).f1),.slice BP ((au ((aX Bu 0).f1.f5) 0).f2).length BQ,.slice BZ ((au ((aX Bu 0).f1.f5) 0).f3).length Ca,.int .i64 0,.int .i64 0,.slice none 0 0]) ?_ 4 _ rfl;(with_reducible repeat (first|apply aj|apply av|apply ak));refine aT (cs:=#[.string ((au ((aX Bu 0).f1.f5) 0).f0),.string ((au ((aX Bu 0).f1.f5) 0).f1),.slice BP ((au ((aX Bu 0).f1.f5) 0).f2).length BQ,.slice none 0 0,.int .i64 0,.int .i64 0,.slice none 0 0]) ?_ 3 _ rfl;(with_reducible repeat (first|apply aj|apply av|apply ak));refine aT (cs:=#[.string ((au ((aX Bu 0).f1.f5) 0).f0),.string ((au ((aX Bu 0).f1.f5) 0).f1),.slice none 0 0,.slice none 0 0,.int .i64 0,.int .i64 0,.slice none 0 0]) ?_ 2 _ rfl;(with_reducible repeat (first|apply aj|apply av|apply ak));refine aT (cs:=#[.string ((au ((aX Bu 0).f1.f5) 0).f0),.string (⟨#[]⟩ : ByteArray),.slice none 0 0,.slice none 0 0,.int .i64 0,.int .i64 0,.slice none 0 0]) ?_ 1 _ rfl;(with_reducible repeat (first|apply aj|apply av|apply ak));refine aT (cs:=#[.string (⟨#[]⟩ : ByteArray),.string (⟨#[]⟩ : ByteArray),.slice none 0 0,.slice none 0 0,.int .i64 0,.int .i64 0,.slice none 0 0]) ?_ 0 _ rfl;(with_reducible repeat (first|apply aj|apply av|apply ak));exact BF.out) hb);have CG:=Aside0.mk (aN hb_ hb);clear BG;clear BJ;clear BR;clear BS;clear BU;clear BH;clear BI;clear BK;clear BL;clear BN;clear BF;clear HB;have BG:=CK;have BJ:=CO;have BR:=Db;have BS:=Dc;have BU:=Df;have BH:=Dh;have BI:=DJ;have BK:=DK;have BL:=DL;have BN:=DN;have BF:=CF;have HB:=CG;clear CK CO Db Dc Df Dh DJ DK DL DN CF CG;(try clear hb);(try clear hb2);(try clear hk);(try clear hi))|(go_at_call 27;(with_reducible refine (cO.calls DF  true _ GJ.out).mono ?_);rintro e GR ⟨rfl,hb⟩;have CK:=Aside0.mk (Kd.dF (kv_ BG.out) hb);have CO:=Aside0.mk (Kd.dF (kv_ BJ.out) hb);have Db:=Aside0.mk (Kd.dF (kv_ BR.out) hb);have Dc:=Aside0.mk (Kd.dF (kv_ BS.out) hb);have Df:=Aside0.mk (Kd.dF (kv_ BU.out) hb);have Dh:=Aside0.mk (aI (g:=Bw) (o:=.cells #[.int .u64 Cg,.slice (some CP) Bu.length C9] 51 (0,0)) (bk_ BH.out) hb);have DJ:=Aside0.mk (Kd.cZ (by repeat (first|(with_reducible exact BI.out)|(with_reducible refine Kd.dn ?_ _)|(with_reducible refine Kd.dw ?_ _)|(with_reducible refine Kd.dL ?_)|exact BI.out)) hb);have DK:=Aside0.mk (Kd.cZ (by repeat (first|(with_reducible exact BK.out)|(with_reducible refine Kd.dn ?_ _)|(with_reducible refine Kd.dw ?_ _)|(with_reducible refine Kd.dL ?_)|exact BK.out)) hb);have DL:=Aside0.mk (Kd.cZ (by repeat (first|(with_reducible exact BL.out)|(with_reducible refine Kd.dn ?_ _)|(with_reducible refine Kd.dw ?_ _)|(with_reducible refine Kd.dL ?_)|exact BL.out)) hb);have DN:=Aside0.mk (Kd.cZ (by repeat (first|(with_reducible exact BN.out)|(with_reducible refine Kd.dn ?_ _)|(with_reducible refine Kd.dw ?_ _)|(with_reducible refine Kd.dL ?_)|exact BN.out)) hb);have CF:=Aside0.mk (aI (g:=Bv) (o:=.cells #[.string ((au ((aX Bu 0).f1.f5) 0).f0),.string ((au ((aX Bu 0).f1.f5) 0).f1),.slice BP ((au ((aX Bu 0).f1.f5) 0).f2).length BQ,.slice BZ ((au ((aX Bu 0).f1.f5) 0).f3).length Ca,.int .i64 ((au ((aX Bu 0).f1.f5) 0).f4),.int .i64 ((au ((aX Bu 0).f1.f5) 0).f5),.slice Cc ((au ((aX Bu 0).f1.f5) 0).f6).length Ce] 84 (0,0)) (bk_ BF.out) hb);have CG:=Aside0.mk (aN hb_ hb);clear BG;clear BJ;clear BR;clear BS;clear BU;clear BH;clear BI;clear BK;clear BL;clear BN;clear BF;clear HB;have BG:=CK;have BJ:=CO;have BR:=Db;have BS:=Dc;have BU:=Df;have BH:=Dh;have BI:=DJ;have BK:=DK;have BL:=DL;have BN:=DN;have BF:=CF;have HB:=CG;clear CK CO Db Dc Df Dh DJ DK DL DN CF CG;(try clear hb);(try clear hb2);(try clear hk);(try clear hi))|(go_at_call 28;(with_reducible refine (bU.calls DF  true _ GK.out (by first|assumption|exact GW.below hG (by first|exact HB.out|assumption|(repeat (first|(with_reducible first|exact HB.out|apply bW|apply aV|apply bF)|exact HB.out)))|exact GW.drawn hG (by first|assumption|(repeat (first|exact Drawn0.refl _|assumption|apply Drawn0.step))))).mono ?_);rintro e EB ⟨rfl,hb⟩;have CK:=Aside0.mk (Kd.dF (kv_ BG.out) hb);have CO:=Aside0.mk (Kd.dF (kv_ BJ.out) hb);have Db:=Aside0.mk (Kd.dF (kv_ BR.out) hb);have Dc:=Aside0.mk (Kd.dF (kv_ BS.out) hb);have Df:=Aside0.mk (Kd.dF (kv_ BU.out) hb);have Dh:=Aside0.mk (aI (g:=Bw) (o:=.cells #[.int .u64 Cg,.slice (some CP) Bu.length C9] 51 (0,0)) (bk_ BH.out) hb);have DJ:=Aside0.mk (Kd.cZ (by repeat (first|(with_reducible exact BI.out)|(with_reducible refine Kd.dn ?_ _)|(with_reducible refine Kd.dw ?_ _)|(with_reducible refine Kd.dL ?_)|exact BI.out)) hb);have DK:=Aside0.mk (Kd.cZ (by repeat (first|(with_reducible exact BK.out)|(with_reducible refine Kd.dn ?_ _)|(with_reducible refine Kd.dw ?_ _)|(with_reducible refine Kd.dL ?_)|exact BK.out)) hb);have DL:=Aside0.mk (Kd.cZ (by repeat (first|(with_reducible exact BL.out)|(with_reducible refine Kd.dn ?_ _)|(with_reducible refine Kd.dw ?_ _)|(with_reducible refine Kd.dL ?_)|exact BL.out)) hb);have DN:=Aside0.mk (Kd.cZ (by repeat (first|(with_reducible exact BN.out)|(with_reducible refine Kd.dn ?_ _)|(with_reducible refine Kd.dw ?_ _)|(with_reducible refine Kd.dL ?_)|exact BN.out)) hb);have CF:=Aside0.mk (aI (g:=Bv) (o:=.cells #[.string ((au ((aX Bu 0).f1.f5) 0).f0),.string ((au ((aX Bu 0).f1.f5) 0).f1),.slice BP ((au ((aX Bu 0).f1.f5) 0).f2).length BQ,.slice BZ ((au ((aX Bu 0).f1.f5) 0).f3).length Ca,.int .i64 ((au ((aX Bu 0).f1.f5) 0).f4),.int .i64 ((au ((aX Bu 0).f1.f5) 0).f5),.slice Cc ((au ((aX Bu 0).f1.f5) 0).f6).length Ce] 84 (0,0)) (bk_ BF.out) hb);have CG:=Aside0.mk (aN hb_ hb);clear BG;clear BJ;clear BR;clear BS;clear BU;clear BH;clear BI;clear BK;clear BL;clear BN;clear BF;clear HB;have BG:=CK;have BJ:=CO;have BR:=Db;have BS:=Dc;have BU:=Df;have BH:=Dh;have BI:=DJ;have BK:=DK;have BL:=DL;have BN:=DN;have BF:=CF;have HB:=CG;clear CK CO Db Dc Df Dh DJ DK DL DN CF CG;(try clear hb);(try clear hb2);(try clear hk);(try clear hi);have FM : EB.cell? ⟨Bv,0,none⟩ = some (.string ((au ((aX Bu 0).f1.f5) 0).f0)):=(ah BF.out 0).trans rfl;have FN : EB.cell? ⟨Bv,1,none⟩ = some (.string ((au ((aX Bu 0).f1.f5) 0).f1)):=(ah BF.out 1).trans rfl;have FP : EB.cell? ⟨Bv,2,none⟩ = some (.slice BP ((au ((aX Bu 0).f1.f5) 0).f2).length BQ):=(ah BF.out 2).trans rfl;have FQ : EB.cell? ⟨Bv,3,none⟩ = some (.slice BZ ((au ((aX Bu 0).f1.f5) 0).f3).length Ca):=(ah BF.out 3).trans rfl;have FR : EB.cell? ⟨Bv,4,none⟩ = some (.int .i64 ((au ((aX Bu 0).f1.f5) 0).f4)):=(ah BF.out 4).trans rfl;have FT : EB.cell? ⟨Bv,5,none⟩ = some (.int .i64 ((au ((aX Bu 0).f1.f5) 0).f5)):=(ah BF.out 5).trans rfl;have FU : EB.cell? ⟨Bv,6,none⟩ = some (.slice Cc ((au ((aX Bu 0).f1.f5) 0).f6).length Ce):=(ah BF.out 6).trans rfl;have FV:=ay BF.out 0;have FW:=ay BF.out 1;have FX:=ay BF.out 2;have FY:=ay BF.out 3;have FZ:=ay BF.out 4;have F3:=ay BF.out 5;have F4:=ay BF.out 6))
           go_ret
           exact ⟨by first|rfl|(simp [bB,bC] <;> rfl)|(simp [*,bB,bC] <;> rfl),hb_⟩
          ·rw [if_neg c24] at H
           have c24b0 : (((au ((aX Bu 0).f1.f5) 0).f1).toList == ([110,103,105,110,120] : List UInt8)) = false:=beq_eq_false_iff_ne.mpr c24
           have c24b1 : (((au ((aX Bu 0).f1.f5) 0).f1).toList != ([110,103,105,110,120] : List UInt8)) = true:=bne_iff_ne.mpr c24
           exact absurd ((Option.some.inj H).trans HTr.out) (by decide)
         ·rw [if_neg c23] at H
          have c23b0 : (((au ((aX Bu 0).f1.f5) 0).f0).toList == ([109,97,105,110] : List UInt8)) = false:=beq_eq_false_iff_ne.mpr c23
          have c23b1 : (((au ((aX Bu 0).f1.f5) 0).f0).toList != ([109,97,105,110] : List UInt8)) = true:=bne_iff_ne.mpr c23
          exact absurd ((Option.some.inj H).trans HTr.out) (by decide)
        ·replace ET:=Bool.eq_false_iff.mpr ET
         subst ET
         have H1 : (some false) = some r:=by rw [if_neg (show ¬ (false = true) by decide)] at H;exact H
         clear H
         have H:=H1
         clear H1
         exact absurd ((Option.some.inj H).trans HTr.out) (by decide)
       ·replace c20:=Bool.eq_false_iff.mpr c20
        subst c20
        have H1 : (some false) = some r:=by rw [if_neg (show ¬ (false = true) by decide)] at H;exact H
        clear H
        have H:=H1
        clear H1
        exact absurd ((Option.some.inj H).trans HTr.out) (by decide)
      ·replace c18:=Bool.eq_false_iff.mpr c18
       subst c18
       have H1 : (some false) = some r:=by rw [if_neg (show ¬ (false = true) by decide)] at H;exact H
       clear H
       have H:=H1
       clear H1
       exact absurd ((Option.some.inj H).trans HTr.out) (by decide)
     ·rw [if_neg c16] at H
      exact absurd H (by simp)
    ·rw [if_neg c15] at H
     exact absurd H (by simp)
theorem aW.calls (k : Nat)  (r : Bool) (w : World) (h : aW.f k  = some r) (hG : GW.GW w) :   Calls Tryz.prog 8 #[] w fun e w'=>e = .returned (.bool r) ∧ Below w.heap.size w w':=by
 cases r with
 | true=>exact aW.kI k true w h hG rfl
 | false=>
  exfalso
  have a : aW.f 60 = some true:=by decide +kernel
  have b:=iA (g:=fun k=>aW.f k) (fun k=>aW.mono k) (Nat.le_max_left k 60) h
  have c:=iA (g:=fun k=>aW.f k) (fun k=>aW.mono k) (Nat.le_max_right k 60) a
  exact Bool.noConfusion (Option.some.inj (b.symm.trans c))
end Go.Proofs.YtpncpefppifgdaaGreatDoor.GUt
