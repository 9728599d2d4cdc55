/- Written by this session's own program (wip/gen.py) out of the translation: plain Lean functions of the Go functions, and proofs that the calls come to their answers. No conditions beside those in the statements. -/
import Derived.Test.YtpncpefppifgdaaGreatDoorCp
import Derived.Test.YtpncpefppifgdaaGreatDoorGUtx0
import Derived.Test.YtpncpefppifgdaaGreatDoorGUtx6
import Derived.Test.YtpncpefppifgdaaGreatDoorGUtx7
import Derived.Test.YtpncpefppifgdaaGreatDoorGUtx15
import Derived.Test.YtpncpefppifgdaaGreatDoorGUtUp
import Derived.Test.YtpncpefppifgdaaGreatDoorGW
namespace Go.Proofs.YtpncpefppifgdaaGreatDoor.GUt
open Go.RowKit Go.Proofs.YtpncpefppifgdaaGreatDoorW.PrintWords Go.Proofs.YtpncpefppifgdaaGreatDoorW.PrintLast Go.Proofs.YtpncpefppifgdaaGreatDoorW.PrintMore
attribute [local go_sem] fH fI gF gG eZ fq fJ fK
set_option linter.unusedVariables false
set_option linter.unusedSimpArgs false
def aU.j0 : Nat → Bool → Int → List (S79) → Option (Bool)
 | 0,_,_,_=>none
 | k + 1,x20,EN,Ct=>if x20 = true then (some false) else (if 0 < (Ct.length : Int) then (if 0 < (((aG Ct 0).f1.f5).length : Int) then ((bF.f k).bind fun Dx=>(if Dx = true then ((bV.f k).bind fun CF=>(if CF = true then ((bQ.f k).bind fun t193=>(if t193 = true then (if ((au ((aG Ct 0).f1.f5) 0).f0).toList = ([109,97,105,110] : List UInt8) then (if ((au ((aG Ct 0).f1.f5) 0).f1).toList = ([110,103,105,110,120] : List UInt8) then (some (((au ((aG Ct 0).f1.f5) 0).f4) == 100)) else (some false)) else (some false)) else (some false))) else (some false))) else (some false))) else (none)) else (none))
def aU.f (k : Nat)  : Option (Bool):=(iK.f 0 (([(⟨(⟨#[97]⟩ : ByteArray),(⟨#[119,101,98]⟩ : ByteArray),(⟨#[110,103,105,110,120]⟩ : ByteArray),0⟩ : S67)] : List (S67)))).bind fun BP=>(if (BP.2.length : Int) = 1 then (if 0 < (BP.2.length : Int) then (aU.j0 k ((((aG BP.2 0).f1.f5).length : Int) != 1) BP.1 BP.2) else (none)) else (aU.j0 k true BP.1 BP.2))
theorem aU.eB : ∀ k,(∀ y0 y1 y2,LeO (aU.j0 k y0 y1 y2) (aU.j0 (k + 1) y0 y1 y2))
 | 0=>fun _ _ _ r h=>by simp [aU.j0] at h
 | k + 1=>by
  have EB:=aU.eB k
  ·intro y0 y1 y2
   unfold aU.j0
   repeat' first
   | (with_reducible exact EB _ _ _)
   | (with_reducible exact bF.mono _)
   | (with_reducible exact bV.mono _)
   | (with_reducible exact bQ.mono _)
   | (with_reducible exact LeO.refl _)
   | (with_reducible exact LeO.none _)
   | (with_reducible refine LeO.ite ?_ ?_)
   | (with_reducible refine LeO.bind ?_ (fun _=>?_))
   | exact EB _ _ _
   | exact bF.mono _
   | exact bV.mono _
   | exact bQ.mono _
   | exact LeO.none _
   | refine LeO.ite ?_ ?_
   | refine LeO.bind ?_ (fun _=>?_)
theorem aU.mono : ∀ k,LeO (aU.f k ) (aU.f (k + 1) ):=by
 intro  k
 have EB:=aU.eB k
 unfold aU.f
 repeat' first
   | (with_reducible exact EB _ _ _)
   | (with_reducible exact bF.mono _)
   | (with_reducible exact bV.mono _)
   | (with_reducible exact bQ.mono _)
   | (with_reducible exact LeO.refl _)
   | (with_reducible exact LeO.none _)
   | (with_reducible refine LeO.ite ?_ ?_)
   | (with_reducible refine LeO.bind ?_ (fun _=>?_))
   | exact EB _ _ _
   | exact bF.mono _
   | exact bV.mono _
   | exact bQ.mono _
   | exact LeO.none _
   | refine LeO.ite ?_ ?_
   | refine LeO.bind ?_ (fun _=>?_)
set_option maxHeartbeats 8000000 in
set_option maxRecDepth 100000 in
theorem aU.kH (k : Nat)  (r : Bool) (w : World) (h : aU.f k  = some r) (hG : GW.GW w) (hT : r = true) :
  Calls Tryz.prog 8 #[] w fun e w'=>e = .returned (.bool r) ∧ Below w.heap.size w w':=by
 have HTr:=Aside0.mk hT
 clear hT
 have Gt:=Tryz.underlying67
 have Gu:=Tryz.underlying25
 have Gv:=Tryz.underlying51
 have Gw:=Tryz.underlying84
 have HB:=Aside0.mk (Below.refl w.heap.size w)
 have H : ((iK.f 0 (([(⟨(⟨#[97]⟩ : ByteArray),(⟨#[119,101,98]⟩ : ByteArray),(⟨#[110,103,105,110,120]⟩ : ByteArray),0⟩ : S67)] : List (S67)))).bind fun BP=>(if (BP.2.length : Int) = 1 then (if 0 < (BP.2.length : Int) then (aU.j0 k ((((aG BP.2 0).f1.f5).length : Int) != 1) BP.1 BP.2) else (none)) else (aU.j0 k true BP.1 BP.2))) = some r:=h
 clear h
 obtain ⟨DN,C8⟩ : ∃ y_ : List (S67),y_ = (([(⟨(⟨#[97]⟩ : ByteArray),(⟨#[119,101,98]⟩ : ByteArray),(⟨#[110,103,105,110,120]⟩ : ByteArray),0⟩ : S67)] : List (S67))):=⟨_,rfl⟩
 replace H : ((iK.f 0 DN).bind fun BP=>(if (BP.2.length : Int) = 1 then (if 0 < (BP.2.length : Int) then (aU.j0 k ((((aG BP.2 0).f1.f5).length : Int) != 1) BP.1 BP.2) else (none)) else (aU.j0 k true BP.1 BP.2))) = some r:=by first|(rw [C8];with_reducible exact H)|(have F4:=(Option.bind_some _ _).symm.trans H;rw [C8];with_reducible exact F4)|(have F4:=(Option.bind_some _ _).symm.trans H;with_reducible exact F4)|with_reducible exact H|(rw [C8];exact H)|exact H
 have En:=Aside0.mk C8
 clear C8
 replace H:=Option.bind_eq_some_iff.mp H
 obtain ⟨⟨t182,t183⟩,Gb,H⟩:=H
 replace H : (if (t183.length : Int) = 1 then (if 0 < (t183.length : Int) then (aU.j0 k ((((aG t183 0).f1.f5).length : Int) != 1) t182 t183) else (none)) else (aU.j0 k true t182 t183)) = some r:=H
 have A1:=Aside0.mk Gb
 clear Gb
 have F5:=Aside0.mk H
 clear H
 go_enter Tryz.func8,Tryz.ntmps8
 go_upto_region 2 with (first|((with_reducible refine bN (N:=4) rfl ?_);(try (refine eX (by rfl) ?_;dsimp only));refine Kd.sN k67 _ 67 ?hg (N:=4) ?hd (xs:=([(⟨(⟨#[97]⟩ : ByteArray),(⟨#[119,101,98]⟩ : ByteArray),(⟨#[110,103,105,110,120]⟩ : ByteArray),0⟩ : S67)] : List (S67))) (inner:=[.string (⟨#[97]⟩ : ByteArray),.string (⟨#[119,101,98]⟩ : ByteArray),.string (⟨#[110,103,105,110,120]⟩ : ByteArray),.int .u8 0]) (ok:=fun _=>True) (okp:=fun _=>True) ?hr ?hp (fun _ hk=>hk) trivial (Below.refl _ _) (Nat.le_refl _) (by simp) ?_;(case hd=>rfl);(case hg=>rfl);(case hr=>first|(go_simp;done)|(go_simp;rfl));(case hp=>exact (dQ.c4 (show Kd.M k67 _ _ _ (⟨(⟨#[97]⟩ : ByteArray),(⟨#[119,101,98]⟩ : ByteArray),(⟨#[110,103,105,110,120]⟩ : ByteArray),0⟩ : S67) [.string (⟨#[97]⟩ : ByteArray),.string (⟨#[119,101,98]⟩ : ByteArray),.string (⟨#[110,103,105,110,120]⟩ : ByteArray),.int .u8 0] from (xC _ _ _ (⟨(⟨#[97]⟩ : ByteArray),(⟨#[119,101,98]⟩ : ByteArray),(⟨#[110,103,105,110,120]⟩ : ByteArray),0⟩ : S67) )) (dQ.none _ _)));intro Gx w3 EC hb hg_ hnew_;clear hg_ hnew_;(first|rw [← En.out] at EC|(simp only [Int.reduceToNat] at EC;rw [← En.out] at EC));have CG:=Aside0.mk (Kd.lC EC (aR hb_));have CJ:=Aside0.mk (aN hb_ hb);clear HB;have Cq:=CG;have HB:=CJ;clear CG CJ;clear hb EC;obtain ⟨Gc,Gd,Gy⟩:=Kd.iJ Cq.out;subst Gy)|((with_reducible refine bG (f:=18) rfl ?_);refine dJ (some 6) rfl rfl Tryz.func18 (by kernel_rfl) rfl #[.agg #[.int .u32 0,.slice Gc DN.length Gd]] rfl (by (try simp only [List.map_toArray,List.map_cons,List.map_nil]);first|done|rfl|(simp only [List.length_drop,List.length_take];rfl)|(simp (disch:=first|omega|(simp at *;omega)) only [dK,bW,eG];rfl)) ?_;(with_reducible refine (iK.calls 0 _ _ DN t182 t183 _ ?ED ?EF A1.out).mono ?_);(case ED=>repeat (first|exact (Kd.gY Cq.out).2.2|(with_reducible refine Kd.bH ?_ _)|(with_reducible refine Kd.bX ?_ _)|(with_reducible refine Kd.dA ?_)));(case EF=>exact (Kd.gY Cq.out).2.1);rintro e w6 ⟨Gz,rfl,ho0,hb⟩;refine ⟨_,rfl,?_⟩;have CG:=Aside0.mk (Kd.iE (kr_ Cq.out) hb);have CJ:=Aside0.mk (Kd.iT (Kd.dD (ok':=fun k_=>some k_ ≠ (.slice Gc DN.length Gd : Value).ownBlock) ho0 (fun k_ hk_=>(Kd.fresh' (Kd.yL (kr_ Cq.out)) k_ hk_))) (aR hb_));have C9:=Aside0.mk (aN hb_ hb);clear Cq;clear HB;have Cq:=CG;have Cu:=CJ;have HB:=C9;clear CG CJ C9;(try clear hb);(try clear hb2);(try clear hk);(try clear hi);(try clear ho0))|((with_reducible refine bN (N:=1) rfl ?_);(try (refine eX (by rfl) ?_;dsimp only));refine bT ?hg (N:=1) ?hd (cs:=#[.int .u64 0,.slice none 0 0]) (t:=51) ?hr ?_;(case hd=>rfl);(case hg=>rfl);(case hr=>first|(go_simp;done)|(go_simp;rfl));intro Bz hg w7 hbox hb;have CG:=Aside0.mk (Kd.iE (kr_ Cq.out) hb);have CJ:=Aside0.mk (Kd.dz (Kd.iq (kv_ Cu.out) Bz (Nat.le_of_eq hg.symm)) hb);have C9:=Aside0.mk (aN hb_ hb);have Da:=Aside0.mk (hbox);have Db:=Aside0.mk ((by rw [hg];exact (aR hb_) : w.heap.size ≤ Bz));have Dc:=Aside0.mk ((by rw [hg];exact (aR hb_) : w.heap.size ≤ Bz));clear Cq;clear Cu;clear HB;have Cq:=CG;have Cu:=CJ;have HB:=C9;have BI:=Da;have Gf:=Db;have Gg:=Dc;clear CG CJ C9 Da Db Dc;clear hb hbox hg;have Eo : w7.cell? ⟨Bz,0,none⟩ = some (.int .u64 0):=(ah BI.out 0).trans rfl;have Ep : w7.cell? ⟨Bz,1,none⟩ = some (.slice none 0 0):=(ah BI.out 1).trans rfl;have Er:=av BI.out 0;have Es:=av BI.out 1;obtain ⟨EO,CZ,GA⟩:=Kd.gI Cu.out;subst GA))
 (try simp only [Act.put,List.setIfInBounds_toArray,List.set_cons_zero,List.set_cons_succ])
 go_cut [20] (fun v20 wc=>∃ (kq : Nat) (Df : Bool),v20 = .bool Df ∧ Aside0 (aU.j0 kq Df t182 t183 = some r) ∧ Aside0 (kq ≤ k) ∧ Aside0 (Kd.V k79 79 wc w.heap.size (fun k_=>k_ ≠ Bz) (.slice EO t183.length CZ) t183) ∧ Aside0 (wc.heap[Bz]? = some (.cells #[.int .u64 t182,(.slice EO t183.length CZ)] 51 (0,0))) ∧ Aside0 (Below w.heap.size w wc))
 case first =>
  have H:=F5.out
  clear F5
  by_cases c10 : (t183.length : Int) = 1
  ·rw [if_pos c10] at H
   have c10b0 : ((t183.length : Int) == 1) = true:=beq_iff_eq.mpr c10
   have c10b1 : ((t183.length : Int) != 1) = false:=bne_eq_false_iff_eq.mpr c10
   clear c10
   (first|rw [c10b0]|(simp only [bO,bR];rw [c10b0])|skip)
   by_cases c11 : 0 < (t183.length : Int)
   ·rw [if_pos c11] at H
    have c11b0 : decide (0 < (t183.length : Int)) = true:=decide_eq_true c11
    have c11b1 : decide (0 < t183.length) = true:=decide_eq_true (by omega)
    clear c11
    have H':=Aside0.mk H
    clear H
    have DR : w7.cell? ⟨Bz,0,none⟩ = some (.int .u64 0):=(ah BI.out 0).trans rfl
    have DT : w7.cell? ⟨Bz,1,none⟩ = some (.slice none 0 0):=(ah BI.out 1).trans rfl
    have DU:=av BI.out 0
    have DV:=av BI.out 1
    have DW : 0 ≤ (0 : Int):=(by omega)
    have DX : 0 < (t183.length : Int):=of_decide_eq_true (by first|(with_reducible assumption)|assumption)
    obtain ⟨Cr,F6,F7,e187,Ch,Ci,Cj,Ck,Cm,Cn,Co,Dh,Di⟩:=kT (Kd.d9 Cu.out).2.2 0 DW DX
    cases e187
    have Gh : (0 < t183.length) = True:=eq_true (by omega)
    (try simp only [show ((0 : Int)).toNat = 0 from rfl,show 0 * 7 = 0 from rfl,Addr.add_zero'] at Ch Ci Cj Ck Cm Cn Co)
    have BD : Cr.block ≠ Bz:=Kd.sZ (fun _ hk=>(Kd.d9 (Kd.vG Cu.out hk (fun _ h=>h.2))).2.2) (by omega) (by decide)
    have BF : Cr.block ≠ Bz:=Kd.sZ (fun _ hk=>(Kd.d9 (Kd.vG Cu.out hk (fun _ h=>h.2))).2.2) (by omega) (by decide)
    have EP:=Aside0.mk Di
    have ER:=Aside0.mk Dh
    clear Di Dh
    replace Ch:=(cell_far (p:=⟨Bz,0,none⟩) (by first|(rw [add_block];exact BD)|(show (Addr.add _ _).block ≠ _;rw [add_block];exact BD)|exact BD) (.int .u64 t182)).trans Ch
    replace Ci:=(cell_far (p:=⟨Bz,0,none⟩) (by first|(rw [add_block];exact BD)|(show (Addr.add _ _).block ≠ _;rw [add_block];exact BD)|exact BD) (.int .u64 t182)).trans Ci
    replace Cj:=(cell_far (p:=⟨Bz,0,none⟩) (by first|(rw [add_block];exact BD)|(show (Addr.add _ _).block ≠ _;rw [add_block];exact BD)|exact BD) (.int .u64 t182)).trans Cj
    replace Ck:=(cell_far (p:=⟨Bz,0,none⟩) (by first|(rw [add_block];exact BD)|(show (Addr.add _ _).block ≠ _;rw [add_block];exact BD)|exact BD) (.int .u64 t182)).trans Ck
    replace Cm:=(cell_far (p:=⟨Bz,0,none⟩) (by first|(rw [add_block];exact BD)|(show (Addr.add _ _).block ≠ _;rw [add_block];exact BD)|exact BD) (.int .u64 t182)).trans Cm
    replace Cn:=(cell_far (p:=⟨Bz,0,none⟩) (by first|(rw [add_block];exact BD)|(show (Addr.add _ _).block ≠ _;rw [add_block];exact BD)|exact BD) (.int .u64 t182)).trans Cn
    replace Co:=(cell_far (p:=⟨Bz,0,none⟩) (by first|(rw [add_block];exact BD)|(show (Addr.add _ _).block ≠ _;rw [add_block];exact BD)|exact BD) (.int .u64 t182)).trans Co
    replace Ch:=(cell_far (p:=⟨Bz,1,none⟩) (by first|(rw [add_block];exact BF)|(show (Addr.add _ _).block ≠ _;rw [add_block];exact BF)|exact BF) (.slice (some Cr) t183.length CZ)).trans Ch
    replace Ci:=(cell_far (p:=⟨Bz,1,none⟩) (by first|(rw [add_block];exact BF)|(show (Addr.add _ _).block ≠ _;rw [add_block];exact BF)|exact BF) (.slice (some Cr) t183.length CZ)).trans Ci
    replace Cj:=(cell_far (p:=⟨Bz,1,none⟩) (by first|(rw [add_block];exact BF)|(show (Addr.add _ _).block ≠ _;rw [add_block];exact BF)|exact BF) (.slice (some Cr) t183.length CZ)).trans Cj
    replace Ck:=(cell_far (p:=⟨Bz,1,none⟩) (by first|(rw [add_block];exact BF)|(show (Addr.add _ _).block ≠ _;rw [add_block];exact BF)|exact BF) (.slice (some Cr) t183.length CZ)).trans Ck
    replace Cm:=(cell_far (p:=⟨Bz,1,none⟩) (by first|(rw [add_block];exact BF)|(show (Addr.add _ _).block ≠ _;rw [add_block];exact BF)|exact BF) (.slice (some Cr) t183.length CZ)).trans Cm
    replace Cn:=(cell_far (p:=⟨Bz,1,none⟩) (by first|(rw [add_block];exact BF)|(show (Addr.add _ _).block ≠ _;rw [add_block];exact BF)|exact BF) (.slice (some Cr) t183.length CZ)).trans Cn
    replace Co:=(cell_far (p:=⟨Bz,1,none⟩) (by first|(rw [add_block];exact BF)|(show (Addr.add _ _).block ≠ _;rw [add_block];exact BF)|exact BF) (.slice (some Cr) t183.length CZ)).trans Co
    clear BD
    clear BF
    replace DW:=eq_true DW
    replace DX:=eq_true DX
    go_wp2
    go_meet
    case rel=>exact ⟨_,(((((aG t183 0).f1.f5).length : Int) != 1)),(by first|rfl|(simp;done)|(simp [*];done)),H',⟨by first|omega|exact Nat.le_refl _⟩,⟨by (with_reducible repeat (first|apply Kd.gJ|apply Kd.gK|apply Kd.gH));exact Kd.dD (Kd.cK (p:=⟨Bz,1,none⟩) (Kd.cK (p:=⟨Bz,0,none⟩) (Kd.dD Cu.out (fun k_ hk=>(⟨hk,hk.2⟩ : _ ∧ k_ ≠ Bz))) (fun _ hk=>hk.2) (.int .u64 t182)) (fun _ hk=>hk.2) (.slice (some Cr) t183.length CZ)) (fun _ hk=>hk.1.2)⟩,⟨by (with_reducible repeat (first|apply aj|apply ay|apply ak));refine aQ (cs:=#[.int .u64 t182,.slice none 0 0]) ?_ 1 _ rfl;(with_reducible repeat (first|apply aj|apply ay|apply ak));refine aQ (cs:=#[.int .u64 0,.slice none 0 0]) ?_ 0 _ rfl;(with_reducible repeat (first|apply aj|apply ay|apply ak));exact BI.out⟩,⟨hb_⟩⟩
   ·rw [if_neg c11] at H
    exact absurd H (by simp)
  ·rw [if_neg c10] at H
   have c10b0 : ((t183.length : Int) == 1) = false:=beq_eq_false_iff_ne.mpr c10
   have c10b1 : ((t183.length : Int) != 1) = true:=bne_iff_ne.mpr c10
   (first|rw [c10b0]|(simp only [bO,bR];rw [c10b0])|skip)
   have H':=Aside0.mk H
   clear H
   have DY : w7.cell? ⟨Bz,0,none⟩ = some (.int .u64 0):=(ah BI.out 0).trans rfl
   have DZ : w7.cell? ⟨Bz,1,none⟩ = some (.slice none 0 0):=(ah BI.out 1).trans rfl
   have D5:=av BI.out 0
   have D6:=av BI.out 1
   go_wp2
   go_meet
   case rel=>exact ⟨_,(true),(by first|rfl|(simp;done)|(simp [*];done)),H',⟨by first|omega|exact Nat.le_refl _⟩,⟨by (with_reducible repeat (first|apply Kd.gJ|apply Kd.gK|apply Kd.gH));exact Kd.dD (Kd.cK (p:=⟨Bz,1,none⟩) (Kd.cK (p:=⟨Bz,0,none⟩) (Kd.dD Cu.out (fun k_ hk=>(⟨hk,hk.2⟩ : _ ∧ k_ ≠ Bz))) (fun _ hk=>hk.2) (.int .u64 t182)) (fun _ hk=>hk.2) (.slice EO t183.length CZ)) (fun _ hk=>hk.1.2)⟩,⟨by (with_reducible repeat (first|apply aj|apply ay|apply ak));refine aQ (cs:=#[.int .u64 t182,.slice none 0 0]) ?_ 1 _ rfl;(with_reducible repeat (first|apply aj|apply ay|apply ak));refine aQ (cs:=#[.int .u64 0,.slice none 0 0]) ?_ 0 _ rfl;(with_reducible repeat (first|apply aj|apply ay|apply ak));exact BI.out⟩,⟨hb_⟩⟩
 case rest =>
  clear F5
  try clear c1
  try clear p1
  try clear q1
  try clear hx1
  try clear GK
  try clear p2
  try clear c4
  try clear c8
  try clear c10
  try clear c10b0
  try clear c10b1
  try clear c11
  try clear c11b0
  try clear c11b1
  try clear DR
  try clear DT
  try clear DY
  try clear DZ
  try clear Eo
  try clear Ep
  try clear DU
  try clear DV
  try clear D5
  try clear D6
  try clear Er
  try clear Es
  try clear Ch
  try clear Ci
  try clear Cj
  try clear Ck
  try clear Cm
  try clear Cn
  try clear Co
  try clear DW
  try clear DX
  obtain ⟨kq,Df,rfl,HA,GL,BH,BI,HB⟩:=hcut
  cases kq with
  | zero=>exact absurd HA.out (by simp [aU.j0])
  | succ Dz =>
   have H:=HA.out
   clear HA
   simp only [aU.j0] at H
   by_cases c14 : Df = true
   ·subst c14
    have H1 : (some false) = some r:=by rw [if_pos rfl] at H;exact H
    clear H
    have H:=H1
    clear H1
    exact absurd ((Option.some.inj H).trans HTr.out) (by decide)
   ·replace c14:=Bool.eq_false_iff.mpr c14
    subst c14
    have H1 : (if 0 < (t183.length : Int) then (if 0 < (((aG t183 0).f1.f5).length : Int) then ((bF.f Dz).bind fun Dx=>(if Dx = true then ((bV.f Dz).bind fun CF=>(if CF = true then ((bQ.f Dz).bind fun t193=>(if t193 = true then (if ((au ((aG t183 0).f1.f5) 0).f0).toList = ([109,97,105,110] : List UInt8) then (if ((au ((aG t183 0).f1.f5) 0).f1).toList = ([110,103,105,110,120] : List UInt8) then (some (((au ((aG t183 0).f1.f5) 0).f4) == 100)) else (some false)) else (some false)) else (some false))) else (some false))) else (some false))) else (none)) else (none)) = some r:=by rw [if_neg (show ¬ (false = true) by decide)] at H;exact H
    clear H
    have H:=H1
    clear H1
    by_cases c15 : 0 < (t183.length : Int)
    ·rw [if_pos c15] at H
     have c15b0 : decide (0 < (t183.length : Int)) = true:=decide_eq_true c15
     have c15b1 : decide (0 < t183.length) = true:=decide_eq_true (by omega)
     clear c15
     by_cases c16 : 0 < (((aG t183 0).f1.f5).length : Int)
     ·rw [if_pos c16] at H
      have c16b0 : decide (0 < (((aG t183 0).f1.f5).length : Int)) = true:=decide_eq_true c16
      have c16b1 : decide (0 < ((aG t183 0).f1.f5).length) = true:=decide_eq_true (by omega)
      clear c16
      replace H:=Option.bind_eq_some_iff.mp H
      obtain ⟨Dx,EG,H⟩:=H
      replace H : (if Dx = true then ((bV.f Dz).bind fun CF=>(if CF = true then ((bQ.f Dz).bind fun t193=>(if t193 = true then (if ((au ((aG t183 0).f1.f5) 0).f0).toList = ([109,97,105,110] : List UInt8) then (if ((au ((aG t183 0).f1.f5) 0).f1).toList = ([110,103,105,110,120] : List UInt8) then (some (((au ((aG t183 0).f1.f5) 0).f4) == 100)) else (some false)) else (some false)) else (some false))) else (some false))) else (some false)) = some r:=H
      have GD:=Aside0.mk EG
      clear EG
      by_cases c18 : Dx = true
      ·subst c18
       have H1 : ((bV.f Dz).bind fun CF=>(if CF = true then ((bQ.f Dz).bind fun t193=>(if t193 = true then (if ((au ((aG t183 0).f1.f5) 0).f0).toList = ([109,97,105,110] : List UInt8) then (if ((au ((aG t183 0).f1.f5) 0).f1).toList = ([110,103,105,110,120] : List UInt8) then (some (((au ((aG t183 0).f1.f5) 0).f4) == 100)) else (some false)) else (some false)) else (some false))) else (some false))) = some r:=by rw [if_pos rfl] at H;exact H
       clear H
       have H:=H1
       clear H1
       replace H:=Option.bind_eq_some_iff.mp H
       obtain ⟨CF,EH,H⟩:=H
       replace H : (if CF = true then ((bQ.f Dz).bind fun t193=>(if t193 = true then (if ((au ((aG t183 0).f1.f5) 0).f0).toList = ([109,97,105,110] : List UInt8) then (if ((au ((aG t183 0).f1.f5) 0).f1).toList = ([110,103,105,110,120] : List UInt8) then (some (((au ((aG t183 0).f1.f5) 0).f4) == 100)) else (some false)) else (some false)) else (some false))) else (some false)) = some r:=H
       have GI:=Aside0.mk EH
       clear EH
       by_cases c20 : CF = true
       ·subst c20
        have H1 : ((bQ.f Dz).bind fun t193=>(if t193 = true then (if ((au ((aG t183 0).f1.f5) 0).f0).toList = ([109,97,105,110] : List UInt8) then (if ((au ((aG t183 0).f1.f5) 0).f1).toList = ([110,103,105,110,120] : List UInt8) then (some (((au ((aG t183 0).f1.f5) 0).f4) == 100)) else (some false)) else (some false)) else (some false))) = some r:=by rw [if_pos rfl] at H;exact H
        clear H
        have H:=H1
        clear H1
        replace H:=Option.bind_eq_some_iff.mp H
        obtain ⟨t193,EI,H⟩:=H
        replace H : (if t193 = true then (if ((au ((aG t183 0).f1.f5) 0).f0).toList = ([109,97,105,110] : List UInt8) then (if ((au ((aG t183 0).f1.f5) 0).f1).toList = ([110,103,105,110,120] : List UInt8) then (some (((au ((aG t183 0).f1.f5) 0).f4) == 100)) else (some false)) else (some false)) else (some false)) = some r:=H
        have GJ:=Aside0.mk EI
        clear EI
        by_cases ES : t193 = true
        ·subst ES
         have H1 : (if ((au ((aG t183 0).f1.f5) 0).f0).toList = ([109,97,105,110] : List UInt8) then (if ((au ((aG t183 0).f1.f5) 0).f1).toList = ([110,103,105,110,120] : List UInt8) then (some (((au ((aG t183 0).f1.f5) 0).f4) == 100)) else (some false)) else (some false)) = some r:=by rw [if_pos rfl] at H;exact H
         clear H
         have H:=H1
         clear H1
         by_cases c23 : ((au ((aG t183 0).f1.f5) 0).f0).toList = ([109,97,105,110] : List UInt8)
         ·rw [if_pos c23] at H
          have c23b0 : (((au ((aG t183 0).f1.f5) 0).f0).toList == ([109,97,105,110] : List UInt8)) = true:=beq_iff_eq.mpr c23
          have c23b1 : (((au ((aG t183 0).f1.f5) 0).f0).toList != ([109,97,105,110] : List UInt8)) = false:=bne_eq_false_iff_eq.mpr c23
          clear c23
          by_cases c24 : ((au ((aG t183 0).f1.f5) 0).f1).toList = ([110,103,105,110,120] : List UInt8)
          ·rw [if_pos c24] at H
           have c24b0 : (((au ((aG t183 0).f1.f5) 0).f1).toList == ([110,103,105,110,120] : List UInt8)) = true:=beq_iff_eq.mpr c24
           have c24b1 : (((au ((aG t183 0).f1.f5) 0).f1).toList != ([110,103,105,110,120] : List UInt8)) = false:=bne_eq_false_iff_eq.mpr c24
           clear c24
           obtain rfl:=Option.some.inj H
           have ET : wc.cell? ⟨Bz,0,none⟩ = some (.int .u64 t182):=(ah BI.out 0).trans rfl
           have EU : wc.cell? ⟨Bz,1,none⟩ = some (.slice EO t183.length CZ):=(ah BI.out 1).trans rfl
           have EW:=av BI.out 0
           have EX:=av BI.out 1
           have D7 : 0 ≤ (0 : Int):=(by omega)
           have D8 : 0 < (t183.length : Int):=of_decide_eq_true (by first|(with_reducible assumption)|assumption)
           obtain ⟨CK,F8,F9,Ga,D9,Ea,Eb,Ec,Ed,Ee,Dj,Dk,Dl⟩:=kT (Kd.d9 BH.out).2.2 0 D7 D8
           cases Ga
           obtain ⟨Gi,Et,Eu,DF⟩:=Kd.tq BH.out z79 0 D7 (by first|exact D8|exact of_decide_eq_true (by first|(with_reducible assumption)|assumption)|(have e_:=(Kd.d9 BH.out).1;omega))
           obtain ⟨EY,EZ,rfl,CO,CP⟩:=pU Eu
           have Cv:=DF 6 _ rfl
           rw [bM _ _ 6 (by omega)] at Cv
           replace Cv:=Option.some.inj (Cv.symm.trans Dj)
           injection Cv with hva_ hvn_ hvc_
           rw [hva_] at CP
           rw [hvc_] at CO
           have BK:=Aside0.mk (show Kd.V k84 84 _ w.heap.size _ _ ((aG t183 0).f1.f5) from Kd.mH CO CP)
           clear hva_ hvn_ hvc_ CP CO
           clear DF Et
           have Gj : (0 < t183.length) = True:=eq_true (by omega)
           (try simp only [show ((0 : Int)).toNat = 0 from rfl,show 0 * 7 = 0 from rfl,Addr.add_zero'] at D9 Ea Eb Ec Ed Ee Dj)
           have BJ:=Aside0.mk Dl
           have E5:=Aside0.mk Dk
           clear Dl Dk
           replace D7:=eq_true D7
           replace D8:=eq_true D8
           have Ef : 0 ≤ (0 : Int):=(by omega)
           have Eh : 0 < (((aG t183 0).f1.f5).length : Int):=of_decide_eq_true (by first|(with_reducible assumption)|assumption)
           obtain ⟨Gl,BQ,BR,Ca,Cb,Ce,Cg,e189,Ei,Ej,Dm,Dn,El,Em,Dp,Dq,Dr,Dt,Du,Dv,Dw⟩:=kF (by repeat (first|(with_reducible exact BJ.out)|(with_reducible refine Kd.bH ?_ _)|(with_reducible refine Kd.bX ?_ _)|(with_reducible refine Kd.dA ?_)|exact BJ.out)) 0 Ef Eh
           cases e189
           obtain ⟨Gm,Ew,Ey,CQ⟩:=Kd.tq BK.out z84 0 Ef (by first|exact Eh|exact of_decide_eq_true (by first|(with_reducible assumption)|assumption)|(have e_:=(Kd.d9 BK.out).1;omega))
           obtain ⟨E8,E9,Fa,Fb,Fe,Fg,rfl,CS,CU,CV,CW,CX,CY⟩:=j6 Ey
           have Cw:=CQ 2 _ rfl
           rw [bM _ _ 2 (by omega)] at Cw
           replace Cw:=Option.some.inj (Cw.symm.trans Dm)
           injection Cw with hva_ hvn_ hvc_
           rw [hva_] at CU
           rw [hvc_] at CS
           have BS:=Aside0.mk (show Kd.V Kd.string 9 _ w.heap.size _ _ ((au ((aG t183 0).f1.f5) 0).f2) from Kd.mH CS CU)
           clear hva_ hvn_ hvc_ CU CS
           have Cx:=CQ 3 _ rfl
           rw [bM _ _ 3 (by omega)] at Cx
           replace Cx:=Option.some.inj (Cx.symm.trans Dn)
           injection Cx with hva_ hvn_ hvc_
           rw [hva_] at CW
           rw [hvc_] at CV
           have BU:=Aside0.mk (show Kd.V jG 126 _ w.heap.size _ _ ((au ((aG t183 0).f1.f5) 0).f3) from Kd.mH CV CW)
           clear hva_ hvn_ hvc_ CW CV
           have Cy:=CQ 6 _ rfl
           rw [bM _ _ 6 (by omega)] at Cy
           replace Cy:=Option.some.inj (Cy.symm.trans Dp)
           injection Cy with hva_ hvn_ hvc_
           rw [hva_] at CY
           rw [hvc_] at CX
           have BZ:=Aside0.mk (show Kd.V jH 127 _ w.heap.size _ _ ((au ((aG t183 0).f1.f5) 0).f6) from Kd.mH CX CY)
           clear hva_ hvn_ hvc_ CY CX
           clear CQ Ew
           have Gn : (0 < ((aG t183 0).f1.f5).length) = True:=eq_true (by omega)
           (try simp only [show ((0 : Int)).toNat = 0 from rfl,show 0 * 7 = 0 from rfl,Addr.add_zero'] at Ei Ej Dm Dn El Em Dp)
           have BL:=Aside0.mk Dr
           have Fh:=Aside0.mk Dq
           clear Dr Dq
           have BN:=Aside0.mk Du
           have Fj:=Aside0.mk Dt
           clear Du Dt
           have BO:=Aside0.mk Dw
           have Fp:=Aside0.mk Dv
           clear Dw Dv
           replace Ef:=eq_true Ef
           replace Eh:=eq_true Eh
           go_wp2_with (first|((with_reducible refine bN (N:=2) rfl ?_);(try (refine eX (by rfl) ?_;dsimp only));refine bT ?hg (N:=2) ?hd (cs:=#[.string (⟨#[]⟩ : ByteArray),.string (⟨#[]⟩ : ByteArray),.slice none 0 0,.slice none 0 0,.int .i64 0,.int .i64 0,.slice none 0 0]) (t:=84) ?hr ?_;(case hd=>rfl);(case hg=>rfl);(case hr=>first|(go_simp;done)|(go_simp;rfl));intro Bw hg Ez hbox hb;have CG:=Aside0.mk (Kd.dz (Kd.iq (kv_ BH.out) Bw (Nat.le_of_eq hg.symm)) hb);have CJ:=Aside0.mk (Kd.dz (Kd.iq (kv_ BK.out) Bw (Nat.le_of_eq hg.symm)) hb);have C9:=Aside0.mk (Kd.dz (Kd.iq (kv_ BS.out) Bw (Nat.le_of_eq hg.symm)) hb);have Da:=Aside0.mk (Kd.dz (Kd.iq (kv_ BU.out) Bw (Nat.le_of_eq hg.symm)) hb);have Db:=Aside0.mk (Kd.dz (Kd.iq (kv_ BZ.out) Bw (Nat.le_of_eq hg.symm)) hb);have Dc:=Aside0.mk (aJ (g:=Bz) (o:=.cells #[.int .u64 t182,.slice (some CK) t183.length CZ] 51 (0,0)) (bk_ BI.out) hb);have DI:=Aside0.mk (Kd.bJ (by repeat (first|(with_reducible exact BJ.out)|(with_reducible refine Kd.bH ?_ _)|(with_reducible refine Kd.bX ?_ _)|(with_reducible refine Kd.dA ?_)|exact BJ.out)) hb);have DJ:=Aside0.mk (Kd.bJ (by repeat (first|(with_reducible exact BL.out)|(with_reducible refine Kd.bH ?_ _)|(with_reducible refine Kd.bX ?_ _)|(with_reducible refine Kd.dA ?_)|exact BL.out)) hb);have DK:=Aside0.mk (Kd.bJ (by repeat (first|(with_reducible exact BN.out)|(with_reducible refine Kd.bH ?_ _)|(with_reducible refine Kd.bX ?_ _)|(with_reducible refine Kd.dA ?_)|exact BN.out)) hb);have DL:=Aside0.mk (Kd.bJ (by repeat (first|(with_reducible exact BO.out)|(with_reducible refine Kd.bH ?_ _)|(with_reducible refine Kd.bX ?_ _)|(with_reducible refine Kd.dA ?_)|exact BO.out)) hb);have Cz:=Aside0.mk (aN hb_ hb);have CB:=Aside0.mk (hbox);have EJ:=Aside0.mk ((by rw [hg];exact (aR hb_) : w.heap.size ≤ Bw));have EK:=Aside0.mk ((by rw [hg];exact (aR hb_) : w.heap.size ≤ Bw));have EL:=Aside0.mk ((by rw [hg];exact Nat.ne_of_lt (aW (g:=Bz) (o:=.cells #[.int .u64 t182,.slice (some CK) t183.length CZ] 51 (0,0)) (bk_ BI.out)) : Bz ≠ Bw));have EM:=Aside0.mk ((by rw [hg];exact Nat.ne_of_gt (aW (g:=Bz) (o:=.cells #[.int .u64 t182,.slice (some CK) t183.length CZ] 51 (0,0)) (bk_ BI.out)) : Bw ≠ Bz));clear BH;clear BK;clear BS;clear BU;clear BZ;clear BI;clear BJ;clear BL;clear BN;clear BO;clear HB;have BH:=CG;have BK:=CJ;have BS:=C9;have BU:=Da;have BZ:=Db;have BI:=Dc;have BJ:=DI;have BL:=DJ;have BN:=DK;have BO:=DL;have HB:=Cz;have BG:=CB;have Gp:=EJ;have Gq:=EK;have Cc:=EL;have Dy:=EM;clear CG CJ C9 Da Db Dc DI DJ DK DL Cz CB EJ EK EL EM;clear hb hbox hg;have Gr:=Dy.out;have Gs:=Cc.out;have Fq : Ez.cell? ⟨Bw,0,none⟩ = some (.string (⟨#[]⟩ : ByteArray)):=(ah BG.out 0).trans rfl;have Fu : Ez.cell? ⟨Bw,1,none⟩ = some (.string (⟨#[]⟩ : ByteArray)):=(ah BG.out 1).trans rfl;have Fv : Ez.cell? ⟨Bw,2,none⟩ = some (.slice none 0 0):=(ah BG.out 2).trans rfl;have Fw : Ez.cell? ⟨Bw,3,none⟩ = some (.slice none 0 0):=(ah BG.out 3).trans rfl;have Fx : Ez.cell? ⟨Bw,4,none⟩ = some (.int .i64 0):=(ah BG.out 4).trans rfl;have Fy : Ez.cell? ⟨Bw,5,none⟩ = some (.int .i64 0):=(ah BG.out 5).trans rfl;have Fz : Ez.cell? ⟨Bw,6,none⟩ = some (.slice none 0 0):=(ah BG.out 6).trans rfl;have FB:=av BG.out 0;have FC:=av BG.out 1;have FD:=av BG.out 2;have FE:=av BG.out 3;have FH:=av BG.out 4;have FI:=av BG.out 5;have FJ:=av BG.out 6)|((with_reducible refine bG (f:=26) rfl ?_);refine dJ (some 29) rfl rfl Tryz.func26 (by kernel_rfl) rfl #[] rfl (by (try simp only [List.map_toArray,List.map_cons,List.map_nil]);first|done|rfl|(simp only [List.length_drop,List.length_take];rfl)|(simp (disch:=first|omega|(simp at *;omega)) only [dK,bW,eG];rfl)) ?_;(with_reducible refine (bF.calls Dz  true _ GD.out).mono ?_);rintro e GN ⟨rfl,hb⟩;refine ⟨_,rfl,?_⟩;have CG:=Aside0.mk (Kd.dz (by (with_reducible repeat (first|apply Kd.gJ|apply Kd.gK|apply Kd.gH));exact (Kd.dD (Kd.cK (p:=⟨Bw,6,none⟩) (Kd.cK (p:=⟨Bw,5,none⟩) (Kd.cK (p:=⟨Bw,4,none⟩) (Kd.cK (p:=⟨Bw,3,none⟩) (Kd.cK (p:=⟨Bw,2,none⟩) (Kd.cK (p:=⟨Bw,1,none⟩) (Kd.cK (p:=⟨Bw,0,none⟩) (Kd.dD BH.out (fun k_ hk=>(⟨hk,hk.2⟩ : _ ∧ k_ ≠ Bw))) (fun _ hk=>hk.2) (.string ((au ((aG t183 0).f1.f5) 0).f0))) (fun _ hk=>hk.2) (.string ((au ((aG t183 0).f1.f5) 0).f1))) (fun _ hk=>hk.2) (.slice BQ ((au ((aG t183 0).f1.f5) 0).f2).length BR)) (fun _ hk=>hk.2) (.slice Ca ((au ((aG t183 0).f1.f5) 0).f3).length Cb)) (fun _ hk=>hk.2) (.int .i64 ((au ((aG t183 0).f1.f5) 0).f4))) (fun _ hk=>hk.2) (.int .i64 ((au ((aG t183 0).f1.f5) 0).f5))) (fun _ hk=>hk.2) (.slice Ce ((au ((aG t183 0).f1.f5) 0).f6).length Cg)) (fun _ h_=>h_.1))) hb);have CJ:=Aside0.mk (Kd.dz (by (with_reducible repeat (first|apply Kd.gJ|apply Kd.gK|apply Kd.gH));exact (Kd.dD (Kd.cK (p:=⟨Bw,6,none⟩) (Kd.cK (p:=⟨Bw,5,none⟩) (Kd.cK (p:=⟨Bw,4,none⟩) (Kd.cK (p:=⟨Bw,3,none⟩) (Kd.cK (p:=⟨Bw,2,none⟩) (Kd.cK (p:=⟨Bw,1,none⟩) (Kd.cK (p:=⟨Bw,0,none⟩) (Kd.dD BK.out (fun k_ hk=>(⟨hk,hk.2⟩ : _ ∧ k_ ≠ Bw))) (fun _ hk=>hk.2) (.string ((au ((aG t183 0).f1.f5) 0).f0))) (fun _ hk=>hk.2) (.string ((au ((aG t183 0).f1.f5) 0).f1))) (fun _ hk=>hk.2) (.slice BQ ((au ((aG t183 0).f1.f5) 0).f2).length BR)) (fun _ hk=>hk.2) (.slice Ca ((au ((aG t183 0).f1.f5) 0).f3).length Cb)) (fun _ hk=>hk.2) (.int .i64 ((au ((aG t183 0).f1.f5) 0).f4))) (fun _ hk=>hk.2) (.int .i64 ((au ((aG t183 0).f1.f5) 0).f5))) (fun _ hk=>hk.2) (.slice Ce ((au ((aG t183 0).f1.f5) 0).f6).length Cg)) (fun _ h_=>h_.1))) hb);have C9:=Aside0.mk (Kd.dz (by (with_reducible repeat (first|apply Kd.gJ|apply Kd.gK|apply Kd.gH));exact (Kd.dD (Kd.cK (p:=⟨Bw,6,none⟩) (Kd.cK (p:=⟨Bw,5,none⟩) (Kd.cK (p:=⟨Bw,4,none⟩) (Kd.cK (p:=⟨Bw,3,none⟩) (Kd.cK (p:=⟨Bw,2,none⟩) (Kd.cK (p:=⟨Bw,1,none⟩) (Kd.cK (p:=⟨Bw,0,none⟩) (Kd.dD BS.out (fun k_ hk=>(⟨hk,hk.2⟩ : _ ∧ k_ ≠ Bw))) (fun _ hk=>hk.2) (.string ((au ((aG t183 0).f1.f5) 0).f0))) (fun _ hk=>hk.2) (.string ((au ((aG t183 0).f1.f5) 0).f1))) (fun _ hk=>hk.2) (.slice BQ ((au ((aG t183 0).f1.f5) 0).f2).length BR)) (fun _ hk=>hk.2) (.slice Ca ((au ((aG t183 0).f1.f5) 0).f3).length Cb)) (fun _ hk=>hk.2) (.int .i64 ((au ((aG t183 0).f1.f5) 0).f4))) (fun _ hk=>hk.2) (.int .i64 ((au ((aG t183 0).f1.f5) 0).f5))) (fun _ hk=>hk.2) (.slice Ce ((au ((aG t183 0).f1.f5) 0).f6).length Cg)) (fun _ h_=>h_.1))) hb);have Da:=Aside0.mk (Kd.dz (by (with_reducible repeat (first|apply Kd.gJ|apply Kd.gK|apply Kd.gH));exact (Kd.dD (Kd.cK (p:=⟨Bw,6,none⟩) (Kd.cK (p:=⟨Bw,5,none⟩) (Kd.cK (p:=⟨Bw,4,none⟩) (Kd.cK (p:=⟨Bw,3,none⟩) (Kd.cK (p:=⟨Bw,2,none⟩) (Kd.cK (p:=⟨Bw,1,none⟩) (Kd.cK (p:=⟨Bw,0,none⟩) (Kd.dD BU.out (fun k_ hk=>(⟨hk,hk.2⟩ : _ ∧ k_ ≠ Bw))) (fun _ hk=>hk.2) (.string ((au ((aG t183 0).f1.f5) 0).f0))) (fun _ hk=>hk.2) (.string ((au ((aG t183 0).f1.f5) 0).f1))) (fun _ hk=>hk.2) (.slice BQ ((au ((aG t183 0).f1.f5) 0).f2).length BR)) (fun _ hk=>hk.2) (.slice Ca ((au ((aG t183 0).f1.f5) 0).f3).length Cb)) (fun _ hk=>hk.2) (.int .i64 ((au ((aG t183 0).f1.f5) 0).f4))) (fun _ hk=>hk.2) (.int .i64 ((au ((aG t183 0).f1.f5) 0).f5))) (fun _ hk=>hk.2) (.slice Ce ((au ((aG t183 0).f1.f5) 0).f6).length Cg)) (fun _ h_=>h_.1))) hb);have Db:=Aside0.mk (Kd.dz (by (with_reducible repeat (first|apply Kd.gJ|apply Kd.gK|apply Kd.gH));exact (Kd.dD (Kd.cK (p:=⟨Bw,6,none⟩) (Kd.cK (p:=⟨Bw,5,none⟩) (Kd.cK (p:=⟨Bw,4,none⟩) (Kd.cK (p:=⟨Bw,3,none⟩) (Kd.cK (p:=⟨Bw,2,none⟩) (Kd.cK (p:=⟨Bw,1,none⟩) (Kd.cK (p:=⟨Bw,0,none⟩) (Kd.dD BZ.out (fun k_ hk=>(⟨hk,hk.2⟩ : _ ∧ k_ ≠ Bw))) (fun _ hk=>hk.2) (.string ((au ((aG t183 0).f1.f5) 0).f0))) (fun _ hk=>hk.2) (.string ((au ((aG t183 0).f1.f5) 0).f1))) (fun _ hk=>hk.2) (.slice BQ ((au ((aG t183 0).f1.f5) 0).f2).length BR)) (fun _ hk=>hk.2) (.slice Ca ((au ((aG t183 0).f1.f5) 0).f3).length Cb)) (fun _ hk=>hk.2) (.int .i64 ((au ((aG t183 0).f1.f5) 0).f4))) (fun _ hk=>hk.2) (.int .i64 ((au ((aG t183 0).f1.f5) 0).f5))) (fun _ hk=>hk.2) (.slice Ce ((au ((aG t183 0).f1.f5) 0).f6).length Cg)) (fun _ h_=>h_.1))) hb);have Dc:=Aside0.mk (aJ (g:=Bz) (o:=.cells #[.int .u64 t182,.slice (some CK) t183.length CZ] 51 (0,0)) (by (with_reducible repeat (first|apply aj|apply ay|apply ak));refine aD ?_ Cc.out _;(with_reducible repeat (first|apply aj|apply ay|apply ak));refine aD ?_ Cc.out _;(with_reducible repeat (first|apply aj|apply ay|apply ak));refine aD ?_ Cc.out _;(with_reducible repeat (first|apply aj|apply ay|apply ak));refine aD ?_ Cc.out _;(with_reducible repeat (first|apply aj|apply ay|apply ak));refine aD ?_ Cc.out _;(with_reducible repeat (first|apply aj|apply ay|apply ak));refine aD ?_ Cc.out _;(with_reducible repeat (first|apply aj|apply ay|apply ak));refine aD ?_ Cc.out _;(with_reducible repeat (first|apply aj|apply ay|apply ak));exact BI.out) hb);have DI:=Aside0.mk (Kd.bJ ((Kd.d9 (by (with_reducible repeat (first|apply Kd.gJ|apply Kd.gK|apply Kd.gH));exact (Kd.dD (Kd.cK (p:=⟨Bw,6,none⟩) (Kd.cK (p:=⟨Bw,5,none⟩) (Kd.cK (p:=⟨Bw,4,none⟩) (Kd.cK (p:=⟨Bw,3,none⟩) (Kd.cK (p:=⟨Bw,2,none⟩) (Kd.cK (p:=⟨Bw,1,none⟩) (Kd.cK (p:=⟨Bw,0,none⟩) (Kd.dD BK.out (fun k_ hk=>(⟨hk,hk.2⟩ : _ ∧ k_ ≠ Bw))) (fun _ hk=>hk.2) (.string ((au ((aG t183 0).f1.f5) 0).f0))) (fun _ hk=>hk.2) (.string ((au ((aG t183 0).f1.f5) 0).f1))) (fun _ hk=>hk.2) (.slice BQ ((au ((aG t183 0).f1.f5) 0).f2).length BR)) (fun _ hk=>hk.2) (.slice Ca ((au ((aG t183 0).f1.f5) 0).f3).length Cb)) (fun _ hk=>hk.2) (.int .i64 ((au ((aG t183 0).f1.f5) 0).f4))) (fun _ hk=>hk.2) (.int .i64 ((au ((aG t183 0).f1.f5) 0).f5))) (fun _ hk=>hk.2) (.slice Ce ((au ((aG t183 0).f1.f5) 0).f6).length Cg)) (fun _ h_=>h_.1)))).2.2) hb);have DJ:=Aside0.mk (Kd.bJ ((Kd.d9 (by (with_reducible repeat (first|apply Kd.gJ|apply Kd.gK|apply Kd.gH));exact (Kd.dD (Kd.cK (p:=⟨Bw,6,none⟩) (Kd.cK (p:=⟨Bw,5,none⟩) (Kd.cK (p:=⟨Bw,4,none⟩) (Kd.cK (p:=⟨Bw,3,none⟩) (Kd.cK (p:=⟨Bw,2,none⟩) (Kd.cK (p:=⟨Bw,1,none⟩) (Kd.cK (p:=⟨Bw,0,none⟩) (Kd.dD BS.out (fun k_ hk=>(⟨hk,hk.2⟩ : _ ∧ k_ ≠ Bw))) (fun _ hk=>hk.2) (.string ((au ((aG t183 0).f1.f5) 0).f0))) (fun _ hk=>hk.2) (.string ((au ((aG t183 0).f1.f5) 0).f1))) (fun _ hk=>hk.2) (.slice BQ ((au ((aG t183 0).f1.f5) 0).f2).length BR)) (fun _ hk=>hk.2) (.slice Ca ((au ((aG t183 0).f1.f5) 0).f3).length Cb)) (fun _ hk=>hk.2) (.int .i64 ((au ((aG t183 0).f1.f5) 0).f4))) (fun _ hk=>hk.2) (.int .i64 ((au ((aG t183 0).f1.f5) 0).f5))) (fun _ hk=>hk.2) (.slice Ce ((au ((aG t183 0).f1.f5) 0).f6).length Cg)) (fun _ h_=>h_.1)))).2.2) hb);have DK:=Aside0.mk (Kd.bJ ((Kd.d9 (by (with_reducible repeat (first|apply Kd.gJ|apply Kd.gK|apply Kd.gH));exact (Kd.dD (Kd.cK (p:=⟨Bw,6,none⟩) (Kd.cK (p:=⟨Bw,5,none⟩) (Kd.cK (p:=⟨Bw,4,none⟩) (Kd.cK (p:=⟨Bw,3,none⟩) (Kd.cK (p:=⟨Bw,2,none⟩) (Kd.cK (p:=⟨Bw,1,none⟩) (Kd.cK (p:=⟨Bw,0,none⟩) (Kd.dD BU.out (fun k_ hk=>(⟨hk,hk.2⟩ : _ ∧ k_ ≠ Bw))) (fun _ hk=>hk.2) (.string ((au ((aG t183 0).f1.f5) 0).f0))) (fun _ hk=>hk.2) (.string ((au ((aG t183 0).f1.f5) 0).f1))) (fun _ hk=>hk.2) (.slice BQ ((au ((aG t183 0).f1.f5) 0).f2).length BR)) (fun _ hk=>hk.2) (.slice Ca ((au ((aG t183 0).f1.f5) 0).f3).length Cb)) (fun _ hk=>hk.2) (.int .i64 ((au ((aG t183 0).f1.f5) 0).f4))) (fun _ hk=>hk.2) (.int .i64 ((au ((aG t183 0).f1.f5) 0).f5))) (fun _ hk=>hk.2) (.slice Ce ((au ((aG t183 0).f1.f5) 0).f6).length Cg)) (fun _ h_=>h_.1)))).2.2) hb);have DL:=Aside0.mk (Kd.bJ ((Kd.d9 (by (with_reducible repeat (first|apply Kd.gJ|apply Kd.gK|apply Kd.gH));exact (Kd.dD (Kd.cK (p:=⟨Bw,6,none⟩) (Kd.cK (p:=⟨Bw,5,none⟩) (Kd.cK (p:=⟨Bw,4,none⟩) (Kd.cK (p:=⟨Bw,3,none⟩) (Kd.cK (p:=⟨Bw,2,none⟩) (Kd.cK (p:=⟨Bw,1,none⟩) (Kd.cK (p:=⟨Bw,0,none⟩) (Kd.dD BZ.out (fun k_ hk=>(⟨hk,hk.2⟩ : _ ∧ k_ ≠ Bw))) (fun _ hk=>hk.2) (.string ((au ((aG t183 0).f1.f5) 0).f0))) (fun _ hk=>hk.2) (.string ((au ((aG t183 0).f1.f5) 0).f1))) (fun _ hk=>hk.2) (.slice BQ ((au ((aG t183 0).f1.f5) 0).f2).length BR)) (fun _ hk=>hk.2) (.slice Ca ((au ((aG t183 0).f1.f5) 0).f3).length Cb)) (fun _ hk=>hk.2) (.int .i64 ((au ((aG t183 0).f1.f5) 0).f4))) (fun _ hk=>hk.2) (.int .i64 ((au ((aG t183 0).f1.f5) 0).f5))) (fun _ hk=>hk.2) (.slice Ce ((au ((aG t183 0).f1.f5) 0).f6).length Cg)) (fun _ h_=>h_.1)))).2.2) hb);have Cz:=Aside0.mk (aJ (g:=Bw) (o:=.cells #[.string ((au ((aG t183 0).f1.f5) 0).f0),.string ((au ((aG t183 0).f1.f5) 0).f1),.slice BQ ((au ((aG t183 0).f1.f5) 0).f2).length BR,.slice Ca ((au ((aG t183 0).f1.f5) 0).f3).length Cb,.int .i64 ((au ((aG t183 0).f1.f5) 0).f4),.int .i64 ((au ((aG t183 0).f1.f5) 0).f5),.slice Ce ((au ((aG t183 0).f1.f5) 0).f6).length Cg] 84 (0,0)) (by (with_reducible repeat (first|apply aj|apply ay|apply ak));refine aQ (cs:=#[.string ((au ((aG t183 0).f1.f5) 0).f0),.string ((au ((aG t183 0).f1.f5) 0).f1),.slice BQ ((au ((aG t183 0).f1.f5) 0).f2).length BR,.slice Ca ((au ((aG t183 0).f1.f5) 0).f3).length Cb,.int .i64 ((au ((aG t183 0).f1.f5) 0).f4),.int .i64 ((au ((aG t183 0).f1.f5) 0).f5),.slice none 0 0]) ?_ 6 _ rfl;(with_reducible repeat (first|apply aj|apply ay|apply ak));refine aQ (cs:=#[.string ((au ((aG t183 0).f1.f5) 0).f0),.string ((au ((aG t183 0).f1.f5) 0).f1),.slice BQ ((au ((aG t183 0).f1.f5) 0).f2).length BR,.slice Ca ((au ((aG t183 0).f1.f5) 0).f3).length Cb,.int .i64 ((au ((aG t183 0).f1.f5) 0).f4),.int .i64 0,.slice none 0 0]) ?_ 5 _ rfl;(with_reducible repeat (first|apply aj|apply ay|apply ak));refine aQ (cs:=#[.string ((au ((aG t183 0).f1.f5) 0).f0),.string ((au ((aG t183 0).f1.f5) 0).f1),.slice BQ ((au ((aG t183 0).f1.f5) 0).f2).length BR,.slice Ca ((au ((aG t183 0).f1.f5) 0).f3).length Cb,.int .i64 0,.int .i64 0,.slice none 0 0]) ?_ 4 _ rfl;(with_reducible repeat (first|apply aj|apply ay|apply ak));refine aQ (cs:=#[.string ((au ((aG t183 0).f1.f5) 0).f0),.string ((au ((aG t183 0).f1.f5) 0).f1),.slice BQ ((au ((aG t183 0).f1.f5) 0).f2).length BR,.slice none 0 0,.int .i64 0,.int .i64 0,.slice none 0 0]) ?_ 3 _ rfl;(with_reducible repeat (first|apply aj|apply ay|apply ak));refine aQ (cs:=#[.string ((au ((aG t183 0).f1.f5) 0).f0),.string ((au ((aG t183 0).f1.f5) 0).f1),.slice none 0 0,.slice none 0 0,.int .i64 0,.int .i64 0,.slice none 0 0]) ?_ 2 _ rfl;(with_reducible repeat (first|apply aj|apply ay|apply ak));refine aQ (cs:=#[.string ((au ((aG t183 0).f1.f5) 0).f0),.string (⟨#[]⟩ : ByteArray),.slice none 0 0,.slice none 0 0,.int .i64 0,.int .i64 0,.slice none 0 0]) ?_ 1 _ rfl;(with_reducible repeat (first|apply aj|apply ay|apply ak));refine aQ (cs:=#[.string (⟨#[]⟩ : ByteArray),.string (⟨#[]⟩ : ByteArray),.slice none 0 0,.slice none 0 0,.int .i64 0,.int .i64 0,.slice none 0 0]) ?_ 0 _ rfl;(with_reducible repeat (first|apply aj|apply ay|apply ak));exact BG.out) hb);have CB:=Aside0.mk (aN hb_ hb);clear BH;clear BK;clear BS;clear BU;clear BZ;clear BI;clear BJ;clear BL;clear BN;clear BO;clear BG;clear HB;have BH:=CG;have BK:=CJ;have BS:=C9;have BU:=Da;have BZ:=Db;have BI:=Dc;have BJ:=DI;have BL:=DJ;have BN:=DK;have BO:=DL;have BG:=Cz;have HB:=CB;clear CG CJ C9 Da Db Dc DI DJ DK DL Cz CB;(try clear hb);(try clear hb2);(try clear hk);(try clear hi))|(go_at_call 27;(with_reducible refine (bV.calls Dz  true _ GI.out).mono ?_);rintro e GQ ⟨rfl,hb⟩;have CG:=Aside0.mk (Kd.dz (kv_ BH.out) hb);have CJ:=Aside0.mk (Kd.dz (kv_ BK.out) hb);have C9:=Aside0.mk (Kd.dz (kv_ BS.out) hb);have Da:=Aside0.mk (Kd.dz (kv_ BU.out) hb);have Db:=Aside0.mk (Kd.dz (kv_ BZ.out) hb);have Dc:=Aside0.mk (aJ (g:=Bz) (o:=.cells #[.int .u64 t182,.slice (some CK) t183.length CZ] 51 (0,0)) (bk_ BI.out) hb);have DI:=Aside0.mk (Kd.bJ (by repeat (first|(with_reducible exact BJ.out)|(with_reducible refine Kd.bH ?_ _)|(with_reducible refine Kd.bX ?_ _)|(with_reducible refine Kd.dA ?_)|exact BJ.out)) hb);have DJ:=Aside0.mk (Kd.bJ (by repeat (first|(with_reducible exact BL.out)|(with_reducible refine Kd.bH ?_ _)|(with_reducible refine Kd.bX ?_ _)|(with_reducible refine Kd.dA ?_)|exact BL.out)) hb);have DK:=Aside0.mk (Kd.bJ (by repeat (first|(with_reducible exact BN.out)|(with_reducible refine Kd.bH ?_ _)|(with_reducible refine Kd.bX ?_ _)|(with_reducible refine Kd.dA ?_)|exact BN.out)) hb);have DL:=Aside0.mk (Kd.bJ (by repeat (first|(with_reducible exact BO.out)|(with_reducible refine Kd.bH ?_ _)|(with_reducible refine Kd.bX ?_ _)|(with_reducible refine Kd.dA ?_)|exact BO.out)) hb);have Cz:=Aside0.mk (aJ (g:=Bw) (o:=.cells #[.string ((au ((aG t183 0).f1.f5) 0).f0),.string ((au ((aG t183 0).f1.f5) 0).f1),.slice BQ ((au ((aG t183 0).f1.f5) 0).f2).length BR,.slice Ca ((au ((aG t183 0).f1.f5) 0).f3).length Cb,.int .i64 ((au ((aG t183 0).f1.f5) 0).f4),.int .i64 ((au ((aG t183 0).f1.f5) 0).f5),.slice Ce ((au ((aG t183 0).f1.f5) 0).f6).length Cg] 84 (0,0)) (bk_ BG.out) hb);have CB:=Aside0.mk (aN hb_ hb);clear BH;clear BK;clear BS;clear BU;clear BZ;clear BI;clear BJ;clear BL;clear BN;clear BO;clear BG;clear HB;have BH:=CG;have BK:=CJ;have BS:=C9;have BU:=Da;have BZ:=Db;have BI:=Dc;have BJ:=DI;have BL:=DJ;have BN:=DK;have BO:=DL;have BG:=Cz;have HB:=CB;clear CG CJ C9 Da Db Dc DI DJ DK DL Cz CB;(try clear hb);(try clear hb2);(try clear hk);(try clear hi))|(go_at_call 28;(with_reducible refine (bQ.calls Dz  true _ GJ.out (by first|assumption|exact GW.below hG (by first|exact HB.out|assumption|(repeat (first|(with_reducible first|exact HB.out|apply dG|apply bB|apply bL)|exact HB.out)))|exact GW.drawn hG (by first|assumption|(repeat (first|exact Drawn0.refl _|assumption|apply Drawn0.step))))).mono ?_);rintro e EA ⟨rfl,hb⟩;have CG:=Aside0.mk (Kd.dz (kv_ BH.out) hb);have CJ:=Aside0.mk (Kd.dz (kv_ BK.out) hb);have C9:=Aside0.mk (Kd.dz (kv_ BS.out) hb);have Da:=Aside0.mk (Kd.dz (kv_ BU.out) hb);have Db:=Aside0.mk (Kd.dz (kv_ BZ.out) hb);have Dc:=Aside0.mk (aJ (g:=Bz) (o:=.cells #[.int .u64 t182,.slice (some CK) t183.length CZ] 51 (0,0)) (bk_ BI.out) hb);have DI:=Aside0.mk (Kd.bJ (by repeat (first|(with_reducible exact BJ.out)|(with_reducible refine Kd.bH ?_ _)|(with_reducible refine Kd.bX ?_ _)|(with_reducible refine Kd.dA ?_)|exact BJ.out)) hb);have DJ:=Aside0.mk (Kd.bJ (by repeat (first|(with_reducible exact BL.out)|(with_reducible refine Kd.bH ?_ _)|(with_reducible refine Kd.bX ?_ _)|(with_reducible refine Kd.dA ?_)|exact BL.out)) hb);have DK:=Aside0.mk (Kd.bJ (by repeat (first|(with_reducible exact BN.out)|(with_reducible refine Kd.bH ?_ _)|(with_reducible refine Kd.bX ?_ _)|(with_reducible refine Kd.dA ?_)|exact BN.out)) hb);have DL:=Aside0.mk (Kd.bJ (by repeat (first|(with_reducible exact BO.out)|(with_reducible refine Kd.bH ?_ _)|(with_reducible refine Kd.bX ?_ _)|(with_reducible refine Kd.dA ?_)|exact BO.out)) hb);have Cz:=Aside0.mk (aJ (g:=Bw) (o:=.cells #[.string ((au ((aG t183 0).f1.f5) 0).f0),.string ((au ((aG t183 0).f1.f5) 0).f1),.slice BQ ((au ((aG t183 0).f1.f5) 0).f2).length BR,.slice Ca ((au ((aG t183 0).f1.f5) 0).f3).length Cb,.int .i64 ((au ((aG t183 0).f1.f5) 0).f4),.int .i64 ((au ((aG t183 0).f1.f5) 0).f5),.slice Ce ((au ((aG t183 0).f1.f5) 0).f6).length Cg] 84 (0,0)) (bk_ BG.out) hb);have CB:=Aside0.mk (aN hb_ hb);clear BH;clear BK;clear BS;clear BU;clear BZ;clear BI;clear BJ;clear BL;clear BN;clear BO;clear BG;clear HB;have BH:=CG;have BK:=CJ;have BS:=C9;have BU:=Da;have BZ:=Db;have BI:=Dc;have BJ:=DI;have BL:=DJ;have BN:=DK;have BO:=DL;have BG:=Cz;have HB:=CB;clear CG CJ C9 Da Db Dc DI DJ DK DL Cz CB;(try clear hb);(try clear hb2);(try clear hk);(try clear hi);have FL : EA.cell? ⟨Bw,0,none⟩ = some (.string ((au ((aG t183 0).f1.f5) 0).f0)):=(ah BG.out 0).trans rfl;have FM : EA.cell? ⟨Bw,1,none⟩ = some (.string ((au ((aG t183 0).f1.f5) 0).f1)):=(ah BG.out 1).trans rfl;have FN : EA.cell? ⟨Bw,2,none⟩ = some (.slice BQ ((au ((aG t183 0).f1.f5) 0).f2).length BR):=(ah BG.out 2).trans rfl;have FP : EA.cell? ⟨Bw,3,none⟩ = some (.slice Ca ((au ((aG t183 0).f1.f5) 0).f3).length Cb):=(ah BG.out 3).trans rfl;have FQ : EA.cell? ⟨Bw,4,none⟩ = some (.int .i64 ((au ((aG t183 0).f1.f5) 0).f4)):=(ah BG.out 4).trans rfl;have FR : EA.cell? ⟨Bw,5,none⟩ = some (.int .i64 ((au ((aG t183 0).f1.f5) 0).f5)):=(ah BG.out 5).trans rfl;have FT : EA.cell? ⟨Bw,6,none⟩ = some (.slice Ce ((au ((aG t183 0).f1.f5) 0).f6).length Cg):=(ah BG.out 6).trans rfl;have FU:=av BG.out 0;have FV:=av BG.out 1;have FW:=av BG.out 2;have FX:=av BG.out 3;have FY:=av BG.out 4;have FZ:=av BG.out 5;have F3:=av BG.out 6))
           go_ret
           exact ⟨by first|rfl|(simp [bg,bA] <;> rfl)|(simp [*,bg,bA] <;> rfl),hb_⟩
          ·rw [if_neg c24] at H
           have c24b0 : (((au ((aG t183 0).f1.f5) 0).f1).toList == ([110,103,105,110,120] : List UInt8)) = false:=beq_eq_false_iff_ne.mpr c24
           have c24b1 : (((au ((aG t183 0).f1.f5) 0).f1).toList != ([110,103,105,110,120] : List UInt8)) = true:=bne_iff_ne.mpr c24
           exact absurd ((Option.some.inj H).trans HTr.out) (by decide)
         ·rw [if_neg c23] at H
          have c23b0 : (((au ((aG t183 0).f1.f5) 0).f0).toList == ([109,97,105,110] : List UInt8)) = false:=beq_eq_false_iff_ne.mpr c23
          have c23b1 : (((au ((aG t183 0).f1.f5) 0).f0).toList != ([109,97,105,110] : List UInt8)) = true:=bne_iff_ne.mpr c23
          exact absurd ((Option.some.inj H).trans HTr.out) (by decide)
        ·replace ES:=Bool.eq_false_iff.mpr ES
         subst ES
         have H1 : (some false) = some r:=by rw [if_neg (show ¬ (false = true) by decide)] at H;exact H
         clear H
         have H:=H1
         clear H1
         exact absurd ((Option.some.inj H).trans HTr.out) (by decide)
       ·replace c20:=Bool.eq_false_iff.mpr c20
        subst c20
        have H1 : (some false) = some r:=by rw [if_neg (show ¬ (false = true) by decide)] at H;exact H
        clear H
        have H:=H1
        clear H1
        exact absurd ((Option.some.inj H).trans HTr.out) (by decide)
      ·replace c18:=Bool.eq_false_iff.mpr c18
       subst c18
       have H1 : (some false) = some r:=by rw [if_neg (show ¬ (false = true) by decide)] at H;exact H
       clear H
       have H:=H1
       clear H1
       exact absurd ((Option.some.inj H).trans HTr.out) (by decide)
     ·rw [if_neg c16] at H
      exact absurd H (by simp)
    ·rw [if_neg c15] at H
     exact absurd H (by simp)
theorem aU.calls (k : Nat)  (r : Bool) (w : World) (h : aU.f k  = some r) (hG : GW.GW w) :   Calls Tryz.prog 8 #[] w fun e w'=>e = .returned (.bool r) ∧ Below w.heap.size w w':=by
 cases r with
 | true=>exact aU.kH k true w h hG rfl
 | false=>
  exfalso
  have a : aU.f 60 = some true:=by decide +kernel
  have b:=gX (g:=fun k=>aU.f k) (fun k=>aU.mono k) (Nat.le_max_left k 60) h
  have c:=gX (g:=fun k=>aU.f k) (fun k=>aU.mono k) (Nat.le_max_right k 60) a
  exact Bool.noConfusion (Option.some.inj (b.symm.trans c))
end Go.Proofs.YtpncpefppifgdaaGreatDoor.GUt
