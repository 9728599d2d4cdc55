/- Written by this session's own program (wip/gen.py) out of the translation: plain Lean functions of the Go functions, and proofs that the calls come to their answers. No conditions beside those in the statements. -/
import Derived.Test.YtpncpefppifgdaaGreatDoorUpTwo
import Derived.Test.YtpncpefppifgdaaGreatDoorCp
import Derived.Test.YtpncpefppifgdaaGreatDoorGUtx0
import Derived.Test.YtpncpefppifgdaaGreatDoorGUtx1
import Derived.Test.YtpncpefppifgdaaGreatDoorGUtx14
import Derived.Test.YtpncpefppifgdaaGreatDoorGUtx15
import Derived.Test.YtpncpefppifgdaaGreatDoorGUtx16
import Derived.Test.YtpncpefppifgdaaGreatDoorGUtx17
import Derived.Test.YtpncpefppifgdaaGreatDoorGC2RSame
import Derived.Test.YtpncpefppifgdaaGreatDoorGUtOfs
import Derived.Test.YtpncpefppifgdaaGreatDoorGUtUp
import Derived.Test.YtpncpefppifgdaaGreatDoorGW
namespace Go.Proofs.YtpncpefppifgdaaGreatDoor.GUt
open Go.RowKit Go.Proofs.YtpncpefppifgdaaGreatDoorW.PrintWords Go.Proofs.YtpncpefppifgdaaGreatDoorW.PrintLast Go.Proofs.YtpncpefppifgdaaGreatDoorW.PrintMore
attribute [local go_sem] fZ gq gM gN fM fO gu gD
set_option linter.unusedVariables false
set_option linter.unusedSimpArgs false
def aK.j0 : Nat → Bool → Int → List (S67) → Int → List (S71) → Option (Bool)
 | 0,_,_,_,_,_=>none
 | k + 1,Iy,D5,D6,Ei,Ej=>if Iy = true then ((aW.f k).bind fun Em=>(some Em)) else ((bS.f k D5 D6).bind fun Dv=>((aY.f k Ei Ej).bind fun Dy=>((aW.f k).bind fun DN=>(if DN = true then ((dP.f D5 D6).bind fun Dc=>((aY.f k Dc.1 Dc.2).bind fun CS=>((aR.f k Dv.1 Dv.2).bind fun CQ=>((dB.f CS.1 CS.2 CQ.1 CQ.2).bind fun Dl=>(if Dl = true then ((bY.f Ei Ej).bind fun Cj=>((bH.f Cj.1 Cj.2).bind fun Ci=>((aD.f k Dy.1 Dy.2).bind fun Cc=>((aC.f k Ci.1 Ci.2 Cc.1 Cc.2).bind fun CY=>(if CY = true then ((dG.f D5 D6).bind fun BQ=>((bH.f BQ.1 BQ.2).bind fun BP=>((aR.f k Dv.1 Dv.2).bind fun BO=>((aD.f k BO.1 BO.2).bind fun BK=>((aC.f k BP.1 BP.2 BK.1 BK.2).bind fun Cq=>(some Cq)))))) else (some false)))))) else (some false)))))) else (some false)))))
def aK.f (k : Nat) (BN : Int) (BJ : List (S67)) (BU : Int) (BR : List (S71)) : Option (Bool):=(bL.f k BN BJ).bind fun En=>(if En = true then ((aZ.f k BU BR).bind fun Dz=>(aK.j0 k (!Dz) BN BJ BU BR)) else (aK.j0 k true BN BJ BU BR))
theorem aK.eB : ∀ k,(∀ y0 y1 y2 y3 y4,LeO (aK.j0 k y0 y1 y2 y3 y4) (aK.j0 (k + 1) y0 y1 y2 y3 y4))
 | 0=>fun _ _ _ _ _ r h=>by simp [aK.j0] at h
 | k + 1=>by
  have Fe:=aK.eB k
  ·intro y0 y1 y2 y3 y4
   unfold aK.j0
   repeat' first
   | (with_reducible exact Fe _ _ _ _ _)
   | (with_reducible exact bS.mono _ _ _)
   | (with_reducible exact bL.mono _ _ _)
   | (with_reducible exact aY.mono _ _ _)
   | (with_reducible exact aZ.mono _ _ _)
   | (with_reducible exact aW.mono _)
   | (with_reducible exact aC.mono _ _ _ _ _)
   | (with_reducible exact aD.mono _ _ _)
   | (with_reducible exact aR.mono _ _ _)
   | (with_reducible exact LeO.refl _)
   | (with_reducible exact LeO.none _)
   | (with_reducible refine LeO.ite ?_ ?_)
   | (with_reducible refine LeO.bind ?_ (fun _=>?_))
   | exact Fe _ _ _ _ _
   | exact bS.mono _ _ _
   | exact bL.mono _ _ _
   | exact aY.mono _ _ _
   | exact aZ.mono _ _ _
   | exact aW.mono _
   | exact aC.mono _ _ _ _ _
   | exact aD.mono _ _ _
   | exact aR.mono _ _ _
   | exact LeO.none _
   | refine LeO.ite ?_ ?_
   | refine LeO.bind ?_ (fun _=>?_)
theorem aK.mono : ∀ a0 a1 a2 a3 k,LeO (aK.f k a0 a1 a2 a3) (aK.f (k + 1) a0 a1 a2 a3):=by
 intro a0 a1 a2 a3 k
 have Fe:=aK.eB k
 unfold aK.f
 repeat' first
   | (with_reducible exact Fe _ _ _ _ _)
   | (with_reducible exact bS.mono _ _ _)
   | (with_reducible exact bL.mono _ _ _)
   | (with_reducible exact aY.mono _ _ _)
   | (with_reducible exact aZ.mono _ _ _)
   | (with_reducible exact aW.mono _)
   | (with_reducible exact aC.mono _ _ _ _ _)
   | (with_reducible exact aD.mono _ _ _)
   | (with_reducible exact aR.mono _ _ _)
   | (with_reducible exact LeO.refl _)
   | (with_reducible exact LeO.none _)
   | (with_reducible refine LeO.ite ?_ ?_)
   | (with_reducible refine LeO.bind ?_ (fun _=>?_))
   | exact Fe _ _ _ _ _
   | exact bS.mono _ _ _
   | exact bL.mono _ _ _
   | exact aY.mono _ _ _
   | exact aZ.mono _ _ _
   | exact aW.mono _
   | exact aC.mono _ _ _ _ _
   | exact aD.mono _ _ _
   | exact aR.mono _ _ _
   | exact LeO.none _
   | refine LeO.ite ?_ ?_
   | refine LeO.bind ?_ (fun _=>?_)
def aK.T3 : Bool × List (List Nat × List Nat):=(true,[([],[]),([0],[0]),([],[]),([2,1],[2]),([],[]),([],[]),([4,1,3,0,1,4,5],[1,4]),([5,3,6,0,1,2,3,4,5,6],[3,5])])
def aK.B3 : List Nat:=[0,1,0,7,0,0,63,127]
theorem aK.Br : gX .any (opsOf Tryz.f3 3) = aK.T3:=by kernel_rfl
theorem aK.AP : fU aK.T3.2 aK.B3 = true:=by kernel_rfl
def aK.T4 : Bool × List (List Nat × List Nat):=(true,[([],[]),([0,0],[0]),([1],[1]),([2,1,1],[1,2]),([3,3,1],[1,3]),([1],[1]),([5,4,1],[1,5]),([4,6,6,1],[1,4,6]),([1,7],[1,7]),([8,7],[8]),([9],[9]),([10,9,9],[9,10]),([11,11,9],[9,11]),([9],[9]),([13,12,9],[9,13]),([12,14,14,9],[9,12,14]),([9,15],[9,15]),([16,15],[16]),([17],[17]),([18,17,17],[17,18]),([19,19,17],[17,19]),([17],[17]),([21,20,17],[17,21]),([22,22,17],[17,22]),([20,23,23,17],[17,20,23]),([17,24],[17,24]),([25,24,0,1,2,3,4,5,6,7,8,9,10,11,12,13,14,15,16,17,18,19,20,21,22,23,24,25],[25])])
def aK.B4 : List Nat:=[0,1,3,7,15,3,63,127,255,511,1023,2047,4095,1023,16383,32767,65535,131071,262143,524287,1048575,262143,4194303,8388607,16777215,33554431,67108863]
theorem aK.Bt : gX .any (opsOf Tryz.f3 4) = aK.T4:=by kernel_rfl
theorem aK.AQ : fU aK.T4.2 aK.B4 = true:=by kernel_rfl
set_option maxHeartbeats 8000000 in
set_option maxRecDepth 100000 in
theorem aK.calls (k : Nat) (BN : Int) (Cn : Option Addr) (Co : Nat) (BJ : List (S67)) (BU : Int) (CB : Option Addr) (CF : Nat) (BR : List (S71)) (r : Bool) (w : World) (E8 : Kd.C k67 w Cn BJ.length BJ) (E9 : BJ.length ≤ Co) (Fa : Kd.C k71 w CB BR.length BR) (Fb : BR.length ≤ CF) (h : aK.f k BN BJ BU BR = some r) (hG : GW.GW w) (hT : r = true) :
  Calls Tryz.prog 3 #[.agg #[.int .u32 BN,.slice Cn BJ.length Co],.agg #[.int .u64 BU,.slice CB BR.length CF]] w fun e w'=>e = .returned (.bool r) ∧ Below w.heap.size w w':=by
 have HTr:=Aside0.mk hT
 clear hT
 have Iz:=Tryz.underlying25
 have IB:=Tryz.underlying29
 have IC:=Tryz.underlying35
 have IE:=Tryz.underlying39
 have D7:=Aside0.mk E8
 have D8:=Aside0.mk E9
 clear E8 E9
 have Er:=Aside0.mk Fa
 have Es:=Aside0.mk Fb
 clear Fa Fb
 have HB:=Aside0.mk (Below.refl w.heap.size w)
 have H : ((bL.f k BN BJ).bind fun En=>(if En = true then ((aZ.f k BU BR).bind fun Dz=>(aK.j0 k (!Dz) BN BJ BU BR)) else (aK.j0 k true BN BJ BU BR))) = some r:=h
 clear h
 have GR:=Aside0.mk H
 clear H
 go_enter Tryz.func3,Tryz.ntmps3
 go_upto_region 1 with (first|((with_reducible refine dz (N:=2) rfl ?_);refine dJ ?hg (N:=2) ?hd (cs:=#[.int .u32 BN,.slice Cn BJ.length Co]) (t:=25) ?hr ?_;(case hd=>rfl);(case hg=>rfl);(case hr=>first|(go_simp;done)|(go_simp;rfl));intro BG hg w4 hbox hb;have CK:=Aside0.mk (aN hb_ hb);have CO:=Aside0.mk (hbox);have CP:=Aside0.mk ((by rw [hg];exact (aU hb_) : w.heap.size ≤ BG));have C8:=Aside0.mk ((by rw [hg];exact (aU hb_) : w.heap.size ≤ BG));clear HB;have HB:=CK;have Bu:=CO;have Hr:=CP;have Ht:=C8;clear CK CO CP C8;clear hb hbox hg)|((with_reducible refine dz (N:=3) rfl ?_);refine dJ ?hg (N:=3) ?hd (cs:=#[.int .u64 BU,.slice CB BR.length CF]) (t:=29) ?hr ?_;(case hd=>rfl);(case hg=>rfl);(case hr=>first|(go_simp;done)|(go_simp;rfl));intro BL hg w5 hbox hb;have CK:=Aside0.mk (aI (g:=BG) (o:=.cells #[.int .u32 BN,.slice Cn BJ.length Co] 25 (0,0)) (bk_ Bu.out) hb);have CO:=Aside0.mk (aN hb_ hb);have CP:=Aside0.mk (hbox);have C8:=Aside0.mk ((by rw [hg];exact (aU hb_) : w.heap.size ≤ BL));have C9:=Aside0.mk ((by rw [hg];exact (aU hb_) : w.heap.size ≤ BL));have Da:=Aside0.mk ((by rw [hg];exact Nat.ne_of_lt (bE (g:=BG) (o:=.cells #[.int .u32 BN,.slice Cn BJ.length Co] 25 (0,0)) (bk_ Bu.out)) : BG ≠ BL));have Db:=Aside0.mk ((by rw [hg];exact Nat.ne_of_gt (bE (g:=BG) (o:=.cells #[.int .u32 BN,.slice Cn BJ.length Co] 25 (0,0)) (bk_ Bu.out)) : BL ≠ BG));clear Bu;clear HB;have Bu:=CK;have HB:=CO;have Bv:=CP;have Hu:=C8;have Hw:=C9;have DT:=Da;have DU:=Db;clear CK CO CP C8 C9 Da Db;clear hb hbox hg))
 (try simp only [Act.put,List.setIfInBounds_toArray,List.set_cons_zero,List.set_cons_succ])
 go_cut [14] (fun v14 wc=>∃ (kq : Nat) (El : Bool),v14 = .bool El ∧ Aside0 (aK.j0 kq El BN BJ BU BR = some r) ∧ Aside0 (kq ≤ k) ∧ Aside0 (wc.heap[BG]? = some (.cells #[.int .u32 BN,(.slice Cn BJ.length Co)] 25 (0,0))) ∧ Aside0 (wc.heap[BL]? = some (.cells #[.int .u64 BU,(.slice CB BR.length CF)] 29 (0,0))) ∧ Aside0 (Below w.heap.size w wc))
 case first =>
  have H:=GR.out
  clear GR
  replace H:=Option.bind_eq_some_iff.mp H
  obtain ⟨En,Hy,H⟩:=H
  replace H : (if En = true then ((aZ.f k BU BR).bind fun Dz=>(aK.j0 k (!Dz) BN BJ BU BR)) else (aK.j0 k true BN BJ BU BR)) = some r:=H
  have A6:=Aside0.mk Hy
  clear Hy
  by_cases c7 : En = true
  ·subst c7
   have H1 : ((aZ.f k BU BR).bind fun Dz=>(aK.j0 k (!Dz) BN BJ BU BR)) = some r:=by rw [if_pos rfl] at H;exact H
   clear H
   have H:=H1
   clear H1
   replace H:=Option.bind_eq_some_iff.mp H
   obtain ⟨Dz,Hz,H⟩:=H
   replace H : (aK.j0 k (!Dz) BN BJ BU BR) = some r:=H
   have A8:=Aside0.mk Hz
   clear Hz
   have H':=Aside0.mk H
   clear H
   have IG:=DT.out
   have II:=DU.out
   have Ey : w5.cell? ⟨BG,0,none⟩ = some (.int .u32 BN):=(ah Bu.out 0).trans rfl
   have Ez : w5.cell? ⟨BG,1,none⟩ = some (.slice Cn BJ.length Co):=(ah Bu.out 1).trans rfl
   have EA:=ay Bu.out 0
   have EB:=ay Bu.out 1
   go_wp2_with (first|((with_reducible refine bO (f:=6) rfl ?_);refine dZ (some 8) rfl rfl Tryz.func6 (by kernel_rfl) rfl #[.agg #[.int .u32 BN,.slice Cn BJ.length Co]] rfl (by (try simp only [List.map_toArray,List.map_cons,List.map_nil]);first|done|rfl|(simp only [List.length_drop,List.length_take];rfl)|(simp (disch:=first|omega|(simp at *;omega)) only [eu,dD,fA];rfl)) ?_;(with_reducible refine (bL.calls k BN _ _ BJ true _ ?Ck ?Cr A6.out).mono ?_);(case Ck=>repeat (first|exact (Kd.cZ D7.out HB.out)|(with_reducible refine Kd.dn ?_ _)|(with_reducible refine Kd.dw ?_ _)|(with_reducible refine Kd.dL ?_)));(case Cr=>exact D8.out);rintro e H6 ⟨rfl,hb⟩;refine ⟨_,rfl,?_⟩;have CK:=Aside0.mk (aI (g:=BG) (o:=.cells #[.int .u32 BN,.slice Cn BJ.length Co] 25 (0,0)) (bk_ Bu.out) hb);have CO:=Aside0.mk (aI (g:=BL) (o:=.cells #[.int .u64 BU,.slice CB BR.length CF] 29 (0,0)) (bk_ Bv.out) hb);have CP:=Aside0.mk (aN hb_ hb);clear Bu;clear Bv;clear HB;have Bu:=CK;have Bv:=CO;have HB:=CP;clear CK CO CP;(try clear hb);(try clear hb2);(try clear hk);(try clear hi);have EC : H6.cell? ⟨BL,0,none⟩ = some (.int .u64 BU):=(ah Bv.out 0).trans rfl;have ED : H6.cell? ⟨BL,1,none⟩ = some (.slice CB BR.length CF):=(ah Bv.out 1).trans rfl;have EF:=ay Bv.out 0;have EG:=ay Bv.out 1)|(go_at_call 7;(with_reducible refine (aZ.calls k BU _ _ BR Dz _ ?Ck ?Cr A8.out).mono ?_);(case Ck=>repeat (first|exact (Kd.cZ Er.out HB.out)|(with_reducible refine Kd.dn ?_ _)|(with_reducible refine Kd.dw ?_ _)|(with_reducible refine Kd.dL ?_)));(case Cr=>exact Es.out);rintro e Jr ⟨rfl,hb⟩;have CK:=Aside0.mk (aI (g:=BG) (o:=.cells #[.int .u32 BN,.slice Cn BJ.length Co] 25 (0,0)) (bk_ Bu.out) hb);have CO:=Aside0.mk (aI (g:=BL) (o:=.cells #[.int .u64 BU,.slice CB BR.length CF] 29 (0,0)) (bk_ Bv.out) hb);have CP:=Aside0.mk (aN hb_ hb);clear Bu;clear Bv;clear HB;have Bu:=CK;have Bv:=CO;have HB:=CP;clear CK CO CP;(try clear hb);(try clear hb2);(try clear hk);(try clear hi)))
   go_meet
   case rel=>exact ⟨_,(!Dz),(by first|rfl|(simp;done)|(simp [*];done)),H',⟨by first|omega|exact Nat.le_refl _⟩,⟨by (with_reducible repeat (first|apply aj|apply av|apply ak));exact Bu.out⟩,⟨by (with_reducible repeat (first|apply aj|apply av|apply ak));exact Bv.out⟩,⟨hb_⟩⟩
  ·replace c7:=Bool.eq_false_iff.mpr c7
   subst c7
   have H1 : (aK.j0 k true BN BJ BU BR) = some r:=by rw [if_neg (show ¬ (false = true) by decide)] at H;exact H
   clear H
   have H:=H1
   clear H1
   have H':=Aside0.mk H
   clear H
   have H7:=DT.out
   have H8:=DU.out
   have EH : w5.cell? ⟨BG,0,none⟩ = some (.int .u32 BN):=(ah Bu.out 0).trans rfl
   have EI : w5.cell? ⟨BG,1,none⟩ = some (.slice Cn BJ.length Co):=(ah Bu.out 1).trans rfl
   have EJ:=ay Bu.out 0
   have EK:=ay Bu.out 1
   go_wp2_with (first|((with_reducible refine bO (f:=6) rfl ?_);refine dZ (some 8) rfl rfl Tryz.func6 (by kernel_rfl) rfl #[.agg #[.int .u32 BN,.slice Cn BJ.length Co]] rfl (by (try simp only [List.map_toArray,List.map_cons,List.map_nil]);first|done|rfl|(simp only [List.length_drop,List.length_take];rfl)|(simp (disch:=first|omega|(simp at *;omega)) only [eu,dD,fA];rfl)) ?_;(with_reducible refine (bL.calls k BN _ _ BJ false _ ?Ck ?Cr A6.out).mono ?_);(case Ck=>repeat (first|exact (Kd.cZ D7.out HB.out)|(with_reducible refine Kd.dn ?_ _)|(with_reducible refine Kd.dw ?_ _)|(with_reducible refine Kd.dL ?_)));(case Cr=>exact D8.out);rintro e w16 ⟨rfl,hb⟩;refine ⟨_,rfl,?_⟩;have CK:=Aside0.mk (aI (g:=BG) (o:=.cells #[.int .u32 BN,.slice Cn BJ.length Co] 25 (0,0)) (bk_ Bu.out) hb);have CO:=Aside0.mk (aI (g:=BL) (o:=.cells #[.int .u64 BU,.slice CB BR.length CF] 29 (0,0)) (bk_ Bv.out) hb);have CP:=Aside0.mk (aN hb_ hb);clear Bu;clear Bv;clear HB;have Bu:=CK;have Bv:=CO;have HB:=CP;clear CK CO CP;(try clear hb);(try clear hb2);(try clear hk);(try clear hi)))
   go_meet
   case rel=>exact ⟨_,(true),(by first|rfl|(simp;done)|(simp [*];done)),H',⟨by first|omega|exact Nat.le_refl _⟩,⟨by (with_reducible repeat (first|apply aj|apply av|apply ak));exact Bu.out⟩,⟨by (with_reducible repeat (first|apply aj|apply av|apply ak));exact Bv.out⟩,⟨hb_⟩⟩
 case rest =>
  clear GR
  try clear c1
  try clear p2
  try clear c3
  try clear c6
  try clear c7
  try clear c9
  try clear c14
  try clear Ey
  try clear Ez
  try clear EC
  try clear ED
  try clear EH
  try clear EI
  try clear EA
  try clear EB
  try clear EF
  try clear EG
  try clear EJ
  try clear EK
  obtain ⟨kq,El,rfl,HA,HJ2,Bu,Bv,HB⟩:=hcut
  cases kq with
  | zero=>exact absurd HA.out (by simp [aK.j0])
  | succ Ch =>
   have H:=HA.out
   clear HA
   simp only [aK.j0] at H
   by_cases c17 : El = true
   ·subst c17
    have H1 : ((aW.f Ch).bind fun Em=>(some Em)) = some r:=by rw [if_pos rfl] at H;exact H
    clear H
    have H:=H1
    clear H1
    replace H:=Option.bind_eq_some_iff.mp H
    obtain ⟨Em,Fg,H⟩:=H
    replace H : (some Em) = some r:=H
    have IJ:=Aside0.mk Fg
    clear Fg
    obtain rfl:=Option.some.inj H
    go_wp2_with (first|((with_reducible refine bO (f:=8) rfl ?_);refine dZ (some 15) rfl rfl Tryz.func8 (by kernel_rfl) rfl #[] rfl (by (try simp only [List.map_toArray,List.map_cons,List.map_nil]);first|done|rfl|(simp only [List.length_drop,List.length_take];rfl)|(simp (disch:=first|omega|(simp at *;omega)) only [eu,dD,fA];rfl)) ?_;(with_reducible refine (aW.calls Ch  Em _ IJ.out (by first|assumption|exact GW.below hG (by first|exact HB.out|assumption|(repeat (first|(with_reducible first|exact HB.out|apply bW|apply aV|apply bF)|exact HB.out)))|exact GW.drawn hG (by first|assumption|(repeat (first|exact Drawn0.refl _|assumption|apply Drawn0.step))))).mono ?_);rintro e Js ⟨rfl,hb⟩;refine ⟨_,rfl,?_⟩;have CK:=Aside0.mk (aI (g:=BG) (o:=.cells #[.int .u32 BN,.slice Cn BJ.length Co] 25 (0,0)) (bk_ Bu.out) hb);have CO:=Aside0.mk (aI (g:=BL) (o:=.cells #[.int .u64 BU,.slice CB BR.length CF] 29 (0,0)) (bk_ Bv.out) hb);have CP:=Aside0.mk (aN hb_ hb);clear Bu;clear Bv;clear HB;have Bu:=CK;have Bv:=CO;have HB:=CP;clear CK CO CP;(try clear hb);(try clear hb2);(try clear hk);(try clear hi)))
    go_ret
    exact ⟨by first|rfl|(simp [bB,bC] <;> rfl)|(simp [*,bB,bC] <;> rfl),hb_⟩
   ·replace c17:=Bool.eq_false_iff.mpr c17
    subst c17
    have H1 : ((bS.f Ch BN BJ).bind fun Dv=>((aY.f Ch BU BR).bind fun Dy=>((aW.f Ch).bind fun DN=>(if DN = true then ((dP.f BN BJ).bind fun Dc=>((aY.f Ch Dc.1 Dc.2).bind fun CS=>((aR.f Ch Dv.1 Dv.2).bind fun CQ=>((dB.f CS.1 CS.2 CQ.1 CQ.2).bind fun Dl=>(if Dl = true then ((bY.f BU BR).bind fun Cj=>((bH.f Cj.1 Cj.2).bind fun Ci=>((aD.f Ch Dy.1 Dy.2).bind fun Cc=>((aC.f Ch Ci.1 Ci.2 Cc.1 Cc.2).bind fun CY=>(if CY = true then ((dG.f BN BJ).bind fun BQ=>((bH.f BQ.1 BQ.2).bind fun BP=>((aR.f Ch Dv.1 Dv.2).bind fun BO=>((aD.f Ch BO.1 BO.2).bind fun BK=>((aC.f Ch BP.1 BP.2 BK.1 BK.2).bind fun Cq=>(some Cq)))))) else (some false)))))) else (some false)))))) else (some false))))) = some r:=by rw [if_neg (show ¬ (false = true) by decide)] at H;exact H
    clear H
    have H:=H1
    clear H1
    replace H:=Option.bind_eq_some_iff.mp H
    obtain ⟨⟨Ca,BS⟩,Fh,H⟩:=H
    replace H : ((aY.f Ch BU BR).bind fun Dy=>((aW.f Ch).bind fun DN=>(if DN = true then ((dP.f BN BJ).bind fun Dc=>((aY.f Ch Dc.1 Dc.2).bind fun CS=>((aR.f Ch Ca BS).bind fun CQ=>((dB.f CS.1 CS.2 CQ.1 CQ.2).bind fun Dl=>(if Dl = true then ((bY.f BU BR).bind fun Cj=>((bH.f Cj.1 Cj.2).bind fun Ci=>((aD.f Ch Dy.1 Dy.2).bind fun Cc=>((aC.f Ch Ci.1 Ci.2 Cc.1 Cc.2).bind fun CY=>(if CY = true then ((dG.f BN BJ).bind fun BQ=>((bH.f BQ.1 BQ.2).bind fun BP=>((aR.f Ch Ca BS).bind fun BO=>((aD.f Ch BO.1 BO.2).bind fun BK=>((aC.f Ch BP.1 BP.2 BK.1 BK.2).bind fun Cq=>(some Cq)))))) else (some false)))))) else (some false)))))) else (some false)))) = some r:=H
    have IK:=Aside0.mk Fh
    clear Fh
    replace H:=Option.bind_eq_some_iff.mp H
    obtain ⟨⟨Cm,Cg⟩,Fj,H⟩:=H
    replace H : ((aW.f Ch).bind fun DN=>(if DN = true then ((dP.f BN BJ).bind fun Dc=>((aY.f Ch Dc.1 Dc.2).bind fun CS=>((aR.f Ch Ca BS).bind fun CQ=>((dB.f CS.1 CS.2 CQ.1 CQ.2).bind fun Dl=>(if Dl = true then ((bY.f BU BR).bind fun Cj=>((bH.f Cj.1 Cj.2).bind fun Ci=>((aD.f Ch Cm Cg).bind fun Cc=>((aC.f Ch Ci.1 Ci.2 Cc.1 Cc.2).bind fun CY=>(if CY = true then ((dG.f BN BJ).bind fun BQ=>((bH.f BQ.1 BQ.2).bind fun BP=>((aR.f Ch Ca BS).bind fun BO=>((aD.f Ch BO.1 BO.2).bind fun BK=>((aC.f Ch BP.1 BP.2 BK.1 BK.2).bind fun Cq=>(some Cq)))))) else (some false)))))) else (some false)))))) else (some false))) = some r:=H
    have IL:=Aside0.mk Fj
    clear Fj
    replace H:=Option.bind_eq_some_iff.mp H
    obtain ⟨DN,Fp,H⟩:=H
    replace H : (if DN = true then ((dP.f BN BJ).bind fun Dc=>((aY.f Ch Dc.1 Dc.2).bind fun CS=>((aR.f Ch Ca BS).bind fun CQ=>((dB.f CS.1 CS.2 CQ.1 CQ.2).bind fun Dl=>(if Dl = true then ((bY.f BU BR).bind fun Cj=>((bH.f Cj.1 Cj.2).bind fun Ci=>((aD.f Ch Cm Cg).bind fun Cc=>((aC.f Ch Ci.1 Ci.2 Cc.1 Cc.2).bind fun CY=>(if CY = true then ((dG.f BN BJ).bind fun BQ=>((bH.f BQ.1 BQ.2).bind fun BP=>((aR.f Ch Ca BS).bind fun BO=>((aD.f Ch BO.1 BO.2).bind fun BK=>((aC.f Ch BP.1 BP.2 BK.1 BK.2).bind fun Cq=>(some Cq)))))) else (some false)))))) else (some false)))))) else (some false)) = some r:=H
    have IQ:=Aside0.mk Fp
    clear Fp
    by_cases c23 : DN = true
    ·subst c23
     have H1 : ((dP.f BN BJ).bind fun Dc=>((aY.f Ch Dc.1 Dc.2).bind fun CS=>((aR.f Ch Ca BS).bind fun CQ=>((dB.f CS.1 CS.2 CQ.1 CQ.2).bind fun Dl=>(if Dl = true then ((bY.f BU BR).bind fun Cj=>((bH.f Cj.1 Cj.2).bind fun Ci=>((aD.f Ch Cm Cg).bind fun Cc=>((aC.f Ch Ci.1 Ci.2 Cc.1 Cc.2).bind fun CY=>(if CY = true then ((dG.f BN BJ).bind fun BQ=>((bH.f BQ.1 BQ.2).bind fun BP=>((aR.f Ch Ca BS).bind fun BO=>((aD.f Ch BO.1 BO.2).bind fun BK=>((aC.f Ch BP.1 BP.2 BK.1 BK.2).bind fun Cq=>(some Cq)))))) else (some false)))))) else (some false)))))) = some r:=by rw [if_pos rfl] at H;exact H
     clear H
     have H:=H1
     clear H1
     replace H:=Option.bind_eq_some_iff.mp H
     obtain ⟨⟨EL,EM⟩,Fq,H⟩:=H
     replace H : ((aY.f Ch EL EM).bind fun CS=>((aR.f Ch Ca BS).bind fun CQ=>((dB.f CS.1 CS.2 CQ.1 CQ.2).bind fun Dl=>(if Dl = true then ((bY.f BU BR).bind fun Cj=>((bH.f Cj.1 Cj.2).bind fun Ci=>((aD.f Ch Cm Cg).bind fun Cc=>((aC.f Ch Ci.1 Ci.2 Cc.1 Cc.2).bind fun CY=>(if CY = true then ((dG.f BN BJ).bind fun BQ=>((bH.f BQ.1 BQ.2).bind fun BP=>((aR.f Ch Ca BS).bind fun BO=>((aD.f Ch BO.1 BO.2).bind fun BK=>((aC.f Ch BP.1 BP.2 BK.1 BK.2).bind fun Cq=>(some Cq)))))) else (some false)))))) else (some false))))) = some r:=H
     have IU:=Aside0.mk Fq
     clear Fq
     replace H:=Option.bind_eq_some_iff.mp H
     obtain ⟨⟨Et,DC⟩,Fu,H⟩:=H
     replace H : ((aR.f Ch Ca BS).bind fun CQ=>((dB.f Et DC CQ.1 CQ.2).bind fun Dl=>(if Dl = true then ((bY.f BU BR).bind fun Cj=>((bH.f Cj.1 Cj.2).bind fun Ci=>((aD.f Ch Cm Cg).bind fun Cc=>((aC.f Ch Ci.1 Ci.2 Cc.1 Cc.2).bind fun CY=>(if CY = true then ((dG.f BN BJ).bind fun BQ=>((bH.f BQ.1 BQ.2).bind fun BP=>((aR.f Ch Ca BS).bind fun BO=>((aD.f Ch BO.1 BO.2).bind fun BK=>((aC.f Ch BP.1 BP.2 BK.1 BK.2).bind fun Cq=>(some Cq)))))) else (some false)))))) else (some false)))) = some r:=H
     have IV:=Aside0.mk Fu
     clear Fu
     replace H:=Option.bind_eq_some_iff.mp H
     obtain ⟨⟨EN,DR⟩,Fv,H⟩:=H
     replace H : ((dB.f Et DC EN DR).bind fun Dl=>(if Dl = true then ((bY.f BU BR).bind fun Cj=>((bH.f Cj.1 Cj.2).bind fun Ci=>((aD.f Ch Cm Cg).bind fun Cc=>((aC.f Ch Ci.1 Ci.2 Cc.1 Cc.2).bind fun CY=>(if CY = true then ((dG.f BN BJ).bind fun BQ=>((bH.f BQ.1 BQ.2).bind fun BP=>((aR.f Ch Ca BS).bind fun BO=>((aD.f Ch BO.1 BO.2).bind fun BK=>((aC.f Ch BP.1 BP.2 BK.1 BK.2).bind fun Cq=>(some Cq)))))) else (some false)))))) else (some false))) = some r:=H
     have IW:=Aside0.mk Fv
     clear Fv
     replace H:=Option.bind_eq_some_iff.mp H
     obtain ⟨Dl,Fw,H⟩:=H
     replace H : (if Dl = true then ((bY.f BU BR).bind fun Cj=>((bH.f Cj.1 Cj.2).bind fun Ci=>((aD.f Ch Cm Cg).bind fun Cc=>((aC.f Ch Ci.1 Ci.2 Cc.1 Cc.2).bind fun CY=>(if CY = true then ((dG.f BN BJ).bind fun BQ=>((bH.f BQ.1 BQ.2).bind fun BP=>((aR.f Ch Ca BS).bind fun BO=>((aD.f Ch BO.1 BO.2).bind fun BK=>((aC.f Ch BP.1 BP.2 BK.1 BK.2).bind fun Cq=>(some Cq)))))) else (some false)))))) else (some false)) = some r:=H
     have IX:=Aside0.mk Fw
     clear Fw
     by_cases c28 : Dl = true
     ·subst c28
      have H1 : ((bY.f BU BR).bind fun Cj=>((bH.f Cj.1 Cj.2).bind fun Ci=>((aD.f Ch Cm Cg).bind fun Cc=>((aC.f Ch Ci.1 Ci.2 Cc.1 Cc.2).bind fun CY=>(if CY = true then ((dG.f BN BJ).bind fun BQ=>((bH.f BQ.1 BQ.2).bind fun BP=>((aR.f Ch Ca BS).bind fun BO=>((aD.f Ch BO.1 BO.2).bind fun BK=>((aC.f Ch BP.1 BP.2 BK.1 BK.2).bind fun Cq=>(some Cq)))))) else (some false)))))) = some r:=by rw [if_pos rfl] at H;exact H
      clear H
      have H:=H1
      clear H1
      replace H:=Option.bind_eq_some_iff.mp H
      obtain ⟨⟨EO,EP⟩,Fx,H⟩:=H
      replace H : ((bH.f EO EP).bind fun Ci=>((aD.f Ch Cm Cg).bind fun Cc=>((aC.f Ch Ci.1 Ci.2 Cc.1 Cc.2).bind fun CY=>(if CY = true then ((dG.f BN BJ).bind fun BQ=>((bH.f BQ.1 BQ.2).bind fun BP=>((aR.f Ch Ca BS).bind fun BO=>((aD.f Ch BO.1 BO.2).bind fun BK=>((aC.f Ch BP.1 BP.2 BK.1 BK.2).bind fun Cq=>(some Cq)))))) else (some false))))) = some r:=H
      have IY:=Aside0.mk Fx
      clear Fx
      replace H:=Option.bind_eq_some_iff.mp H
      obtain ⟨⟨Eu,Ew⟩,Fy,H⟩:=H
      replace H : ((aD.f Ch Cm Cg).bind fun Cc=>((aC.f Ch Eu Ew Cc.1 Cc.2).bind fun CY=>(if CY = true then ((dG.f BN BJ).bind fun BQ=>((bH.f BQ.1 BQ.2).bind fun BP=>((aR.f Ch Ca BS).bind fun BO=>((aD.f Ch BO.1 BO.2).bind fun BK=>((aC.f Ch BP.1 BP.2 BK.1 BK.2).bind fun Cq=>(some Cq)))))) else (some false)))) = some r:=H
      have IZ:=Aside0.mk Fy
      clear Fy
      replace H:=Option.bind_eq_some_iff.mp H
      obtain ⟨⟨ER,Ec⟩,Fz,H⟩:=H
      replace H : ((aC.f Ch Eu Ew ER Ec).bind fun CY=>(if CY = true then ((dG.f BN BJ).bind fun BQ=>((bH.f BQ.1 BQ.2).bind fun BP=>((aR.f Ch Ca BS).bind fun BO=>((aD.f Ch BO.1 BO.2).bind fun BK=>((aC.f Ch BP.1 BP.2 BK.1 BK.2).bind fun Cq=>(some Cq)))))) else (some false))) = some r:=H
      have I4:=Aside0.mk Fz
      clear Fz
      replace H:=Option.bind_eq_some_iff.mp H
      obtain ⟨CY,FB,H⟩:=H
      replace H : (if CY = true then ((dG.f BN BJ).bind fun BQ=>((bH.f BQ.1 BQ.2).bind fun BP=>((aR.f Ch Ca BS).bind fun BO=>((aD.f Ch BO.1 BO.2).bind fun BK=>((aC.f Ch BP.1 BP.2 BK.1 BK.2).bind fun Cq=>(some Cq)))))) else (some false)) = some r:=H
      have I5:=Aside0.mk FB
      clear FB
      by_cases Gh : CY = true
      ·subst Gh
       have H1 : ((dG.f BN BJ).bind fun BQ=>((bH.f BQ.1 BQ.2).bind fun BP=>((aR.f Ch Ca BS).bind fun BO=>((aD.f Ch BO.1 BO.2).bind fun BK=>((aC.f Ch BP.1 BP.2 BK.1 BK.2).bind fun Cq=>(some Cq)))))) = some r:=by rw [if_pos rfl] at H;exact H
       clear H
       have H:=H1
       clear H1
       replace H:=Option.bind_eq_some_iff.mp H
       obtain ⟨⟨ES,ET⟩,FC,H⟩:=H
       replace H : ((bH.f ES ET).bind fun BP=>((aR.f Ch Ca BS).bind fun BO=>((aD.f Ch BO.1 BO.2).bind fun BK=>((aC.f Ch BP.1 BP.2 BK.1 BK.2).bind fun Cq=>(some Cq))))) = some r:=H
       have I6:=Aside0.mk FC
       clear FC
       replace H:=Option.bind_eq_some_iff.mp H
       obtain ⟨⟨Eo,Ep⟩,FD,H⟩:=H
       replace H : ((aR.f Ch Ca BS).bind fun BO=>((aD.f Ch BO.1 BO.2).bind fun BK=>((aC.f Ch Eo Ep BK.1 BK.2).bind fun Cq=>(some Cq)))) = some r:=H
       have I7:=Aside0.mk FD
       clear FD
       replace H:=Option.bind_eq_some_iff.mp H
       obtain ⟨⟨EU,EW⟩,FE,H⟩:=H
       replace H : ((aD.f Ch EU EW).bind fun BK=>((aC.f Ch Eo Ep BK.1 BK.2).bind fun Cq=>(some Cq))) = some r:=H
       have I8:=Aside0.mk FE
       clear FE
       replace H:=Option.bind_eq_some_iff.mp H
       obtain ⟨⟨EX,EY⟩,FH,H⟩:=H
       replace H : ((aC.f Ch Eo Ep EX EY).bind fun Cq=>(some Cq)) = some r:=H
       have I9:=Aside0.mk FH
       clear FH
       replace H:=Option.bind_eq_some_iff.mp H
       obtain ⟨Cq,FI,H⟩:=H
       replace H : (some Cq) = some r:=H
       have Ja:=Aside0.mk FI
       clear FI
       obtain rfl:=Option.some.inj H
       try go_wp2
       have CK:=Aside0.mk (av Bu.out)
       have CO:=Aside0.mk (av Bv.out)
       have CP:=Aside0.mk (bF HB.out)
       clear Bu
       clear Bv
       clear HB
       have Bu:=CK
       have Bv:=CO
       have HB:=CP
       clear CK CO CP
       refine iE (n:=8) (S:=fun w'=>w'.cell? ⟨BG,0,none⟩ = some (.int .u32 BN) ∧ w'.cell? ⟨BG,1,none⟩ = some (.slice Cn BJ.length Co) ∧ w'.cell? ⟨BL,0,none⟩ = some (.int .u64 BU) ∧ w'.cell? ⟨BL,1,none⟩ = some (.slice CB BR.length CF)) (ds:=[]) #[O,O,O,O,O,O,O,O] (by kernel_rfl) rfl rfl ⟨(ah Bu.out 0).trans rfl,(ah Bu.out 1).trans rfl,(ah Bv.out 0).trans rfl,(ah Bv.out 1).trans rfl⟩ (fun hHeld=>?_);refine fC aK.Br aK.AP (fun HT_ HW_=>?_)
       generalize wc.drew = Jt at Bu Bv HB hHeld ⊢
       refine ta_ 0 16 #[I,O,O,O,O,O,O,O] HT_.out HW_.out hHeld ?_
       refine ta_ 2 18 #[I,O,I,O,O,O,O,O] HT_.out HW_.out hHeld ?_
       refine yN (σ:=Value × Value × Nat × Nat) 2 #[I,I,I,I,I,I,O,O] (fun s_=>[(17,.agg #[.int .u32 Ca,s_.1]),(19,.agg #[.int .u64 Cm,s_.2.1]),(5,.pointer (some ⟨s_.2.2.1,0,none⟩)),(6,.pointer (some ⟨s_.2.2.2,0,none⟩))]) (fun s_ w'=>(w'.cell? ⟨BG,0,none⟩ = some (.int .u32 BN) ∧ w'.cell? ⟨BG,1,none⟩ = some (.slice Cn BJ.length Co) ∧ w'.cell? ⟨BL,0,none⟩ = some (.int .u64 BU) ∧ w'.cell? ⟨BL,1,none⟩ = some (.slice CB BR.length CF)) ∧ (Kd.R k85 85 w' w.heap.size (fun _=>True) s_.1 BS) ∧ (Kd.S k88 88 w' w.heap.size (fun _=>True) s_.2.1 Cg) ∧ (w'.heap[BG]? = some (.cells #[.int .u32 BN,.slice Cn BJ.length Co] 25 (0,0))) ∧ (w'.heap[BL]? = some (.cells #[.int .u64 BU,.slice CB BR.length CF] 29 (0,0))) ∧ (w'.heap[s_.2.2.1]? = some (.cells #[.int .u32 0,.slice none 0 0] 35 (0,0))) ∧ (w'.heap[s_.2.2.2]? = some (.cells #[.int .u64 0,.slice none 0 0] 39 (0,0))) ∧ (w.heap.size ≤ s_.2.2.1) ∧ (w.heap.size ≤ s_.2.2.1) ∧ (BG ≠ s_.2.2.1) ∧ (s_.2.2.1 ≠ BG) ∧ (BL ≠ s_.2.2.1) ∧ (s_.2.2.1 ≠ BL) ∧ (s_.2.2.2 ≠ s_.2.2.1) ∧ (s_.2.2.1 ≠ s_.2.2.2) ∧ (w.heap.size ≤ s_.2.2.2) ∧ (w.heap.size ≤ s_.2.2.2) ∧ (BG ≠ s_.2.2.2) ∧ (s_.2.2.2 ≠ BG) ∧ (BL ≠ s_.2.2.2) ∧ (s_.2.2.2 ≠ BL) ∧ (Below w.heap.size w w')) ?_ ?_
       rotate_left
       ·intro hJ
        have HL := Aside0.mk (LC.start (ta := BS) (tb := Cg) HB.out)
        repeat' (first
         | exact fq.nil
         | (refine ac_ 1 17 (fun K hK => ?_) ?_; (refine eH Tryz.func9 (by kernel_rfl) rfl #[.agg #[.int .u32 BN, .slice Cn BJ.length Co]] (by rfl) rfl rfl (by (try simp only [List.map_toArray, List.map_cons, List.map_nil]); first | done | rfl) ?_; refine (bS.calls Ch BN _ _ BJ Ca BS _ (Kd.cZ D7.out HL.out.s) D8.out IK.out).mono ?_; rintro e w1 ⟨va, rfl, hV, hb⟩; refine ⟨_, rfl, ?_⟩; replace HL := Aside0.mk (HL.out.Al hV hb); clear hb hV; refine hK.out _ _ ⟨(ah (aI Bu.out HL.out.d) 0).trans rfl, (ah (aI Bu.out HL.out.d) 1).trans rfl, (ah (aI Bv.out HL.out.d) 0).trans rfl, (ah (aI Bv.out HL.out.d) 1).trans rfl⟩ (fun hHeld => ?_); clear hK K; refine nm_ 17 ?_))
         | (refine ac_ 3 19 (fun K hK => ?_) ?_; (refine eH Tryz.func10 (by kernel_rfl) rfl #[.agg #[.int .u64 BU, .slice CB BR.length CF]] (by rfl) rfl rfl (by (try simp only [List.map_toArray, List.map_cons, List.map_nil]); first | done | rfl) ?_; refine (aY.calls Ch BU _ _ BR Cm Cg _ (Kd.cZ Er.out HL.out.s) Es.out IL.out).mono ?_; rintro e w1 ⟨vb, rfl, hV, hb⟩; refine ⟨_, rfl, ?_⟩; replace HL := Aside0.mk (HL.out.Am hV hb); clear hb hV; refine hK.out _ _ ⟨(ah (aI Bu.out HL.out.d) 0).trans rfl, (ah (aI Bu.out HL.out.d) 1).trans rfl, (ah (aI Bv.out HL.out.d) 0).trans rfl, (ah (aI Bv.out HL.out.d) 1).trans rfl⟩ (fun hHeld => ?_); clear hK K; refine nm_ 19 ?_))
         | (refine ac_ 4 5 (fun K hK => ?_) ?_; (refine kg ?hg (N := 5) ?hd (cs := #[.int .u32 0, .slice none 0 0]) (t := 35) ?hr ?_; (case hd => rfl); (case hg => rfl); (case hr => first | (go_simp; done) | (go_simp; rfl)); intro gx hg w1 hbox hb; replace HL := Aside0.mk (HL.out.A9 hg hbox hb); clear hg hbox hb; refine hK.out _ _ ⟨(ah (aI Bu.out HL.out.d) 0).trans rfl, (ah (aI Bu.out HL.out.d) 1).trans rfl, (ah (aI Bv.out HL.out.d) 0).trans rfl, (ah (aI Bv.out HL.out.d) 1).trans rfl⟩ (fun hHeld => ?_); clear hK K; refine nm_ 5 ?_))
         | (refine ac_ 5 6 (fun K hK => ?_) ?_; (refine kg ?hg (N := 6) ?hd (cs := #[.int .u64 0, .slice none 0 0]) (t := 39) ?hr ?_; (case hd => rfl); (case hg => rfl); (case hr => first | (go_simp; done) | (go_simp; rfl)); intro gy hg w1 hbox hb; replace HL := Aside0.mk (HL.out.Bf hg hbox hb); clear hg hbox hb; refine hK.out _ _ ⟨(ah (aI Bu.out HL.out.d) 0).trans rfl, (ah (aI Bu.out HL.out.d) 1).trans rfl, (ah (aI Bv.out HL.out.d) 0).trans rfl, (ah (aI Bv.out HL.out.d) 1).trans rfl⟩ (fun hHeld => ?_); clear hK K; refine nm_ 6 ?_))
         | (refine ln_ #[I,I,I,I,I,I,O,O] (by decide +kernel) ?_; exact dS (by first | (simp only [kE, Act.put, List.setIfInBounds_toArray, List.set_cons_zero, List.set_cons_succ]; done) | (simp only [kE, Act.put, List.setIfInBounds_toArray, List.set_cons_zero, List.set_cons_succ]; rfl)) (hJ (va, vb, gx, gy) _ ⟨hHeld, HL.out.six Bu.out Bv.out HB.out⟩))
         | refine rd_ [1, 4, 5] HT_.out (by decide +kernel) ?_
         | refine rd_ [3, 4, 5] HT_.out (by decide +kernel) ?_
         | refine rd_ [4, 5] HT_.out (by decide +kernel) ?_
         | refine rd_ [1, 4] HT_.out (by decide +kernel) ?_
         | refine rd_ [1, 5] HT_.out (by decide +kernel) ?_
         | refine rd_ [3, 4] HT_.out (by decide +kernel) ?_
         | refine rd_ [3, 5] HT_.out (by decide +kernel) ?_
         | refine rd_ [1] HT_.out (by decide +kernel) ?_
         | refine rd_ [3] HT_.out (by decide +kernel) ?_
         | refine rd_ [4] HT_.out (by decide +kernel) ?_
         | refine rd_ [5] HT_.out (by decide +kernel) ?_)
       rintro ⟨GU,GV,BD,BF⟩ DF ⟨hS_,H9,Ia,Ib,Ic,Ie,Ig,Ih,Ii,Ij,Ik,FJ,FL,FM,FN,FP,FQ,FR,FT,FU,FV,FW⟩
       have CK : Aside0 (Kd.R k85 85 DF w.heap.size (fun _=>True) GU BS):=⟨H9⟩
       have CO : Aside0 (Kd.S k88 88 DF w.heap.size (fun _=>True) GV Cg):=⟨Ia⟩
       have CP : Aside0 (DF.heap[BG]? = some (.cells #[.int .u32 BN,.slice Cn BJ.length Co] 25 (0,0))):=⟨Ib⟩
       have C8 : Aside0 (DF.heap[BL]? = some (.cells #[.int .u64 BU,.slice CB BR.length CF] 29 (0,0))):=⟨Ic⟩
       have C9 : Aside0 (DF.heap[BD]? = some (.cells #[.int .u32 0,.slice none 0 0] 35 (0,0))):=⟨Ie⟩
       have Da : Aside0 (DF.heap[BF]? = some (.cells #[.int .u64 0,.slice none 0 0] 39 (0,0))):=⟨Ig⟩
       have Db : Aside0 (w.heap.size ≤ BD):=⟨Ih⟩
       have Dm : Aside0 (w.heap.size ≤ BD):=⟨Ii⟩
       have Dn : Aside0 (BG ≠ BD):=⟨Ij⟩
       have Dq : Aside0 (BD ≠ BG):=⟨Ik⟩
       have CZ : Aside0 (BL ≠ BD):=⟨FJ⟩
       have Df : Aside0 (BD ≠ BL):=⟨FL⟩
       have Dj : Aside0 (BF ≠ BD):=⟨FM⟩
       have Dr : Aside0 (BD ≠ BF):=⟨FN⟩
       have Dw : Aside0 (w.heap.size ≤ BF):=⟨FP⟩
       have DI : Aside0 (w.heap.size ≤ BF):=⟨FQ⟩
       have D9 : Aside0 (BG ≠ BF):=⟨FR⟩
       have FX : Aside0 (BF ≠ BG):=⟨FT⟩
       have FY : Aside0 (BL ≠ BF):=⟨FU⟩
       have FZ : Aside0 (BF ≠ BL):=⟨FV⟩
       have F3 : Aside0 (Below w.heap.size w DF):=⟨FW⟩
       clear Bu
       clear Bv
       clear HB
       clear H9 Ia Ib Ic Ie Ig Ih Ii Ij Ik FJ FL FM FN FP FQ FR FT FU FV FW
       have BI:=CK
       have BH:=CO
       have Bu:=CP
       have Bv:=C8
       have Bw:=C9
       have Bz:=Da
       have Il:=Db
       have Im:=Dm
       have CU:=Dn
       have DV:=Dq
       have CV:=CZ
       have DW:=Df
       have Dh:=Dj
       have Di:=Dr
       have Io:=Dw
       have Ip:=DI
       have CW:=D9
       have DX:=FX
       have CX:=FY
       have DY:=FZ
       have HB:=F3
       clear CK CO CP C8 C9 Da Db Dm Dn Dq CZ Df Dj Dr Dw DI D9 FX FY FZ F3
       have hHeld : DF.cell? ⟨BG,0,none⟩ = some (.int .u32 BN) ∧ DF.cell? ⟨BG,1,none⟩ = some (.slice Cn BJ.length Co) ∧ DF.cell? ⟨BL,0,none⟩ = some (.int .u64 BU) ∧ DF.cell? ⟨BL,1,none⟩ = some (.slice CB BR.length CF):=hS_
       obtain ⟨Ct,Cu,F4⟩:=Kd.gH BI.out
       (first|subst F4|(injection F4 with Dt DJ Du;have DK:=Dt.symm;have DL:=Du.symm;clear Dt DJ Du;subst DK;subst DL))
       obtain ⟨Cv,Cw,F5⟩:=Kd.iL BH.out
       (first|subst F5|(injection F5 with Dt DJ Du;have DK:=Dt.symm;have DL:=Du.symm;clear Dt DJ Du;subst DK;subst DL))
       refine dS (a':=?_) ?_ ?_
       rotate_left
       ·simp only [kE,Act.put,List.setIfInBounds_toArray,List.set_cons_zero,List.set_cons_succ]
        rfl
       refine fE (i:=6) (N:=none) #[I,I,I,I,I,I,I,O] rfl rfl (dh HT_.out (by kernel_rfl)) (by decide) (fun K hK=>?_)
       have Jb : DF.cell? ⟨BD,0,none⟩ = some (.int .u32 0):=(ah Bw.out 0).trans rfl
       have Iq:=ay Bw.out 0
       have Gi:=CU.out
       have Gj:=CV.out
       have Gl:=Dh.out
       have Gm:=DV.out
       have Gn:=DW.out
       have Gp:=Di.out
       have Jc : DF.cell? ⟨BD,1,none⟩ = some (.slice none 0 0):=(ah Bw.out 1).trans rfl
       have Ir:=ay Bw.out 1
       have Gq:=CU.out
       have Gr:=CV.out
       have Gs:=Dh.out
       have Gt:=DV.out
       have Gu:=DW.out
       have Gv:=Di.out
       refine jL (w1:=?_) (by rfl) rfl ?_ ?_
       rotate_left
       ·go_simp
        rfl
       refine hK.out _ _ ⟨((cell_far (p:=⟨BD,_,none⟩) CU.out _).trans (((cell_far (p:=⟨BD,_,none⟩) CU.out _).trans (hHeld.1)))),((cell_far (p:=⟨BD,_,none⟩) CU.out _).trans (((cell_far (p:=⟨BD,_,none⟩) CU.out _).trans (hHeld.2.1)))),((cell_far (p:=⟨BD,_,none⟩) CV.out _).trans (((cell_far (p:=⟨BD,_,none⟩) CV.out _).trans (hHeld.2.2.1)))),((cell_far (p:=⟨BD,_,none⟩) CV.out _).trans (((cell_far (p:=⟨BD,_,none⟩) CV.out _).trans (hHeld.2.2.2))))⟩ (fun hHeld=>?_)
       clear hK K
       refine fE (i:=7) (N:=none) #[I,I,I,I,I,I,I,I] rfl rfl (dh HT_.out (by kernel_rfl)) (by decide) (fun K hK=>?_)
       have Jd : DF.cell? ⟨BF,0,none⟩ = some (.int .u64 0):=(ah Bz.out 0).trans rfl
       have Iu:=ay Bz.out 0
       have Gw:=CW.out
       have Gx:=CX.out
       have Gy:=Di.out
       have Gz:=DX.out
       have GA:=DY.out
       have GD:=Dh.out
       have Je : DF.cell? ⟨BF,1,none⟩ = some (.slice none 0 0):=(ah Bz.out 1).trans rfl
       have Iw:=ay Bz.out 1
       have GI:=CW.out
       have GJ:=CX.out
       have GK:=Di.out
       have GL:=DX.out
       have GN:=DY.out
       have GQ:=Dh.out
       refine jL (w1:=?_) (by rfl) rfl ?_ ?_
       rotate_left
       ·go_simp
        rfl
       refine hK.out _ _ ⟨((cell_far (p:=⟨BF,_,none⟩) CW.out _).trans (((cell_far (p:=⟨BF,_,none⟩) CW.out _).trans (hHeld.1)))),((cell_far (p:=⟨BF,_,none⟩) CW.out _).trans (((cell_far (p:=⟨BF,_,none⟩) CW.out _).trans (hHeld.2.1)))),((cell_far (p:=⟨BF,_,none⟩) CX.out _).trans (((cell_far (p:=⟨BF,_,none⟩) CX.out _).trans (hHeld.2.2.1)))),((cell_far (p:=⟨BF,_,none⟩) CX.out _).trans (((cell_far (p:=⟨BF,_,none⟩) CX.out _).trans (hHeld.2.2.2))))⟩ (fun hHeld=>?_)
       clear hK K
       refine jd (gI HT_.out (by kernel_rfl)) ?_
       try go_wp2
       have CK : Aside0 (Kd.R k85 85 ((((DF.setCell ⟨BD,0,none⟩ (.int .u32 Ca)).setCell ⟨BD,1,none⟩ (.slice Ct BS.length Cu)).setCell ⟨BF,0,none⟩ (.int .u64 Cm)).setCell ⟨BF,1,none⟩ (.slice Cv Cg.length Cw)) w.heap.size (fun _=>True) (.slice Ct BS.length Cu) BS):=⟨by (with_reducible repeat (first|apply Kd.ig|apply Kd.iq|apply Kd.iG));exact Kd.fB (Kd.gL (p:=⟨BF,1,none⟩) (Kd.gL (p:=⟨BF,0,none⟩) (Kd.gL (p:=⟨BD,1,none⟩) (Kd.gL (p:=⟨BD,0,none⟩) (Kd.gZ (Kd.gZ BI.out Bw.out (by decide)) Bz.out (by decide)) (fun _ hk=>hk.1.2) (.int .u32 Ca)) (fun _ hk=>hk.1.2) (.slice Ct BS.length Cu)) (fun _ hk=>hk.2) (.int .u64 Cm)) (fun _ hk=>hk.2) (.slice Cv Cg.length Cw)) (fun _ hk=>trivial)⟩
       have CO : Aside0 (Kd.S k88 88 ((((DF.setCell ⟨BD,0,none⟩ (.int .u32 Ca)).setCell ⟨BD,1,none⟩ (.slice Ct BS.length Cu)).setCell ⟨BF,0,none⟩ (.int .u64 Cm)).setCell ⟨BF,1,none⟩ (.slice Cv Cg.length Cw)) w.heap.size (fun _=>True) (.slice Cv Cg.length Cw) Cg):=⟨by (with_reducible repeat (first|apply Kd.bP|apply Kd.bQ|apply Kd.cB));exact Kd.iB (Kd.fJ (p:=⟨BF,1,none⟩) (Kd.fJ (p:=⟨BF,0,none⟩) (Kd.fJ (p:=⟨BD,1,none⟩) (Kd.fJ (p:=⟨BD,0,none⟩) (Kd.iW (Kd.iW BH.out Bw.out (by decide)) Bz.out (by decide)) (fun _ hk=>hk.1.2) (.int .u32 Ca)) (fun _ hk=>hk.1.2) (.slice Ct BS.length Cu)) (fun _ hk=>hk.2) (.int .u64 Cm)) (fun _ hk=>hk.2) (.slice Cv Cg.length Cw)) (fun _ hk=>trivial)⟩
       have CP : Aside0 (((((DF.setCell ⟨BD,0,none⟩ (.int .u32 Ca)).setCell ⟨BD,1,none⟩ (.slice Ct BS.length Cu)).setCell ⟨BF,0,none⟩ (.int .u64 Cm)).setCell ⟨BF,1,none⟩ (.slice Cv Cg.length Cw)).heap[BG]? = some (.cells #[.int .u32 BN,.slice Cn BJ.length Co] 25 (0,0))):=⟨by (with_reducible repeat (first|apply aj|apply av|apply ak));refine aH ?_ CW.out _;(with_reducible repeat (first|apply aj|apply av|apply ak));refine aH ?_ CW.out _;(with_reducible repeat (first|apply aj|apply av|apply ak));refine aH ?_ CU.out _;(with_reducible repeat (first|apply aj|apply av|apply ak));refine aH ?_ CU.out _;(with_reducible repeat (first|apply aj|apply av|apply ak));exact Bu.out⟩
       have C8 : Aside0 (((((DF.setCell ⟨BD,0,none⟩ (.int .u32 Ca)).setCell ⟨BD,1,none⟩ (.slice Ct BS.length Cu)).setCell ⟨BF,0,none⟩ (.int .u64 Cm)).setCell ⟨BF,1,none⟩ (.slice Cv Cg.length Cw)).heap[BL]? = some (.cells #[.int .u64 BU,.slice CB BR.length CF] 29 (0,0))):=⟨by (with_reducible repeat (first|apply aj|apply av|apply ak));refine aH ?_ CX.out _;(with_reducible repeat (first|apply aj|apply av|apply ak));refine aH ?_ CX.out _;(with_reducible repeat (first|apply aj|apply av|apply ak));refine aH ?_ CV.out _;(with_reducible repeat (first|apply aj|apply av|apply ak));refine aH ?_ CV.out _;(with_reducible repeat (first|apply aj|apply av|apply ak));exact Bv.out⟩
       have C9 : Aside0 (((((DF.setCell ⟨BD,0,none⟩ (.int .u32 Ca)).setCell ⟨BD,1,none⟩ (.slice Ct BS.length Cu)).setCell ⟨BF,0,none⟩ (.int .u64 Cm)).setCell ⟨BF,1,none⟩ (.slice Cv Cg.length Cw)).heap[BD]? = some (.cells #[.int .u32 Ca,.slice Ct BS.length Cu] 35 (0,0))):=⟨by (with_reducible repeat (first|apply aj|apply av|apply ak));refine aH ?_ Di.out _;(with_reducible repeat (first|apply aj|apply av|apply ak));refine aH ?_ Di.out _;(with_reducible repeat (first|apply aj|apply av|apply ak));refine aT (cs:=#[.int .u32 Ca,.slice none 0 0]) ?_ 1 _ rfl;(with_reducible repeat (first|apply aj|apply av|apply ak));refine aT (cs:=#[.int .u32 0,.slice none 0 0]) ?_ 0 _ rfl;(with_reducible repeat (first|apply aj|apply av|apply ak));exact Bw.out⟩
       have Da : Aside0 (((((DF.setCell ⟨BD,0,none⟩ (.int .u32 Ca)).setCell ⟨BD,1,none⟩ (.slice Ct BS.length Cu)).setCell ⟨BF,0,none⟩ (.int .u64 Cm)).setCell ⟨BF,1,none⟩ (.slice Cv Cg.length Cw)).heap[BF]? = some (.cells #[.int .u64 Cm,.slice Cv Cg.length Cw] 39 (0,0))):=⟨by (with_reducible repeat (first|apply aj|apply av|apply ak));refine aT (cs:=#[.int .u64 Cm,.slice none 0 0]) ?_ 1 _ rfl;(with_reducible repeat (first|apply aj|apply av|apply ak));refine aT (cs:=#[.int .u64 0,.slice none 0 0]) ?_ 0 _ rfl;(with_reducible repeat (first|apply aj|apply av|apply ak));refine aH ?_ Dh.out _;(with_reducible repeat (first|apply aj|apply av|apply ak));refine aH ?_ Dh.out _;(with_reducible repeat (first|apply aj|apply av|apply ak));exact Bz.out⟩
       have Db : Aside0 (Below w.heap.size w ((((DF.setCell ⟨BD,0,none⟩ (.int .u32 Ca)).setCell ⟨BD,1,none⟩ (.slice Ct BS.length Cu)).setCell ⟨BF,0,none⟩ (.int .u64 Cm)).setCell ⟨BF,1,none⟩ (.slice Cv Cg.length Cw))):=⟨hb_⟩
       (try clear BI)
       (try clear BH)
       (try clear Bu)
       (try clear Bv)
       (try clear Bw)
       (try clear Bz)
       (try clear HB)
       generalize ((((DF.setCell ⟨BD,0,none⟩ (.int .u32 Ca)).setCell ⟨BD,1,none⟩ (.slice Ct BS.length Cu)).setCell ⟨BF,0,none⟩ (.int .u64 Cm)).setCell ⟨BF,1,none⟩ (.slice Cv Cg.length Cw)) = Jf at CK CO CP C8 C9 Da Db ⊢
       have BI:=CK
       have BH:=CO
       have Bu:=CP
       have Bv:=C8
       have Bw:=C9
       have Bz:=Da
       have HB:=Db
       clear CK CO CP C8 C9 Da Db
       have CK:=Aside0.mk (Kd.iG BI.out)
       have CO:=Aside0.mk (Kd.cB BH.out)
       have CP:=Aside0.mk (av Bu.out)
       have C8:=Aside0.mk (av Bv.out)
       have C9:=Aside0.mk (av Bw.out)
       have Da:=Aside0.mk (av Bz.out)
       have Db:=Aside0.mk (bF HB.out)
       clear BI
       clear BH
       clear Bu
       clear Bv
       clear Bw
       clear Bz
       clear HB
       have BI:=CK
       have BH:=CO
       have Bu:=CP
       have Bv:=C8
       have Bw:=C9
       have Bz:=Da
       have HB:=Db
       clear CK CO CP C8 C9 Da Db
       refine iE (n:=27) (S:=fun w'=>w'.cell? ⟨BG,0,none⟩ = some (.int .u32 BN) ∧ w'.cell? ⟨BG,1,none⟩ = some (.slice Cn BJ.length Co) ∧ w'.cell? ⟨BD,0,none⟩ = some (.int .u32 Ca) ∧ w'.cell? ⟨BD,1,none⟩ = some (.slice Ct BS.length Cu) ∧ w'.cell? ⟨BL,0,none⟩ = some (.int .u64 BU) ∧ w'.cell? ⟨BL,1,none⟩ = some (.slice CB BR.length CF) ∧ w'.cell? ⟨BF,0,none⟩ = some (.int .u64 Cm) ∧ w'.cell? ⟨BF,1,none⟩ = some (.slice Cv Cg.length Cw)) (ds:=[]) #[O,O,O,O,O,O,O,O,O,O,O,O,O,O,O,O,O,O,O,O,O,O,O,O,O,O,O] (by kernel_rfl) rfl rfl ⟨(ah Bu.out 0).trans rfl,(ah Bu.out 1).trans rfl,(ah Bw.out 0).trans rfl,(ah Bw.out 1).trans rfl,(ah Bv.out 0).trans rfl,(ah Bv.out 1).trans rfl,(ah Bz.out 0).trans rfl,(ah Bz.out 1).trans rfl⟩ (fun hHeld=>?_);refine fC aK.Bt aK.AQ (fun HT_ HW_=>?_)
       generalize Jf.drew = Ju at BI BH Bu Bv Bw Bz HB hHeld ⊢
       refine fE (i:=0) (N:=some 20) #[I,O,O,O,O,O,O,O,O,O,O,O,O,O,O,O,O,O,O,O,O,O,O,O,O,O,O] rfl rfl (dh HT_.out (by kernel_rfl)) (by decide) (fun K hK=>?_)
       refine eH Tryz.func8 (by kernel_rfl) rfl #[] (by rfl) rfl rfl (by (try simp only [List.map_toArray,List.map_cons,List.map_nil]);first|done|rfl|(simp only [List.length_drop,List.length_take];rfl)) ?_
       with_reducible refine (aW.calls Ch  true _ IQ.out (by first|assumption|exact GW.below hG (by first|exact HB.out|assumption|(repeat (first|(with_reducible first|exact HB.out|apply bW|apply aV|apply bF)|exact HB.out)))|exact GW.drawn hG (by first|assumption|(repeat (first|exact Drawn0.refl _|assumption|apply Drawn0.step))))).mono ?_
       rintro e Jv ⟨rfl,hb⟩
       refine ⟨_,rfl,?_⟩
       have CK:=Aside0.mk (Kd.eG (kr_ BI.out) hb)
       have CO:=Aside0.mk (Kd.dK (by (with_reducible repeat (first|apply Kd.bP|apply Kd.bQ|apply Kd.cB));exact BH.out) hb)
       have CP:=Aside0.mk (aI (g:=BG) (o:=.cells #[.int .u32 BN,.slice Cn BJ.length Co] 25 (0,0)) (bk_ Bu.out) hb)
       have C8:=Aside0.mk (aI (g:=BL) (o:=.cells #[.int .u64 BU,.slice CB BR.length CF] 29 (0,0)) (bk_ Bv.out) hb)
       have C9:=Aside0.mk (aI (g:=BD) (o:=.cells #[.int .u32 Ca,.slice Ct BS.length Cu] 35 (0,0)) (bk_ Bw.out) hb)
       have Da:=Aside0.mk (aI (g:=BF) (o:=.cells #[.int .u64 Cm,.slice Cv Cg.length Cw] 39 (0,0)) (bk_ Bz.out) hb)
       have Db:=Aside0.mk (aN hb_ hb)
       clear BI
       clear BH
       clear Bu
       clear Bv
       clear Bw
       clear Bz
       clear HB
       have BI:=CK
       have BH:=CO
       have Bu:=CP
       have Bv:=C8
       have Bw:=C9
       have Bz:=Da
       have HB:=Db
       clear CK CO CP C8 C9 Da Db
       (try clear hb)
       (try clear hb2)
       (try clear hk)
       (try clear hi)
       refine hK.out _ _ ⟨(ah Bu.out 0).trans rfl,(ah Bu.out 1).trans rfl,(ah Bw.out 0).trans rfl,(ah Bw.out 1).trans rfl,(ah Bv.out 0).trans rfl,(ah Bv.out 1).trans rfl,(ah Bz.out 0).trans rfl,(ah Bz.out 1).trans rfl⟩ (fun hHeld=>?_)
       clear hK K
       refine dS (a':=?_) ?_ ?_
       rotate_left
       ·show Act.put _ (some 20) _ = _
        simp only [Act.put,List.setIfInBounds_toArray,List.set_cons_zero,List.set_cons_succ,bJ,bK]
        rfl
       refine pu_ 1 21 #[I,I,O,O,O,O,O,O,O,O,O,O,O,O,O,O,O,O,O,O,O,O,O,O,O,O,O] HT_.out ?_
       refine ta_ 2 22 #[I,I,I,O,O,O,O,O,O,O,O,O,O,O,O,O,O,O,O,O,O,O,O,O,O,O,O] HT_.out HW_.out hHeld ?_
       refine ta_ 5 25 #[I,I,I,O,O,I,O,O,O,O,O,O,O,O,O,O,O,O,O,O,O,O,O,O,O,O,O] HT_.out HW_.out hHeld ?_
       refine fE (i:=3) (N:=some 23) #[I,I,I,I,O,I,O,O,O,O,O,O,O,O,O,O,O,O,O,O,O,O,O,O,O,O,O] rfl rfl (dh HT_.out (by kernel_rfl)) (by decide) (fun K hK=>?_)
       refine eH Tryz.func12 (by kernel_rfl) rfl #[.agg #[.int .u32 BN,.slice Cn BJ.length Co]] (by rfl) rfl rfl (by (try simp only [List.map_toArray,List.map_cons,List.map_nil]);first|done|rfl|(simp only [List.length_drop,List.length_take];rfl)) ?_
       with_reducible refine (dP.calls BN _ _ BJ EL EM _ ?Ck ?Cr IU.out).mono ?_
       (case Ck=>repeat (first|exact (Kd.cZ D7.out HB.out)|(with_reducible refine Kd.dn ?_ _)|(with_reducible refine Kd.dw ?_ _)|(with_reducible refine Kd.dL ?_)))
       (case Cr=>exact D8.out)
       rintro e Jw ⟨Jg,rfl,ho0,hb⟩
       refine ⟨_,rfl,?_⟩
       have CK:=Aside0.mk (Kd.eG (kr_ BI.out) hb)
       have CO:=Aside0.mk (Kd.dK (by (with_reducible repeat (first|apply Kd.bP|apply Kd.bQ|apply Kd.cB));exact BH.out) hb)
       have CP:=Aside0.mk (Kd.jf (Kd.eO (ok':=fun k_=>some k_ ≠ (.slice Ct BS.length Cu : Value).ownBlock ∧ some k_ ≠ (.slice Cv Cg.length Cw : Value).ownBlock ∧ k_ ≠ BG ∧ k_ ≠ BL ∧ k_ ≠ BD ∧ k_ ≠ BF) ho0 (fun k_ hk_=>⟨(Kd.fresh' (Kd.nS (kr_ BI.out)) k_ hk_),(Kd.fresh' (Kd.jY (by (with_reducible repeat (first|apply Kd.bP|apply Kd.bQ|apply Kd.cB));exact BH.out)) k_ hk_),(Kd.gT (g:=BG) (o:=.cells #[.int .u32 BN,.slice Cn BJ.length Co] 25 (0,0)) (bk_ Bu.out) k_ hk_),(Kd.gT (g:=BL) (o:=.cells #[.int .u64 BU,.slice CB BR.length CF] 29 (0,0)) (bk_ Bv.out) k_ hk_),(Kd.gT (g:=BD) (o:=.cells #[.int .u32 Ca,.slice Ct BS.length Cu] 35 (0,0)) (bk_ Bw.out) k_ hk_),(Kd.gT (g:=BF) (o:=.cells #[.int .u64 Cm,.slice Cv Cg.length Cw] 39 (0,0)) (bk_ Bz.out) k_ hk_)⟩)) (aU hb_))
       have C8:=Aside0.mk (aI (g:=BG) (o:=.cells #[.int .u32 BN,.slice Cn BJ.length Co] 25 (0,0)) (bk_ Bu.out) hb)
       have C9:=Aside0.mk (aI (g:=BL) (o:=.cells #[.int .u64 BU,.slice CB BR.length CF] 29 (0,0)) (bk_ Bv.out) hb)
       have Da:=Aside0.mk (aI (g:=BD) (o:=.cells #[.int .u32 Ca,.slice Ct BS.length Cu] 35 (0,0)) (bk_ Bw.out) hb)
       have Db:=Aside0.mk (aI (g:=BF) (o:=.cells #[.int .u64 Cm,.slice Cv Cg.length Cw] 39 (0,0)) (bk_ Bz.out) hb)
       have Dm:=Aside0.mk (aN hb_ hb)
       clear BI
       clear BH
       clear Bu
       clear Bv
       clear Bw
       clear Bz
       clear HB
       have BI:=CK
       have BH:=CO
       have Cb:=CP
       have Bu:=C8
       have Bv:=C9
       have Bw:=Da
       have Bz:=Db
       have HB:=Dm
       clear CK CO CP C8 C9 Da Db Dm
       (try clear hb)
       (try clear hb2)
       (try clear hk)
       (try clear hi)
       (try clear ho0)
       obtain ⟨GX,GY,F6⟩:=Kd.iw Cb.out
       (first|subst F6|(injection F6 with Dt DJ Du;have DK:=Dt.symm;have DL:=Du.symm;clear Dt DJ Du;subst DK;subst DL))
       refine hK.out _ _ ⟨(ah Bu.out 0).trans rfl,(ah Bu.out 1).trans rfl,(ah Bw.out 0).trans rfl,(ah Bw.out 1).trans rfl,(ah Bv.out 0).trans rfl,(ah Bv.out 1).trans rfl,(ah Bz.out 0).trans rfl,(ah Bz.out 1).trans rfl⟩ (fun hHeld=>?_)
       clear hK K
       refine dS (a':=?_) ?_ ?_
       rotate_left
       ·show Act.put _ (some 23) _ = _
        simp only [Act.put,List.setIfInBounds_toArray,List.set_cons_zero,List.set_cons_succ,bJ,bK]
        rfl
       refine fE (i:=4) (N:=some 24) #[I,I,I,I,I,I,O,O,O,O,O,O,O,O,O,O,O,O,O,O,O,O,O,O,O,O,O] rfl rfl (dh HT_.out (by kernel_rfl)) (by decide) (fun K hK=>?_)
       refine eH Tryz.func10 (by kernel_rfl) rfl #[.agg #[.int .u64 EL,.slice GX EM.length GY]] (by rfl) rfl rfl (by (try simp only [List.map_toArray,List.map_cons,List.map_nil]);first|done|rfl|(simp only [List.length_drop,List.length_take];rfl)) ?_
       with_reducible refine (aY.calls Ch EL _ _ EM Et DC _ ?Ck ?Cr IV.out).mono ?_
       (case Ck=>repeat (first|exact (Kd.eY Cb.out).2.2|(with_reducible refine Kd.dn ?_ _)|(with_reducible refine Kd.dw ?_ _)|(with_reducible refine Kd.dL ?_)))
       (case Cr=>exact (Kd.eY Cb.out).2.1)
       rintro e Jy ⟨Jh,rfl,ho0,hb⟩
       refine ⟨_,rfl,?_⟩
       have CK:=Aside0.mk (Kd.eG (kr_ BI.out) hb)
       have CO:=Aside0.mk (Kd.jB (by (with_reducible repeat (first|apply Kd.bP|apply Kd.bQ|apply Kd.cB));exact BH.out) (Kd.gU ho0) hb)
       have CP:=Aside0.mk (Kd.fD (kv_ Cb.out) (Kd.gU ho0) hb)
       have C8:=Aside0.mk (Kd.kF (Kd.lV ho0 (Kd.jY (by (with_reducible repeat (first|apply Kd.bP|apply Kd.bQ|apply Kd.cB));exact BH.out))) (aU hb_))
       have C9:=Aside0.mk (aI (g:=BG) (o:=.cells #[.int .u32 BN,.slice Cn BJ.length Co] 25 (0,0)) (bk_ Bu.out) hb)
       have Da:=Aside0.mk (aI (g:=BL) (o:=.cells #[.int .u64 BU,.slice CB BR.length CF] 29 (0,0)) (bk_ Bv.out) hb)
       have Db:=Aside0.mk (aI (g:=BD) (o:=.cells #[.int .u32 Ca,.slice Ct BS.length Cu] 35 (0,0)) (bk_ Bw.out) hb)
       have Dm:=Aside0.mk (aI (g:=BF) (o:=.cells #[.int .u64 Cm,.slice Cv Cg.length Cw] 39 (0,0)) (bk_ Bz.out) hb)
       have Dn:=Aside0.mk (aN hb_ hb)
       clear BI
       clear BH
       clear Cb
       clear Bu
       clear Bv
       clear Bw
       clear Bz
       clear HB
       have BI:=CK
       have BH:=CO
       have Cb:=CP
       have BZ:=C8
       have Bu:=C9
       have Bv:=Da
       have Bw:=Db
       have Bz:=Dm
       have HB:=Dn
       clear CK CO CP C8 C9 Da Db Dm Dn
       (try clear hb)
       (try clear hb2)
       (try clear hk)
       (try clear hi)
       (try clear ho0)
       refine hK.out _ _ ⟨(ah Bu.out 0).trans rfl,(ah Bu.out 1).trans rfl,(ah Bw.out 0).trans rfl,(ah Bw.out 1).trans rfl,(ah Bv.out 0).trans rfl,(ah Bv.out 1).trans rfl,(ah Bz.out 0).trans rfl,(ah Bz.out 1).trans rfl⟩ (fun hHeld=>?_)
       clear hK K
       refine dS (a':=?_) ?_ ?_
       rotate_left
       ·show Act.put _ (some 24) _ = _
        simp only [Act.put,List.setIfInBounds_toArray,List.set_cons_zero,List.set_cons_succ,bJ,bK]
        rfl
       refine fE (i:=6) (N:=some 26) #[I,I,I,I,I,I,I,O,O,O,O,O,O,O,O,O,O,O,O,O,O,O,O,O,O,O,O] rfl rfl (dh HT_.out (by kernel_rfl)) (by decide) (fun K hK=>?_)
       refine eH Tryz.func13 (by kernel_rfl) rfl #[.agg #[.int .u32 Ca,.slice Ct BS.length Cu]] (by rfl) rfl rfl (by (try simp only [List.map_toArray,List.map_cons,List.map_nil]);first|done|rfl|(simp only [List.length_drop,List.length_take];rfl)) ?_
       with_reducible refine (aR.calls Ch Ca _ _ BS EN DR _ ?Ck ?Cr IW.out).mono ?_
       (case Ck=>repeat (first|exact (Kd.fH BI.out).2.2|(with_reducible refine Kd.dn ?_ _)|(with_reducible refine Kd.dw ?_ _)|(with_reducible refine Kd.dL ?_)))
       (case Cr=>exact (Kd.fH BI.out).2.1)
       rintro e Jz ⟨Ji,rfl,ho0,hb⟩
       refine ⟨_,rfl,?_⟩
       have CK:=Aside0.mk (Kd.eG (kr_ BI.out) hb)
       have CO:=Aside0.mk (Kd.jB (by (with_reducible repeat (first|apply Kd.bP|apply Kd.bQ|apply Kd.cB));exact BH.out) (Kd.gU ho0) hb)
       have CP:=Aside0.mk (Kd.fD (kv_ Cb.out) (Kd.gU ho0) hb)
       have C8:=Aside0.mk (Kd.jB (by (with_reducible repeat (first|apply Kd.bP|apply Kd.bQ|apply Kd.cB));exact BZ.out) (Kd.gU ho0) hb)
       have C9:=Aside0.mk (Kd.kF (Kd.lV (Kd.lV ho0 (Kd.jY (by (with_reducible repeat (first|apply Kd.bP|apply Kd.bQ|apply Kd.cB));exact BH.out))) (Kd.jY (by (with_reducible repeat (first|apply Kd.bP|apply Kd.bQ|apply Kd.cB));exact BZ.out))) (aU hb_))
       have Da:=Aside0.mk (aI (g:=BG) (o:=.cells #[.int .u32 BN,.slice Cn BJ.length Co] 25 (0,0)) (bk_ Bu.out) hb)
       have Db:=Aside0.mk (aI (g:=BL) (o:=.cells #[.int .u64 BU,.slice CB BR.length CF] 29 (0,0)) (bk_ Bv.out) hb)
       have Dm:=Aside0.mk (aI (g:=BD) (o:=.cells #[.int .u32 Ca,.slice Ct BS.length Cu] 35 (0,0)) (bk_ Bw.out) hb)
       have Dn:=Aside0.mk (aI (g:=BF) (o:=.cells #[.int .u64 Cm,.slice Cv Cg.length Cw] 39 (0,0)) (bk_ Bz.out) hb)
       have Dq:=Aside0.mk (aN hb_ hb)
       clear BI
       clear BH
       clear Cb
       clear BZ
       clear Bu
       clear Bv
       clear Bw
       clear Bz
       clear HB
       have BI:=CK
       have BH:=CO
       have Cb:=CP
       have BZ:=C8
       have Ce:=C9
       have Bu:=Da
       have Bv:=Db
       have Bw:=Dm
       have Bz:=Dn
       have HB:=Dq
       clear CK CO CP C8 C9 Da Db Dm Dn Dq
       (try clear hb)
       (try clear hb2)
       (try clear hk)
       (try clear hi)
       (try clear ho0)
       obtain ⟨Ed,Ee,F7⟩:=Kd.iL BZ.out
       (first|subst F7|(injection F7 with Dt DJ Du;have DK:=Dt.symm;have DL:=Du.symm;clear Dt DJ Du;subst DK;subst DL))
       obtain ⟨Ef,Eh,F8⟩:=Kd.iL Ce.out
       (first|subst F8|(injection F8 with Dt DJ Du;have DK:=Dt.symm;have DL:=Du.symm;clear Dt DJ Du;subst DK;subst DL))
       refine hK.out _ _ ⟨(ah Bu.out 0).trans rfl,(ah Bu.out 1).trans rfl,(ah Bw.out 0).trans rfl,(ah Bw.out 1).trans rfl,(ah Bv.out 0).trans rfl,(ah Bv.out 1).trans rfl,(ah Bz.out 0).trans rfl,(ah Bz.out 1).trans rfl⟩ (fun hHeld=>?_)
       clear hK K
       refine dS (a':=?_) ?_ ?_
       rotate_left
       ·show Act.put _ (some 26) _ = _
        simp only [Act.put,List.setIfInBounds_toArray,List.set_cons_zero,List.set_cons_succ,bJ,bK]
        rfl
       refine fE (i:=7) (N:=some 27) #[I,I,I,I,I,I,I,I,O,O,O,O,O,O,O,O,O,O,O,O,O,O,O,O,O,O,O] rfl rfl (dh HT_.out (by kernel_rfl)) (by decide) (fun K hK=>?_)
       refine eH Tryz.func11 (by kernel_rfl) rfl #[.agg #[.int .u64 Et,.slice Ed DC.length Ee],.agg #[.int .u64 EN,.slice Ef DR.length Eh]] (by rfl) rfl rfl (by (try simp only [List.map_toArray,List.map_cons,List.map_nil]);first|done|rfl|(simp only [List.length_drop,List.length_take];rfl)) ?_
       with_reducible refine (dB.calls Et _ _ DC EN _ _ DR true _ ?Ck ?Cr ?Ea ?Eb IX.out).mono ?_
       (case Ck=>repeat (first|exact (Kd.iF BZ.out).2.2|(with_reducible refine Kd.dn ?_ _)|(with_reducible refine Kd.dw ?_ _)|(with_reducible refine Kd.dL ?_)))
       (case Cr=>exact (Kd.iF BZ.out).2.1)
       (case Ea=>repeat (first|exact (Kd.iF Ce.out).2.2|(with_reducible refine Kd.dn ?_ _)|(with_reducible refine Kd.dw ?_ _)|(with_reducible refine Kd.dL ?_)))
       (case Eb=>exact (Kd.iF Ce.out).2.1)
       rintro e JA ⟨rfl,hb⟩
       refine ⟨_,rfl,?_⟩
       have CK:=Aside0.mk (Kd.eG (kr_ BI.out) hb)
       have CO:=Aside0.mk (Kd.dK (by (with_reducible repeat (first|apply Kd.bP|apply Kd.bQ|apply Kd.cB));exact BH.out) hb)
       have CP:=Aside0.mk (Kd.dF (kv_ Cb.out) hb)
       have C8:=Aside0.mk (Kd.dK (by (with_reducible repeat (first|apply Kd.bP|apply Kd.bQ|apply Kd.cB));exact BZ.out) hb)
       have C9:=Aside0.mk (Kd.dK (by (with_reducible repeat (first|apply Kd.bP|apply Kd.bQ|apply Kd.cB));exact Ce.out) hb)
       have Da:=Aside0.mk (aI (g:=BG) (o:=.cells #[.int .u32 BN,.slice Cn BJ.length Co] 25 (0,0)) (bk_ Bu.out) hb)
       have Db:=Aside0.mk (aI (g:=BL) (o:=.cells #[.int .u64 BU,.slice CB BR.length CF] 29 (0,0)) (bk_ Bv.out) hb)
       have Dm:=Aside0.mk (aI (g:=BD) (o:=.cells #[.int .u32 Ca,.slice Ct BS.length Cu] 35 (0,0)) (bk_ Bw.out) hb)
       have Dn:=Aside0.mk (aI (g:=BF) (o:=.cells #[.int .u64 Cm,.slice Cv Cg.length Cw] 39 (0,0)) (bk_ Bz.out) hb)
       have Dq:=Aside0.mk (aN hb_ hb)
       clear BI
       clear BH
       clear Cb
       clear BZ
       clear Ce
       clear Bu
       clear Bv
       clear Bw
       clear Bz
       clear HB
       have BI:=CK
       have BH:=CO
       have Cb:=CP
       have BZ:=C8
       have Ce:=C9
       have Bu:=Da
       have Bv:=Db
       have Bw:=Dm
       have Bz:=Dn
       have HB:=Dq
       clear CK CO CP C8 C9 Da Db Dm Dn Dq
       (try clear hb)
       (try clear hb2)
       (try clear hk)
       (try clear hi)
       refine hK.out _ _ ⟨(ah Bu.out 0).trans rfl,(ah Bu.out 1).trans rfl,(ah Bw.out 0).trans rfl,(ah Bw.out 1).trans rfl,(ah Bv.out 0).trans rfl,(ah Bv.out 1).trans rfl,(ah Bz.out 0).trans rfl,(ah Bz.out 1).trans rfl⟩ (fun hHeld=>?_)
       clear hK K
       refine dS (a':=?_) ?_ ?_
       rotate_left
       ·show Act.put _ (some 27) _ = _
        simp only [Act.put,List.setIfInBounds_toArray,List.set_cons_zero,List.set_cons_succ,bJ,bK]
        rfl
       refine pu_ 8 28 #[I,I,I,I,I,I,I,I,I,O,O,O,O,O,O,O,O,O,O,O,O,O,O,O,O,O,O] HT_.out ?_
       refine pu_ 9 29 #[I,I,I,I,I,I,I,I,I,I,O,O,O,O,O,O,O,O,O,O,O,O,O,O,O,O,O] HT_.out ?_
       refine ta_ 10 30 #[I,I,I,I,I,I,I,I,I,I,I,O,O,O,O,O,O,O,O,O,O,O,O,O,O,O,O] HT_.out HW_.out hHeld ?_
       refine ta_ 13 33 #[I,I,I,I,I,I,I,I,I,I,I,O,O,I,O,O,O,O,O,O,O,O,O,O,O,O,O] HT_.out HW_.out hHeld ?_
       refine fE (i:=11) (N:=some 31) #[I,I,I,I,I,I,I,I,I,I,I,I,O,I,O,O,O,O,O,O,O,O,O,O,O,O,O] rfl rfl (dh HT_.out (by kernel_rfl)) (by decide) (fun K hK=>?_)
       refine eH Tryz.func16 (by kernel_rfl) rfl #[.agg #[.int .u64 BU,.slice CB BR.length CF]] (by rfl) rfl rfl (by (try simp only [List.map_toArray,List.map_cons,List.map_nil]);first|done|rfl|(simp only [List.length_drop,List.length_take];rfl)) ?_
       with_reducible refine (bY.calls BU _ _ BR EO EP _ ?Ck ?Cr IY.out).mono ?_
       (case Ck=>repeat (first|exact (Kd.cZ Er.out HB.out)|(with_reducible refine Kd.dn ?_ _)|(with_reducible refine Kd.dw ?_ _)|(with_reducible refine Kd.dL ?_)))
       (case Cr=>exact Es.out)
       rintro e JB ⟨Jj,rfl,ho0,hb⟩
       refine ⟨_,rfl,?_⟩
       have CK:=Aside0.mk (Kd.eG (kr_ BI.out) hb)
       have CO:=Aside0.mk (Kd.dK (by (with_reducible repeat (first|apply Kd.bP|apply Kd.bQ|apply Kd.cB));exact BH.out) hb)
       have CP:=Aside0.mk (Kd.dF (kv_ Cb.out) hb)
       have C8:=Aside0.mk (Kd.dK (by (with_reducible repeat (first|apply Kd.bP|apply Kd.bQ|apply Kd.cB));exact BZ.out) hb)
       have C9:=Aside0.mk (Kd.dK (by (with_reducible repeat (first|apply Kd.bP|apply Kd.bQ|apply Kd.cB));exact Ce.out) hb)
       have Da:=Aside0.mk (Kd.jf (Kd.eO (ok':=fun k_=>some k_ ≠ (.slice Ct BS.length Cu : Value).ownBlock ∧ some k_ ≠ (.slice Cv Cg.length Cw : Value).ownBlock ∧ some k_ ≠ (.slice Ed DC.length Ee : Value).ownBlock ∧ some k_ ≠ (.slice Ef DR.length Eh : Value).ownBlock ∧ k_ ≠ BG ∧ k_ ≠ BL ∧ k_ ≠ BD ∧ k_ ≠ BF) ho0 (fun k_ hk_=>⟨(Kd.fresh' (Kd.nS (kr_ BI.out)) k_ hk_),(Kd.fresh' (Kd.jY (by (with_reducible repeat (first|apply Kd.bP|apply Kd.bQ|apply Kd.cB));exact BH.out)) k_ hk_),(Kd.fresh' (Kd.jY (by (with_reducible repeat (first|apply Kd.bP|apply Kd.bQ|apply Kd.cB));exact BZ.out)) k_ hk_),(Kd.fresh' (Kd.jY (by (with_reducible repeat (first|apply Kd.bP|apply Kd.bQ|apply Kd.cB));exact Ce.out)) k_ hk_),(Kd.gT (g:=BG) (o:=.cells #[.int .u32 BN,.slice Cn BJ.length Co] 25 (0,0)) (bk_ Bu.out) k_ hk_),(Kd.gT (g:=BL) (o:=.cells #[.int .u64 BU,.slice CB BR.length CF] 29 (0,0)) (bk_ Bv.out) k_ hk_),(Kd.gT (g:=BD) (o:=.cells #[.int .u32 Ca,.slice Ct BS.length Cu] 35 (0,0)) (bk_ Bw.out) k_ hk_),(Kd.gT (g:=BF) (o:=.cells #[.int .u64 Cm,.slice Cv Cg.length Cw] 39 (0,0)) (bk_ Bz.out) k_ hk_)⟩)) (aU hb_))
       have Db:=Aside0.mk (aI (g:=BG) (o:=.cells #[.int .u32 BN,.slice Cn BJ.length Co] 25 (0,0)) (bk_ Bu.out) hb)
       have Dm:=Aside0.mk (aI (g:=BL) (o:=.cells #[.int .u64 BU,.slice CB BR.length CF] 29 (0,0)) (bk_ Bv.out) hb)
       have Dn:=Aside0.mk (aI (g:=BD) (o:=.cells #[.int .u32 Ca,.slice Ct BS.length Cu] 35 (0,0)) (bk_ Bw.out) hb)
       have Dq:=Aside0.mk (aI (g:=BF) (o:=.cells #[.int .u64 Cm,.slice Cv Cg.length Cw] 39 (0,0)) (bk_ Bz.out) hb)
       have CZ:=Aside0.mk (aN hb_ hb)
       clear BI
       clear BH
       clear Cb
       clear BZ
       clear Ce
       clear Bu
       clear Bv
       clear Bw
       clear Bz
       clear HB
       have BI:=CK
       have BH:=CO
       have Cb:=CP
       have BZ:=C8
       have Ce:=C9
       have Cz:=Da
       have Bu:=Db
       have Bv:=Dm
       have Bw:=Dn
       have Bz:=Dq
       have HB:=CZ
       clear CK CO CP C8 C9 Da Db Dm Dn Dq CZ
       (try clear hb)
       (try clear hb2)
       (try clear hk)
       (try clear hi)
       (try clear ho0)
       obtain ⟨GZ,G5,F9⟩:=Kd.iw Cz.out
       (first|subst F9|(injection F9 with Dt DJ Du;have DK:=Dt.symm;have DL:=Du.symm;clear Dt DJ Du;subst DK;subst DL))
       refine hK.out _ _ ⟨(ah Bu.out 0).trans rfl,(ah Bu.out 1).trans rfl,(ah Bw.out 0).trans rfl,(ah Bw.out 1).trans rfl,(ah Bv.out 0).trans rfl,(ah Bv.out 1).trans rfl,(ah Bz.out 0).trans rfl,(ah Bz.out 1).trans rfl⟩ (fun hHeld=>?_)
       clear hK K
       refine dS (a':=?_) ?_ ?_
       rotate_left
       ·show Act.put _ (some 31) _ = _
        simp only [Act.put,List.setIfInBounds_toArray,List.set_cons_zero,List.set_cons_succ,bJ,bK]
        rfl
       refine fE (i:=12) (N:=some 32) #[I,I,I,I,I,I,I,I,I,I,I,I,I,I,O,O,O,O,O,O,O,O,O,O,O,O,O] rfl rfl (dh HT_.out (by kernel_rfl)) (by decide) (fun K hK=>?_)
       refine eH Tryz.func15 (by kernel_rfl) rfl #[.agg #[.int .u64 EO,.slice GZ EP.length G5]] (by rfl) rfl rfl (by (try simp only [List.map_toArray,List.map_cons,List.map_nil]);first|done|rfl|(simp only [List.length_drop,List.length_take];rfl)) ?_
       with_reducible refine (bH.calls EO (fun k_=>(some k_ ≠ (.slice Ct BS.length Cu : Value).ownBlock ∧ (some k_ ≠ (.slice Cv Cg.length Cw : Value).ownBlock ∧ (some k_ ≠ (.slice Ed DC.length Ee : Value).ownBlock ∧ (some k_ ≠ (.slice Ef DR.length Eh : Value).ownBlock ∧ (k_ ≠ BG ∧ (k_ ≠ BL ∧ (k_ ≠ BD ∧ k_ ≠ BF)))))))) _ _ EP Eu Ew _ ?Ck IZ.out).mono ?_
       (case Ck=>exact Cz.out)
       rintro e JC ⟨Jk,rfl,ho0,hb⟩
       refine ⟨_,rfl,?_⟩
       have CK:=Aside0.mk (Kd.eG (kr_ BI.out) hb)
       have CO:=Aside0.mk (Kd.dK (by (with_reducible repeat (first|apply Kd.bP|apply Kd.bQ|apply Kd.cB));exact BH.out) hb)
       have CP:=Aside0.mk (Kd.dF (kv_ Cb.out) hb)
       have C8:=Aside0.mk (Kd.dK (by (with_reducible repeat (first|apply Kd.bP|apply Kd.bQ|apply Kd.cB));exact BZ.out) hb)
       have C9:=Aside0.mk (Kd.dK (by (with_reducible repeat (first|apply Kd.bP|apply Kd.bQ|apply Kd.cB));exact Ce.out) hb)
       have Da:=Aside0.mk (Kd.dF (kv_ Cz.out) hb)
       have Db:=Aside0.mk (Kd.jf (Kd.eO (ok':=fun k_=>some k_ ≠ (.slice Ct BS.length Cu : Value).ownBlock ∧ some k_ ≠ (.slice Cv Cg.length Cw : Value).ownBlock ∧ some k_ ≠ (.slice Ed DC.length Ee : Value).ownBlock ∧ some k_ ≠ (.slice Ef DR.length Eh : Value).ownBlock ∧ k_ ≠ BG ∧ k_ ≠ BL ∧ k_ ≠ BD ∧ k_ ≠ BF) ho0 (fun k_ hk_=>⟨Or.elim hk_ (fun hs_=>hs_.1) (fun hn_=>(Kd.fresh' (Kd.nS (kr_ BI.out)) k_ hn_)),Or.elim hk_ (fun hs_=>hs_.2.1) (fun hn_=>(Kd.fresh' (Kd.jY (by (with_reducible repeat (first|apply Kd.bP|apply Kd.bQ|apply Kd.cB));exact BH.out)) k_ hn_)),Or.elim hk_ (fun hs_=>hs_.2.2.1) (fun hn_=>(Kd.fresh' (Kd.jY (by (with_reducible repeat (first|apply Kd.bP|apply Kd.bQ|apply Kd.cB));exact BZ.out)) k_ hn_)),Or.elim hk_ (fun hs_=>hs_.2.2.2.1) (fun hn_=>(Kd.fresh' (Kd.jY (by (with_reducible repeat (first|apply Kd.bP|apply Kd.bQ|apply Kd.cB));exact Ce.out)) k_ hn_)),Or.elim hk_ (fun hs_=>hs_.2.2.2.2.1) (fun hn_=>(Kd.gT (g:=BG) (o:=.cells #[.int .u32 BN,.slice Cn BJ.length Co] 25 (0,0)) (bk_ Bu.out) k_ hn_)),Or.elim hk_ (fun hs_=>hs_.2.2.2.2.2.1) (fun hn_=>(Kd.gT (g:=BL) (o:=.cells #[.int .u64 BU,.slice CB BR.length CF] 29 (0,0)) (bk_ Bv.out) k_ hn_)),Or.elim hk_ (fun hs_=>hs_.2.2.2.2.2.2.1) (fun hn_=>(Kd.gT (g:=BD) (o:=.cells #[.int .u32 Ca,.slice Ct BS.length Cu] 35 (0,0)) (bk_ Bw.out) k_ hn_)),Or.elim hk_ (fun hs_=>hs_.2.2.2.2.2.2.2) (fun hn_=>(Kd.gT (g:=BF) (o:=.cells #[.int .u64 Cm,.slice Cv Cg.length Cw] 39 (0,0)) (bk_ Bz.out) k_ hn_))⟩)) (aU hb_))
       have Dm:=Aside0.mk (aI (g:=BG) (o:=.cells #[.int .u32 BN,.slice Cn BJ.length Co] 25 (0,0)) (bk_ Bu.out) hb)
       have Dn:=Aside0.mk (aI (g:=BL) (o:=.cells #[.int .u64 BU,.slice CB BR.length CF] 29 (0,0)) (bk_ Bv.out) hb)
       have Dq:=Aside0.mk (aI (g:=BD) (o:=.cells #[.int .u32 Ca,.slice Ct BS.length Cu] 35 (0,0)) (bk_ Bw.out) hb)
       have CZ:=Aside0.mk (aI (g:=BF) (o:=.cells #[.int .u64 Cm,.slice Cv Cg.length Cw] 39 (0,0)) (bk_ Bz.out) hb)
       have Df:=Aside0.mk (aN hb_ hb)
       clear BI
       clear BH
       clear Cb
       clear BZ
       clear Ce
       clear Cz
       clear Bu
       clear Bv
       clear Bw
       clear Bz
       clear HB
       have BI:=CK
       have BH:=CO
       have Cb:=CP
       have BZ:=C8
       have Ce:=C9
       have Cz:=Da
       have CG:=Db
       have Bu:=Dm
       have Bv:=Dn
       have Bw:=Dq
       have Bz:=CZ
       have HB:=Df
       clear CK CO CP C8 C9 Da Db Dm Dn Dq CZ Df
       (try clear hb)
       (try clear hb2)
       (try clear hk)
       (try clear hi)
       (try clear ho0)
       refine hK.out _ _ ⟨(ah Bu.out 0).trans rfl,(ah Bu.out 1).trans rfl,(ah Bw.out 0).trans rfl,(ah Bw.out 1).trans rfl,(ah Bv.out 0).trans rfl,(ah Bv.out 1).trans rfl,(ah Bz.out 0).trans rfl,(ah Bz.out 1).trans rfl⟩ (fun hHeld=>?_)
       clear hK K
       refine dS (a':=?_) ?_ ?_
       rotate_left
       ·show Act.put _ (some 32) _ = _
        simp only [Act.put,List.setIfInBounds_toArray,List.set_cons_zero,List.set_cons_succ,bJ,bK]
        rfl
       refine fE (i:=14) (N:=some 34) #[I,I,I,I,I,I,I,I,I,I,I,I,I,I,I,O,O,O,O,O,O,O,O,O,O,O,O] rfl rfl (dh HT_.out (by kernel_rfl)) (by decide) (fun K hK=>?_)
       refine eH Tryz.func17 (by kernel_rfl) rfl #[.agg #[.int .u64 Cm,.slice Cv Cg.length Cw]] (by rfl) rfl rfl (by (try simp only [List.map_toArray,List.map_cons,List.map_nil]);first|done|rfl|(simp only [List.length_drop,List.length_take];rfl)) ?_
       with_reducible refine (aD.calls Ch Cm _ _ Cg ER Ec _ ?Ck ?Cr I4.out).mono ?_
       (case Ck=>repeat (first|exact (Kd.iF BH.out).2.2|(with_reducible refine Kd.dn ?_ _)|(with_reducible refine Kd.dw ?_ _)|(with_reducible refine Kd.dL ?_)))
       (case Cr=>exact (Kd.iF BH.out).2.1)
       rintro e JD ⟨Jl,rfl,ho0,hb⟩
       refine ⟨_,rfl,?_⟩
       have CK:=Aside0.mk (Kd.eG (kr_ BI.out) hb)
       have CO:=Aside0.mk (Kd.dK (by (with_reducible repeat (first|apply Kd.bP|apply Kd.bQ|apply Kd.cB));exact BH.out) hb)
       have CP:=Aside0.mk (Kd.fD (kv_ Cb.out) (Kd.jc ho0) hb)
       have C8:=Aside0.mk (Kd.dK (by (with_reducible repeat (first|apply Kd.bP|apply Kd.bQ|apply Kd.cB));exact BZ.out) hb)
       have C9:=Aside0.mk (Kd.dK (by (with_reducible repeat (first|apply Kd.bP|apply Kd.bQ|apply Kd.cB));exact Ce.out) hb)
       have Da:=Aside0.mk (Kd.fD (kv_ Cz.out) (Kd.jc ho0) hb)
       have Db:=Aside0.mk (Kd.fD (kv_ CG.out) (Kd.jc ho0) hb)
       have Dm:=Aside0.mk (Kd.jr ho0 (aU hb_))
       have Dn:=Aside0.mk (aI (g:=BG) (o:=.cells #[.int .u32 BN,.slice Cn BJ.length Co] 25 (0,0)) (bk_ Bu.out) hb)
       have Dq:=Aside0.mk (aI (g:=BL) (o:=.cells #[.int .u64 BU,.slice CB BR.length CF] 29 (0,0)) (bk_ Bv.out) hb)
       have CZ:=Aside0.mk (aI (g:=BD) (o:=.cells #[.int .u32 Ca,.slice Ct BS.length Cu] 35 (0,0)) (bk_ Bw.out) hb)
       have Df:=Aside0.mk (aI (g:=BF) (o:=.cells #[.int .u64 Cm,.slice Cv Cg.length Cw] 39 (0,0)) (bk_ Bz.out) hb)
       have Dj:=Aside0.mk (aN hb_ hb)
       clear BI
       clear BH
       clear Cb
       clear BZ
       clear Ce
       clear Cz
       clear CG
       clear Bu
       clear Bv
       clear Bw
       clear Bz
       clear HB
       have BI:=CK
       have BH:=CO
       have Cb:=CP
       have BZ:=C8
       have Ce:=C9
       have Cz:=Da
       have CG:=Db
       have CJ:=Dm
       have Bu:=Dn
       have Bv:=Dq
       have Bw:=CZ
       have Bz:=Df
       have HB:=Dj
       clear CK CO CP C8 C9 Da Db Dm Dn Dq CZ Df Dj
       (try clear hb)
       (try clear hb2)
       (try clear hk)
       (try clear hi)
       (try clear ho0)
       obtain ⟨G6,G7,Ga⟩:=Kd.iw CG.out
       (first|subst Ga|(injection Ga with Dt DJ Du;have DK:=Dt.symm;have DL:=Du.symm;clear Dt DJ Du;subst DK;subst DL))
       obtain ⟨EZ,E5,Gb⟩:=Kd.gH CJ.out
       (first|subst Gb|(injection Gb with Dt DJ Du;have DK:=Dt.symm;have DL:=Du.symm;clear Dt DJ Du;subst DK;subst DL))
       refine hK.out _ _ ⟨(ah Bu.out 0).trans rfl,(ah Bu.out 1).trans rfl,(ah Bw.out 0).trans rfl,(ah Bw.out 1).trans rfl,(ah Bv.out 0).trans rfl,(ah Bv.out 1).trans rfl,(ah Bz.out 0).trans rfl,(ah Bz.out 1).trans rfl⟩ (fun hHeld=>?_)
       clear hK K
       refine dS (a':=?_) ?_ ?_
       rotate_left
       ·show Act.put _ (some 34) _ = _
        simp only [Act.put,List.setIfInBounds_toArray,List.set_cons_zero,List.set_cons_succ,bJ,bK]
        rfl
       refine fE (i:=15) (N:=some 35) #[I,I,I,I,I,I,I,I,I,I,I,I,I,I,I,I,O,O,O,O,O,O,O,O,O,O,O] rfl rfl (dh HT_.out (by kernel_rfl)) (by decide) (fun K hK=>?_)
       refine eH Tryz.func14 (by kernel_rfl) rfl #[.agg #[.int .u64 Eu,.slice G6 Ew.length G7],.agg #[.int .u64 ER,.slice EZ Ec.length E5]] (by rfl) rfl rfl (by (try simp only [List.map_toArray,List.map_cons,List.map_nil]);first|done|rfl|(simp only [List.length_drop,List.length_take];rfl)) ?_
       with_reducible refine (aC.calls Ch Eu _ _ Ew ER _ _ Ec true _ ?Ck ?Cr ?Ea ?Eb I5.out).mono ?_
       (case Ck=>repeat (first|exact (Kd.eY CG.out).2.2|(with_reducible refine Kd.dn ?_ _)|(with_reducible refine Kd.dw ?_ _)|(with_reducible refine Kd.dL ?_)))
       (case Cr=>exact (Kd.eY CG.out).2.1)
       (case Ea=>repeat (first|exact (Kd.fH CJ.out).2.2|(with_reducible refine Kd.dn ?_ _)|(with_reducible refine Kd.dw ?_ _)|(with_reducible refine Kd.dL ?_)))
       (case Eb=>exact (Kd.fH CJ.out).2.1)
       rintro e JE ⟨rfl,hb⟩
       refine ⟨_,rfl,?_⟩
       have CK:=Aside0.mk (Kd.eG (kr_ BI.out) hb)
       have CO:=Aside0.mk (Kd.dK (by (with_reducible repeat (first|apply Kd.bP|apply Kd.bQ|apply Kd.cB));exact BH.out) hb)
       have CP:=Aside0.mk (Kd.dF (kv_ Cb.out) hb)
       have C8:=Aside0.mk (Kd.dK (by (with_reducible repeat (first|apply Kd.bP|apply Kd.bQ|apply Kd.cB));exact BZ.out) hb)
       have C9:=Aside0.mk (Kd.dK (by (with_reducible repeat (first|apply Kd.bP|apply Kd.bQ|apply Kd.cB));exact Ce.out) hb)
       have Da:=Aside0.mk (Kd.dF (kv_ Cz.out) hb)
       have Db:=Aside0.mk (Kd.dF (kv_ CG.out) hb)
       have Dm:=Aside0.mk (Kd.eG (kr_ CJ.out) hb)
       have Dn:=Aside0.mk (aI (g:=BG) (o:=.cells #[.int .u32 BN,.slice Cn BJ.length Co] 25 (0,0)) (bk_ Bu.out) hb)
       have Dq:=Aside0.mk (aI (g:=BL) (o:=.cells #[.int .u64 BU,.slice CB BR.length CF] 29 (0,0)) (bk_ Bv.out) hb)
       have CZ:=Aside0.mk (aI (g:=BD) (o:=.cells #[.int .u32 Ca,.slice Ct BS.length Cu] 35 (0,0)) (bk_ Bw.out) hb)
       have Df:=Aside0.mk (aI (g:=BF) (o:=.cells #[.int .u64 Cm,.slice Cv Cg.length Cw] 39 (0,0)) (bk_ Bz.out) hb)
       have Dj:=Aside0.mk (aN hb_ hb)
       clear BI
       clear BH
       clear Cb
       clear BZ
       clear Ce
       clear Cz
       clear CG
       clear CJ
       clear Bu
       clear Bv
       clear Bw
       clear Bz
       clear HB
       have BI:=CK
       have BH:=CO
       have Cb:=CP
       have BZ:=C8
       have Ce:=C9
       have Cz:=Da
       have CG:=Db
       have CJ:=Dm
       have Bu:=Dn
       have Bv:=Dq
       have Bw:=CZ
       have Bz:=Df
       have HB:=Dj
       clear CK CO CP C8 C9 Da Db Dm Dn Dq CZ Df Dj
       (try clear hb)
       (try clear hb2)
       (try clear hk)
       (try clear hi)
       refine hK.out _ _ ⟨(ah Bu.out 0).trans rfl,(ah Bu.out 1).trans rfl,(ah Bw.out 0).trans rfl,(ah Bw.out 1).trans rfl,(ah Bv.out 0).trans rfl,(ah Bv.out 1).trans rfl,(ah Bz.out 0).trans rfl,(ah Bz.out 1).trans rfl⟩ (fun hHeld=>?_)
       clear hK K
       refine dS (a':=?_) ?_ ?_
       rotate_left
       ·show Act.put _ (some 35) _ = _
        simp only [Act.put,List.setIfInBounds_toArray,List.set_cons_zero,List.set_cons_succ,bJ,bK]
        rfl
       refine pu_ 16 36 #[I,I,I,I,I,I,I,I,I,I,I,I,I,I,I,I,I,O,O,O,O,O,O,O,O,O,O] HT_.out ?_
       refine pu_ 17 37 #[I,I,I,I,I,I,I,I,I,I,I,I,I,I,I,I,I,I,O,O,O,O,O,O,O,O,O] HT_.out ?_
       refine ta_ 18 38 #[I,I,I,I,I,I,I,I,I,I,I,I,I,I,I,I,I,I,I,O,O,O,O,O,O,O,O] HT_.out HW_.out hHeld ?_
       refine ta_ 21 41 #[I,I,I,I,I,I,I,I,I,I,I,I,I,I,I,I,I,I,I,O,O,I,O,O,O,O,O] HT_.out HW_.out hHeld ?_
       refine fE (i:=19) (N:=some 39) #[I,I,I,I,I,I,I,I,I,I,I,I,I,I,I,I,I,I,I,I,O,I,O,O,O,O,O] rfl rfl (dh HT_.out (by kernel_rfl)) (by decide) (fun K hK=>?_)
       refine eH Tryz.func18 (by kernel_rfl) rfl #[.agg #[.int .u32 BN,.slice Cn BJ.length Co]] (by rfl) rfl rfl (by (try simp only [List.map_toArray,List.map_cons,List.map_nil]);first|done|rfl|(simp only [List.length_drop,List.length_take];rfl)) ?_
       with_reducible refine (dG.calls BN _ _ BJ ES ET _ ?Ck ?Cr I6.out).mono ?_
       (case Ck=>repeat (first|exact (Kd.cZ D7.out HB.out)|(with_reducible refine Kd.dn ?_ _)|(with_reducible refine Kd.dw ?_ _)|(with_reducible refine Kd.dL ?_)))
       (case Cr=>exact D8.out)
       rintro e JF ⟨Jm,rfl,ho0,hb⟩
       refine ⟨_,rfl,?_⟩
       have CK:=Aside0.mk (Kd.eG (kr_ BI.out) hb)
       have CO:=Aside0.mk (Kd.dK (by (with_reducible repeat (first|apply Kd.bP|apply Kd.bQ|apply Kd.cB));exact BH.out) hb)
       have CP:=Aside0.mk (Kd.dF (kv_ Cb.out) hb)
       have C8:=Aside0.mk (Kd.dK (by (with_reducible repeat (first|apply Kd.bP|apply Kd.bQ|apply Kd.cB));exact BZ.out) hb)
       have C9:=Aside0.mk (Kd.dK (by (with_reducible repeat (first|apply Kd.bP|apply Kd.bQ|apply Kd.cB));exact Ce.out) hb)
       have Da:=Aside0.mk (Kd.dF (kv_ Cz.out) hb)
       have Db:=Aside0.mk (Kd.dF (kv_ CG.out) hb)
       have Dm:=Aside0.mk (Kd.eG (kr_ CJ.out) hb)
       have Dn:=Aside0.mk (Kd.jf (Kd.eO (ok':=fun k_=>some k_ ≠ (.slice Ct BS.length Cu : Value).ownBlock ∧ some k_ ≠ (.slice Cv Cg.length Cw : Value).ownBlock ∧ some k_ ≠ (.slice Ed DC.length Ee : Value).ownBlock ∧ some k_ ≠ (.slice Ef DR.length Eh : Value).ownBlock ∧ some k_ ≠ (.slice EZ Ec.length E5 : Value).ownBlock ∧ k_ ≠ BG ∧ k_ ≠ BL ∧ k_ ≠ BD ∧ k_ ≠ BF) ho0 (fun k_ hk_=>⟨(Kd.fresh' (Kd.nS (kr_ BI.out)) k_ hk_),(Kd.fresh' (Kd.jY (by (with_reducible repeat (first|apply Kd.bP|apply Kd.bQ|apply Kd.cB));exact BH.out)) k_ hk_),(Kd.fresh' (Kd.jY (by (with_reducible repeat (first|apply Kd.bP|apply Kd.bQ|apply Kd.cB));exact BZ.out)) k_ hk_),(Kd.fresh' (Kd.jY (by (with_reducible repeat (first|apply Kd.bP|apply Kd.bQ|apply Kd.cB));exact Ce.out)) k_ hk_),(Kd.fresh' (Kd.nS (kr_ CJ.out)) k_ hk_),(Kd.gT (g:=BG) (o:=.cells #[.int .u32 BN,.slice Cn BJ.length Co] 25 (0,0)) (bk_ Bu.out) k_ hk_),(Kd.gT (g:=BL) (o:=.cells #[.int .u64 BU,.slice CB BR.length CF] 29 (0,0)) (bk_ Bv.out) k_ hk_),(Kd.gT (g:=BD) (o:=.cells #[.int .u32 Ca,.slice Ct BS.length Cu] 35 (0,0)) (bk_ Bw.out) k_ hk_),(Kd.gT (g:=BF) (o:=.cells #[.int .u64 Cm,.slice Cv Cg.length Cw] 39 (0,0)) (bk_ Bz.out) k_ hk_)⟩)) (aU hb_))
       have Dq:=Aside0.mk (aI (g:=BG) (o:=.cells #[.int .u32 BN,.slice Cn BJ.length Co] 25 (0,0)) (bk_ Bu.out) hb)
       have CZ:=Aside0.mk (aI (g:=BL) (o:=.cells #[.int .u64 BU,.slice CB BR.length CF] 29 (0,0)) (bk_ Bv.out) hb)
       have Df:=Aside0.mk (aI (g:=BD) (o:=.cells #[.int .u32 Ca,.slice Ct BS.length Cu] 35 (0,0)) (bk_ Bw.out) hb)
       have Dj:=Aside0.mk (aI (g:=BF) (o:=.cells #[.int .u64 Cm,.slice Cv Cg.length Cw] 39 (0,0)) (bk_ Bz.out) hb)
       have Dr:=Aside0.mk (aN hb_ hb)
       clear BI
       clear BH
       clear Cb
       clear BZ
       clear Ce
       clear Cz
       clear CG
       clear CJ
       clear Bu
       clear Bv
       clear Bw
       clear Bz
       clear HB
       have BI:=CK
       have BH:=CO
       have Cb:=CP
       have BZ:=C8
       have Ce:=C9
       have Cz:=Da
       have CG:=Db
       have CJ:=Dm
       have Dk:=Dn
       have Bu:=Dq
       have Bv:=CZ
       have Bw:=Df
       have Bz:=Dj
       have HB:=Dr
       clear CK CO CP C8 C9 Da Db Dm Dn Dq CZ Df Dj Dr
       (try clear hb)
       (try clear hb2)
       (try clear hk)
       (try clear hi)
       (try clear ho0)
       obtain ⟨G8,G9,Gc⟩:=Kd.iw Dk.out
       (first|subst Gc|(injection Gc with Dt DJ Du;have DK:=Dt.symm;have DL:=Du.symm;clear Dt DJ Du;subst DK;subst DL))
       refine hK.out _ _ ⟨(ah Bu.out 0).trans rfl,(ah Bu.out 1).trans rfl,(ah Bw.out 0).trans rfl,(ah Bw.out 1).trans rfl,(ah Bv.out 0).trans rfl,(ah Bv.out 1).trans rfl,(ah Bz.out 0).trans rfl,(ah Bz.out 1).trans rfl⟩ (fun hHeld=>?_)
       clear hK K
       refine dS (a':=?_) ?_ ?_
       rotate_left
       ·show Act.put _ (some 39) _ = _
        simp only [Act.put,List.setIfInBounds_toArray,List.set_cons_zero,List.set_cons_succ,bJ,bK]
        rfl
       refine fE (i:=20) (N:=some 40) #[I,I,I,I,I,I,I,I,I,I,I,I,I,I,I,I,I,I,I,I,I,I,O,O,O,O,O] rfl rfl (dh HT_.out (by kernel_rfl)) (by decide) (fun K hK=>?_)
       refine eH Tryz.func15 (by kernel_rfl) rfl #[.agg #[.int .u64 ES,.slice G8 ET.length G9]] (by rfl) rfl rfl (by (try simp only [List.map_toArray,List.map_cons,List.map_nil]);first|done|rfl|(simp only [List.length_drop,List.length_take];rfl)) ?_
       with_reducible refine (bH.calls ES (fun k_=>(some k_ ≠ (.slice Ct BS.length Cu : Value).ownBlock ∧ (some k_ ≠ (.slice Cv Cg.length Cw : Value).ownBlock ∧ (some k_ ≠ (.slice Ed DC.length Ee : Value).ownBlock ∧ (some k_ ≠ (.slice Ef DR.length Eh : Value).ownBlock ∧ (some k_ ≠ (.slice EZ Ec.length E5 : Value).ownBlock ∧ (k_ ≠ BG ∧ (k_ ≠ BL ∧ (k_ ≠ BD ∧ k_ ≠ BF))))))))) _ _ ET Eo Ep _ ?Ck I7.out).mono ?_
       (case Ck=>exact Dk.out)
       rintro e JG ⟨Jo,rfl,ho0,hb⟩
       refine ⟨_,rfl,?_⟩
       have CK:=Aside0.mk (Kd.eG (kr_ BI.out) hb)
       have CO:=Aside0.mk (Kd.dK (by (with_reducible repeat (first|apply Kd.bP|apply Kd.bQ|apply Kd.cB));exact BH.out) hb)
       have CP:=Aside0.mk (Kd.dF (kv_ Cb.out) hb)
       have C8:=Aside0.mk (Kd.dK (by (with_reducible repeat (first|apply Kd.bP|apply Kd.bQ|apply Kd.cB));exact BZ.out) hb)
       have C9:=Aside0.mk (Kd.dK (by (with_reducible repeat (first|apply Kd.bP|apply Kd.bQ|apply Kd.cB));exact Ce.out) hb)
       have Da:=Aside0.mk (Kd.dF (kv_ Cz.out) hb)
       have Db:=Aside0.mk (Kd.dF (kv_ CG.out) hb)
       have Dm:=Aside0.mk (Kd.eG (kr_ CJ.out) hb)
       have Dn:=Aside0.mk (Kd.dF (kv_ Dk.out) hb)
       have Dq:=Aside0.mk (Kd.jf (Kd.eO (ok':=fun k_=>some k_ ≠ (.slice Ct BS.length Cu : Value).ownBlock ∧ some k_ ≠ (.slice Cv Cg.length Cw : Value).ownBlock ∧ some k_ ≠ (.slice Ed DC.length Ee : Value).ownBlock ∧ some k_ ≠ (.slice Ef DR.length Eh : Value).ownBlock ∧ some k_ ≠ (.slice EZ Ec.length E5 : Value).ownBlock ∧ k_ ≠ BG ∧ k_ ≠ BL ∧ k_ ≠ BD ∧ k_ ≠ BF) ho0 (fun k_ hk_=>⟨Or.elim hk_ (fun hs_=>hs_.1) (fun hn_=>(Kd.fresh' (Kd.nS (kr_ BI.out)) k_ hn_)),Or.elim hk_ (fun hs_=>hs_.2.1) (fun hn_=>(Kd.fresh' (Kd.jY (by (with_reducible repeat (first|apply Kd.bP|apply Kd.bQ|apply Kd.cB));exact BH.out)) k_ hn_)),Or.elim hk_ (fun hs_=>hs_.2.2.1) (fun hn_=>(Kd.fresh' (Kd.jY (by (with_reducible repeat (first|apply Kd.bP|apply Kd.bQ|apply Kd.cB));exact BZ.out)) k_ hn_)),Or.elim hk_ (fun hs_=>hs_.2.2.2.1) (fun hn_=>(Kd.fresh' (Kd.jY (by (with_reducible repeat (first|apply Kd.bP|apply Kd.bQ|apply Kd.cB));exact Ce.out)) k_ hn_)),Or.elim hk_ (fun hs_=>hs_.2.2.2.2.1) (fun hn_=>(Kd.fresh' (Kd.nS (kr_ CJ.out)) k_ hn_)),Or.elim hk_ (fun hs_=>hs_.2.2.2.2.2.1) (fun hn_=>(Kd.gT (g:=BG) (o:=.cells #[.int .u32 BN,.slice Cn BJ.length Co] 25 (0,0)) (bk_ Bu.out) k_ hn_)),Or.elim hk_ (fun hs_=>hs_.2.2.2.2.2.2.1) (fun hn_=>(Kd.gT (g:=BL) (o:=.cells #[.int .u64 BU,.slice CB BR.length CF] 29 (0,0)) (bk_ Bv.out) k_ hn_)),Or.elim hk_ (fun hs_=>hs_.2.2.2.2.2.2.2.1) (fun hn_=>(Kd.gT (g:=BD) (o:=.cells #[.int .u32 Ca,.slice Ct BS.length Cu] 35 (0,0)) (bk_ Bw.out) k_ hn_)),Or.elim hk_ (fun hs_=>hs_.2.2.2.2.2.2.2.2) (fun hn_=>(Kd.gT (g:=BF) (o:=.cells #[.int .u64 Cm,.slice Cv Cg.length Cw] 39 (0,0)) (bk_ Bz.out) k_ hn_))⟩)) (aU hb_))
       have CZ:=Aside0.mk (aI (g:=BG) (o:=.cells #[.int .u32 BN,.slice Cn BJ.length Co] 25 (0,0)) (bk_ Bu.out) hb)
       have Df:=Aside0.mk (aI (g:=BL) (o:=.cells #[.int .u64 BU,.slice CB BR.length CF] 29 (0,0)) (bk_ Bv.out) hb)
       have Dj:=Aside0.mk (aI (g:=BD) (o:=.cells #[.int .u32 Ca,.slice Ct BS.length Cu] 35 (0,0)) (bk_ Bw.out) hb)
       have Dr:=Aside0.mk (aI (g:=BF) (o:=.cells #[.int .u64 Cm,.slice Cv Cg.length Cw] 39 (0,0)) (bk_ Bz.out) hb)
       have Dw:=Aside0.mk (aN hb_ hb)
       clear BI
       clear BH
       clear Cb
       clear BZ
       clear Ce
       clear Cz
       clear CG
       clear CJ
       clear Dk
       clear Bu
       clear Bv
       clear Bw
       clear Bz
       clear HB
       have BI:=CK
       have BH:=CO
       have Cb:=CP
       have BZ:=C8
       have Ce:=C9
       have Cz:=Da
       have CG:=Db
       have CJ:=Dm
       have Dk:=Dn
       have Dp:=Dq
       have Bu:=CZ
       have Bv:=Df
       have Bw:=Dj
       have Bz:=Dr
       have HB:=Dw
       clear CK CO CP C8 C9 Da Db Dm Dn Dq CZ Df Dj Dr Dw
       (try clear hb)
       (try clear hb2)
       (try clear hk)
       (try clear hi)
       (try clear ho0)
       refine hK.out _ _ ⟨(ah Bu.out 0).trans rfl,(ah Bu.out 1).trans rfl,(ah Bw.out 0).trans rfl,(ah Bw.out 1).trans rfl,(ah Bv.out 0).trans rfl,(ah Bv.out 1).trans rfl,(ah Bz.out 0).trans rfl,(ah Bz.out 1).trans rfl⟩ (fun hHeld=>?_)
       clear hK K
       refine dS (a':=?_) ?_ ?_
       rotate_left
       ·show Act.put _ (some 40) _ = _
        simp only [Act.put,List.setIfInBounds_toArray,List.set_cons_zero,List.set_cons_succ,bJ,bK]
        rfl
       refine fE (i:=22) (N:=some 42) #[I,I,I,I,I,I,I,I,I,I,I,I,I,I,I,I,I,I,I,I,I,I,I,O,O,O,O] rfl rfl (dh HT_.out (by kernel_rfl)) (by decide) (fun K hK=>?_)
       refine eH Tryz.func13 (by kernel_rfl) rfl #[.agg #[.int .u32 Ca,.slice Ct BS.length Cu]] (by rfl) rfl rfl (by (try simp only [List.map_toArray,List.map_cons,List.map_nil]);first|done|rfl|(simp only [List.length_drop,List.length_take];rfl)) ?_
       with_reducible refine (aR.calls Ch Ca _ _ BS EU EW _ ?Ck ?Cr I8.out).mono ?_
       (case Ck=>repeat (first|exact (Kd.fH BI.out).2.2|(with_reducible refine Kd.dn ?_ _)|(with_reducible refine Kd.dw ?_ _)|(with_reducible refine Kd.dL ?_)))
       (case Cr=>exact (Kd.fH BI.out).2.1)
       rintro e JH ⟨Jp,rfl,ho0,hb⟩
       refine ⟨_,rfl,?_⟩
       have CK:=Aside0.mk (Kd.eG (kr_ BI.out) hb)
       have CO:=Aside0.mk (Kd.jB (by (with_reducible repeat (first|apply Kd.bP|apply Kd.bQ|apply Kd.cB));exact BH.out) (Kd.gU ho0) hb)
       have CP:=Aside0.mk (Kd.fD (kv_ Cb.out) (Kd.gU ho0) hb)
       have C8:=Aside0.mk (Kd.jB (by (with_reducible repeat (first|apply Kd.bP|apply Kd.bQ|apply Kd.cB));exact BZ.out) (Kd.gU ho0) hb)
       have C9:=Aside0.mk (Kd.jB (by (with_reducible repeat (first|apply Kd.bP|apply Kd.bQ|apply Kd.cB));exact Ce.out) (Kd.gU ho0) hb)
       have Da:=Aside0.mk (Kd.fD (kv_ Cz.out) (Kd.gU ho0) hb)
       have Db:=Aside0.mk (Kd.fD (kv_ CG.out) (Kd.gU ho0) hb)
       have Dm:=Aside0.mk (Kd.eG (kr_ CJ.out) hb)
       have Dn:=Aside0.mk (Kd.fD (kv_ Dk.out) (Kd.gU ho0) hb)
       have Dq:=Aside0.mk (Kd.fD (kv_ Dp.out) (Kd.gU ho0) hb)
       have CZ:=Aside0.mk (Kd.kF (Kd.lV (Kd.lV (Kd.lV ho0 (Kd.jY (by (with_reducible repeat (first|apply Kd.bP|apply Kd.bQ|apply Kd.cB));exact BH.out))) (Kd.jY (by (with_reducible repeat (first|apply Kd.bP|apply Kd.bQ|apply Kd.cB));exact BZ.out))) (Kd.jY (by (with_reducible repeat (first|apply Kd.bP|apply Kd.bQ|apply Kd.cB));exact Ce.out))) (aU hb_))
       have Df:=Aside0.mk (aI (g:=BG) (o:=.cells #[.int .u32 BN,.slice Cn BJ.length Co] 25 (0,0)) (bk_ Bu.out) hb)
       have Dj:=Aside0.mk (aI (g:=BL) (o:=.cells #[.int .u64 BU,.slice CB BR.length CF] 29 (0,0)) (bk_ Bv.out) hb)
       have Dr:=Aside0.mk (aI (g:=BD) (o:=.cells #[.int .u32 Ca,.slice Ct BS.length Cu] 35 (0,0)) (bk_ Bw.out) hb)
       have Dw:=Aside0.mk (aI (g:=BF) (o:=.cells #[.int .u64 Cm,.slice Cv Cg.length Cw] 39 (0,0)) (bk_ Bz.out) hb)
       have DI:=Aside0.mk (aN hb_ hb)
       clear BI
       clear BH
       clear Cb
       clear BZ
       clear Ce
       clear Cz
       clear CG
       clear CJ
       clear Dk
       clear Dp
       clear Bu
       clear Bv
       clear Bw
       clear Bz
       clear HB
       have BI:=CK
       have BH:=CO
       have Cb:=CP
       have BZ:=C8
       have Ce:=C9
       have Cz:=Da
       have CG:=Db
       have CJ:=Dm
       have Dk:=Dn
       have Dp:=Dq
       have Dx:=CZ
       have Bu:=Df
       have Bv:=Dj
       have Bw:=Dr
       have Bz:=Dw
       have HB:=DI
       clear CK CO CP C8 C9 Da Db Dm Dn Dq CZ Df Dj Dr Dw DI
       (try clear hb)
       (try clear hb2)
       (try clear hk)
       (try clear hi)
       (try clear ho0)
       obtain ⟨He,Hf,Gd⟩:=Kd.iL Dx.out
       (first|subst Gd|(injection Gd with Dt DJ Du;have DK:=Dt.symm;have DL:=Du.symm;clear Dt DJ Du;subst DK;subst DL))
       refine hK.out _ _ ⟨(ah Bu.out 0).trans rfl,(ah Bu.out 1).trans rfl,(ah Bw.out 0).trans rfl,(ah Bw.out 1).trans rfl,(ah Bv.out 0).trans rfl,(ah Bv.out 1).trans rfl,(ah Bz.out 0).trans rfl,(ah Bz.out 1).trans rfl⟩ (fun hHeld=>?_)
       clear hK K
       refine dS (a':=?_) ?_ ?_
       rotate_left
       ·show Act.put _ (some 42) _ = _
        simp only [Act.put,List.setIfInBounds_toArray,List.set_cons_zero,List.set_cons_succ,bJ,bK]
        rfl
       refine fE (i:=23) (N:=some 43) #[I,I,I,I,I,I,I,I,I,I,I,I,I,I,I,I,I,I,I,I,I,I,I,I,O,O,O] rfl rfl (dh HT_.out (by kernel_rfl)) (by decide) (fun K hK=>?_)
       refine eH Tryz.func17 (by kernel_rfl) rfl #[.agg #[.int .u64 EU,.slice He EW.length Hf]] (by rfl) rfl rfl (by (try simp only [List.map_toArray,List.map_cons,List.map_nil]);first|done|rfl|(simp only [List.length_drop,List.length_take];rfl)) ?_
       with_reducible refine (aD.calls Ch EU _ _ EW EX EY _ ?Ck ?Cr I9.out).mono ?_
       (case Ck=>repeat (first|exact (Kd.iF Dx.out).2.2|(with_reducible refine Kd.dn ?_ _)|(with_reducible refine Kd.dw ?_ _)|(with_reducible refine Kd.dL ?_)))
       (case Cr=>exact (Kd.iF Dx.out).2.1)
       rintro e JI ⟨Jq,rfl,ho0,hb⟩
       refine ⟨_,rfl,?_⟩
       have CK:=Aside0.mk (Kd.eG (kr_ BI.out) hb)
       have CO:=Aside0.mk (Kd.dK (by (with_reducible repeat (first|apply Kd.bP|apply Kd.bQ|apply Kd.cB));exact BH.out) hb)
       have CP:=Aside0.mk (Kd.fD (kv_ Cb.out) (Kd.jc ho0) hb)
       have C8:=Aside0.mk (Kd.dK (by (with_reducible repeat (first|apply Kd.bP|apply Kd.bQ|apply Kd.cB));exact BZ.out) hb)
       have C9:=Aside0.mk (Kd.dK (by (with_reducible repeat (first|apply Kd.bP|apply Kd.bQ|apply Kd.cB));exact Ce.out) hb)
       have Da:=Aside0.mk (Kd.fD (kv_ Cz.out) (Kd.jc ho0) hb)
       have Db:=Aside0.mk (Kd.fD (kv_ CG.out) (Kd.jc ho0) hb)
       have Dm:=Aside0.mk (Kd.qN (kr_ CJ.out) (Kd.jc ho0) hb)
       have Dn:=Aside0.mk (Kd.fD (kv_ Dk.out) (Kd.jc ho0) hb)
       have Dq:=Aside0.mk (Kd.fD (kv_ Dp.out) (Kd.jc ho0) hb)
       have CZ:=Aside0.mk (Kd.dK (by (with_reducible repeat (first|apply Kd.bP|apply Kd.bQ|apply Kd.cB));exact Dx.out) hb)
       have Df:=Aside0.mk (Kd.jr (Kd.vB ho0 (Kd.nS (kr_ CJ.out))) (aU hb_))
       have Dj:=Aside0.mk (aI (g:=BG) (o:=.cells #[.int .u32 BN,.slice Cn BJ.length Co] 25 (0,0)) (bk_ Bu.out) hb)
       have Dr:=Aside0.mk (aI (g:=BL) (o:=.cells #[.int .u64 BU,.slice CB BR.length CF] 29 (0,0)) (bk_ Bv.out) hb)
       have Dw:=Aside0.mk (aI (g:=BD) (o:=.cells #[.int .u32 Ca,.slice Ct BS.length Cu] 35 (0,0)) (bk_ Bw.out) hb)
       have DI:=Aside0.mk (aI (g:=BF) (o:=.cells #[.int .u64 Cm,.slice Cv Cg.length Cw] 39 (0,0)) (bk_ Bz.out) hb)
       have D9:=Aside0.mk (aN hb_ hb)
       clear BI
       clear BH
       clear Cb
       clear BZ
       clear Ce
       clear Cz
       clear CG
       clear CJ
       clear Dk
       clear Dp
       clear Dx
       clear Bu
       clear Bv
       clear Bw
       clear Bz
       clear HB
       have BI:=CK
       have BH:=CO
       have Cb:=CP
       have BZ:=C8
       have Ce:=C9
       have Cz:=Da
       have CG:=Db
       have CJ:=Dm
       have Dk:=Dn
       have Dp:=Dq
       have Dx:=CZ
       have DZ:=Df
       have Bu:=Dj
       have Bv:=Dr
       have Bw:=Dw
       have Bz:=DI
       have HB:=D9
       clear CK CO CP C8 C9 Da Db Dm Dn Dq CZ Df Dj Dr Dw DI D9
       (try clear hb)
       (try clear hb2)
       (try clear hk)
       (try clear hi)
       (try clear ho0)
       obtain ⟨Hg,Hl,Gf⟩:=Kd.iw Dp.out
       (first|subst Gf|(injection Gf with Dt DJ Du;have DK:=Dt.symm;have DL:=Du.symm;clear Dt DJ Du;subst DK;subst DL))
       obtain ⟨Ho,Hq,Gg⟩:=Kd.gH DZ.out
       (first|subst Gg|(injection Gg with Dt DJ Du;have DK:=Dt.symm;have DL:=Du.symm;clear Dt DJ Du;subst DK;subst DL))
       refine hK.out _ _ ⟨(ah Bu.out 0).trans rfl,(ah Bu.out 1).trans rfl,(ah Bw.out 0).trans rfl,(ah Bw.out 1).trans rfl,(ah Bv.out 0).trans rfl,(ah Bv.out 1).trans rfl,(ah Bz.out 0).trans rfl,(ah Bz.out 1).trans rfl⟩ (fun hHeld=>?_)
       clear hK K
       refine dS (a':=?_) ?_ ?_
       rotate_left
       ·show Act.put _ (some 43) _ = _
        simp only [Act.put,List.setIfInBounds_toArray,List.set_cons_zero,List.set_cons_succ,bJ,bK]
        rfl
       refine fE (i:=24) (N:=some 44) #[I,I,I,I,I,I,I,I,I,I,I,I,I,I,I,I,I,I,I,I,I,I,I,I,I,O,O] rfl rfl (dh HT_.out (by kernel_rfl)) (by decide) (fun K hK=>?_)
       refine eH Tryz.func14 (by kernel_rfl) rfl #[.agg #[.int .u64 Eo,.slice Hg Ep.length Hl],.agg #[.int .u64 EX,.slice Ho EY.length Hq]] (by rfl) rfl rfl (by (try simp only [List.map_toArray,List.map_cons,List.map_nil]);first|done|rfl|(simp only [List.length_drop,List.length_take];rfl)) ?_
       with_reducible refine (aC.calls Ch Eo _ _ Ep EX _ _ EY Cq _ ?Ck ?Cr ?Ea ?Eb Ja.out).mono ?_
       (case Ck=>repeat (first|exact (Kd.eY Dp.out).2.2|(with_reducible refine Kd.dn ?_ _)|(with_reducible refine Kd.dw ?_ _)|(with_reducible refine Kd.dL ?_)))
       (case Cr=>exact (Kd.eY Dp.out).2.1)
       (case Ea=>repeat (first|exact (Kd.fH DZ.out).2.2|(with_reducible refine Kd.dn ?_ _)|(with_reducible refine Kd.dw ?_ _)|(with_reducible refine Kd.dL ?_)))
       (case Eb=>exact (Kd.fH DZ.out).2.1)
       rintro e JJ ⟨rfl,hb⟩
       refine ⟨_,rfl,?_⟩
       have CK:=Aside0.mk (Kd.eG (kr_ BI.out) hb)
       have CO:=Aside0.mk (Kd.dK (by (with_reducible repeat (first|apply Kd.bP|apply Kd.bQ|apply Kd.cB));exact BH.out) hb)
       have CP:=Aside0.mk (Kd.dF (kv_ Cb.out) hb)
       have C8:=Aside0.mk (Kd.dK (by (with_reducible repeat (first|apply Kd.bP|apply Kd.bQ|apply Kd.cB));exact BZ.out) hb)
       have C9:=Aside0.mk (Kd.dK (by (with_reducible repeat (first|apply Kd.bP|apply Kd.bQ|apply Kd.cB));exact Ce.out) hb)
       have Da:=Aside0.mk (Kd.dF (kv_ Cz.out) hb)
       have Db:=Aside0.mk (Kd.dF (kv_ CG.out) hb)
       have Dm:=Aside0.mk (Kd.eG (kr_ CJ.out) hb)
       have Dn:=Aside0.mk (Kd.dF (kv_ Dk.out) hb)
       have Dq:=Aside0.mk (Kd.dF (kv_ Dp.out) hb)
       have CZ:=Aside0.mk (Kd.dK (by (with_reducible repeat (first|apply Kd.bP|apply Kd.bQ|apply Kd.cB));exact Dx.out) hb)
       have Df:=Aside0.mk (Kd.eG (kr_ DZ.out) hb)
       have Dj:=Aside0.mk (aI (g:=BG) (o:=.cells #[.int .u32 BN,.slice Cn BJ.length Co] 25 (0,0)) (bk_ Bu.out) hb)
       have Dr:=Aside0.mk (aI (g:=BL) (o:=.cells #[.int .u64 BU,.slice CB BR.length CF] 29 (0,0)) (bk_ Bv.out) hb)
       have Dw:=Aside0.mk (aI (g:=BD) (o:=.cells #[.int .u32 Ca,.slice Ct BS.length Cu] 35 (0,0)) (bk_ Bw.out) hb)
       have DI:=Aside0.mk (aI (g:=BF) (o:=.cells #[.int .u64 Cm,.slice Cv Cg.length Cw] 39 (0,0)) (bk_ Bz.out) hb)
       have D9:=Aside0.mk (aN hb_ hb)
       clear BI
       clear BH
       clear Cb
       clear BZ
       clear Ce
       clear Cz
       clear CG
       clear CJ
       clear Dk
       clear Dp
       clear Dx
       clear DZ
       clear Bu
       clear Bv
       clear Bw
       clear Bz
       clear HB
       have BI:=CK
       have BH:=CO
       have Cb:=CP
       have BZ:=C8
       have Ce:=C9
       have Cz:=Da
       have CG:=Db
       have CJ:=Dm
       have Dk:=Dn
       have Dp:=Dq
       have Dx:=CZ
       have DZ:=Df
       have Bu:=Dj
       have Bv:=Dr
       have Bw:=Dw
       have Bz:=DI
       have HB:=D9
       clear CK CO CP C8 C9 Da Db Dm Dn Dq CZ Df Dj Dr Dw DI D9
       (try clear hb)
       (try clear hb2)
       (try clear hk)
       (try clear hi)
       refine hK.out _ _ ⟨(ah Bu.out 0).trans rfl,(ah Bu.out 1).trans rfl,(ah Bw.out 0).trans rfl,(ah Bw.out 1).trans rfl,(ah Bv.out 0).trans rfl,(ah Bv.out 1).trans rfl,(ah Bz.out 0).trans rfl,(ah Bz.out 1).trans rfl⟩ (fun hHeld=>?_)
       clear hK K
       refine dS (a':=?_) ?_ ?_
       rotate_left
       ·show Act.put _ (some 44) _ = _
        simp only [Act.put,List.setIfInBounds_toArray,List.set_cons_zero,List.set_cons_succ,bJ,bK]
        rfl
       refine pu_ 25 45 #[I,I,I,I,I,I,I,I,I,I,I,I,I,I,I,I,I,I,I,I,I,I,I,I,I,I,O] HT_.out ?_
       refine pu_ 26 4 #[I,I,I,I,I,I,I,I,I,I,I,I,I,I,I,I,I,I,I,I,I,I,I,I,I,I,I] HT_.out ?_
       refine jd (gI HT_.out (by kernel_rfl)) ?_
       try go_wp2
       go_ret
       exact ⟨by first|rfl|(simp [bB,bC] <;> rfl)|(simp [*,bB,bC] <;> rfl),hb_⟩
      ·replace Gh:=Bool.eq_false_iff.mpr Gh
       subst Gh
       have H1 : (some false) = some r:=by rw [if_neg (show ¬ (false = true) by decide)] at H;exact H
       clear H
       have H:=H1
       clear H1
       exact absurd ((Option.some.inj H).trans HTr.out) (by decide)
     ·replace c28:=Bool.eq_false_iff.mpr c28
      subst c28
      have H1 : (some false) = some r:=by rw [if_neg (show ¬ (false = true) by decide)] at H;exact H
      clear H
      have H:=H1
      clear H1
      exact absurd ((Option.some.inj H).trans HTr.out) (by decide)
    ·replace c23:=Bool.eq_false_iff.mpr c23
     subst c23
     have H1 : (some false) = some r:=by rw [if_neg (show ¬ (false = true) by decide)] at H;exact H
     clear H
     have H:=H1
     clear H1
     exact absurd ((Option.some.inj H).trans HTr.out) (by decide)
end Go.Proofs.YtpncpefppifgdaaGreatDoor.GUt
