/- Written by this session's own program (wip/gen.py) out of the translation: plain Lean functions of the Go functions, and proofs that the calls come to their answers. No conditions beside those in the statements. -/
import Derived.Test.YtpmbdcljphpcnaaDoorGC2x0
namespace Go.Proofs.YtpmbdcljphpcnaaDoor.GC2
open Go.RowKit Go.Proofs.YtpmbdcljphpcnaaDoorW.PrintWords Go.Proofs.YtpmbdcljphpcnaaDoorW.PrintLast Go.Proofs.YtpmbdcljphpcnaaDoorW.PrintMore
attribute [local go_sem] eY eZ fJ fK eP eT fq fu
set_option linter.unusedVariables false
set_option linter.unusedSimpArgs false
mutual
def bF.l0 : Nat → List (S98) → Int → Int → Int → List (S103) → Option (Int × (List (S103)))
 | 0,_,_,_,_,_=>none
 | k + 1,Ak,Cu,zP,yR,yN=>if zP < Cu then (if 0 ≤ zP then (if zP < (Ak.length : Int) then (bF.l1 k Ak Cu zP ((aD Ak zP).f5) (((aD Ak zP).f5).length : Int) 0 yR yN ((aD Ak zP).f0) ((aD Ak zP).f1) ((aD Ak zP).f2) ((aD Ak zP).f3) ((aD Ak zP).f4) ([] : List (S104))) else (none)) else (none)) else (some (yR,yN))
def bF.l1 : Nat → List (S98) → Int → Int → List (S100) → Int → Int → Int → List (S103) → ByteArray → ByteArray → ByteArray → Int → Int → List (S104) → Option (Int × (List (S103)))
 | 0,_,_,_,_,_,_,_,_,_,_,_,_,_,_=>none
 | k + 1,Ak,Cu,zP,x31,x32,Co,yR,yN,zQ,zR,zS,zT,zU,zH=>if Co < x32 then (if 0 ≤ Co then (if Co < (x31.length : Int) then (if zH.length < 4398046511104 then (bF.l1 k Ak Cu zP x31 x32 (wrap64 (Co + 1)) yR yN zQ zR zS zT zU (zH ++ [(⟨(dS x31 Co).f0,(dS x31 Co).f1⟩ : S104)])) else (none)) else (none)) else (none)) else (if yN.length < 1759218604441 then (bF.l0 k Ak Cu (wrap64 (zP + 1)) yR (yN ++ [(⟨zQ,zR,zS,zT,zU,zH⟩ : S103)])) else (none))
end
def bF.f (k : Nat) (yc : Int) (xJ : List (S98)) : Option (Int × (List (S103))):=bF.l0 k xJ (xJ.length : Int) 0 yc ([] : List (S103))
theorem bF.dO : ∀ k,(∀ y0 y1 y2 y3 y4,LeO (bF.l0 k y0 y1 y2 y3 y4) (bF.l0 (k + 1) y0 y1 y2 y3 y4)) ∧ (∀ y0 y1 y2 y3 y4 y5 y6 y7 y8 y9 Eo Ep Er y13,LeO (bF.l1 k y0 y1 y2 y3 y4 y5 y6 y7 y8 y9 Eo Ep Er y13) (bF.l1 (k + 1) y0 y1 y2 y3 y4 y5 y6 y7 y8 y9 Eo Ep Er y13))
 | 0=>⟨fun _ _ _ _ _ r h=>by simp [bF.l0] at h,fun _ _ _ _ _ _ _ _ _ _ _ _ _ _ r h=>by simp [bF.l1] at h⟩
 | k + 1=>by
  obtain ⟨Ch,ih1⟩:=bF.dO k
  refine ⟨?_,?_⟩
  ·intro y0 y1 y2 y3 y4
   unfold bF.l0
   repeat' first
   | (with_reducible exact Ch _ _ _ _ _)
   | (with_reducible exact ih1 _ _ _ _ _ _ _ _ _ _ _ _ _ _)
   | (with_reducible exact LeO.refl _)
   | (with_reducible exact LeO.none _)
   | (with_reducible refine LeO.ite ?_ ?_)
   | (with_reducible refine LeO.bind ?_ (fun _=>?_))
   | exact Ch _ _ _ _ _
   | exact ih1 _ _ _ _ _ _ _ _ _ _ _ _ _ _
   | exact LeO.none _
   | refine LeO.ite ?_ ?_
   | refine LeO.bind ?_ (fun _=>?_)
  ·intro y0 y1 y2 y3 y4 y5 y6 y7 y8 y9 Eo Ep Er y13
   unfold bF.l1
   repeat' first
   | (with_reducible exact Ch _ _ _ _ _)
   | (with_reducible exact ih1 _ _ _ _ _ _ _ _ _ _ _ _ _ _)
   | (with_reducible exact LeO.refl _)
   | (with_reducible exact LeO.none _)
   | (with_reducible refine LeO.ite ?_ ?_)
   | (with_reducible refine LeO.bind ?_ (fun _=>?_))
   | exact Ch _ _ _ _ _
   | exact ih1 _ _ _ _ _ _ _ _ _ _ _ _ _ _
   | exact LeO.none _
   | refine LeO.ite ?_ ?_
   | refine LeO.bind ?_ (fun _=>?_)
theorem bF.mono : ∀ a0 a1 k,LeO (bF.f k a0 a1) (bF.f (k + 1) a0 a1):=by
 intro a0 a1 k
 obtain ⟨Ch,ih1⟩:=bF.dO k
 unfold bF.f
 repeat' first
   | (with_reducible exact Ch _ _ _ _ _)
   | (with_reducible exact ih1 _ _ _ _ _ _ _ _ _ _ _ _ _ _)
   | (with_reducible exact LeO.refl _)
   | (with_reducible exact LeO.none _)
   | (with_reducible refine LeO.ite ?_ ?_)
   | (with_reducible refine LeO.bind ?_ (fun _=>?_))
   | exact Ch _ _ _ _ _
   | exact ih1 _ _ _ _ _ _ _ _ _ _ _ _ _ _
   | exact LeO.none _
   | refine LeO.ite ?_ ?_
   | refine LeO.bind ?_ (fun _=>?_)
set_option maxHeartbeats 8000000 in
set_option maxRecDepth 100000 in
theorem bF.calls (k : Nat) (yc : Int) (zi : Option Addr) (yH : Nat) (xJ : List (S98)) (r1 : Int) (r2 : List (S103)) (w : World) (Ca : Kd.C k98 w zi xJ.length xJ) (Cb : xJ.length ≤ yH) (h : bF.f k yc xJ = some (r1,r2)) :
  Calls Tryd.prog 24 #[.agg #[.int .u64 yc,.slice zi xJ.length yH]] w fun e w'=>∃ Ez : Value,e = .returned (.agg #[.int .u64 r1,Ez]) ∧ Kd.S fA 103 w' w.heap.size (fun _=>True) Ez r2 ∧ Below w.heap.size w w':=by
 have F5:=Tryd.underlying49
 have F6:=Tryd.underlying53
 have F7:=Tryd.underlying98
 have EA:=Tryd.underlying103
 have EB:=Tryd.underlying100
 have Cv:=Aside0.mk Ca
 have EC:=Aside0.mk Cb
 clear Ca Cb
 have HB:=Aside0.mk (Below.refl w.heap.size w)
 have H : (bF.l0 k xJ (xJ.length : Int) 0 yc ([] : List (S103))) = some (r1,r2):=h
 clear h
 have H':=Aside0.mk H
 clear H
 go_enter Tryd.func24,Tryd.ntmps24
 go_wp2_with (first|((with_reducible refine dN (N:=1) rfl ?_);refine dK ?hg (N:=1) ?hd (cs:=#[.int .u64 yc,.slice zi xJ.length yH]) (t:=49) ?hr ?_;(case hd=>rfl);(case hg=>rfl);(case hr=>first|(go_simp;done)|(go_simp;rfl));intro xZ hg w2 hbox hb;have zu:=Aside0.mk (aQ (by repeat (first|(with_reducible first|exact HB.out|apply ay|apply aj|apply av)|exact HB.out)) hb);have zw:=Aside0.mk (hbox);have zx:=Aside0.mk ((by rw [hg];exact (aV (by repeat (first|(with_reducible first|exact HB.out|apply ay|apply aj|apply av)|exact HB.out))) : w.heap.size ≤ xZ));have zy:=Aside0.mk ((by rw [hg];exact (aV (by repeat (first|(with_reducible first|exact HB.out|apply ay|apply aj|apply av)|exact HB.out))) : w.heap.size ≤ xZ));clear HB;have HB:=zu;have xP:=zw;have ED:=zx;have yC:=zy;clear zu zw zx zy;clear hb hbox hg)|((with_reducible refine dN (N:=2) rfl ?_);refine dK ?hg (N:=2) ?hd (cs:=#[.int .u64 0,.slice none 0 0]) (t:=53) ?hr ?_;(case hd=>rfl);(case hg=>rfl);(case hr=>first|(go_simp;done)|(go_simp;rfl));intro yh hg w3 hbox hb;have zu:=Aside0.mk (aK (g:=xZ) (o:=.cells #[.int .u64 yc,.slice zi xJ.length yH] 49 (0,0)) (bk_ xP.out) hb);have zw:=Aside0.mk (aQ (by repeat (first|(with_reducible first|exact HB.out|apply ay|apply aj|apply av|refine ak ?_ yC.out)|exact HB.out)) hb);have zx:=Aside0.mk (hbox);have zy:=Aside0.mk ((by rw [hg];exact (aV (by repeat (first|(with_reducible first|exact HB.out|apply ay|apply aj|apply av|refine ak ?_ yC.out)|exact HB.out))) : w.heap.size ≤ yh));have zA:=Aside0.mk ((by rw [hg];exact (aV (by repeat (first|(with_reducible first|exact HB.out|apply ay|apply aj|apply av|refine ak ?_ yC.out)|exact HB.out))) : w.heap.size ≤ yh));have zB:=Aside0.mk ((by rw [hg];exact Nat.ne_of_lt (bP (g:=xZ) (o:=.cells #[.int .u64 yc,.slice zi xJ.length yH] 49 (0,0)) (bk_ xP.out)) : xZ ≠ yh));have zC:=Aside0.mk ((by rw [hg];exact Nat.ne_of_gt (bP (g:=xZ) (o:=.cells #[.int .u64 yc,.slice zi xJ.length yH] 49 (0,0)) (bk_ xP.out)) : yh ≠ xZ));clear xP;clear HB;have xP:=zu;have HB:=zw;have xV:=zx;have EF:=zy;have yE:=zA;have zD:=zB;have zF:=zC;clear zu zw zx zy zA zB zC;clear hb hbox hg;have F8:=zD.out;have F9:=zF.out;have Am : w3.cell? ⟨xZ,0,none⟩ = some (.int .u64 yc):=(au xP.out 0).trans rfl;have Ao : w3.cell? ⟨xZ,1,none⟩ = some (.slice zi xJ.length yH):=(au xP.out 1).trans rfl;have Ap:=aH xP.out 0;have Aq:=aH xP.out 1)|((with_reducible refine dN (N:=3) rfl ?_);refine dK ?hg (N:=3) ?hd (cs:=#[.int .u64 0,.slice none 0 0]) (t:=53) ?hr ?_;(case hd=>rfl);(case hg=>rfl);(case hr=>first|(go_simp;done)|(go_simp;rfl));intro yg hg w6 hbox hb;have zu:=Aside0.mk (aK (g:=xZ) (o:=.cells #[.int .u64 yc,.slice zi xJ.length yH] 49 (0,0)) (bk_ xP.out) hb);have zw:=Aside0.mk (aK (g:=yh) (o:=.cells #[.int .u64 0,.slice none 0 0] 53 (0,0)) (bk_ xV.out) hb);have zx:=Aside0.mk (aQ (by repeat (first|(with_reducible first|exact HB.out|apply ay|apply aj|apply av|refine ak ?_ yC.out|refine ak ?_ yE.out)|exact HB.out)) hb);have zy:=Aside0.mk (hbox);have zA:=Aside0.mk ((by rw [hg];exact (aV (by repeat (first|(with_reducible first|exact HB.out|apply ay|apply aj|apply av|refine ak ?_ yC.out|refine ak ?_ yE.out)|exact HB.out))) : w.heap.size ≤ yg));have zB:=Aside0.mk ((by rw [hg];exact (aV (by repeat (first|(with_reducible first|exact HB.out|apply ay|apply aj|apply av|refine ak ?_ yC.out|refine ak ?_ yE.out)|exact HB.out))) : w.heap.size ≤ yg));have zC:=Aside0.mk ((by rw [hg];exact Nat.ne_of_lt (bP (g:=xZ) (o:=.cells #[.int .u64 yc,.slice zi xJ.length yH] 49 (0,0)) (bk_ xP.out)) : xZ ≠ yg));have zV:=Aside0.mk ((by rw [hg];exact Nat.ne_of_gt (bP (g:=xZ) (o:=.cells #[.int .u64 yc,.slice zi xJ.length yH] 49 (0,0)) (bk_ xP.out)) : yg ≠ xZ));have zW:=Aside0.mk ((by rw [hg];exact Nat.ne_of_lt (bP (g:=yh) (o:=.cells #[.int .u64 0,.slice none 0 0] 53 (0,0)) (bk_ xV.out)) : yh ≠ yg));have Ar:=Aside0.mk ((by rw [hg];exact Nat.ne_of_gt (bP (g:=yh) (o:=.cells #[.int .u64 0,.slice none 0 0] 53 (0,0)) (bk_ xV.out)) : yg ≠ yh));clear xP;clear xV;clear HB;have xP:=zu;have xV:=zw;have HB:=zx;have xQ:=zy;have EG:=zA;have yG:=zB;have yI:=zC;have yS:=zV;have yJ:=zW;have yT:=Ar;clear zu zw zx zy zA zB zC zV zW Ar;clear hb hbox hg;have Ga:=yS.out;have Gb:=yI.out;have Gc:=yT.out;have Gd:=yJ.out;have Au : w6.cell? ⟨yg,0,none⟩ = some (.int .u64 0):=(au xQ.out 0).trans rfl;have Av : w6.cell? ⟨yg,1,none⟩ = some (.slice none 0 0):=(au xQ.out 1).trans rfl;have Aw:=aH xQ.out 0;have Ay:=aH xQ.out 1;have zX : w6.cell? ⟨xZ,0,none⟩ = some (.int .u64 yc):=(au xP.out 0).trans rfl;have zY : w6.cell? ⟨xZ,1,none⟩ = some (.slice zi xJ.length yH):=(au xP.out 1).trans rfl;have zZ:=aH xP.out 0;have z8:=aH xP.out 1))
 go_loopg [15] k (fun kq v15 w'=>∃ (xI : Int) (yu : List (S103)) (xW : Value),v15 = .int .i64 xI ∧ Aside0 (bF.l0 kq xJ (xJ.length : Int) xI yc yu = some (r1,r2)) ∧ Aside0 (kq ≤ k) ∧ Aside0 (Kd.S fA 103 w' w.heap.size (fun _=>True) xW yu) ∧ Aside0 (w'.heap[xZ]? = some (.cells #[.int .u64 yc,(.slice zi xJ.length yH)] 49 (0,0))) ∧ Aside0 (w'.heap[yh]? = some (.cells #[.int .u64 0,(.slice none 0 0)] 53 (0,0))) ∧ Aside0 (w'.heap[yg]? = some (.cells #[.int .u64 yc,xW] 53 (0,0))) ∧ Aside0 (Below w.heap.size w w'))
 case atStart=>exact ⟨(0),(([] : List (S103))),(.slice none 0 0),(by first|rfl|(simp;done)|(simp [*];done)),H',⟨Nat.le_refl _⟩,⟨by first|exact Kd.qP _ _ _ _ _|exact Kd.qX _ _ _ _ _|exact Kd.qZ _ _ _ _ _|exact Kd.qL _ _ _ _ _|exact Kd.mh _ _ _ _ _⟩,⟨by (with_reducible repeat (first|apply aC|apply aG|apply aA));refine aU ?_ yI.out _;(with_reducible repeat (first|apply aC|apply aG|apply aA));refine aU ?_ yI.out _;(with_reducible repeat (first|apply aC|apply aG|apply aA));exact xP.out⟩,⟨by (with_reducible repeat (first|apply aC|apply aG|apply aA));refine aU ?_ yJ.out _;(with_reducible repeat (first|apply aC|apply aG|apply aA));refine aU ?_ yJ.out _;(with_reducible repeat (first|apply aC|apply aG|apply aA));exact xV.out⟩,⟨by (with_reducible repeat (first|apply aC|apply aG|apply aA));refine bE (cs:=#[.int .u64 yc,.slice none 0 0]) ?_ 1 _ rfl;(with_reducible repeat (first|apply aC|apply aG|apply aA));refine bE (cs:=#[.int .u64 0,.slice none 0 0]) ?_ 0 _ rfl;(with_reducible repeat (first|apply aC|apply aG|apply aA));exact xQ.out⟩,⟨by repeat (first|(with_reducible first|exact HB.out|apply ay|apply aj|apply av|refine ak ?_ yC.out|refine ak ?_ yE.out|refine ak ?_ yG.out)|exact HB.out)⟩⟩
 case round =>
  clear H'
  try clear c2
  try clear p2
  try clear c4
  try clear c7
  try clear c8
  try clear zX
  try clear zY
  try clear Am
  try clear Ao
  try clear Au
  try clear Av
  try clear zZ
  try clear z8
  try clear Ap
  try clear Aq
  try clear Aw
  try clear Ay
  obtain ⟨xI,yu,xW,rfl,HA,CS,xL,xP,xV,xQ,HB⟩:=hrel
  cases gk with
  | zero=>exact absurd HA.out (by simp [bF.l0])
  | succ k1 =>
   have H:=HA.out
   clear HA
   simp only [bF.l0] at H
   by_cases c11 : xI < (xJ.length : Int)
   ·rw [if_pos c11] at H
    have c11b0 : decide (xI < (xJ.length : Int)) = true:=decide_eq_true c11
    clear c11
    by_cases c12 : 0 ≤ xI
    ·rw [if_pos c12] at H
     have c12b0 : decide (0 ≤ xI) = true:=decide_eq_true c12
     clear c12
     by_cases c13 : xI < (xJ.length : Int)
     ·rw [if_pos c13] at H
      have c13b0 : decide (xI < (xJ.length : Int)) = true:=decide_eq_true c13
      clear c13
      have H':=Aside0.mk H
      clear H
      have AL : 0 ≤ (xI : Int):=of_decide_eq_true (by first|(with_reducible assumption)|assumption)
      have AO : xI < (xJ.length : Int):=of_decide_eq_true (by first|(with_reducible assumption)|assumption)
      obtain ⟨yM,yQ,yK,e153,zk,zl,zm,zn,zo,zq,Aa,Ab⟩:=jD Cv.out xI AL AO
      cases e153
      replace zk:=(HB.out.cell (World.block_lt_of_cell? w _ zk)).trans zk
      replace zl:=(HB.out.cell (World.block_lt_of_cell? w _ zl)).trans zl
      replace zm:=(HB.out.cell (World.block_lt_of_cell? w _ zm)).trans zm
      replace zn:=(HB.out.cell (World.block_lt_of_cell? w _ zn)).trans zn
      replace zo:=(HB.out.cell (World.block_lt_of_cell? w _ zo)).trans zo
      replace zq:=(HB.out.cell (World.block_lt_of_cell? w _ zq)).trans zq
      have AP:=Aside0.mk Ab
      have CU:=Aside0.mk Aa
      clear Ab Aa
      replace AL:=eq_true AL
      replace AO:=eq_true AO
      go_wp2_with (first|((with_reducible refine dN (N:=5) rfl ?_);refine dK ?hg (N:=5) ?hd (cs:=#[.string (⟨#[]⟩ : ByteArray),.string (⟨#[]⟩ : ByteArray),.string (⟨#[]⟩ : ByteArray),.int .u8 0,.int .u16 0,.slice none 0 0]) (t:=98) ?hr ?_;(case hd=>rfl);(case hg=>rfl);(case hr=>first|(go_simp;done)|(go_simp;rfl));intro xX hg Cq hbox hb;have zu:=Aside0.mk (Kd.dz (by (with_reducible repeat (first|apply Kd.bM|apply Kd.bN|apply Kd.bW));exact xL.out) hb);have zw:=Aside0.mk (aK (g:=xZ) (o:=.cells #[.int .u64 yc,.slice (some yM) xJ.length yH] 49 (0,0)) (bk_ xP.out) hb);have zx:=Aside0.mk (aK (g:=yh) (o:=.cells #[.int .u64 0,.slice none 0 0] 53 (0,0)) (bk_ xV.out) hb);have zy:=Aside0.mk (aK (g:=yg) (o:=.cells #[.int .u64 yc,xW] 53 (0,0)) (bk_ xQ.out) hb);have zA:=Aside0.mk (aQ (by repeat (first|(with_reducible first|exact HB.out|apply ay|apply aj|apply av|refine ak ?_ yC.out|refine ak ?_ yE.out|refine ak ?_ yG.out)|exact HB.out)) hb);have zB:=Aside0.mk (hbox);have zC:=Aside0.mk ((by rw [hg];exact (aV (by repeat (first|(with_reducible first|exact HB.out|apply ay|apply aj|apply av|refine ak ?_ yC.out|refine ak ?_ yE.out|refine ak ?_ yG.out)|exact HB.out))) : w.heap.size ≤ xX));have zV:=Aside0.mk ((by rw [hg];exact (aV (by repeat (first|(with_reducible first|exact HB.out|apply ay|apply aj|apply av|refine ak ?_ yC.out|refine ak ?_ yE.out|refine ak ?_ yG.out)|exact HB.out))) : w.heap.size ≤ xX));have zW:=Aside0.mk ((by rw [hg];exact Nat.ne_of_lt (bP (g:=xZ) (o:=.cells #[.int .u64 yc,.slice (some yM) xJ.length yH] 49 (0,0)) (bk_ xP.out)) : xZ ≠ xX));have Ar:=Aside0.mk ((by rw [hg];exact Nat.ne_of_gt (bP (g:=xZ) (o:=.cells #[.int .u64 yc,.slice (some yM) xJ.length yH] 49 (0,0)) (bk_ xP.out)) : xX ≠ xZ));have zK:=Aside0.mk ((by rw [hg];exact Nat.ne_of_lt (bP (g:=yh) (o:=.cells #[.int .u64 0,.slice none 0 0] 53 (0,0)) (bk_ xV.out)) : yh ≠ xX));have zL:=Aside0.mk ((by rw [hg];exact Nat.ne_of_gt (bP (g:=yh) (o:=.cells #[.int .u64 0,.slice none 0 0] 53 (0,0)) (bk_ xV.out)) : xX ≠ yh));have zM:=Aside0.mk ((by rw [hg];exact Nat.ne_of_lt (bP (g:=yg) (o:=.cells #[.int .u64 yc,xW] 53 (0,0)) (bk_ xQ.out)) : yg ≠ xX));have zN:=Aside0.mk ((by rw [hg];exact Nat.ne_of_gt (bP (g:=yg) (o:=.cells #[.int .u64 yc,xW] 53 (0,0)) (bk_ xQ.out)) : xX ≠ yg));clear xL;clear xP;clear xV;clear xQ;clear HB;have xL:=zu;have xP:=zw;have xV:=zx;have xQ:=zy;have HB:=zA;have xR:=zB;have EH:=zC;have yL:=zV;have xS:=zW;have Ad:=Ar;have xU:=zK;have Ae:=zL;have xO:=zM;have zG:=zN;clear zu zw zx zy zA zB zC zV zW Ar zK zL zM zN;clear hb hbox hg;have EI:=Ad.out;have EJ:=xS.out;have EK:=Ae.out;have EL:=xU.out;have EM:=zG.out;have EN:=xO.out;have AQ : Cq.cell? ⟨xX,0,none⟩ = some (.string (⟨#[]⟩ : ByteArray)):=(au xR.out 0).trans rfl;have AU : Cq.cell? ⟨xX,1,none⟩ = some (.string (⟨#[]⟩ : ByteArray)):=(au xR.out 1).trans rfl;have AV : Cq.cell? ⟨xX,2,none⟩ = some (.string (⟨#[]⟩ : ByteArray)):=(au xR.out 2).trans rfl;have AX : Cq.cell? ⟨xX,3,none⟩ = some (.int .u8 0):=(au xR.out 3).trans rfl;have AY : Cq.cell? ⟨xX,4,none⟩ = some (.int .u16 0):=(au xR.out 4).trans rfl;have AZ : Cq.cell? ⟨xX,5,none⟩ = some (.slice none 0 0):=(au xR.out 5).trans rfl;have A9:=aH xR.out 0;have Bf:=aH xR.out 1;have Bg:=aH xR.out 2;have Bh:=aH xR.out 3;have Bj:=aH xR.out 4;have Bl:=aH xR.out 5)|((with_reducible refine dN (N:=6) rfl ?_);refine dK ?hg (N:=6) ?hd (cs:=#[.string (⟨#[]⟩ : ByteArray),.string (⟨#[]⟩ : ByteArray),.string (⟨#[]⟩ : ByteArray),.int .u8 0,.int .u16 0,.slice none 0 0]) (t:=103) ?hr ?_;(case hd=>rfl);(case hg=>rfl);(case hr=>first|(go_simp;done)|(go_simp;rfl));intro xM hg Al hbox hb;have zu:=Aside0.mk (Kd.dz (Kd.qR (by (with_reducible repeat (first|apply Kd.bM|apply Kd.bN|apply Kd.bW));exact (Kd.eU (Kd.fB (p:=⟨xX,5,none⟩) (Kd.fB (p:=⟨xX,4,none⟩) (Kd.fB (p:=⟨xX,3,none⟩) (Kd.fB (p:=⟨xX,2,none⟩) (Kd.fB (p:=⟨xX,1,none⟩) (Kd.fB (p:=⟨xX,0,none⟩) (Kd.gY xL.out xR.out (by decide)) (fun _ hk=>hk.2) (.string ((aD xJ xI).f0))) (fun _ hk=>hk.2) (.string ((aD xJ xI).f1))) (fun _ hk=>hk.2) (.string ((aD xJ xI).f2))) (fun _ hk=>hk.2) (.int .u8 ((aD xJ xI).f3))) (fun _ hk=>hk.2) (.int .u16 ((aD xJ xI).f4))) (fun _ hk=>hk.2) (.slice yQ ((aD xJ xI).f5).length yK)) (fun _ h_=>h_.1))) xM (Nat.le_of_eq hg.symm)) hb);have zw:=Aside0.mk (aK (g:=xZ) (o:=.cells #[.int .u64 yc,.slice (some yM) xJ.length yH] 49 (0,0)) (by (with_reducible repeat (first|apply aC|apply aG|apply aA));refine aU ?_ xS.out _;(with_reducible repeat (first|apply aC|apply aG|apply aA));refine aU ?_ xS.out _;(with_reducible repeat (first|apply aC|apply aG|apply aA));refine aU ?_ xS.out _;(with_reducible repeat (first|apply aC|apply aG|apply aA));refine aU ?_ xS.out _;(with_reducible repeat (first|apply aC|apply aG|apply aA));refine aU ?_ xS.out _;(with_reducible repeat (first|apply aC|apply aG|apply aA));refine aU ?_ xS.out _;(with_reducible repeat (first|apply aC|apply aG|apply aA));exact xP.out) hb);have zx:=Aside0.mk (aK (g:=yh) (o:=.cells #[.int .u64 0,.slice none 0 0] 53 (0,0)) (by (with_reducible repeat (first|apply aC|apply aG|apply aA));refine aU ?_ xU.out _;(with_reducible repeat (first|apply aC|apply aG|apply aA));refine aU ?_ xU.out _;(with_reducible repeat (first|apply aC|apply aG|apply aA));refine aU ?_ xU.out _;(with_reducible repeat (first|apply aC|apply aG|apply aA));refine aU ?_ xU.out _;(with_reducible repeat (first|apply aC|apply aG|apply aA));refine aU ?_ xU.out _;(with_reducible repeat (first|apply aC|apply aG|apply aA));refine aU ?_ xU.out _;(with_reducible repeat (first|apply aC|apply aG|apply aA));exact xV.out) hb);have zy:=Aside0.mk (aK (g:=yg) (o:=.cells #[.int .u64 yc,xW] 53 (0,0)) (by (with_reducible repeat (first|apply aC|apply aG|apply aA));refine aU ?_ xO.out _;(with_reducible repeat (first|apply aC|apply aG|apply aA));refine aU ?_ xO.out _;(with_reducible repeat (first|apply aC|apply aG|apply aA));refine aU ?_ xO.out _;(with_reducible repeat (first|apply aC|apply aG|apply aA));refine aU ?_ xO.out _;(with_reducible repeat (first|apply aC|apply aG|apply aA));refine aU ?_ xO.out _;(with_reducible repeat (first|apply aC|apply aG|apply aA));refine aU ?_ xO.out _;(with_reducible repeat (first|apply aC|apply aG|apply aA));exact xQ.out) hb);have zA:=Aside0.mk (aK (g:=xX) (o:=.cells #[.string ((aD xJ xI).f0),.string ((aD xJ xI).f1),.string ((aD xJ xI).f2),.int .u8 ((aD xJ xI).f3),.int .u16 ((aD xJ xI).f4),.slice yQ ((aD xJ xI).f5).length yK] 98 (0,0)) (by (with_reducible repeat (first|apply aC|apply aG|apply aA));refine bE (cs:=#[.string ((aD xJ xI).f0),.string ((aD xJ xI).f1),.string ((aD xJ xI).f2),.int .u8 ((aD xJ xI).f3),.int .u16 ((aD xJ xI).f4),.slice none 0 0]) ?_ 5 _ rfl;(with_reducible repeat (first|apply aC|apply aG|apply aA));refine bE (cs:=#[.string ((aD xJ xI).f0),.string ((aD xJ xI).f1),.string ((aD xJ xI).f2),.int .u8 ((aD xJ xI).f3),.int .u16 0,.slice none 0 0]) ?_ 4 _ rfl;(with_reducible repeat (first|apply aC|apply aG|apply aA));refine bE (cs:=#[.string ((aD xJ xI).f0),.string ((aD xJ xI).f1),.string ((aD xJ xI).f2),.int .u8 0,.int .u16 0,.slice none 0 0]) ?_ 3 _ rfl;(with_reducible repeat (first|apply aC|apply aG|apply aA));refine bE (cs:=#[.string ((aD xJ xI).f0),.string ((aD xJ xI).f1),.string (⟨#[]⟩ : ByteArray),.int .u8 0,.int .u16 0,.slice none 0 0]) ?_ 2 _ rfl;(with_reducible repeat (first|apply aC|apply aG|apply aA));refine bE (cs:=#[.string ((aD xJ xI).f0),.string (⟨#[]⟩ : ByteArray),.string (⟨#[]⟩ : ByteArray),.int .u8 0,.int .u16 0,.slice none 0 0]) ?_ 1 _ rfl;(with_reducible repeat (first|apply aC|apply aG|apply aA));refine bE (cs:=#[.string (⟨#[]⟩ : ByteArray),.string (⟨#[]⟩ : ByteArray),.string (⟨#[]⟩ : ByteArray),.int .u8 0,.int .u16 0,.slice none 0 0]) ?_ 0 _ rfl;(with_reducible repeat (first|apply aC|apply aG|apply aA));exact xR.out) hb);have zB:=Aside0.mk (aQ (by repeat (first|(with_reducible first|exact HB.out|apply ay|apply aj|apply av|refine ak ?_ yC.out|refine ak ?_ yE.out|refine ak ?_ yG.out|refine ak ?_ yL.out)|exact HB.out)) hb);have zC:=Aside0.mk (hbox);have zV:=Aside0.mk ((by rw [hg];exact (aV (by repeat (first|(with_reducible first|exact HB.out|apply ay|apply aj|apply av|refine ak ?_ yC.out|refine ak ?_ yE.out|refine ak ?_ yG.out|refine ak ?_ yL.out)|exact HB.out))) : w.heap.size ≤ xM));have zW:=Aside0.mk ((by rw [hg];exact (aV (by repeat (first|(with_reducible first|exact HB.out|apply ay|apply aj|apply av|refine ak ?_ yC.out|refine ak ?_ yE.out|refine ak ?_ yG.out|refine ak ?_ yL.out)|exact HB.out))) : w.heap.size ≤ xM));have Ar:=Aside0.mk ((by rw [hg];exact Nat.ne_of_lt (bP (g:=xZ) (o:=.cells #[.int .u64 yc,.slice (some yM) xJ.length yH] 49 (0,0)) (by (with_reducible repeat (first|apply aC|apply aG|apply aA));refine aU ?_ xS.out _;(with_reducible repeat (first|apply aC|apply aG|apply aA));refine aU ?_ xS.out _;(with_reducible repeat (first|apply aC|apply aG|apply aA));refine aU ?_ xS.out _;(with_reducible repeat (first|apply aC|apply aG|apply aA));refine aU ?_ xS.out _;(with_reducible repeat (first|apply aC|apply aG|apply aA));refine aU ?_ xS.out _;(with_reducible repeat (first|apply aC|apply aG|apply aA));refine aU ?_ xS.out _;(with_reducible repeat (first|apply aC|apply aG|apply aA));exact xP.out)) : xZ ≠ xM));have zK:=Aside0.mk ((by rw [hg];exact Nat.ne_of_gt (bP (g:=xZ) (o:=.cells #[.int .u64 yc,.slice (some yM) xJ.length yH] 49 (0,0)) (by (with_reducible repeat (first|apply aC|apply aG|apply aA));refine aU ?_ xS.out _;(with_reducible repeat (first|apply aC|apply aG|apply aA));refine aU ?_ xS.out _;(with_reducible repeat (first|apply aC|apply aG|apply aA));refine aU ?_ xS.out _;(with_reducible repeat (first|apply aC|apply aG|apply aA));refine aU ?_ xS.out _;(with_reducible repeat (first|apply aC|apply aG|apply aA));refine aU ?_ xS.out _;(with_reducible repeat (first|apply aC|apply aG|apply aA));refine aU ?_ xS.out _;(with_reducible repeat (first|apply aC|apply aG|apply aA));exact xP.out)) : xM ≠ xZ));have zL:=Aside0.mk ((by rw [hg];exact Nat.ne_of_lt (bP (g:=yh) (o:=.cells #[.int .u64 0,.slice none 0 0] 53 (0,0)) (by (with_reducible repeat (first|apply aC|apply aG|apply aA));refine aU ?_ xU.out _;(with_reducible repeat (first|apply aC|apply aG|apply aA));refine aU ?_ xU.out _;(with_reducible repeat (first|apply aC|apply aG|apply aA));refine aU ?_ xU.out _;(with_reducible repeat (first|apply aC|apply aG|apply aA));refine aU ?_ xU.out _;(with_reducible repeat (first|apply aC|apply aG|apply aA));refine aU ?_ xU.out _;(with_reducible repeat (first|apply aC|apply aG|apply aA));refine aU ?_ xU.out _;(with_reducible repeat (first|apply aC|apply aG|apply aA));exact xV.out)) : yh ≠ xM));have zM:=Aside0.mk ((by rw [hg];exact Nat.ne_of_gt (bP (g:=yh) (o:=.cells #[.int .u64 0,.slice none 0 0] 53 (0,0)) (by (with_reducible repeat (first|apply aC|apply aG|apply aA));refine aU ?_ xU.out _;(with_reducible repeat (first|apply aC|apply aG|apply aA));refine aU ?_ xU.out _;(with_reducible repeat (first|apply aC|apply aG|apply aA));refine aU ?_ xU.out _;(with_reducible repeat (first|apply aC|apply aG|apply aA));refine aU ?_ xU.out _;(with_reducible repeat (first|apply aC|apply aG|apply aA));refine aU ?_ xU.out _;(with_reducible repeat (first|apply aC|apply aG|apply aA));refine aU ?_ xU.out _;(with_reducible repeat (first|apply aC|apply aG|apply aA));exact xV.out)) : xM ≠ yh));have zN:=Aside0.mk ((by rw [hg];exact Nat.ne_of_lt (bP (g:=yg) (o:=.cells #[.int .u64 yc,xW] 53 (0,0)) (by (with_reducible repeat (first|apply aC|apply aG|apply aA));refine aU ?_ xO.out _;(with_reducible repeat (first|apply aC|apply aG|apply aA));refine aU ?_ xO.out _;(with_reducible repeat (first|apply aC|apply aG|apply aA));refine aU ?_ xO.out _;(with_reducible repeat (first|apply aC|apply aG|apply aA));refine aU ?_ xO.out _;(with_reducible repeat (first|apply aC|apply aG|apply aA));refine aU ?_ xO.out _;(with_reducible repeat (first|apply aC|apply aG|apply aA));refine aU ?_ xO.out _;(with_reducible repeat (first|apply aC|apply aG|apply aA));exact xQ.out)) : yg ≠ xM));have Az:=Aside0.mk ((by rw [hg];exact Nat.ne_of_gt (bP (g:=yg) (o:=.cells #[.int .u64 yc,xW] 53 (0,0)) (by (with_reducible repeat (first|apply aC|apply aG|apply aA));refine aU ?_ xO.out _;(with_reducible repeat (first|apply aC|apply aG|apply aA));refine aU ?_ xO.out _;(with_reducible repeat (first|apply aC|apply aG|apply aA));refine aU ?_ xO.out _;(with_reducible repeat (first|apply aC|apply aG|apply aA));refine aU ?_ xO.out _;(with_reducible repeat (first|apply aC|apply aG|apply aA));refine aU ?_ xO.out _;(with_reducible repeat (first|apply aC|apply aG|apply aA));refine aU ?_ xO.out _;(with_reducible repeat (first|apply aC|apply aG|apply aA));exact xQ.out)) : xM ≠ yg));have AA:=Aside0.mk ((by rw [hg];exact Nat.ne_of_lt (bP (g:=xX) (o:=.cells #[.string ((aD xJ xI).f0),.string ((aD xJ xI).f1),.string ((aD xJ xI).f2),.int .u8 ((aD xJ xI).f3),.int .u16 ((aD xJ xI).f4),.slice yQ ((aD xJ xI).f5).length yK] 98 (0,0)) (by (with_reducible repeat (first|apply aC|apply aG|apply aA));refine bE (cs:=#[.string ((aD xJ xI).f0),.string ((aD xJ xI).f1),.string ((aD xJ xI).f2),.int .u8 ((aD xJ xI).f3),.int .u16 ((aD xJ xI).f4),.slice none 0 0]) ?_ 5 _ rfl;(with_reducible repeat (first|apply aC|apply aG|apply aA));refine bE (cs:=#[.string ((aD xJ xI).f0),.string ((aD xJ xI).f1),.string ((aD xJ xI).f2),.int .u8 ((aD xJ xI).f3),.int .u16 0,.slice none 0 0]) ?_ 4 _ rfl;(with_reducible repeat (first|apply aC|apply aG|apply aA));refine bE (cs:=#[.string ((aD xJ xI).f0),.string ((aD xJ xI).f1),.string ((aD xJ xI).f2),.int .u8 0,.int .u16 0,.slice none 0 0]) ?_ 3 _ rfl;(with_reducible repeat (first|apply aC|apply aG|apply aA));refine bE (cs:=#[.string ((aD xJ xI).f0),.string ((aD xJ xI).f1),.string (⟨#[]⟩ : ByteArray),.int .u8 0,.int .u16 0,.slice none 0 0]) ?_ 2 _ rfl;(with_reducible repeat (first|apply aC|apply aG|apply aA));refine bE (cs:=#[.string ((aD xJ xI).f0),.string (⟨#[]⟩ : ByteArray),.string (⟨#[]⟩ : ByteArray),.int .u8 0,.int .u16 0,.slice none 0 0]) ?_ 1 _ rfl;(with_reducible repeat (first|apply aC|apply aG|apply aA));refine bE (cs:=#[.string (⟨#[]⟩ : ByteArray),.string (⟨#[]⟩ : ByteArray),.string (⟨#[]⟩ : ByteArray),.int .u8 0,.int .u16 0,.slice none 0 0]) ?_ 0 _ rfl;(with_reducible repeat (first|apply aC|apply aG|apply aA));exact xR.out)) : xX ≠ xM));have AB:=Aside0.mk ((by rw [hg];exact Nat.ne_of_gt (bP (g:=xX) (o:=.cells #[.string ((aD xJ xI).f0),.string ((aD xJ xI).f1),.string ((aD xJ xI).f2),.int .u8 ((aD xJ xI).f3),.int .u16 ((aD xJ xI).f4),.slice yQ ((aD xJ xI).f5).length yK] 98 (0,0)) (by (with_reducible repeat (first|apply aC|apply aG|apply aA));refine bE (cs:=#[.string ((aD xJ xI).f0),.string ((aD xJ xI).f1),.string ((aD xJ xI).f2),.int .u8 ((aD xJ xI).f3),.int .u16 ((aD xJ xI).f4),.slice none 0 0]) ?_ 5 _ rfl;(with_reducible repeat (first|apply aC|apply aG|apply aA));refine bE (cs:=#[.string ((aD xJ xI).f0),.string ((aD xJ xI).f1),.string ((aD xJ xI).f2),.int .u8 ((aD xJ xI).f3),.int .u16 0,.slice none 0 0]) ?_ 4 _ rfl;(with_reducible repeat (first|apply aC|apply aG|apply aA));refine bE (cs:=#[.string ((aD xJ xI).f0),.string ((aD xJ xI).f1),.string ((aD xJ xI).f2),.int .u8 0,.int .u16 0,.slice none 0 0]) ?_ 3 _ rfl;(with_reducible repeat (first|apply aC|apply aG|apply aA));refine bE (cs:=#[.string ((aD xJ xI).f0),.string ((aD xJ xI).f1),.string (⟨#[]⟩ : ByteArray),.int .u8 0,.int .u16 0,.slice none 0 0]) ?_ 2 _ rfl;(with_reducible repeat (first|apply aC|apply aG|apply aA));refine bE (cs:=#[.string ((aD xJ xI).f0),.string (⟨#[]⟩ : ByteArray),.string (⟨#[]⟩ : ByteArray),.int .u8 0,.int .u16 0,.slice none 0 0]) ?_ 1 _ rfl;(with_reducible repeat (first|apply aC|apply aG|apply aA));refine bE (cs:=#[.string (⟨#[]⟩ : ByteArray),.string (⟨#[]⟩ : ByteArray),.string (⟨#[]⟩ : ByteArray),.int .u8 0,.int .u16 0,.slice none 0 0]) ?_ 0 _ rfl;(with_reducible repeat (first|apply aC|apply aG|apply aA));exact xR.out)) : xM ≠ xX));clear xL;clear xP;clear xV;clear xQ;clear xR;clear HB;have xL:=zu;have xP:=zw;have xV:=zx;have xQ:=zy;have xR:=zA;have HB:=zB;have xK:=zC;have EO:=zV;have yO:=zW;have yw:=Ar;have yU:=zK;have yx:=zL;have yV:=zM;have yA:=zN;have yX:=Az;have yB:=AA;have yY:=AB;clear zu zw zx zy zA zB zC zV zW Ar zK zL zM zN Az AA AB;clear hb hbox hg;have EP:=yU.out;have ER:=yw.out;have ES:=yV.out;have ET:=yx.out;have EU:=yX.out;have EW:=yA.out;have EX:=yY.out;have EY:=yB.out;have Bn : Al.cell? ⟨xM,0,none⟩ = some (.string (⟨#[]⟩ : ByteArray)):=(au xK.out 0).trans rfl;have Bo : Al.cell? ⟨xM,1,none⟩ = some (.string (⟨#[]⟩ : ByteArray)):=(au xK.out 1).trans rfl;have Bp : Al.cell? ⟨xM,2,none⟩ = some (.string (⟨#[]⟩ : ByteArray)):=(au xK.out 2).trans rfl;have Bq : Al.cell? ⟨xM,3,none⟩ = some (.int .u8 0):=(au xK.out 3).trans rfl;have Br : Al.cell? ⟨xM,4,none⟩ = some (.int .u16 0):=(au xK.out 4).trans rfl;have Bt : Al.cell? ⟨xM,5,none⟩ = some (.slice none 0 0):=(au xK.out 5).trans rfl;have Bu:=aH xK.out 0;have Bv:=aH xK.out 1;have Bw:=aH xK.out 2;have Bz:=aH xK.out 3;have BA:=aH xK.out 4;have BF:=aH xK.out 5;have BG : Al.cell? ⟨xX,0,none⟩ = some (.string ((aD xJ xI).f0)):=(au xR.out 0).trans rfl;have BH : Al.cell? ⟨xX,1,none⟩ = some (.string ((aD xJ xI).f1)):=(au xR.out 1).trans rfl;have BI : Al.cell? ⟨xX,2,none⟩ = some (.string ((aD xJ xI).f2)):=(au xR.out 2).trans rfl;have BJ : Al.cell? ⟨xX,3,none⟩ = some (.int .u8 ((aD xJ xI).f3)):=(au xR.out 3).trans rfl;have BK : Al.cell? ⟨xX,4,none⟩ = some (.int .u16 ((aD xJ xI).f4)):=(au xR.out 4).trans rfl;have BL : Al.cell? ⟨xX,5,none⟩ = some (.slice yQ ((aD xJ xI).f5).length yK):=(au xR.out 5).trans rfl;have BM:=aH xR.out 0;have BN:=aH xR.out 1;have BO:=aH xR.out 2;have BP:=aH xR.out 3;have BQ:=aH xR.out 4;have BR:=aH xR.out 5))
      go_loopg [33] k1 (fun kq v33 w'=>∃ (yt : Int) (yj : List (S104)) (yD : Value),v33 = .int .i64 yt ∧ Aside0 (bF.l1 kq xJ (xJ.length : Int) xI ((aD xJ xI).f5) (((aD xJ xI).f5).length : Int) yt yc yu ((aD xJ xI).f0) ((aD xJ xI).f1) ((aD xJ xI).f2) ((aD xJ xI).f3) ((aD xJ xI).f4) yj = some (r1,r2)) ∧ Aside0 (kq ≤ k1) ∧ Aside0 (Kd.S fA 103 w' w.heap.size (fun k_=>some k_ ≠ (yD : Value).ownBlock ∧ k_ ≠ xM) xW yu) ∧ Aside0 (Kd.R jE 104 w' w.heap.size (fun _=>True) yD yj) ∧ Aside0 (w'.heap[xZ]? = some (.cells #[.int .u64 yc,(.slice (some yM) xJ.length yH)] 49 (0,0))) ∧ Aside0 (w'.heap[yh]? = some (.cells #[.int .u64 0,(.slice none 0 0)] 53 (0,0))) ∧ Aside0 (w'.heap[yg]? = some (.cells #[.int .u64 yc,xW] 53 (0,0))) ∧ Aside0 (w'.heap[xX]? = some (.cells #[.string ((aD xJ xI).f0),.string ((aD xJ xI).f1),.string ((aD xJ xI).f2),.int .u8 ((aD xJ xI).f3),.int .u16 ((aD xJ xI).f4),(.slice yQ ((aD xJ xI).f5).length yK)] 98 (0,0))) ∧ Aside0 (w'.heap[xM]? = some (.cells #[.string ((aD xJ xI).f0),.string ((aD xJ xI).f1),.string ((aD xJ xI).f2),.int .u8 ((aD xJ xI).f3),.int .u16 ((aD xJ xI).f4),yD] 103 (0,0))) ∧ Aside0 (Below w.heap.size w w'))
      case atStart=>exact ⟨(0),(([] : List (S104))),(.slice none 0 0),(by first|rfl|(simp;done)|(simp [*];done)),H',⟨Nat.le_refl _⟩,⟨by (with_reducible repeat (first|apply Kd.bM|apply Kd.bN|apply Kd.bW));exact Kd.eU (Kd.fB (p:=⟨xM,5,none⟩) (Kd.fB (p:=⟨xM,4,none⟩) (Kd.fB (p:=⟨xM,3,none⟩) (Kd.fB (p:=⟨xM,2,none⟩) (Kd.fB (p:=⟨xM,1,none⟩) (Kd.fB (p:=⟨xM,0,none⟩) (Kd.eU xL.out (fun k_ hk=>(⟨hk,hk.2⟩ : _ ∧ k_ ≠ xM))) (fun _ hk=>hk.2) (.string ((aD xJ xI).f0))) (fun _ hk=>hk.2) (.string ((aD xJ xI).f1))) (fun _ hk=>hk.2) (.string ((aD xJ xI).f2))) (fun _ hk=>hk.2) (.int .u8 ((aD xJ xI).f3))) (fun _ hk=>hk.2) (.int .u16 ((aD xJ xI).f4))) (fun _ hk=>hk.2) (.slice none 0 0)) (fun _ hk=>⟨(by simp [Value.ownBlock]),hk.1.2⟩)⟩,⟨by first|exact Kd.mh _ _ _ _ _|exact Kd.qX _ _ _ _ _|exact Kd.qZ _ _ _ _ _|exact Kd.qL _ _ _ _ _|exact Kd.qP _ _ _ _ _⟩,⟨by (with_reducible repeat (first|apply aC|apply aG|apply aA));refine aU ?_ yw.out _;(with_reducible repeat (first|apply aC|apply aG|apply aA));refine aU ?_ yw.out _;(with_reducible repeat (first|apply aC|apply aG|apply aA));refine aU ?_ yw.out _;(with_reducible repeat (first|apply aC|apply aG|apply aA));refine aU ?_ yw.out _;(with_reducible repeat (first|apply aC|apply aG|apply aA));refine aU ?_ yw.out _;(with_reducible repeat (first|apply aC|apply aG|apply aA));refine aU ?_ yw.out _;(with_reducible repeat (first|apply aC|apply aG|apply aA));exact xP.out⟩,⟨by (with_reducible repeat (first|apply aC|apply aG|apply aA));refine aU ?_ yx.out _;(with_reducible repeat (first|apply aC|apply aG|apply aA));refine aU ?_ yx.out _;(with_reducible repeat (first|apply aC|apply aG|apply aA));refine aU ?_ yx.out _;(with_reducible repeat (first|apply aC|apply aG|apply aA));refine aU ?_ yx.out _;(with_reducible repeat (first|apply aC|apply aG|apply aA));refine aU ?_ yx.out _;(with_reducible repeat (first|apply aC|apply aG|apply aA));refine aU ?_ yx.out _;(with_reducible repeat (first|apply aC|apply aG|apply aA));exact xV.out⟩,⟨by (with_reducible repeat (first|apply aC|apply aG|apply aA));refine aU ?_ yA.out _;(with_reducible repeat (first|apply aC|apply aG|apply aA));refine aU ?_ yA.out _;(with_reducible repeat (first|apply aC|apply aG|apply aA));refine aU ?_ yA.out _;(with_reducible repeat (first|apply aC|apply aG|apply aA));refine aU ?_ yA.out _;(with_reducible repeat (first|apply aC|apply aG|apply aA));refine aU ?_ yA.out _;(with_reducible repeat (first|apply aC|apply aG|apply aA));refine aU ?_ yA.out _;(with_reducible repeat (first|apply aC|apply aG|apply aA));exact xQ.out⟩,⟨by (with_reducible repeat (first|apply aC|apply aG|apply aA));refine aU ?_ yB.out _;(with_reducible repeat (first|apply aC|apply aG|apply aA));refine aU ?_ yB.out _;(with_reducible repeat (first|apply aC|apply aG|apply aA));refine aU ?_ yB.out _;(with_reducible repeat (first|apply aC|apply aG|apply aA));refine aU ?_ yB.out _;(with_reducible repeat (first|apply aC|apply aG|apply aA));refine aU ?_ yB.out _;(with_reducible repeat (first|apply aC|apply aG|apply aA));refine aU ?_ yB.out _;(with_reducible repeat (first|apply aC|apply aG|apply aA));exact xR.out⟩,⟨by (with_reducible repeat (first|apply aC|apply aG|apply aA));refine bE (cs:=#[.string ((aD xJ xI).f0),.string ((aD xJ xI).f1),.string ((aD xJ xI).f2),.int .u8 ((aD xJ xI).f3),.int .u16 ((aD xJ xI).f4),.slice none 0 0]) ?_ 5 _ rfl;(with_reducible repeat (first|apply aC|apply aG|apply aA));refine bE (cs:=#[.string ((aD xJ xI).f0),.string ((aD xJ xI).f1),.string ((aD xJ xI).f2),.int .u8 ((aD xJ xI).f3),.int .u16 0,.slice none 0 0]) ?_ 4 _ rfl;(with_reducible repeat (first|apply aC|apply aG|apply aA));refine bE (cs:=#[.string ((aD xJ xI).f0),.string ((aD xJ xI).f1),.string ((aD xJ xI).f2),.int .u8 0,.int .u16 0,.slice none 0 0]) ?_ 3 _ rfl;(with_reducible repeat (first|apply aC|apply aG|apply aA));refine bE (cs:=#[.string ((aD xJ xI).f0),.string ((aD xJ xI).f1),.string (⟨#[]⟩ : ByteArray),.int .u8 0,.int .u16 0,.slice none 0 0]) ?_ 2 _ rfl;(with_reducible repeat (first|apply aC|apply aG|apply aA));refine bE (cs:=#[.string ((aD xJ xI).f0),.string (⟨#[]⟩ : ByteArray),.string (⟨#[]⟩ : ByteArray),.int .u8 0,.int .u16 0,.slice none 0 0]) ?_ 1 _ rfl;(with_reducible repeat (first|apply aC|apply aG|apply aA));refine bE (cs:=#[.string (⟨#[]⟩ : ByteArray),.string (⟨#[]⟩ : ByteArray),.string (⟨#[]⟩ : ByteArray),.int .u8 0,.int .u16 0,.slice none 0 0]) ?_ 0 _ rfl;(with_reducible repeat (first|apply aC|apply aG|apply aA));exact xK.out⟩,⟨by repeat (first|(with_reducible first|exact HB.out|apply ay|apply aj|apply av|refine ak ?_ yC.out|refine ak ?_ yE.out|refine ak ?_ yG.out|refine ak ?_ yL.out|refine ak ?_ yO.out)|exact HB.out)⟩⟩
      case round =>
       clear H'
       try clear c1
       try clear p1
       try clear q1
       try clear hx1
       try clear c2
       try clear p2
       try clear c4
       try clear c7
       try clear c8
       try clear c11
       try clear c11b0
       try clear c12
       try clear c12b0
       try clear c13
       try clear c13b0
       try clear c15
       try clear Gg
       try clear Gh
       try clear Gf
       try clear c16
       try clear c17
       try clear c20
       try clear c21
       try clear Gi
       try clear c23
       try clear c24
       try clear zX
       try clear zY
       try clear AQ
       try clear AU
       try clear AV
       try clear AX
       try clear AY
       try clear AZ
       try clear Bn
       try clear Bo
       try clear Bp
       try clear Bq
       try clear Br
       try clear Bt
       try clear BG
       try clear BH
       try clear BI
       try clear BJ
       try clear BK
       try clear BL
       try clear Am
       try clear Ao
       try clear Au
       try clear Av
       try clear zZ
       try clear z8
       try clear A9
       try clear Bf
       try clear Bg
       try clear Bh
       try clear Bj
       try clear Bl
       try clear Bu
       try clear Bv
       try clear Bw
       try clear Bz
       try clear BA
       try clear BF
       try clear BM
       try clear BN
       try clear BO
       try clear BP
       try clear BQ
       try clear BR
       try clear Ap
       try clear Aq
       try clear Aw
       try clear Ay
       try clear zk
       try clear zl
       try clear zm
       try clear zn
       try clear zo
       try clear zq
       try clear AL
       try clear p2
       try clear AO
       obtain ⟨yt,yj,yD,rfl,HA,CV,xL,xY,xP,xV,xQ,xR,xK,HB⟩:=hrel
       cases gk with
       | zero=>exact absurd HA.out (by simp [bF.l1])
       | succ k2 =>
        have H:=HA.out
        clear HA
        simp only [bF.l1] at H
        by_cases Cr : yt < (((aD xJ xI).f5).length : Int)
        ·rw [if_pos Cr] at H
         have c26b0 : decide (yt < (((aD xJ xI).f5).length : Int)) = true:=decide_eq_true Cr
         clear Cr
         by_cases CW : 0 ≤ yt
         ·rw [if_pos CW] at H
          have c27b0 : decide (0 ≤ yt) = true:=decide_eq_true CW
          clear CW
          by_cases c28 : yt < (((aD xJ xI).f5).length : Int)
          ·rw [if_pos c28] at H
           have c28b0 : decide (yt < (((aD xJ xI).f5).length : Int)) = true:=decide_eq_true c28
           clear c28
           by_cases CX : yj.length < 4398046511104
           ·rw [if_pos CX] at H
            have Cw:=Aside0.mk CX
            clear CX
            obtain ⟨y158,hy158⟩ : ∃ y_ : List (S104),y_ = (yj ++ [(⟨(dS ((aD xJ xI).f5) yt).f0,(dS ((aD xJ xI).f5) yt).f1⟩ : S104)]):=⟨_,rfl⟩
            replace H : (bF.l1 k2 xJ (xJ.length : Int) xI ((aD xJ xI).f5) (((aD xJ xI).f5).length : Int) (wrap64 (yt + 1)) yc yu ((aD xJ xI).f0) ((aD xJ xI).f1) ((aD xJ xI).f2) ((aD xJ xI).f3) ((aD xJ xI).f4) y158) = some (r1,r2):=by first|(rw [hy158];with_reducible exact H)|(have Ci:=(Option.bind_some _ _).symm.trans H;rw [hy158];with_reducible exact Ci)|(have Ci:=(Option.bind_some _ _).symm.trans H;with_reducible exact Ci)|with_reducible exact H|(rw [hy158];exact H)|exact H
            have Cx:=Aside0.mk hy158
            clear hy158
            have H':=Aside0.mk H
            clear H
            have Cj : 0 ≤ (yt : Int):=of_decide_eq_true (by first|(with_reducible assumption)|assumption)
            have Ck : yt < (((aD xJ xI).f5).length : Int):=of_decide_eq_true (by first|(with_reducible assumption)|assumption)
            obtain ⟨Ac,Es,zI,zJ⟩:=jl AP.out yt Cj Ck
            cases Es
            replace zI:=(HB.out.cell (World.block_lt_of_cell? w _ zI)).trans zI
            replace zJ:=(HB.out.cell (World.block_lt_of_cell? w _ zJ)).trans zJ
            replace Cj:=eq_true Cj
            replace Ck:=eq_true Ck
            go_wp2_with (first|((with_reducible refine dN (N:=8) rfl ?_);refine dK ?hg (N:=8) ?hd (cs:=#[.string (⟨#[]⟩ : ByteArray),.string (⟨#[]⟩ : ByteArray)]) (t:=100) ?hr ?_;(case hd=>rfl);(case hg=>rfl);(case hr=>first|(go_simp;done)|(go_simp;rfl));intro yF hg Cc hbox hb;have zu:=Aside0.mk (Kd.dz (by (with_reducible repeat (first|apply Kd.bM|apply Kd.bN|apply Kd.bW));exact xL.out) hb);have zw:=Aside0.mk (Kd.fT (by (with_reducible repeat (first|apply Kd.dI|apply Kd.dJ|apply Kd.dU));exact xY.out) hb);have zx:=Aside0.mk (aK (g:=xZ) (o:=.cells #[.int .u64 yc,.slice (some yM) xJ.length yH] 49 (0,0)) (bk_ xP.out) hb);have zy:=Aside0.mk (aK (g:=yh) (o:=.cells #[.int .u64 0,.slice none 0 0] 53 (0,0)) (bk_ xV.out) hb);have zA:=Aside0.mk (aK (g:=yg) (o:=.cells #[.int .u64 yc,xW] 53 (0,0)) (bk_ xQ.out) hb);have zB:=Aside0.mk (aK (g:=xX) (o:=.cells #[.string ((aD xJ xI).f0),.string ((aD xJ xI).f1),.string ((aD xJ xI).f2),.int .u8 ((aD xJ xI).f3),.int .u16 ((aD xJ xI).f4),.slice (some Ac) ((aD xJ xI).f5).length yK] 98 (0,0)) (bk_ xR.out) hb);have zC:=Aside0.mk (aK (g:=xM) (o:=.cells #[.string ((aD xJ xI).f0),.string ((aD xJ xI).f1),.string ((aD xJ xI).f2),.int .u8 ((aD xJ xI).f3),.int .u16 ((aD xJ xI).f4),yD] 103 (0,0)) (bk_ xK.out) hb);have zV:=Aside0.mk (aQ (by repeat (first|(with_reducible first|exact HB.out|apply ay|apply aj|apply av|refine ak ?_ yC.out|refine ak ?_ yE.out|refine ak ?_ yG.out|refine ak ?_ yL.out|refine ak ?_ yO.out)|exact HB.out)) hb);have zW:=Aside0.mk (hbox);have Ar:=Aside0.mk ((by rw [hg];exact (aV (by repeat (first|(with_reducible first|exact HB.out|apply ay|apply aj|apply av|refine ak ?_ yC.out|refine ak ?_ yE.out|refine ak ?_ yG.out|refine ak ?_ yL.out|refine ak ?_ yO.out)|exact HB.out))) : w.heap.size ≤ yF));have zK:=Aside0.mk ((by rw [hg];exact (aV (by repeat (first|(with_reducible first|exact HB.out|apply ay|apply aj|apply av|refine ak ?_ yC.out|refine ak ?_ yE.out|refine ak ?_ yG.out|refine ak ?_ yL.out|refine ak ?_ yO.out)|exact HB.out))) : w.heap.size ≤ yF));have zL:=Aside0.mk ((by rw [hg];exact Nat.ne_of_lt (bP (g:=xZ) (o:=.cells #[.int .u64 yc,.slice (some yM) xJ.length yH] 49 (0,0)) (bk_ xP.out)) : xZ ≠ yF));have zM:=Aside0.mk ((by rw [hg];exact Nat.ne_of_gt (bP (g:=xZ) (o:=.cells #[.int .u64 yc,.slice (some yM) xJ.length yH] 49 (0,0)) (bk_ xP.out)) : yF ≠ xZ));have zN:=Aside0.mk ((by rw [hg];exact Nat.ne_of_lt (bP (g:=yh) (o:=.cells #[.int .u64 0,.slice none 0 0] 53 (0,0)) (bk_ xV.out)) : yh ≠ yF));have Az:=Aside0.mk ((by rw [hg];exact Nat.ne_of_gt (bP (g:=yh) (o:=.cells #[.int .u64 0,.slice none 0 0] 53 (0,0)) (bk_ xV.out)) : yF ≠ yh));have AA:=Aside0.mk ((by rw [hg];exact Nat.ne_of_lt (bP (g:=yg) (o:=.cells #[.int .u64 yc,xW] 53 (0,0)) (bk_ xQ.out)) : yg ≠ yF));have AB:=Aside0.mk ((by rw [hg];exact Nat.ne_of_gt (bP (g:=yg) (o:=.cells #[.int .u64 yc,xW] 53 (0,0)) (bk_ xQ.out)) : yF ≠ yg));have Cy:=Aside0.mk ((by rw [hg];exact Nat.ne_of_lt (bP (g:=xX) (o:=.cells #[.string ((aD xJ xI).f0),.string ((aD xJ xI).f1),.string ((aD xJ xI).f2),.int .u8 ((aD xJ xI).f3),.int .u16 ((aD xJ xI).f4),.slice (some Ac) ((aD xJ xI).f5).length yK] 98 (0,0)) (bk_ xR.out)) : xX ≠ yF));have Cz:=Aside0.mk ((by rw [hg];exact Nat.ne_of_gt (bP (g:=xX) (o:=.cells #[.string ((aD xJ xI).f0),.string ((aD xJ xI).f1),.string ((aD xJ xI).f2),.int .u8 ((aD xJ xI).f3),.int .u16 ((aD xJ xI).f4),.slice (some Ac) ((aD xJ xI).f5).length yK] 98 (0,0)) (bk_ xR.out)) : yF ≠ xX));have CB:=Aside0.mk ((by rw [hg];exact Nat.ne_of_lt (bP (g:=xM) (o:=.cells #[.string ((aD xJ xI).f0),.string ((aD xJ xI).f1),.string ((aD xJ xI).f2),.int .u8 ((aD xJ xI).f3),.int .u16 ((aD xJ xI).f4),yD] 103 (0,0)) (bk_ xK.out)) : xM ≠ yF));have CF:=Aside0.mk ((by rw [hg];exact Nat.ne_of_gt (bP (g:=xM) (o:=.cells #[.string ((aD xJ xI).f0),.string ((aD xJ xI).f1),.string ((aD xJ xI).f2),.int .u8 ((aD xJ xI).f3),.int .u16 ((aD xJ xI).f4),yD] 103 (0,0)) (bk_ xK.out)) : yF ≠ xM));clear xL;clear xY;clear xP;clear xV;clear xQ;clear xR;clear xK;clear HB;have xL:=zu;have xY:=zw;have xP:=zx;have xV:=zy;have xQ:=zA;have xR:=zB;have xK:=zC;have HB:=zV;have yP:=zW;have EZ:=Ar;have AJ:=zK;have yZ:=zL;have Af:=zM;have za:=zN;have Ag:=Az;have ze:=AA;have Ah:=AB;have zf:=Cy;have Ai:=Cz;have zh:=CB;have Aj:=CF;clear zu zw zx zy zA zB zC zV zW Ar zK zL zM zN Az AA AB Cy Cz CB CF;clear hb hbox hg;have E5:=Af.out;have E8:=yZ.out;have E9:=Ag.out;have Fa:=za.out;have Fb:=Ah.out;have Fe:=ze.out;have Fg:=Ai.out;have Fh:=zf.out;have Fj:=Aj.out;have Fp:=zh.out;have CY : Cc.cell? ⟨yF,0,none⟩ = some (.string (⟨#[]⟩ : ByteArray)):=(au yP.out 0).trans rfl;have CZ : Cc.cell? ⟨yF,1,none⟩ = some (.string (⟨#[]⟩ : ByteArray)):=(au yP.out 1).trans rfl;have C8:=aH yP.out 0;have C9:=aH yP.out 1;have Fq:=yU.out;have Fu:=yw.out;have Fv:=yV.out;have Fw:=yx.out;have Fx:=yX.out;have Fy:=yA.out;have Fz:=yY.out;have FB:=yB.out;have Da : Cc.cell? ⟨xM,0,none⟩ = some (.string ((aD xJ xI).f0)):=(au xK.out 0).trans rfl;have Db : Cc.cell? ⟨xM,1,none⟩ = some (.string ((aD xJ xI).f1)):=(au xK.out 1).trans rfl;have Dc : Cc.cell? ⟨xM,2,none⟩ = some (.string ((aD xJ xI).f2)):=(au xK.out 2).trans rfl;have Df : Cc.cell? ⟨xM,3,none⟩ = some (.int .u8 ((aD xJ xI).f3)):=(au xK.out 3).trans rfl;have Dh : Cc.cell? ⟨xM,4,none⟩ = some (.int .u16 ((aD xJ xI).f4)):=(au xK.out 4).trans rfl;have Di : Cc.cell? ⟨xM,5,none⟩ = some (yD):=(au xK.out 5).trans rfl;have Dj:=aH xK.out 0;have Dk:=aH xK.out 1;have Dl:=aH xK.out 2;have Dm:=aH xK.out 3;have Dn:=aH xK.out 4;have Dp:=aH xK.out 5)|((with_reducible refine iy (b:=.append) (xs:=#[.tmp 38,.tmp 40]) rfl ?_);at_builtin;refine Kd.jI jE (w0:=w) w.heap.size rfl (.tmp 38) (.tmp 40) 101 104 (.agg #[(.string ⟨#[]⟩),(.string ⟨#[]⟩)]) 32 rfl Tryd.underlying101 sU rfl (by decide) (by omega) yD yj (⟨(dS ((aD xJ xI).f5) yt).f0,(dS ((aD xJ xI).f5) yt).f1⟩ : S104) [.string ((dS ((aD xJ xI).f5) yt).f0),.string ((dS ((aD xJ xI).f5) yt).f1)] (fun _=>True) (fun _=>False) rfl (by first|(go_simp;done)|(go_simp;rfl)) ?aP (fun _ hk=>hk.elim) ?aF ?aO ?aB ?aS ?aL ?_;(case aP=>exact rA _ _ _ (⟨(dS ((aD xJ xI).f5) yt).f0,(dS ((aD xJ xI).f5) yt).f1⟩ : S104));(case aB=>exact (by repeat (first|(with_reducible first|exact HB.out|apply ay|apply aj|apply av|refine ak ?_ yC.out|refine ak ?_ yE.out|refine ak ?_ yG.out|refine ak ?_ yL.out|refine ak ?_ yO.out|refine ak ?_ AJ.out)|exact HB.out)));(case aF=>exact (fun _ _=>trivial));(case aO=>exact (by (with_reducible repeat (first|apply Kd.dI|apply Kd.dJ|apply Kd.dU));exact Kd.gN (Kd.qI (p:=⟨yF,1,none⟩) (Kd.qI (p:=⟨yF,0,none⟩) (Kd.jH xY.out yP.out (by decide)) (fun _ hk=>hk.2) (.string ((dS ((aD xJ xI).f5) yt).f0))) (fun _ hk=>hk.2) (.string ((dS ((aD xJ xI).f5) yt).f1))) (fun _ hk=>trivial)));(case aS=>exact (aV (by repeat (first|(with_reducible first|exact HB.out|apply ay|apply aj|apply av|refine ak ?_ yC.out|refine ak ?_ yE.out|refine ak ?_ yG.out|refine ak ?_ yL.out|refine ak ?_ yO.out|refine ak ?_ AJ.out)|exact HB.out))));(case aL=>have:=Cw.out;omega);intro v159 Ct ho hb hg hat;rw [← Cx.out] at ho;have zu:=Aside0.mk (Kd.sN (ok:=(fun k_=>k_ ≠ xM)) (by (with_reducible repeat (first|apply Kd.bM|apply Kd.bN|apply Kd.bW));exact Kd.eU (Kd.fB (p:=⟨yF,1,none⟩) (Kd.fB (p:=⟨yF,0,none⟩) (Kd.gY xL.out yP.out (by decide)) (fun _ hk=>hk.2) (.string ((dS ((aD xJ xI).f5) yt).f0))) (fun _ hk=>hk.2) (.string ((dS ((aD xJ xI).f5) yt).f1))) (fun _ hk=>⟨hk.1.2,hk.1.1⟩)) hg hat);have zw:=Aside0.mk (fG (g:=xZ) (o:=.cells #[.int .u64 yc,.slice (some yM) xJ.length yH] 49 (0,0)) (by (with_reducible repeat (first|apply aC|apply aG|apply aA));refine aU ?_ yZ.out _;(with_reducible repeat (first|apply aC|apply aG|apply aA));refine aU ?_ yZ.out _;(with_reducible repeat (first|apply aC|apply aG|apply aA));exact xP.out) hg (Kd.oD xY.out xP.out (by decide)));have zx:=Aside0.mk (fG (g:=yh) (o:=.cells #[.int .u64 0,.slice none 0 0] 53 (0,0)) (by (with_reducible repeat (first|apply aC|apply aG|apply aA));refine aU ?_ za.out _;(with_reducible repeat (first|apply aC|apply aG|apply aA));refine aU ?_ za.out _;(with_reducible repeat (first|apply aC|apply aG|apply aA));exact xV.out) hg (Kd.oD xY.out xV.out (by decide)));have zy:=Aside0.mk (fG (g:=yg) (o:=.cells #[.int .u64 yc,xW] 53 (0,0)) (by (with_reducible repeat (first|apply aC|apply aG|apply aA));refine aU ?_ ze.out _;(with_reducible repeat (first|apply aC|apply aG|apply aA));refine aU ?_ ze.out _;(with_reducible repeat (first|apply aC|apply aG|apply aA));exact xQ.out) hg (Kd.oD xY.out xQ.out (by decide)));have zA:=Aside0.mk (fG (g:=xX) (o:=.cells #[.string ((aD xJ xI).f0),.string ((aD xJ xI).f1),.string ((aD xJ xI).f2),.int .u8 ((aD xJ xI).f3),.int .u16 ((aD xJ xI).f4),.slice (some Ac) ((aD xJ xI).f5).length yK] 98 (0,0)) (by (with_reducible repeat (first|apply aC|apply aG|apply aA));refine aU ?_ zf.out _;(with_reducible repeat (first|apply aC|apply aG|apply aA));refine aU ?_ zf.out _;(with_reducible repeat (first|apply aC|apply aG|apply aA));exact xR.out) hg (Kd.oD xY.out xR.out (by decide)));have zB:=Aside0.mk (fG (g:=xM) (o:=.cells #[.string ((aD xJ xI).f0),.string ((aD xJ xI).f1),.string ((aD xJ xI).f2),.int .u8 ((aD xJ xI).f3),.int .u16 ((aD xJ xI).f4),yD] 103 (0,0)) (by (with_reducible repeat (first|apply aC|apply aG|apply aA));refine aU ?_ zh.out _;(with_reducible repeat (first|apply aC|apply aG|apply aA));refine aU ?_ zh.out _;(with_reducible repeat (first|apply aC|apply aG|apply aA));exact xK.out) hg (Kd.oD xY.out xK.out (by decide)));have zC:=Aside0.mk (fG (g:=yF) (o:=.cells #[.string ((dS ((aD xJ xI).f5) yt).f0),.string ((dS ((aD xJ xI).f5) yt).f1)] 100 (0,0)) (by (with_reducible repeat (first|apply aC|apply aG|apply aA));refine bE (cs:=#[.string ((dS ((aD xJ xI).f5) yt).f0),.string (⟨#[]⟩ : ByteArray)]) ?_ 1 _ rfl;(with_reducible repeat (first|apply aC|apply aG|apply aA));refine bE (cs:=#[.string (⟨#[]⟩ : ByteArray),.string (⟨#[]⟩ : ByteArray)]) ?_ 0 _ rfl;(with_reducible repeat (first|apply aC|apply aG|apply aA));exact yP.out) hg (Kd.oD xY.out yP.out (by decide)));have zV:=Aside0.mk (hb);have zW:=Aside0.mk (ho);clear xL;clear xP;clear xV;clear xQ;clear xR;clear xK;clear yP;clear HB;clear xY;have xL:=zu;have xP:=zw;have xV:=zx;have xQ:=zy;have xR:=zA;have xK:=zB;have yP:=zC;have HB:=zV;have Ce:=zW;clear zu zw zx zy zA zB zC zV zW;clear ho hb hg hat;obtain ⟨Cm,Cn,Et⟩:=Kd.jg Ce.out;subst Et;have Dq : Ct.cell? ⟨xM,0,none⟩ = some (.string ((aD xJ xI).f0)):=(au xK.out 0).trans rfl;have Dr : Ct.cell? ⟨xM,1,none⟩ = some (.string ((aD xJ xI).f1)):=(au xK.out 1).trans rfl;have Dt : Ct.cell? ⟨xM,2,none⟩ = some (.string ((aD xJ xI).f2)):=(au xK.out 2).trans rfl;have Du : Ct.cell? ⟨xM,3,none⟩ = some (.int .u8 ((aD xJ xI).f3)):=(au xK.out 3).trans rfl;have Dv : Ct.cell? ⟨xM,4,none⟩ = some (.int .u16 ((aD xJ xI).f4)):=(au xK.out 4).trans rfl;have Dw : Ct.cell? ⟨xM,5,none⟩ = some (yD):=(au xK.out 5).trans rfl;have Dx:=aH xK.out 0;have Dy:=aH xK.out 1;have Dz:=aH xK.out 2;have DC:=aH xK.out 3;have DF:=aH xK.out 4;have DI:=aH xK.out 5))
            go_roundg k2
            case measure=>have:=CS.out;have:=CV.out;omega
            case rel=>exact ⟨(wrap64 (yt + 1)),(y158),(.slice Cm y158.length Cn),(by first|rfl|(simp;done)|(simp [*];done)),H',⟨by have:=CS.out;have:=CV.out;omega⟩,⟨by (with_reducible repeat (first|apply Kd.bM|apply Kd.bN|apply Kd.bW));exact Kd.eU (Kd.fB (p:=⟨xM,5,none⟩) (Kd.eU xL.out (fun k_ hk=>(⟨hk,hk.1⟩ : _ ∧ k_ ≠ xM))) (fun _ hk=>hk.2) (.slice Cm y158.length Cn)) (fun _ hk=>⟨hk.1.2,hk.1.1⟩)⟩,⟨by (with_reducible repeat (first|apply Kd.dI|apply Kd.dJ|apply Kd.dU));exact Kd.gN (Kd.qI (p:=⟨xM,5,none⟩) (Kd.jH Ce.out xK.out (by decide)) (fun _ hk=>hk.2) (.slice Cm y158.length Cn)) (fun _ hk=>trivial)⟩,⟨by (with_reducible repeat (first|apply aC|apply aG|apply aA));refine aU ?_ yw.out _;(with_reducible repeat (first|apply aC|apply aG|apply aA));exact xP.out⟩,⟨by (with_reducible repeat (first|apply aC|apply aG|apply aA));refine aU ?_ yx.out _;(with_reducible repeat (first|apply aC|apply aG|apply aA));exact xV.out⟩,⟨by (with_reducible repeat (first|apply aC|apply aG|apply aA));refine aU ?_ yA.out _;(with_reducible repeat (first|apply aC|apply aG|apply aA));exact xQ.out⟩,⟨by (with_reducible repeat (first|apply aC|apply aG|apply aA));refine aU ?_ yB.out _;(with_reducible repeat (first|apply aC|apply aG|apply aA));exact xR.out⟩,⟨by (with_reducible repeat (first|apply aC|apply aG|apply aA));refine bE (cs:=#[.string ((aD xJ xI).f0),.string ((aD xJ xI).f1),.string ((aD xJ xI).f2),.int .u8 ((aD xJ xI).f3),.int .u16 ((aD xJ xI).f4),yD]) ?_ 5 _ rfl;(with_reducible repeat (first|apply aC|apply aG|apply aA));exact xK.out⟩,⟨by repeat (first|(with_reducible first|exact HB.out|apply ay|apply aj|apply av|refine ak ?_ yC.out|refine ak ?_ yE.out|refine ak ?_ yG.out|refine ak ?_ yL.out|refine ak ?_ yO.out|refine ak ?_ AJ.out)|exact HB.out)⟩⟩
           ·rw [if_neg CX] at H
            exact absurd H (by simp)
          ·rw [if_neg c28] at H
           exact absurd H (by simp)
         ·rw [if_neg CW] at H
          exact absurd H (by simp)
        ·rw [if_neg Cr] at H
         have c26b0 : decide (yt < (((aD xJ xI).f5).length : Int)) = false:=decide_eq_false Cr
         clear Cr
         by_cases DJ : yu.length < 1759218604441
         ·rw [if_pos DJ] at H
          have CG:=Aside0.mk DJ
          clear DJ
          obtain ⟨BS,zO⟩ : ∃ y_ : List (S103),y_ = (yu ++ [(⟨((aD xJ xI).f0),((aD xJ xI).f1),((aD xJ xI).f2),((aD xJ xI).f3),((aD xJ xI).f4),yj⟩ : S103)]):=⟨_,rfl⟩
          replace H : (bF.l0 k2 xJ (xJ.length : Int) (wrap64 (xI + 1)) yc BS) = some (r1,r2):=by first|(rw [zO];with_reducible exact H)|(have Ci:=(Option.bind_some _ _).symm.trans H;rw [zO];with_reducible exact Ci)|(have Ci:=(Option.bind_some _ _).symm.trans H;with_reducible exact Ci)|with_reducible exact H|(rw [zO];exact H)|exact H
          have CJ:=Aside0.mk zO
          clear zO
          have H':=Aside0.mk H
          clear H
          have FC:=yS.out
          have FD:=yI.out
          have FE:=yT.out
          have FH:=yJ.out
          have FI:=xO.out
          have FJ:=zG.out
          have FL:=yA.out
          have FM:=yX.out
          have DK : wr.cell? ⟨yg,0,none⟩ = some (.int .u64 yc):=(au xQ.out 0).trans rfl
          have DL : wr.cell? ⟨yg,1,none⟩ = some (xW):=(au xQ.out 1).trans rfl
          have DN:=aH xQ.out 0
          have DR:=aH xQ.out 1
          have FN:=yU.out
          have FP:=yw.out
          have FQ:=yV.out
          have FR:=yx.out
          have FT:=yY.out
          have FU:=yB.out
          have DT : wr.cell? ⟨xM,0,none⟩ = some (.string ((aD xJ xI).f0)):=(au xK.out 0).trans rfl
          have DU : wr.cell? ⟨xM,1,none⟩ = some (.string ((aD xJ xI).f1)):=(au xK.out 1).trans rfl
          have DV : wr.cell? ⟨xM,2,none⟩ = some (.string ((aD xJ xI).f2)):=(au xK.out 2).trans rfl
          have DW : wr.cell? ⟨xM,3,none⟩ = some (.int .u8 ((aD xJ xI).f3)):=(au xK.out 3).trans rfl
          have DX : wr.cell? ⟨xM,4,none⟩ = some (.int .u16 ((aD xJ xI).f4)):=(au xK.out 4).trans rfl
          have DY : wr.cell? ⟨xM,5,none⟩ = some (yD):=(au xK.out 5).trans rfl
          have DZ:=aH xK.out 0
          have D5:=aH xK.out 1
          have D6:=aH xK.out 2
          have D7:=aH xK.out 3
          have D8:=aH xK.out 4
          have D9:=aH xK.out 5
          obtain ⟨BU,BZ,Eu⟩:=Kd.jg xY.out
          subst Eu
          go_wp2_with (first|((with_reducible refine iy (b:=.append) (xs:=#[.tmp 45,.tmp 47]) rfl ?_);at_builtin;refine Kd.qV fA (w0:=w) w.heap.size rfl (.tmp 45) (.tmp 47) 51 103 (.agg #[(.string ⟨#[]⟩),(.string ⟨#[]⟩),(.string ⟨#[]⟩),(.int .u8 0),(.int .u16 0),(.slice none 0 0)]) 80 rfl Tryd.underlying51 sS rfl (by decide) (by omega) xW yu (⟨((aD xJ xI).f0),((aD xJ xI).f1),((aD xJ xI).f2),((aD xJ xI).f3),((aD xJ xI).f4),yj⟩ : S103) [.string ((aD xJ xI).f0),.string ((aD xJ xI).f1),.string ((aD xJ xI).f2),.int .u8 ((aD xJ xI).f3),.int .u16 ((aD xJ xI).f4),.slice BU yj.length BZ] (fun k_=>k_ ≠ xM) (fun k_=>some k_ = (.slice BU yj.length BZ : Value).ownBlock) rfl rfl ?aP (fun k_ hk_=>((Kd.gN (ok':=fun k_=>((fun k_=>k_ ≠ xM)) k_ ∧ some k_ ≠ (xW : Value).ownBlock) (Kd.jH (Kd.nG (xY.out) (Kd.pF xL.out) (by decide)) xK.out (by decide)) (fun k_ hk=>⟨hk.2,hk.1.2⟩))).1 k_ hk_.symm) ?aF ?aO ?aB ?aS ?aL ?_;(case aP=>exact rC _ _ _ (⟨((aD xJ xI).f0),((aD xJ xI).f1),((aD xJ xI).f2),((aD xJ xI).f3),((aD xJ xI).f4),yj⟩ : S103) (Kd.gN (Kd.sK rfl (Kd.gN (ok':=fun k_=>((fun k_=>k_ ≠ xM)) k_ ∧ some k_ ≠ (xW : Value).ownBlock) (Kd.jH (Kd.nG (xY.out) (Kd.pF xL.out) (by decide)) xK.out (by decide)) (fun k_ hk=>⟨hk.2,hk.1.2⟩))) (fun _ h_=>h_)));(case aB=>exact (by repeat (first|(with_reducible first|exact HB.out|apply ay|apply aj|apply av|refine ak ?_ yC.out|refine ak ?_ yE.out|refine ak ?_ yG.out|refine ak ?_ yL.out|refine ak ?_ yO.out)|exact HB.out)));(case aF=>exact (fun k_ hk=>Kd.uz (g:=xM) (o:=.cells #[.string ((aD xJ xI).f0),.string ((aD xJ xI).f1),.string ((aD xJ xI).f2),.int .u8 ((aD xJ xI).f3),.int .u16 ((aD xJ xI).f4),.slice BU yj.length BZ] 103 (0,0)) (bk_ xK.out) k_ hk));(case aO=>exact (by (with_reducible repeat (first|apply Kd.bM|apply Kd.bN|apply Kd.bW));exact Kd.eU xL.out (fun k_ hk=>⟨hk.2,fun e_=>hk.1 e_⟩)));(case aS=>exact (aV (by repeat (first|(with_reducible first|exact HB.out|apply ay|apply aj|apply av|refine ak ?_ yC.out|refine ak ?_ yE.out|refine ak ?_ yG.out|refine ak ?_ yL.out|refine ak ?_ yO.out)|exact HB.out))));(case aL=>have:=CG.out;omega);intro v162 FV ho hb hg hat;rw [← CJ.out] at ho;have zu:=Aside0.mk (fG (g:=xZ) (o:=.cells #[.int .u64 yc,.slice (some yM) xJ.length yH] 49 (0,0)) (bk_ xP.out) hg (Kd.sO xL.out xP.out (by decide)));have zw:=Aside0.mk (fG (g:=yh) (o:=.cells #[.int .u64 0,.slice none 0 0] 53 (0,0)) (bk_ xV.out) hg (Kd.sO xL.out xV.out (by decide)));have zx:=Aside0.mk (fG (g:=yg) (o:=.cells #[.int .u64 yc,xW] 53 (0,0)) (bk_ xQ.out) hg (Kd.sO xL.out xQ.out (by decide)));have zy:=Aside0.mk (fG (g:=xX) (o:=.cells #[.string ((aD xJ xI).f0),.string ((aD xJ xI).f1),.string ((aD xJ xI).f2),.int .u8 ((aD xJ xI).f3),.int .u16 ((aD xJ xI).f4),.slice yQ ((aD xJ xI).f5).length yK] 98 (0,0)) (bk_ xR.out) hg (Kd.sO xL.out xR.out (by decide)));have zA:=Aside0.mk (fG (g:=xM) (o:=.cells #[.string ((aD xJ xI).f0),.string ((aD xJ xI).f1),.string ((aD xJ xI).f2),.int .u8 ((aD xJ xI).f3),.int .u16 ((aD xJ xI).f4),.slice BU yj.length BZ] 103 (0,0)) (bk_ xK.out) hg (Kd.uG xL.out (fun _ hk=>hk.2)));have zB:=Aside0.mk (hb);have zC:=Aside0.mk (ho);clear xP;clear xV;clear xQ;clear xR;clear xK;clear HB;clear xL;clear xY;have xP:=zu;have xV:=zw;have xQ:=zx;have xR:=zy;have xK:=zA;have HB:=zB;have Cg:=zC;clear zu zw zx zy zA zB zC;clear ho hb hg hat;obtain ⟨CK,CO,Ew⟩:=Kd.kS Cg.out;subst Ew;have Ea : FV.cell? ⟨yg,0,none⟩ = some (.int .u64 yc):=(au xQ.out 0).trans rfl;have Eb : FV.cell? ⟨yg,1,none⟩ = some (xW):=(au xQ.out 1).trans rfl;have Ec:=aH xQ.out 0;have Ed:=aH xQ.out 1))
          go_roundg k2
          case measure=>have:=CS.out;have:=CV.out;omega
          case rel=>exact ⟨(wrap64 (xI + 1)),(BS),(.slice CK BS.length CO),(by first|rfl|(simp;done)|(simp [*];done)),H',⟨by have:=CS.out;have:=CV.out;omega⟩,⟨by (with_reducible repeat (first|apply Kd.bM|apply Kd.bN|apply Kd.bW));exact Kd.eU (Kd.fB (p:=⟨yg,1,none⟩) (Kd.gY Cg.out xQ.out (by decide)) (fun _ hk=>hk.2) (.slice CK BS.length CO)) (fun _ hk=>trivial)⟩,⟨by (with_reducible repeat (first|apply aC|apply aG|apply aA));refine aU ?_ yI.out _;(with_reducible repeat (first|apply aC|apply aG|apply aA));exact xP.out⟩,⟨by (with_reducible repeat (first|apply aC|apply aG|apply aA));refine aU ?_ yJ.out _;(with_reducible repeat (first|apply aC|apply aG|apply aA));exact xV.out⟩,⟨by (with_reducible repeat (first|apply aC|apply aG|apply aA));refine bE (cs:=#[.int .u64 yc,xW]) ?_ 1 _ rfl;(with_reducible repeat (first|apply aC|apply aG|apply aA));exact xQ.out⟩,⟨by repeat (first|(with_reducible first|exact HB.out|apply ay|apply aj|apply av|refine ak ?_ yC.out|refine ak ?_ yE.out|refine ak ?_ yG.out|refine ak ?_ yL.out|refine ak ?_ yO.out)|exact HB.out)⟩⟩
         ·rw [if_neg DJ] at H
          exact absurd H (by simp)
     ·rw [if_neg c13] at H
      exact absurd H (by simp)
    ·rw [if_neg c12] at H
     exact absurd H (by simp)
   ·rw [if_neg c11] at H
    have c11b0 : decide (xI < (xJ.length : Int)) = false:=decide_eq_false c11
    clear c11
    simp only [Option.some.injEq,Prod.mk.injEq] at H
    obtain ⟨rfl,rfl⟩:=H
    have FW:=yS.out
    have FX:=yI.out
    have FY:=yT.out
    have FZ:=yJ.out
    have Ee : wr.cell? ⟨yg,0,none⟩ = some (.int .u64 yc):=(au xQ.out 0).trans rfl
    have Ef : wr.cell? ⟨yg,1,none⟩ = some (xW):=(au xQ.out 1).trans rfl
    have Eh:=aH xQ.out 0
    have Ei:=aH xQ.out 1
    have F3:=zF.out
    have F4:=zD.out
    have Ej : wr.cell? ⟨yh,0,none⟩ = some (.int .u64 0):=(au xV.out 0).trans rfl
    have El : wr.cell? ⟨yh,1,none⟩ = some (.slice none 0 0):=(au xV.out 1).trans rfl
    have Em:=aH xV.out 0
    have En:=aH xV.out 1
    obtain ⟨CP,CQ,Ey⟩:=Kd.kS xL.out
    subst Ey
    go_wp2
    refine bodyPost_ret (results_cell_row rfl _ _ yh 53 #[.int .u64 yc,.slice CP yu.length CQ] (0,0) _ rfl (by (with_reducible repeat (first|apply aC|apply aG|apply aA));refine bE (cs:=#[.int .u64 yc,.slice none 0 0]) ?_ 1 _ rfl;(with_reducible repeat (first|apply aC|apply aG|apply aA));refine bE (cs:=#[.int .u64 0,.slice none 0 0]) ?_ 0 _ rfl;(with_reducible repeat (first|apply aC|apply aG|apply aA));exact xV.out) Tryd.underlying53 rfl (by kernel_rfl)) rfl ?_
    exact ⟨_,by first|rfl|(simp [aZ,bf] <;> rfl)|(simp [*,aZ,bf] <;> rfl),by (with_reducible repeat (first|apply Kd.bM|apply Kd.bN|apply Kd.bW));exact Kd.eU (Kd.fB (p:=⟨yh,1,none⟩) (Kd.fB (p:=⟨yh,0,none⟩) (Kd.gY xL.out xV.out (by decide)) (fun _ hk=>hk.2) (.int .u64 yc)) (fun _ hk=>hk.2) (.slice CP yu.length CQ)) (fun _ hk=>trivial),by repeat (first|(with_reducible first|exact HB.out|apply ay|apply aj|apply av|refine ak ?_ yC.out|refine ak ?_ yE.out|refine ak ?_ yG.out)|exact HB.out)⟩
end Go.Proofs.YtpmbdcljphpcnaaDoor.GC2
