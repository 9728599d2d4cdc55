/- Written by this session's own program (wip/gen.py) out of the translation: plain Lean functions of the Go functions, and proofs that the calls come to their answers. No conditions beside those in the statements. -/
import Derived.Test.YtnkkbiabloodaaaDoorGVax0
namespace Go.Proofs.YtnkkbiabloodaaaDoor.GVa
open Go.RowKit Go.Proofs.YtnkkbiabloodaaaDoorW.PrintWords Go.Proofs.YtnkkbiabloodaaaDoorW.PrintLast Go.Proofs.YtnkkbiabloodaaaDoorW.PrintMore
attribute [local go_sem] fG fH fV fZ eO eP fI fJ
set_option linter.unusedVariables false
set_option linter.unusedSimpArgs false
def bP.l0 : Nat → ByteArray → List (S48) → Int → Int → Option (Int × Bool × Int × ByteArray × (List (S29)) × (List (S48)) × Bool)
 | 0,_,_,_,_=>none
 | k + 1,x1,BR,He,BH=>if BH < He then (if 0 ≤ BH then (if BH < (BR.length : Int) then (if ((aC BR BH).f0).toList = x1.toList then (some ((aC BR BH).f1.f0,(aC BR BH).f1.f1,(aC BR BH).f1.f2,(aC BR BH).f1.f3,(aC BR BH).f1.f4,(aC BR BH).f1.f5,true)) else (bP.l0 k x1 BR He (wrap64 (BH + 1)))) else (none)) else (none)) else (some (0,false,0,(⟨#[]⟩ : ByteArray),([] : List (S29)),([] : List (S48)),false))
def bP.f (k : Nat) (yA : Int) (yH : Bool) (yI : Int) (yJ : ByteArray) (yE : List (S29)) (xS : List (S48)) (a1 : ByteArray) : Option (Int × Bool × Int × ByteArray × (List (S29)) × (List (S48)) × Bool):=if yA = 5 then (bP.l0 k a1 xS (xS.length : Int) 0) else (some (0,false,0,(⟨#[]⟩ : ByteArray),([] : List (S29)),([] : List (S48)),false))
theorem bP.eG : ∀ k,(∀ y0 y1 y2 y3,LeO (bP.l0 k y0 y1 y2 y3) (bP.l0 (k + 1) y0 y1 y2 y3))
 | 0=>fun _ _ _ _ r h=>by simp [bP.l0] at h
 | k + 1=>by
  have BI:=bP.eG k
  ·intro y0 y1 y2 y3
   unfold bP.l0
   repeat' first
   | (with_reducible exact BI _ _ _ _)
   | (with_reducible exact LeO.refl _)
   | (with_reducible exact LeO.none _)
   | (with_reducible refine LeO.ite ?_ ?_)
   | (with_reducible refine LeO.bind ?_ (fun _=>?_))
   | exact BI _ _ _ _
   | exact LeO.none _
   | refine LeO.ite ?_ ?_
   | refine LeO.bind ?_ (fun _=>?_)
theorem bP.mono : ∀ a0 a1 a2 a3 a4 a5 a6 k,LeO (bP.f k a0 a1 a2 a3 a4 a5 a6) (bP.f (k + 1) a0 a1 a2 a3 a4 a5 a6):=by
 intro a0 a1 a2 a3 a4 a5 a6 k
 have BI:=bP.eG k
 unfold bP.f
 repeat' first
   | (with_reducible exact BI _ _ _ _)
   | (with_reducible exact LeO.refl _)
   | (with_reducible exact LeO.none _)
   | (with_reducible refine LeO.ite ?_ ?_)
   | (with_reducible refine LeO.bind ?_ (fun _=>?_))
   | exact BI _ _ _ _
   | exact LeO.none _
   | refine LeO.ite ?_ ?_
   | refine LeO.bind ?_ (fun _=>?_)
set_option maxHeartbeats 8000000 in
set_option maxRecDepth 100000 in
theorem bP.calls (k : Nat) (yA : Int) (yH : Bool) (yI : Int) (yJ : ByteArray) (yO : Option Addr) (yP : Nat) (yE : List (S29)) (zG : Nat → Prop) (yQ : Option Addr) (yK : Nat) (xS : List (S48)) (a1 : ByteArray) (r1 : Int) (r2 : Bool) (r3 : Int) (r4 : ByteArray) (r5 : List (S29)) (r6 : List (S48)) (r7 : Bool) (w : World) (AO : Kd.C k29 w yO yE.length yE) (AP : yE.length ≤ yP) (BJ : Kd.V k48 48 w w.heap.size (fun k_=>zG k_) (.slice yQ xS.length yK) xS) (h : bP.f k yA yH yI yJ yE xS a1 = some (r1,r2,r3,r4,r5,r6,r7)) :
  Calls Tryd.prog 11 #[.agg #[.int .i64 yA,.bool yH,.int .i64 yI,.string yJ,.slice yO yE.length yP,.slice yQ xS.length yK],.string a1] w fun e w'=>∃ D6 D7 : Value,e = .returned (.tuple #[.agg #[.int .i64 r1,.bool r2,.int .i64 r3,.string r4,D6,D7],.bool r7]) ∧ Kd.V k29 29 w' w.heap.size (fun k_=>(zG k_ ∨ w.heap.size ≤ k_)) D6 r5 ∧ Kd.V k48 48 w' w.heap.size (fun k_=>(zG k_ ∨ w.heap.size ≤ k_)) D7 r6 ∧ Below w.heap.size w w':=by
 have Ib:=Tryd.underlying29
 have Ic:=Tryd.underlying48
 have D8:=Aside0.mk AO
 have D9:=Aside0.mk AP
 clear AO AP
 have yG:=Aside0.mk (show Kd.V k48 48 w w.heap.size (fun k_=>(zG k_ ∨ w.heap.size ≤ k_)) (.slice yQ xS.length yK) xS from Kd.bI BJ (fun k_ hk=>.inl hk))
 have HB:=Aside0.mk (Below.refl w.heap.size w)
 have H : (if yA = 5 then (bP.l0 k a1 xS (xS.length : Int) 0) else (some (0,false,0,(⟨#[]⟩ : ByteArray),([] : List (S29)),([] : List (S48)),false))) = some (r1,r2,r3,r4,r5,r6,r7):=h
 clear h
 by_cases c3 : yA = 5
 ·rw [if_pos c3] at H
  have c3b0 : (yA == 5) = true:=beq_iff_eq.mpr c3
  have c3b1 : (yA != 5) = false:=bne_eq_false_iff_eq.mpr c3
  clear c3
  have H':=Aside0.mk H
  clear H
  go_enter Tryd.func11,Tryd.ntmps11
  go_wp2_with (first|((with_reducible refine bH (N:=2) rfl ?_);refine bF ?hg (N:=2) ?hd (cs:=#[.int .i64 yA,.bool yH,.int .i64 yI,.string yJ,.slice yO yE.length yP,.slice yQ xS.length yK]) (t:=29) ?hr ?_;(case hd=>rfl);(case hg=>rfl);(case hr=>first|(go_simp;done)|(go_simp;rfl));intro yu hg w4 hbox hb;have zN:=Aside0.mk (Kd.bB (Kd.dw (by (with_reducible repeat (first|apply Kd.bC|apply Kd.bD|apply Kd.bL));exact yG.out) yu (Nat.le_of_eq hg.symm)) hb);have zO:=Aside0.mk (aK (by repeat (first|(with_reducible first|exact HB.out|apply av|apply ak|apply au)|exact HB.out)) hb);have zP:=Aside0.mk (hbox);have zQ:=Aside0.mk ((by rw [hg];exact (aM (by repeat (first|(with_reducible first|exact HB.out|apply av|apply ak|apply au)|exact HB.out))) : w.heap.size ≤ yu));have zR:=Aside0.mk ((by rw [hg];exact (aM (by repeat (first|(with_reducible first|exact HB.out|apply av|apply ak|apply au)|exact HB.out))) : w.heap.size ≤ yu));clear yG;clear HB;have yG:=zN;have HB:=zO;have yc:=zP;have Ea:=zQ;have yS:=zR;clear zN zO zP zQ zR;clear hb hbox hg)|((with_reducible refine bH (N:=4) rfl ?_);refine bF ?hg (N:=4) ?hd (cs:=#[.int .i64 0,.bool false,.int .i64 0,.string (⟨#[]⟩ : ByteArray),.slice none 0 0,.slice none 0 0]) (t:=29) ?hr ?_;(case hd=>rfl);(case hg=>rfl);(case hr=>first|(go_simp;done)|(go_simp;rfl));intro xX hg w5 hbox hb;have zN:=Aside0.mk (Kd.bB (Kd.dw (by (with_reducible repeat (first|apply Kd.bC|apply Kd.bD|apply Kd.bL));exact yG.out) xX (Nat.le_of_eq hg.symm)) hb);have zO:=Aside0.mk (aI (g:=yu) (o:=.cells #[.int .i64 yA,.bool yH,.int .i64 yI,.string yJ,.slice yO yE.length yP,.slice yQ xS.length yK] 29 (0,0)) (bk_ yc.out) hb);have zP:=Aside0.mk (aK (by repeat (first|(with_reducible first|exact HB.out|apply av|apply ak|apply au|refine aG ?_ yS.out)|exact HB.out)) hb);have zQ:=Aside0.mk (hbox);have zR:=Aside0.mk ((by rw [hg];exact (aM (by repeat (first|(with_reducible first|exact HB.out|apply av|apply ak|apply au|refine aG ?_ yS.out)|exact HB.out))) : w.heap.size ≤ xX));have AQ:=Aside0.mk ((by rw [hg];exact (aM (by repeat (first|(with_reducible first|exact HB.out|apply av|apply ak|apply au|refine aG ?_ yS.out)|exact HB.out))) : w.heap.size ≤ xX));have AU:=Aside0.mk ((by rw [hg];exact Nat.ne_of_lt (bO (g:=yu) (o:=.cells #[.int .i64 yA,.bool yH,.int .i64 yI,.string yJ,.slice yO yE.length yP,.slice yQ xS.length yK] 29 (0,0)) (bk_ yc.out)) : yu ≠ xX));have AV:=Aside0.mk ((by rw [hg];exact Nat.ne_of_gt (bO (g:=yu) (o:=.cells #[.int .i64 yA,.bool yH,.int .i64 yI,.string yJ,.slice yO yE.length yP,.slice yQ xS.length yK] 29 (0,0)) (bk_ yc.out)) : xX ≠ yu));clear yG;clear yc;clear HB;have yG:=zN;have yc:=zO;have HB:=zP;have xY:=zQ;have Eb:=zR;have zH:=AQ;have zm:=AU;have zn:=AV;clear zN zO zP zQ zR AQ AU AV;clear hb hbox hg;have GY:=zm.out;have GZ:=zn.out;have AX : w5.cell? ⟨yu,0,none⟩ = some (.int .i64 yA):=(ah yc.out 0).trans rfl;have AY : w5.cell? ⟨yu,1,none⟩ = some (.bool yH):=(ah yc.out 1).trans rfl;have AZ : w5.cell? ⟨yu,2,none⟩ = some (.int .i64 yI):=(ah yc.out 2).trans rfl;have Ba : w5.cell? ⟨yu,3,none⟩ = some (.string yJ):=(ah yc.out 3).trans rfl;have Bb : w5.cell? ⟨yu,4,none⟩ = some (.slice yO yE.length yP):=(ah yc.out 4).trans rfl;have Bc : w5.cell? ⟨yu,5,none⟩ = some (.slice yQ xS.length yK):=(ah yc.out 5).trans rfl;have Bd:=aj yc.out 0;have Bf:=aj yc.out 1;have Bg:=aj yc.out 2;have Bh:=aj yc.out 3;have Bj:=aj yc.out 4;have Bl:=aj yc.out 5))
  go_loopg [15] k (fun kq v15 w'=>∃ (xU : Int) (yC : Int) (yB : Bool) (yw : Int) (yh : ByteArray),v15 = .int .i64 xU ∧ Aside0 (bP.l0 kq a1 xS (xS.length : Int) xU = some (r1,r2,r3,r4,r5,r6,r7)) ∧ Aside0 (kq ≤ k) ∧ Aside0 (Kd.V k48 48 w' w.heap.size (fun k_=>(zG k_ ∨ w.heap.size ≤ k_) ∧ k_ ≠ yu ∧ k_ ≠ xX) (.slice yQ xS.length yK) xS) ∧ Aside0 (Kd.V k48 48 w' w.heap.size (fun k_=>(zG k_ ∨ w.heap.size ≤ k_) ∧ k_ ≠ yu ∧ k_ ≠ xX) (.slice yQ xS.length yK) xS) ∧ Aside0 (w'.heap[yu]? = some (.cells #[.int .i64 yA,.bool yH,.int .i64 yI,.string yJ,(.slice yO yE.length yP),(.slice yQ xS.length yK)] 29 (0,0))) ∧ Aside0 (w'.heap[xX]? = some (.cells #[.int .i64 yC,.bool yB,.int .i64 yw,.string yh,(.slice none 0 0),(.slice none 0 0)] 29 (0,0))) ∧ Aside0 (Below w.heap.size w w'))
  case atStart=>exact ⟨(0),(0),(false),(0),((⟨#[]⟩ : ByteArray)),(by first|rfl|(simp;done)|(simp [*];done)),H',⟨Nat.le_refl _⟩,⟨by (with_reducible repeat (first|apply Kd.bC|apply Kd.bD|apply Kd.bL));exact Kd.bI yG.out (fun _ hk=>⟨hk.1.1,⟨hk.1.2,hk.2⟩⟩)⟩,⟨by (with_reducible repeat (first|apply Kd.bC|apply Kd.bD|apply Kd.bL));exact Kd.bI yG.out (fun _ hk=>⟨hk.1.1,⟨hk.1.2,hk.2⟩⟩)⟩,⟨by (with_reducible repeat (first|apply aA|apply aD|apply ay));exact yc.out⟩,⟨by (with_reducible repeat (first|apply aA|apply aD|apply ay));exact xY.out⟩,⟨by repeat (first|(with_reducible first|exact HB.out|apply av|apply ak|apply au|refine aG ?_ yS.out|refine aG ?_ zH.out)|exact HB.out)⟩⟩
  case round =>
   clear H'
   try clear c1
   try clear p2
   try clear c3
   try clear c3b0
   try clear c3b1
   try clear c6
   try clear AX
   try clear AY
   try clear AZ
   try clear Ba
   try clear Bb
   try clear Bc
   try clear Bd
   try clear Bf
   try clear Bg
   try clear Bh
   try clear Bj
   try clear Bl
   obtain ⟨xU,yC,yB,yw,yh,rfl,HA,Ec,zo,yT,yc,xY,HB⟩:=hrel
   cases gk with
   | zero=>exact absurd HA.out (by simp [bP.l0])
   | succ k1 =>
    have H:=HA.out
    clear HA
    simp only [bP.l0] at H
    by_cases c8 : xU < (xS.length : Int)
    ·rw [if_pos c8] at H
     have c8b0 : decide (xU < (xS.length : Int)) = true:=decide_eq_true c8
     clear c8
     by_cases c9 : 0 ≤ xU
     ·rw [if_pos c9] at H
      have c9b0 : decide (0 ≤ xU) = true:=decide_eq_true c9
      clear c9
      by_cases c10 : xU < (xS.length : Int)
      ·rw [if_pos c10] at H
       have c10b0 : decide (xU < (xS.length : Int)) = true:=decide_eq_true c10
       clear c10
       by_cases c11 : ((aC xS xU).f0).toList = a1.toList
       ·rw [if_pos c11] at H
        have c11b0 : (((aC xS xU).f0).toList == a1.toList) = true:=beq_iff_eq.mpr c11
        have c11b1 : (((aC xS xU).f0).toList != a1.toList) = false:=bne_eq_false_iff_eq.mpr c11
        clear c11
        simp only [Option.some.injEq,Prod.mk.injEq] at H
        obtain ⟨rfl,rfl,rfl,rfl,rfl,rfl,rfl⟩:=H
        have Al : 0 ≤ (xU : Int):=of_decide_eq_true (by first|(with_reducible assumption)|assumption)
        have Am : xU < (xS.length : Int):=of_decide_eq_true (by first|(with_reducible assumption)|assumption)
        obtain ⟨Ah,zq,zu,zJ,zK,DV,BS,BU,BZ,Ca,Cb,Ao,Ap,zS,zT,zU,zV⟩:=jE (Kd.bM zo.out).2.2 xU Al Am
        cases DV
        obtain ⟨Ed,Bn,Bo,zL⟩:=Kd.jO zo.out z48 xU Al (by first|exact Am|exact of_decide_eq_true (by first|(with_reducible assumption)|assumption)|(have e_:=(Kd.bM zo.out).1;omega))
        obtain ⟨Cc,Ce,Cg,Ch,rfl,zw,zx,zy,zA⟩:=lF Bo
        have yV:=zL 5 _ rfl
        rw [bN _ _ 5 (by omega)] at yV
        replace yV:=Option.some.inj (yV.symm.trans Ao)
        injection yV with hva_ hvn_ hvc_
        rw [hva_] at zx
        rw [hvc_] at zw
        have zk:=Aside0.mk (show Kd.V k29 29 _ w.heap.size _ _ ((aC xS xU).f1.f4) from Kd.jc zw zx)
        clear hva_ hvn_ hvc_ zx zw
        have yX:=zL 6 _ rfl
        rw [bN _ _ 6 (by omega)] at yX
        replace yX:=Option.some.inj (yX.symm.trans Ap)
        injection yX with hva_ hvn_ hvc_
        rw [hva_] at zA
        rw [hvc_] at zy
        have zl:=Aside0.mk (show Kd.V k48 48 _ w.heap.size _ _ ((aC xS xU).f1.f5) from Kd.jc zy zA)
        clear hva_ hvn_ hvc_ zA zy
        clear zL Bn
        have yY:=Aside0.mk zT
        have Ci:=Aside0.mk zS
        clear zT zS
        have yZ:=Aside0.mk zV
        have Cj:=Aside0.mk zU
        clear zV zU
        replace Al:=eq_true Al
        replace Am:=eq_true Am
        go_wp2_with (first|((with_reducible refine bH (N:=7) rfl ?_);refine bF ?hg (N:=7) ?hd (cs:=#[.string (⟨#[]⟩ : ByteArray),.int .i64 0,.bool false,.int .i64 0,.string (⟨#[]⟩ : ByteArray),.slice none 0 0,.slice none 0 0]) (t:=48) ?hr ?_;(case hd=>rfl);(case hg=>rfl);(case hr=>first|(go_simp;done)|(go_simp;rfl));intro xW hg BD hbox hb;have zN:=Aside0.mk (Kd.bB (Kd.dw (by (with_reducible repeat (first|apply Kd.bC|apply Kd.bD|apply Kd.bL));exact zo.out) xW (Nat.le_of_eq hg.symm)) hb);have zO:=Aside0.mk (Kd.bB (Kd.dw (by (with_reducible repeat (first|apply Kd.bC|apply Kd.bD|apply Kd.bL));exact yT.out) xW (Nat.le_of_eq hg.symm)) hb);have zP:=Aside0.mk (Kd.bB (Kd.dw (by (with_reducible repeat (first|apply Kd.bC|apply Kd.bD|apply Kd.bL));exact zk.out) xW (Nat.le_of_eq hg.symm)) hb);have zQ:=Aside0.mk (Kd.bB (Kd.dw (by (with_reducible repeat (first|apply Kd.bC|apply Kd.bD|apply Kd.bL));exact zl.out) xW (Nat.le_of_eq hg.symm)) hb);have zR:=Aside0.mk (aI (g:=yu) (o:=.cells #[.int .i64 yA,.bool yH,.int .i64 yI,.string yJ,.slice yO yE.length yP,.slice (some Ah) xS.length yK] 29 (0,0)) (bk_ yc.out) hb);have AQ:=Aside0.mk (aI (g:=xX) (o:=.cells #[.int .i64 yC,.bool yB,.int .i64 yw,.string yh,.slice none 0 0,.slice none 0 0] 29 (0,0)) (bk_ xY.out) hb);have AU:=Aside0.mk (Kd.bQ (by repeat (first|(with_reducible exact yY.out)|(with_reducible refine Kd.bW ?_ _)|(with_reducible refine Kd.bX ?_ _)|(with_reducible refine Kd.dh ?_)|exact yY.out)) hb);have AV:=Aside0.mk (Kd.bQ (by repeat (first|(with_reducible exact yZ.out)|(with_reducible refine Kd.bW ?_ _)|(with_reducible refine Kd.bX ?_ _)|(with_reducible refine Kd.dh ?_)|exact yZ.out)) hb);have Ee:=Aside0.mk (aK (by repeat (first|(with_reducible first|exact HB.out|apply av|apply ak|apply au|refine aG ?_ yS.out|refine aG ?_ zH.out)|exact HB.out)) hb);have Ef:=Aside0.mk (hbox);have BK:=Aside0.mk ((by rw [hg];exact (aM (by repeat (first|(with_reducible first|exact HB.out|apply av|apply ak|apply au|refine aG ?_ yS.out|refine aG ?_ zH.out)|exact HB.out))) : w.heap.size ≤ xW));have BL:=Aside0.mk ((by rw [hg];exact (aM (by repeat (first|(with_reducible first|exact HB.out|apply av|apply ak|apply au|refine aG ?_ yS.out|refine aG ?_ zH.out)|exact HB.out))) : w.heap.size ≤ xW));have BM:=Aside0.mk ((by rw [hg];exact Nat.ne_of_lt (bO (g:=yu) (o:=.cells #[.int .i64 yA,.bool yH,.int .i64 yI,.string yJ,.slice yO yE.length yP,.slice (some Ah) xS.length yK] 29 (0,0)) (bk_ yc.out)) : yu ≠ xW));have BN:=Aside0.mk ((by rw [hg];exact Nat.ne_of_gt (bO (g:=yu) (o:=.cells #[.int .i64 yA,.bool yH,.int .i64 yI,.string yJ,.slice yO yE.length yP,.slice (some Ah) xS.length yK] 29 (0,0)) (bk_ yc.out)) : xW ≠ yu));have BO:=Aside0.mk ((by rw [hg];exact Nat.ne_of_lt (bO (g:=xX) (o:=.cells #[.int .i64 yC,.bool yB,.int .i64 yw,.string yh,.slice none 0 0,.slice none 0 0] 29 (0,0)) (bk_ xY.out)) : xX ≠ xW));have BP:=Aside0.mk ((by rw [hg];exact Nat.ne_of_gt (bO (g:=xX) (o:=.cells #[.int .i64 yC,.bool yB,.int .i64 yw,.string yh,.slice none 0 0,.slice none 0 0] 29 (0,0)) (bk_ xY.out)) : xW ≠ xX));clear zo;clear yT;clear zk;clear zl;clear yc;clear xY;clear yY;clear yZ;clear HB;have zo:=zN;have yT:=zO;have zk:=zP;have zl:=zQ;have yc:=zR;have xY:=AQ;have yY:=AU;have yZ:=AV;have HB:=Ee;have yF:=Ef;have Eh:=BK;have BQ:=BL;have yM:=BM;have z8:=BN;have yx:=BO;have Ac:=BP;clear zN zO zP zQ zR AQ AU AV Ee Ef BK BL BM BN BO BP;clear hb hbox hg;have Hf:=z8.out;have Hg:=yM.out;have Ei:=Ac.out;have Ej:=yx.out;have Ck : BD.cell? ⟨xW,0,none⟩ = some (.string (⟨#[]⟩ : ByteArray)):=(ah yF.out 0).trans rfl;have Cm : BD.cell? ⟨xW,1,none⟩ = some (.int .i64 0):=(ah yF.out 1).trans rfl;have Cn : BD.cell? ⟨xW,2,none⟩ = some (.bool false):=(ah yF.out 2).trans rfl;have Co : BD.cell? ⟨xW,3,none⟩ = some (.int .i64 0):=(ah yF.out 3).trans rfl;have Cq : BD.cell? ⟨xW,4,none⟩ = some (.string (⟨#[]⟩ : ByteArray)):=(ah yF.out 4).trans rfl;have Cr : BD.cell? ⟨xW,5,none⟩ = some (.slice none 0 0):=(ah yF.out 5).trans rfl;have Es : BD.cell? ⟨xW,6,none⟩ = some (.slice none 0 0):=(ah yF.out 6).trans rfl;have Ct:=aj yF.out 0;have Cu:=aj yF.out 1;have Cv:=aj yF.out 2;have Cw:=aj yF.out 3;have Cx:=aj yF.out 4;have Cy:=aj yF.out 5;have Et:=aj yF.out 6;have El:=zn.out;have Em:=zm.out;have Cz : BD.cell? ⟨xX,0,none⟩ = some (.int .i64 yC):=(ah xY.out 0).trans rfl;have CB : BD.cell? ⟨xX,1,none⟩ = some (.bool yB):=(ah xY.out 1).trans rfl;have CF : BD.cell? ⟨xX,2,none⟩ = some (.int .i64 yw):=(ah xY.out 2).trans rfl;have CG : BD.cell? ⟨xX,3,none⟩ = some (.string yh):=(ah xY.out 3).trans rfl;have CJ : BD.cell? ⟨xX,4,none⟩ = some (.slice none 0 0):=(ah xY.out 4).trans rfl;have CK : BD.cell? ⟨xX,5,none⟩ = some (.slice none 0 0):=(ah xY.out 5).trans rfl;have CO:=aj xY.out 0;have CP:=aj xY.out 1;have CQ:=aj xY.out 2;have CS:=aj xY.out 3;have CU:=aj xY.out 4;have CV:=aj xY.out 5))
        refine bodyPost_ret (iF rfl _ _ xX 29 #[.int .i64 ((aC xS xU).f1.f0),.bool ((aC xS xU).f1.f1),.int .i64 ((aC xS xU).f1.f2),.string ((aC xS xU).f1.f3),.slice zq ((aC xS xU).f1.f4).length zu,.slice zJ ((aC xS xU).f1.f5).length zK] (0,0) _ rfl (by (with_reducible repeat (first|apply aA|apply aD|apply ay));refine aQ (cs:=#[.int .i64 ((aC xS xU).f1.f0),.bool ((aC xS xU).f1.f1),.int .i64 ((aC xS xU).f1.f2),.string ((aC xS xU).f1.f3),.slice zq ((aC xS xU).f1.f4).length zu,.slice none 0 0]) ?_ 5 _ rfl;(with_reducible repeat (first|apply aA|apply aD|apply ay));refine aQ (cs:=#[.int .i64 ((aC xS xU).f1.f0),.bool ((aC xS xU).f1.f1),.int .i64 ((aC xS xU).f1.f2),.string ((aC xS xU).f1.f3),.slice none 0 0,.slice none 0 0]) ?_ 4 _ rfl;(with_reducible repeat (first|apply aA|apply aD|apply ay));refine aQ (cs:=#[.int .i64 ((aC xS xU).f1.f0),.bool ((aC xS xU).f1.f1),.int .i64 ((aC xS xU).f1.f2),.string yh,.slice none 0 0,.slice none 0 0]) ?_ 3 _ rfl;(with_reducible repeat (first|apply aA|apply aD|apply ay));refine aQ (cs:=#[.int .i64 ((aC xS xU).f1.f0),.bool ((aC xS xU).f1.f1),.int .i64 yw,.string yh,.slice none 0 0,.slice none 0 0]) ?_ 2 _ rfl;(with_reducible repeat (first|apply aA|apply aD|apply ay));refine aQ (cs:=#[.int .i64 ((aC xS xU).f1.f0),.bool yB,.int .i64 yw,.string yh,.slice none 0 0,.slice none 0 0]) ?_ 1 _ rfl;(with_reducible repeat (first|apply aA|apply aD|apply ay));refine aQ (cs:=#[.int .i64 yC,.bool yB,.int .i64 yw,.string yh,.slice none 0 0,.slice none 0 0]) ?_ 0 _ rfl;(with_reducible repeat (first|apply aA|apply aD|apply ay));refine bq ?_ yx.out _;(with_reducible repeat (first|apply aA|apply aD|apply ay));refine bq ?_ yx.out _;(with_reducible repeat (first|apply aA|apply aD|apply ay));refine bq ?_ yx.out _;(with_reducible repeat (first|apply aA|apply aD|apply ay));refine bq ?_ yx.out _;(with_reducible repeat (first|apply aA|apply aD|apply ay));refine bq ?_ yx.out _;(with_reducible repeat (first|apply aA|apply aD|apply ay));refine bq ?_ yx.out _;(with_reducible repeat (first|apply aA|apply aD|apply ay));refine bq ?_ yx.out _;(with_reducible repeat (first|apply aA|apply aD|apply ay));exact xY.out) Tryd.underlying29 rfl (by kernel_rfl)) rfl ?_
        exact ⟨_,_,by first|rfl|(simp [aX,aY] <;> rfl)|(simp [*,aX,aY] <;> rfl),by (with_reducible repeat (first|apply Kd.bC|apply Kd.bD|apply Kd.bL));exact Kd.bI (Kd.bn (p:=⟨xX,5,none⟩) (Kd.bn (p:=⟨xX,4,none⟩) (Kd.bn (p:=⟨xX,3,none⟩) (Kd.bn (p:=⟨xX,2,none⟩) (Kd.bn (p:=⟨xX,1,none⟩) (Kd.bn (p:=⟨xX,0,none⟩) (Kd.bn (p:=⟨xW,6,none⟩) (Kd.bn (p:=⟨xW,5,none⟩) (Kd.bn (p:=⟨xW,4,none⟩) (Kd.bn (p:=⟨xW,3,none⟩) (Kd.bn (p:=⟨xW,2,none⟩) (Kd.bn (p:=⟨xW,1,none⟩) (Kd.bn (p:=⟨xW,0,none⟩) (Kd.bI (Kd.bI zk.out (fun k_ hk=>(⟨hk,hk.2⟩ : _ ∧ k_ ≠ xW))) (fun k_ hk=>(⟨hk,hk.1.1.2.2⟩ : _ ∧ k_ ≠ xX))) (fun _ hk=>hk.1.2) (.string ((aC xS xU).f0))) (fun _ hk=>hk.1.2) (.int .i64 ((aC xS xU).f1.f0))) (fun _ hk=>hk.1.2) (.bool ((aC xS xU).f1.f1))) (fun _ hk=>hk.1.2) (.int .i64 ((aC xS xU).f1.f2))) (fun _ hk=>hk.1.2) (.string ((aC xS xU).f1.f3))) (fun _ hk=>hk.1.2) (.slice zq ((aC xS xU).f1.f4).length zu)) (fun _ hk=>hk.1.2) (.slice zJ ((aC xS xU).f1.f5).length zK)) (fun _ hk=>hk.2) (.int .i64 ((aC xS xU).f1.f0))) (fun _ hk=>hk.2) (.bool ((aC xS xU).f1.f1))) (fun _ hk=>hk.2) (.int .i64 ((aC xS xU).f1.f2))) (fun _ hk=>hk.2) (.string ((aC xS xU).f1.f3))) (fun _ hk=>hk.2) (.slice zq ((aC xS xU).f1.f4).length zu)) (fun _ hk=>hk.2) (.slice zJ ((aC xS xU).f1.f5).length zK)) (fun _ hk=>hk.1.1.1.1),by (with_reducible repeat (first|apply Kd.bC|apply Kd.bD|apply Kd.bL));exact Kd.bI (Kd.bn (p:=⟨xX,5,none⟩) (Kd.bn (p:=⟨xX,4,none⟩) (Kd.bn (p:=⟨xX,3,none⟩) (Kd.bn (p:=⟨xX,2,none⟩) (Kd.bn (p:=⟨xX,1,none⟩) (Kd.bn (p:=⟨xX,0,none⟩) (Kd.bn (p:=⟨xW,6,none⟩) (Kd.bn (p:=⟨xW,5,none⟩) (Kd.bn (p:=⟨xW,4,none⟩) (Kd.bn (p:=⟨xW,3,none⟩) (Kd.bn (p:=⟨xW,2,none⟩) (Kd.bn (p:=⟨xW,1,none⟩) (Kd.bn (p:=⟨xW,0,none⟩) (Kd.bI (Kd.bI zl.out (fun k_ hk=>(⟨hk,hk.2⟩ : _ ∧ k_ ≠ xW))) (fun k_ hk=>(⟨hk,hk.1.1.2.2⟩ : _ ∧ k_ ≠ xX))) (fun _ hk=>hk.1.2) (.string ((aC xS xU).f0))) (fun _ hk=>hk.1.2) (.int .i64 ((aC xS xU).f1.f0))) (fun _ hk=>hk.1.2) (.bool ((aC xS xU).f1.f1))) (fun _ hk=>hk.1.2) (.int .i64 ((aC xS xU).f1.f2))) (fun _ hk=>hk.1.2) (.string ((aC xS xU).f1.f3))) (fun _ hk=>hk.1.2) (.slice zq ((aC xS xU).f1.f4).length zu)) (fun _ hk=>hk.1.2) (.slice zJ ((aC xS xU).f1.f5).length zK)) (fun _ hk=>hk.2) (.int .i64 ((aC xS xU).f1.f0))) (fun _ hk=>hk.2) (.bool ((aC xS xU).f1.f1))) (fun _ hk=>hk.2) (.int .i64 ((aC xS xU).f1.f2))) (fun _ hk=>hk.2) (.string ((aC xS xU).f1.f3))) (fun _ hk=>hk.2) (.slice zq ((aC xS xU).f1.f4).length zu)) (fun _ hk=>hk.2) (.slice zJ ((aC xS xU).f1.f5).length zK)) (fun _ hk=>hk.1.1.1.1),by repeat (first|(with_reducible first|exact HB.out|apply av|apply ak|apply au|refine aG ?_ yS.out|refine aG ?_ zH.out|refine aG ?_ BQ.out)|exact HB.out)⟩
       ·rw [if_neg c11] at H
        have c11b0 : (((aC xS xU).f0).toList == a1.toList) = false:=beq_eq_false_iff_ne.mpr c11
        have c11b1 : (((aC xS xU).f0).toList != a1.toList) = true:=bne_iff_ne.mpr c11
        have H':=Aside0.mk H
        clear H
        have Al : 0 ≤ (xU : Int):=of_decide_eq_true (by first|(with_reducible assumption)|assumption)
        have Am : xU < (xS.length : Int):=of_decide_eq_true (by first|(with_reducible assumption)|assumption)
        obtain ⟨Ah,zq,zu,zJ,zK,DV,BS,BU,BZ,Ca,Cb,Ao,Ap,zS,zT,zU,zV⟩:=jE (Kd.bM zo.out).2.2 xU Al Am
        cases DV
        obtain ⟨Ed,Bn,Bo,zL⟩:=Kd.jO zo.out z48 xU Al (by first|exact Am|exact of_decide_eq_true (by first|(with_reducible assumption)|assumption)|(have e_:=(Kd.bM zo.out).1;omega))
        obtain ⟨Cc,Ce,Cg,Ch,rfl,zw,zx,zy,zA⟩:=lF Bo
        have yV:=zL 5 _ rfl
        rw [bN _ _ 5 (by omega)] at yV
        replace yV:=Option.some.inj (yV.symm.trans Ao)
        injection yV with hva_ hvn_ hvc_
        rw [hva_] at zx
        rw [hvc_] at zw
        have zk:=Aside0.mk (show Kd.V k29 29 _ w.heap.size _ _ ((aC xS xU).f1.f4) from Kd.jc zw zx)
        clear hva_ hvn_ hvc_ zx zw
        have yX:=zL 6 _ rfl
        rw [bN _ _ 6 (by omega)] at yX
        replace yX:=Option.some.inj (yX.symm.trans Ap)
        injection yX with hva_ hvn_ hvc_
        rw [hva_] at zA
        rw [hvc_] at zy
        have zl:=Aside0.mk (show Kd.V k48 48 _ w.heap.size _ _ ((aC xS xU).f1.f5) from Kd.jc zy zA)
        clear hva_ hvn_ hvc_ zA zy
        clear zL Bn
        have yY:=Aside0.mk zT
        have Ci:=Aside0.mk zS
        clear zT zS
        have yZ:=Aside0.mk zV
        have Cj:=Aside0.mk zU
        clear zV zU
        replace Al:=eq_true Al
        replace Am:=eq_true Am
        go_wp2_with (first|((with_reducible refine bH (N:=7) rfl ?_);refine bF ?hg (N:=7) ?hd (cs:=#[.string (⟨#[]⟩ : ByteArray),.int .i64 0,.bool false,.int .i64 0,.string (⟨#[]⟩ : ByteArray),.slice none 0 0,.slice none 0 0]) (t:=48) ?hr ?_;(case hd=>rfl);(case hg=>rfl);(case hr=>first|(go_simp;done)|(go_simp;rfl));intro xW hg DW hbox hb;have zN:=Aside0.mk (Kd.bB (Kd.dw (by (with_reducible repeat (first|apply Kd.bC|apply Kd.bD|apply Kd.bL));exact zo.out) xW (Nat.le_of_eq hg.symm)) hb);have zO:=Aside0.mk (Kd.bB (Kd.dw (by (with_reducible repeat (first|apply Kd.bC|apply Kd.bD|apply Kd.bL));exact yT.out) xW (Nat.le_of_eq hg.symm)) hb);have zP:=Aside0.mk (Kd.bB (Kd.dw (by (with_reducible repeat (first|apply Kd.bC|apply Kd.bD|apply Kd.bL));exact zk.out) xW (Nat.le_of_eq hg.symm)) hb);have zQ:=Aside0.mk (Kd.bB (Kd.dw (by (with_reducible repeat (first|apply Kd.bC|apply Kd.bD|apply Kd.bL));exact zl.out) xW (Nat.le_of_eq hg.symm)) hb);have zR:=Aside0.mk (aI (g:=yu) (o:=.cells #[.int .i64 yA,.bool yH,.int .i64 yI,.string yJ,.slice yO yE.length yP,.slice (some Ah) xS.length yK] 29 (0,0)) (bk_ yc.out) hb);have AQ:=Aside0.mk (aI (g:=xX) (o:=.cells #[.int .i64 yC,.bool yB,.int .i64 yw,.string yh,.slice none 0 0,.slice none 0 0] 29 (0,0)) (bk_ xY.out) hb);have AU:=Aside0.mk (Kd.bQ (by repeat (first|(with_reducible exact yY.out)|(with_reducible refine Kd.bW ?_ _)|(with_reducible refine Kd.bX ?_ _)|(with_reducible refine Kd.dh ?_)|exact yY.out)) hb);have AV:=Aside0.mk (Kd.bQ (by repeat (first|(with_reducible exact yZ.out)|(with_reducible refine Kd.bW ?_ _)|(with_reducible refine Kd.bX ?_ _)|(with_reducible refine Kd.dh ?_)|exact yZ.out)) hb);have Ee:=Aside0.mk (aK (by repeat (first|(with_reducible first|exact HB.out|apply av|apply ak|apply au|refine aG ?_ yS.out|refine aG ?_ zH.out)|exact HB.out)) hb);have Ef:=Aside0.mk (hbox);have BK:=Aside0.mk ((by rw [hg];exact (aM (by repeat (first|(with_reducible first|exact HB.out|apply av|apply ak|apply au|refine aG ?_ yS.out|refine aG ?_ zH.out)|exact HB.out))) : w.heap.size ≤ xW));have BL:=Aside0.mk ((by rw [hg];exact (aM (by repeat (first|(with_reducible first|exact HB.out|apply av|apply ak|apply au|refine aG ?_ yS.out|refine aG ?_ zH.out)|exact HB.out))) : w.heap.size ≤ xW));have BM:=Aside0.mk ((by rw [hg];exact Nat.ne_of_lt (bO (g:=yu) (o:=.cells #[.int .i64 yA,.bool yH,.int .i64 yI,.string yJ,.slice yO yE.length yP,.slice (some Ah) xS.length yK] 29 (0,0)) (bk_ yc.out)) : yu ≠ xW));have BN:=Aside0.mk ((by rw [hg];exact Nat.ne_of_gt (bO (g:=yu) (o:=.cells #[.int .i64 yA,.bool yH,.int .i64 yI,.string yJ,.slice yO yE.length yP,.slice (some Ah) xS.length yK] 29 (0,0)) (bk_ yc.out)) : xW ≠ yu));have BO:=Aside0.mk ((by rw [hg];exact Nat.ne_of_lt (bO (g:=xX) (o:=.cells #[.int .i64 yC,.bool yB,.int .i64 yw,.string yh,.slice none 0 0,.slice none 0 0] 29 (0,0)) (bk_ xY.out)) : xX ≠ xW));have BP:=Aside0.mk ((by rw [hg];exact Nat.ne_of_gt (bO (g:=xX) (o:=.cells #[.int .i64 yC,.bool yB,.int .i64 yw,.string yh,.slice none 0 0,.slice none 0 0] 29 (0,0)) (bk_ xY.out)) : xW ≠ xX));clear zo;clear yT;clear zk;clear zl;clear yc;clear xY;clear yY;clear yZ;clear HB;have zo:=zN;have yT:=zO;have zk:=zP;have zl:=zQ;have yc:=zR;have xY:=AQ;have yY:=AU;have yZ:=AV;have HB:=Ee;have yF:=Ef;have Eh:=BK;have BQ:=BL;have yM:=BM;have z8:=BN;have yx:=BO;have Ac:=BP;clear zN zO zP zQ zR AQ AU AV Ee Ef BK BL BM BN BO BP;clear hb hbox hg;have Hl:=z8.out;have Ho:=yM.out;have Hq:=Ac.out;have Hr:=yx.out;have Eu : DW.cell? ⟨xW,0,none⟩ = some (.string (⟨#[]⟩ : ByteArray)):=(ah yF.out 0).trans rfl;have Ew : DW.cell? ⟨xW,1,none⟩ = some (.int .i64 0):=(ah yF.out 1).trans rfl;have Ey : DW.cell? ⟨xW,2,none⟩ = some (.bool false):=(ah yF.out 2).trans rfl;have Ez : DW.cell? ⟨xW,3,none⟩ = some (.int .i64 0):=(ah yF.out 3).trans rfl;have EA : DW.cell? ⟨xW,4,none⟩ = some (.string (⟨#[]⟩ : ByteArray)):=(ah yF.out 4).trans rfl;have EB : DW.cell? ⟨xW,5,none⟩ = some (.slice none 0 0):=(ah yF.out 5).trans rfl;have EC : DW.cell? ⟨xW,6,none⟩ = some (.slice none 0 0):=(ah yF.out 6).trans rfl;have ED:=aj yF.out 0;have EF:=aj yF.out 1;have EG:=aj yF.out 2;have EH:=aj yF.out 3;have EI:=aj yF.out 4;have EJ:=aj yF.out 5;have EK:=aj yF.out 6))
        go_roundg k1
        case measure=>have:=Ec.out;omega
        case rel=>exact ⟨(wrap64 (xU + 1)),(yC),(yB),(yw),(yh),(by first|rfl|(simp;done)|(simp [*];done)),H',⟨by have:=Ec.out;omega⟩,⟨by (with_reducible repeat (first|apply Kd.bC|apply Kd.bD|apply Kd.bL));exact Kd.bI (Kd.bn (p:=⟨xW,6,none⟩) (Kd.bn (p:=⟨xW,5,none⟩) (Kd.bn (p:=⟨xW,4,none⟩) (Kd.bn (p:=⟨xW,3,none⟩) (Kd.bn (p:=⟨xW,2,none⟩) (Kd.bn (p:=⟨xW,1,none⟩) (Kd.bn (p:=⟨xW,0,none⟩) (Kd.bI zo.out (fun k_ hk=>(⟨hk,hk.2⟩ : _ ∧ k_ ≠ xW))) (fun _ hk=>hk.2) (.string ((aC xS xU).f0))) (fun _ hk=>hk.2) (.int .i64 ((aC xS xU).f1.f0))) (fun _ hk=>hk.2) (.bool ((aC xS xU).f1.f1))) (fun _ hk=>hk.2) (.int .i64 ((aC xS xU).f1.f2))) (fun _ hk=>hk.2) (.string ((aC xS xU).f1.f3))) (fun _ hk=>hk.2) (.slice zq ((aC xS xU).f1.f4).length zu)) (fun _ hk=>hk.2) (.slice zJ ((aC xS xU).f1.f5).length zK)) (fun _ hk=>⟨hk.1.1.1,⟨hk.1.1.2.1,hk.1.1.2.2⟩⟩)⟩,⟨by (with_reducible repeat (first|apply Kd.bC|apply Kd.bD|apply Kd.bL));exact Kd.bI (Kd.bn (p:=⟨xW,6,none⟩) (Kd.bn (p:=⟨xW,5,none⟩) (Kd.bn (p:=⟨xW,4,none⟩) (Kd.bn (p:=⟨xW,3,none⟩) (Kd.bn (p:=⟨xW,2,none⟩) (Kd.bn (p:=⟨xW,1,none⟩) (Kd.bn (p:=⟨xW,0,none⟩) (Kd.bI yT.out (fun k_ hk=>(⟨hk,hk.2⟩ : _ ∧ k_ ≠ xW))) (fun _ hk=>hk.2) (.string ((aC xS xU).f0))) (fun _ hk=>hk.2) (.int .i64 ((aC xS xU).f1.f0))) (fun _ hk=>hk.2) (.bool ((aC xS xU).f1.f1))) (fun _ hk=>hk.2) (.int .i64 ((aC xS xU).f1.f2))) (fun _ hk=>hk.2) (.string ((aC xS xU).f1.f3))) (fun _ hk=>hk.2) (.slice zq ((aC xS xU).f1.f4).length zu)) (fun _ hk=>hk.2) (.slice zJ ((aC xS xU).f1.f5).length zK)) (fun _ hk=>⟨hk.1.1.1,⟨hk.1.1.2.1,hk.1.1.2.2⟩⟩)⟩,⟨by (with_reducible repeat (first|apply aA|apply aD|apply ay));refine bq ?_ yM.out _;(with_reducible repeat (first|apply aA|apply aD|apply ay));refine bq ?_ yM.out _;(with_reducible repeat (first|apply aA|apply aD|apply ay));refine bq ?_ yM.out _;(with_reducible repeat (first|apply aA|apply aD|apply ay));refine bq ?_ yM.out _;(with_reducible repeat (first|apply aA|apply aD|apply ay));refine bq ?_ yM.out _;(with_reducible repeat (first|apply aA|apply aD|apply ay));refine bq ?_ yM.out _;(with_reducible repeat (first|apply aA|apply aD|apply ay));refine bq ?_ yM.out _;(with_reducible repeat (first|apply aA|apply aD|apply ay));exact yc.out⟩,⟨by (with_reducible repeat (first|apply aA|apply aD|apply ay));refine bq ?_ yx.out _;(with_reducible repeat (first|apply aA|apply aD|apply ay));refine bq ?_ yx.out _;(with_reducible repeat (first|apply aA|apply aD|apply ay));refine bq ?_ yx.out _;(with_reducible repeat (first|apply aA|apply aD|apply ay));refine bq ?_ yx.out _;(with_reducible repeat (first|apply aA|apply aD|apply ay));refine bq ?_ yx.out _;(with_reducible repeat (first|apply aA|apply aD|apply ay));refine bq ?_ yx.out _;(with_reducible repeat (first|apply aA|apply aD|apply ay));refine bq ?_ yx.out _;(with_reducible repeat (first|apply aA|apply aD|apply ay));exact xY.out⟩,⟨by repeat (first|(with_reducible first|exact HB.out|apply av|apply ak|apply au|refine aG ?_ yS.out|refine aG ?_ zH.out|refine aG ?_ BQ.out)|exact HB.out)⟩⟩
      ·rw [if_neg c10] at H
       exact absurd H (by simp)
     ·rw [if_neg c9] at H
      exact absurd H (by simp)
    ·rw [if_neg c8] at H
     have c8b0 : decide (xU < (xS.length : Int)) = false:=decide_eq_false c8
     clear c8
     simp only [Option.some.injEq,Prod.mk.injEq] at H
     obtain ⟨rfl,rfl,rfl,rfl,rfl,rfl,rfl⟩:=H
     have Ht:=zn.out
     have Hu:=zm.out
     have CW : wr.cell? ⟨xX,0,none⟩ = some (.int .i64 yC):=(ah xY.out 0).trans rfl
     have CX : wr.cell? ⟨xX,1,none⟩ = some (.bool yB):=(ah xY.out 1).trans rfl
     have CY : wr.cell? ⟨xX,2,none⟩ = some (.int .i64 yw):=(ah xY.out 2).trans rfl
     have CZ : wr.cell? ⟨xX,3,none⟩ = some (.string yh):=(ah xY.out 3).trans rfl
     have C8 : wr.cell? ⟨xX,4,none⟩ = some (.slice none 0 0):=(ah xY.out 4).trans rfl
     have C9 : wr.cell? ⟨xX,5,none⟩ = some (.slice none 0 0):=(ah xY.out 5).trans rfl
     have Da:=aj xY.out 0
     have Db:=aj xY.out 1
     have Dc:=aj xY.out 2
     have Df:=aj xY.out 3
     have Dh:=aj xY.out 4
     have Di:=aj xY.out 5
     go_wp2
     refine bodyPost_ret (iF rfl _ _ xX 29 #[.int .i64 0,.bool false,.int .i64 0,.string (⟨#[]⟩ : ByteArray),.slice none 0 0,.slice none 0 0] (0,0) _ rfl (by (with_reducible repeat (first|apply aA|apply aD|apply ay));refine aQ (cs:=#[.int .i64 0,.bool false,.int .i64 0,.string (⟨#[]⟩ : ByteArray),.slice none 0 0,.slice none 0 0]) ?_ 5 _ rfl;(with_reducible repeat (first|apply aA|apply aD|apply ay));refine aQ (cs:=#[.int .i64 0,.bool false,.int .i64 0,.string (⟨#[]⟩ : ByteArray),.slice none 0 0,.slice none 0 0]) ?_ 4 _ rfl;(with_reducible repeat (first|apply aA|apply aD|apply ay));refine aQ (cs:=#[.int .i64 0,.bool false,.int .i64 0,.string yh,.slice none 0 0,.slice none 0 0]) ?_ 3 _ rfl;(with_reducible repeat (first|apply aA|apply aD|apply ay));refine aQ (cs:=#[.int .i64 0,.bool false,.int .i64 yw,.string yh,.slice none 0 0,.slice none 0 0]) ?_ 2 _ rfl;(with_reducible repeat (first|apply aA|apply aD|apply ay));refine aQ (cs:=#[.int .i64 0,.bool yB,.int .i64 yw,.string yh,.slice none 0 0,.slice none 0 0]) ?_ 1 _ rfl;(with_reducible repeat (first|apply aA|apply aD|apply ay));refine aQ (cs:=#[.int .i64 yC,.bool yB,.int .i64 yw,.string yh,.slice none 0 0,.slice none 0 0]) ?_ 0 _ rfl;(with_reducible repeat (first|apply aA|apply aD|apply ay));exact xY.out) Tryd.underlying29 rfl (by kernel_rfl)) rfl ?_
     exact ⟨_,_,by first|rfl|(simp [aX,aY] <;> rfl)|(simp [*,aX,aY] <;> rfl),(Kd.eT _ _ _ _ _),(Kd.eT _ _ _ _ _),by repeat (first|(with_reducible first|exact HB.out|apply av|apply ak|apply au|refine aG ?_ yS.out|refine aG ?_ zH.out)|exact HB.out)⟩
 ·rw [if_neg c3] at H
  have c3b0 : (yA == 5) = false:=beq_eq_false_iff_ne.mpr c3
  have c3b1 : (yA != 5) = true:=bne_iff_ne.mpr c3
  simp only [Option.some.injEq,Prod.mk.injEq] at H
  obtain ⟨rfl,rfl,rfl,rfl,rfl,rfl,rfl⟩:=H
  go_enter Tryd.func11,Tryd.ntmps11
  go_wp2_with (first|((with_reducible refine bH (N:=2) rfl ?_);refine bF ?hg (N:=2) ?hd (cs:=#[.int .i64 yA,.bool yH,.int .i64 yI,.string yJ,.slice yO yE.length yP,.slice yQ xS.length yK]) (t:=29) ?hr ?_;(case hd=>rfl);(case hg=>rfl);(case hr=>first|(go_simp;done)|(go_simp;rfl));intro yu hg Ig hbox hb;have zN:=Aside0.mk (Kd.bB (Kd.dw (by (with_reducible repeat (first|apply Kd.bC|apply Kd.bD|apply Kd.bL));exact yG.out) yu (Nat.le_of_eq hg.symm)) hb);have zO:=Aside0.mk (aK (by repeat (first|(with_reducible first|exact HB.out|apply av|apply ak|apply au)|exact HB.out)) hb);have zP:=Aside0.mk (hbox);have zQ:=Aside0.mk ((by rw [hg];exact (aM (by repeat (first|(with_reducible first|exact HB.out|apply av|apply ak|apply au)|exact HB.out))) : w.heap.size ≤ yu));have zR:=Aside0.mk ((by rw [hg];exact (aM (by repeat (first|(with_reducible first|exact HB.out|apply av|apply ak|apply au)|exact HB.out))) : w.heap.size ≤ yu));clear yG;clear HB;have yG:=zN;have HB:=zO;have yc:=zP;have Ea:=zQ;have yS:=zR;clear zN zO zP zQ zR;clear hb hbox hg)|((with_reducible refine bH (N:=4) rfl ?_);refine bF ?hg (N:=4) ?hd (cs:=#[.int .i64 0,.bool false,.int .i64 0,.string (⟨#[]⟩ : ByteArray),.slice none 0 0,.slice none 0 0]) (t:=29) ?hr ?_;(case hd=>rfl);(case hg=>rfl);(case hr=>first|(go_simp;done)|(go_simp;rfl));intro xX hg BF hbox hb;have zN:=Aside0.mk (Kd.bB (Kd.dw (by (with_reducible repeat (first|apply Kd.bC|apply Kd.bD|apply Kd.bL));exact yG.out) xX (Nat.le_of_eq hg.symm)) hb);have zO:=Aside0.mk (aI (g:=yu) (o:=.cells #[.int .i64 yA,.bool yH,.int .i64 yI,.string yJ,.slice yO yE.length yP,.slice yQ xS.length yK] 29 (0,0)) (bk_ yc.out) hb);have zP:=Aside0.mk (aK (by repeat (first|(with_reducible first|exact HB.out|apply av|apply ak|apply au|refine aG ?_ yS.out)|exact HB.out)) hb);have zQ:=Aside0.mk (hbox);have zR:=Aside0.mk ((by rw [hg];exact (aM (by repeat (first|(with_reducible first|exact HB.out|apply av|apply ak|apply au|refine aG ?_ yS.out)|exact HB.out))) : w.heap.size ≤ xX));have AQ:=Aside0.mk ((by rw [hg];exact (aM (by repeat (first|(with_reducible first|exact HB.out|apply av|apply ak|apply au|refine aG ?_ yS.out)|exact HB.out))) : w.heap.size ≤ xX));have AU:=Aside0.mk ((by rw [hg];exact Nat.ne_of_lt (bO (g:=yu) (o:=.cells #[.int .i64 yA,.bool yH,.int .i64 yI,.string yJ,.slice yO yE.length yP,.slice yQ xS.length yK] 29 (0,0)) (bk_ yc.out)) : yu ≠ xX));have AV:=Aside0.mk ((by rw [hg];exact Nat.ne_of_gt (bO (g:=yu) (o:=.cells #[.int .i64 yA,.bool yH,.int .i64 yI,.string yJ,.slice yO yE.length yP,.slice yQ xS.length yK] 29 (0,0)) (bk_ yc.out)) : xX ≠ yu));clear yG;clear yc;clear HB;have yG:=zN;have yc:=zO;have HB:=zP;have xY:=zQ;have Eb:=zR;have zH:=AQ;have zm:=AU;have zn:=AV;clear zN zO zP zQ zR AQ AU AV;clear hb hbox hg;have Hw:=zm.out;have Hy:=zn.out;have EL : BF.cell? ⟨yu,0,none⟩ = some (.int .i64 yA):=(ah yc.out 0).trans rfl;have EM : BF.cell? ⟨yu,1,none⟩ = some (.bool yH):=(ah yc.out 1).trans rfl;have EN : BF.cell? ⟨yu,2,none⟩ = some (.int .i64 yI):=(ah yc.out 2).trans rfl;have EO : BF.cell? ⟨yu,3,none⟩ = some (.string yJ):=(ah yc.out 3).trans rfl;have EP : BF.cell? ⟨yu,4,none⟩ = some (.slice yO yE.length yP):=(ah yc.out 4).trans rfl;have ER : BF.cell? ⟨yu,5,none⟩ = some (.slice yQ xS.length yK):=(ah yc.out 5).trans rfl;have ES:=aj yc.out 0;have ET:=aj yc.out 1;have EU:=aj yc.out 2;have EW:=aj yc.out 3;have EZ:=aj yc.out 4;have E8:=aj yc.out 5;have Fa : BF.cell? ⟨xX,0,none⟩ = some (.int .i64 0):=(ah xY.out 0).trans rfl;have Fb : BF.cell? ⟨xX,1,none⟩ = some (.bool false):=(ah xY.out 1).trans rfl;have Fe : BF.cell? ⟨xX,2,none⟩ = some (.int .i64 0):=(ah xY.out 2).trans rfl;have Fg : BF.cell? ⟨xX,3,none⟩ = some (.string (⟨#[]⟩ : ByteArray)):=(ah xY.out 3).trans rfl;have Fh : BF.cell? ⟨xX,4,none⟩ = some (.slice none 0 0):=(ah xY.out 4).trans rfl;have Fj : BF.cell? ⟨xX,5,none⟩ = some (.slice none 0 0):=(ah xY.out 5).trans rfl;have Fp:=aj xY.out 0;have Fq:=aj xY.out 1;have Fu:=aj xY.out 2;have Fv:=aj xY.out 3;have Fw:=aj xY.out 4;have Fx:=aj xY.out 5))
  refine bodyPost_ret (iF rfl _ _ xX 29 #[.int .i64 0,.bool false,.int .i64 0,.string (⟨#[]⟩ : ByteArray),.slice none 0 0,.slice none 0 0] (0,0) _ rfl (by (with_reducible repeat (first|apply aA|apply aD|apply ay));refine aQ (cs:=#[.int .i64 0,.bool false,.int .i64 0,.string (⟨#[]⟩ : ByteArray),.slice none 0 0,.slice none 0 0]) ?_ 5 _ rfl;(with_reducible repeat (first|apply aA|apply aD|apply ay));refine aQ (cs:=#[.int .i64 0,.bool false,.int .i64 0,.string (⟨#[]⟩ : ByteArray),.slice none 0 0,.slice none 0 0]) ?_ 4 _ rfl;(with_reducible repeat (first|apply aA|apply aD|apply ay));refine aQ (cs:=#[.int .i64 0,.bool false,.int .i64 0,.string (⟨#[]⟩ : ByteArray),.slice none 0 0,.slice none 0 0]) ?_ 3 _ rfl;(with_reducible repeat (first|apply aA|apply aD|apply ay));refine aQ (cs:=#[.int .i64 0,.bool false,.int .i64 0,.string (⟨#[]⟩ : ByteArray),.slice none 0 0,.slice none 0 0]) ?_ 2 _ rfl;(with_reducible repeat (first|apply aA|apply aD|apply ay));refine aQ (cs:=#[.int .i64 0,.bool false,.int .i64 0,.string (⟨#[]⟩ : ByteArray),.slice none 0 0,.slice none 0 0]) ?_ 1 _ rfl;(with_reducible repeat (first|apply aA|apply aD|apply ay));refine aQ (cs:=#[.int .i64 0,.bool false,.int .i64 0,.string (⟨#[]⟩ : ByteArray),.slice none 0 0,.slice none 0 0]) ?_ 0 _ rfl;(with_reducible repeat (first|apply aA|apply aD|apply ay));exact xY.out) Tryd.underlying29 rfl (by kernel_rfl)) rfl ?_
  exact ⟨_,_,by first|rfl|(simp [aX,aY] <;> rfl)|(simp [*,aX,aY] <;> rfl),(Kd.eT _ _ _ _ _),(Kd.eT _ _ _ _ _),by repeat (first|(with_reducible first|exact HB.out|apply av|apply ak|apply au|refine aG ?_ yS.out|refine aG ?_ zH.out)|exact HB.out)⟩
def bT.l0 : Nat → ByteArray → Int → Int → Bool → Int → ByteArray → List (S33) → List (S50) → Option (Int × Bool × Int × ByteArray × (List (S33)) × (List (S50)) × Bool)
 | 0,_,_,_,_,_,_,_,_=>none
 | k + 1,x1,x6,Dj,Dk,Dl,Dm,Dn,za=>if x6 < (za.length : Int) then (if 0 ≤ x6 then (if ((aV za x6).f0).toList = x1.toList then (some ((aV za x6).f1.f0,(aV za x6).f1.f1,(aV za x6).f1.f2,(aV za x6).f1.f3,(aV za x6).f1.f4,(aV za x6).f1.f5,true)) else (bT.l0 k x1 (wrap64 (x6 + 1)) Dj Dk Dl Dm Dn za)) else (none)) else (some (0,false,0,(⟨#[]⟩ : ByteArray),([] : List (S33)),([] : List (S50)),false))
def bT.f (k : Nat) (yA : Int) (yH : Bool) (yI : Int) (yJ : ByteArray) (yE : List (S33)) (xS : List (S50)) (a1 : ByteArray) : Option (Int × Bool × Int × ByteArray × (List (S33)) × (List (S50)) × Bool):=if yA = 5 then (bT.l0 k a1 0 yA yH yI yJ yE xS) else (some (0,false,0,(⟨#[]⟩ : ByteArray),([] : List (S33)),([] : List (S50)),false))
theorem bT.eG : ∀ k,(∀ y0 y1 y2 y3 y4 y5 y6 y7,LeO (bT.l0 k y0 y1 y2 y3 y4 y5 y6 y7) (bT.l0 (k + 1) y0 y1 y2 y3 y4 y5 y6 y7))
 | 0=>fun _ _ _ _ _ _ _ _ r h=>by simp [bT.l0] at h
 | k + 1=>by
  have BI:=bT.eG k
  ·intro y0 y1 y2 y3 y4 y5 y6 y7
   unfold bT.l0
   repeat' first
   | (with_reducible exact BI _ _ _ _ _ _ _ _)
   | (with_reducible exact LeO.refl _)
   | (with_reducible exact LeO.none _)
   | (with_reducible refine LeO.ite ?_ ?_)
   | (with_reducible refine LeO.bind ?_ (fun _=>?_))
   | exact BI _ _ _ _ _ _ _ _
   | exact LeO.none _
   | refine LeO.ite ?_ ?_
   | refine LeO.bind ?_ (fun _=>?_)
theorem bT.mono : ∀ a0 a1 a2 a3 a4 a5 a6 k,LeO (bT.f k a0 a1 a2 a3 a4 a5 a6) (bT.f (k + 1) a0 a1 a2 a3 a4 a5 a6):=by
 intro a0 a1 a2 a3 a4 a5 a6 k
 have BI:=bT.eG k
 unfold bT.f
 repeat' first
   | (with_reducible exact BI _ _ _ _ _ _ _ _)
   | (with_reducible exact LeO.refl _)
   | (with_reducible exact LeO.none _)
   | (with_reducible refine LeO.ite ?_ ?_)
   | (with_reducible refine LeO.bind ?_ (fun _=>?_))
   | exact BI _ _ _ _ _ _ _ _
   | exact LeO.none _
   | refine LeO.ite ?_ ?_
   | refine LeO.bind ?_ (fun _=>?_)
set_option maxHeartbeats 8000000 in
set_option maxRecDepth 100000 in
theorem bT.calls (k : Nat) (yA : Int) (yH : Bool) (yI : Int) (yJ : ByteArray) (yO : Option Addr) (yP : Nat) (yE : List (S33)) (zG : Nat → Prop) (yQ : Option Addr) (yK : Nat) (xS : List (S50)) (a1 : ByteArray) (r1 : Int) (r2 : Bool) (r3 : Int) (r4 : ByteArray) (r5 : List (S33)) (r6 : List (S50)) (r7 : Bool) (w : World) (AO : Kd.C k33 w yO yE.length yE) (AP : yE.length ≤ yP) (BJ : Kd.V k50 50 w w.heap.size (fun k_=>zG k_) (.slice yQ xS.length yK) xS) (h : bT.f k yA yH yI yJ yE xS a1 = some (r1,r2,r3,r4,r5,r6,r7)) :
  Calls Tryd.prog 12 #[.agg #[.int .i64 yA,.bool yH,.int .i64 yI,.string yJ,.slice yO yE.length yP,.slice yQ xS.length yK],.string a1] w fun e w'=>∃ D6 D7 : Value,e = .returned (.tuple #[.agg #[.int .i64 r1,.bool r2,.int .i64 r3,.string r4,D6,D7],.bool r7]) ∧ Kd.V k33 33 w' w.heap.size (fun k_=>(zG k_ ∨ w.heap.size ≤ k_)) D6 r5 ∧ Kd.V k50 50 w' w.heap.size (fun k_=>(zG k_ ∨ w.heap.size ≤ k_)) D7 r6 ∧ Below w.heap.size w w':=by
 have Ie:=Tryd.underlying33
 have D8:=Aside0.mk AO
 have D9:=Aside0.mk AP
 clear AO AP
 have yG:=Aside0.mk (show Kd.V k50 50 w w.heap.size (fun k_=>(zG k_ ∨ w.heap.size ≤ k_)) (.slice yQ xS.length yK) xS from Kd.bI BJ (fun k_ hk=>.inl hk))
 have HB:=Aside0.mk (Below.refl w.heap.size w)
 have H : (if yA = 5 then (bT.l0 k a1 0 yA yH yI yJ yE xS) else (some (0,false,0,(⟨#[]⟩ : ByteArray),([] : List (S33)),([] : List (S50)),false))) = some (r1,r2,r3,r4,r5,r6,r7):=h
 clear h
 by_cases c3 : yA = 5
 ·rw [if_pos c3] at H
  have c3b0 : (yA == 5) = true:=beq_iff_eq.mpr c3
  have c3b1 : (yA != 5) = false:=bne_eq_false_iff_eq.mpr c3
  clear c3
  have H':=Aside0.mk H
  clear H
  go_enter Tryd.func12,Tryd.ntmps12
  go_wp2_with (first|((with_reducible refine bH (N:=2) rfl ?_);refine bF ?hg (N:=2) ?hd (cs:=#[.int .i64 yA,.bool yH,.int .i64 yI,.string yJ,.slice yO yE.length yP,.slice yQ xS.length yK]) (t:=33) ?hr ?_;(case hd=>rfl);(case hg=>rfl);(case hr=>first|(go_simp;done)|(go_simp;rfl));intro xZ hg w4 hbox hb;have zN:=Aside0.mk (Kd.bB (Kd.dw (by (with_reducible repeat (first|apply Kd.bC|apply Kd.bD|apply Kd.bL));exact yG.out) xZ (Nat.le_of_eq hg.symm)) hb);have zO:=Aside0.mk (aK (by repeat (first|(with_reducible first|exact HB.out|apply av|apply ak|apply au)|exact HB.out)) hb);have zP:=Aside0.mk (hbox);have zQ:=Aside0.mk ((by rw [hg];exact (aM (by repeat (first|(with_reducible first|exact HB.out|apply av|apply ak|apply au)|exact HB.out))) : w.heap.size ≤ xZ));have zR:=Aside0.mk ((by rw [hg];exact (aM (by repeat (first|(with_reducible first|exact HB.out|apply av|apply ak|apply au)|exact HB.out))) : w.heap.size ≤ xZ));clear yG;clear HB;have yG:=zN;have HB:=zO;have xV:=zP;have En:=zQ;have zI:=zR;clear zN zO zP zQ zR;clear hb hbox hg)|((with_reducible refine bH (N:=4) rfl ?_);refine bF ?hg (N:=4) ?hd (cs:=#[.int .i64 0,.bool false,.int .i64 0,.string (⟨#[]⟩ : ByteArray),.slice none 0 0,.slice none 0 0]) (t:=33) ?hr ?_;(case hd=>rfl);(case hg=>rfl);(case hr=>first|(go_simp;done)|(go_simp;rfl));intro yg hg w5 hbox hb;have zN:=Aside0.mk (Kd.bB (Kd.dw (by (with_reducible repeat (first|apply Kd.bC|apply Kd.bD|apply Kd.bL));exact yG.out) yg (Nat.le_of_eq hg.symm)) hb);have zO:=Aside0.mk (aI (g:=xZ) (o:=.cells #[.int .i64 yA,.bool yH,.int .i64 yI,.string yJ,.slice yO yE.length yP,.slice yQ xS.length yK] 33 (0,0)) (bk_ xV.out) hb);have zP:=Aside0.mk (aK (by repeat (first|(with_reducible first|exact HB.out|apply av|apply ak|apply au|refine aG ?_ zI.out)|exact HB.out)) hb);have zQ:=Aside0.mk (hbox);have zR:=Aside0.mk ((by rw [hg];exact (aM (by repeat (first|(with_reducible first|exact HB.out|apply av|apply ak|apply au|refine aG ?_ zI.out)|exact HB.out))) : w.heap.size ≤ yg));have AQ:=Aside0.mk ((by rw [hg];exact (aM (by repeat (first|(with_reducible first|exact HB.out|apply av|apply ak|apply au|refine aG ?_ zI.out)|exact HB.out))) : w.heap.size ≤ yg));have AU:=Aside0.mk ((by rw [hg];exact Nat.ne_of_lt (bO (g:=xZ) (o:=.cells #[.int .i64 yA,.bool yH,.int .i64 yI,.string yJ,.slice yO yE.length yP,.slice yQ xS.length yK] 33 (0,0)) (bk_ xV.out)) : xZ ≠ yg));have AV:=Aside0.mk ((by rw [hg];exact Nat.ne_of_gt (bO (g:=xZ) (o:=.cells #[.int .i64 yA,.bool yH,.int .i64 yI,.string yJ,.slice yO yE.length yP,.slice yQ xS.length yK] 33 (0,0)) (bk_ xV.out)) : yg ≠ xZ));clear yG;clear xV;clear HB;have yG:=zN;have xV:=zO;have HB:=zP;have yj:=zQ;have Eo:=zR;have Ak:=AQ;have zh:=AU;have zi:=AV;clear zN zO zP zQ zR AQ AU AV;clear hb hbox hg;have GY:=zh.out;have GZ:=zi.out;have AX : w5.cell? ⟨xZ,0,none⟩ = some (.int .i64 yA):=(ah xV.out 0).trans rfl;have AY : w5.cell? ⟨xZ,1,none⟩ = some (.bool yH):=(ah xV.out 1).trans rfl;have AZ : w5.cell? ⟨xZ,2,none⟩ = some (.int .i64 yI):=(ah xV.out 2).trans rfl;have Ba : w5.cell? ⟨xZ,3,none⟩ = some (.string yJ):=(ah xV.out 3).trans rfl;have Bb : w5.cell? ⟨xZ,4,none⟩ = some (.slice yO yE.length yP):=(ah xV.out 4).trans rfl;have Bc : w5.cell? ⟨xZ,5,none⟩ = some (.slice yQ xS.length yK):=(ah xV.out 5).trans rfl;have Bd:=aj xV.out 0;have Bf:=aj xV.out 1;have Bg:=aj xV.out 2;have Bh:=aj xV.out 3;have Bj:=aj xV.out 4;have Bl:=aj xV.out 5))
  go_loopg [6] k (fun kq v6 w'=>∃ (yt : Int) (yU : Int) (yR : Bool) (yL : Int) (yD : ByteArray),v6 = .int .i64 yt ∧ Aside0 (bT.l0 kq a1 yt yA yH yI yJ yE xS = some (r1,r2,r3,r4,r5,r6,r7)) ∧ Aside0 (kq ≤ k) ∧ Aside0 (Kd.V k50 50 w' w.heap.size (fun k_=>(zG k_ ∨ w.heap.size ≤ k_) ∧ k_ ≠ xZ ∧ k_ ≠ yg) (.slice yQ xS.length yK) xS) ∧ Aside0 (w'.heap[xZ]? = some (.cells #[.int .i64 yA,.bool yH,.int .i64 yI,.string yJ,(.slice yO yE.length yP),(.slice yQ xS.length yK)] 33 (0,0))) ∧ Aside0 (w'.heap[yg]? = some (.cells #[.int .i64 yU,.bool yR,.int .i64 yL,.string yD,(.slice none 0 0),(.slice none 0 0)] 33 (0,0))) ∧ Aside0 (Below w.heap.size w w'))
  case atStart=>exact ⟨(0),(0),(false),(0),((⟨#[]⟩ : ByteArray)),(by first|rfl|(simp;done)|(simp [*];done)),H',⟨Nat.le_refl _⟩,⟨by (with_reducible repeat (first|apply Kd.bC|apply Kd.bD|apply Kd.bL));exact Kd.bI yG.out (fun _ hk=>⟨hk.1.1,⟨hk.1.2,hk.2⟩⟩)⟩,⟨by (with_reducible repeat (first|apply aA|apply aD|apply ay));exact xV.out⟩,⟨by (with_reducible repeat (first|apply aA|apply aD|apply ay));exact yj.out⟩,⟨by repeat (first|(with_reducible first|exact HB.out|apply av|apply ak|apply au|refine aG ?_ zI.out|refine aG ?_ Ak.out)|exact HB.out)⟩⟩
  case round =>
   clear H'
   try clear c1
   try clear p2
   try clear c3
   try clear c3b0
   try clear c3b1
   try clear c6
   try clear AX
   try clear AY
   try clear AZ
   try clear Ba
   try clear Bb
   try clear Bc
   try clear Bd
   try clear Bf
   try clear Bg
   try clear Bh
   try clear Bj
   try clear Bl
   obtain ⟨yt,yU,yR,yL,yD,rfl,HA,Ec,yN,xV,yj,HB⟩:=hrel
   cases gk with
   | zero=>exact absurd HA.out (by simp [bT.l0])
   | succ k1 =>
    have H:=HA.out
    clear HA
    simp only [bT.l0] at H
    by_cases c8 : yt < (xS.length : Int)
    ·rw [if_pos c8] at H
     have c8b0 : decide (yt < (xS.length : Int)) = true:=decide_eq_true c8
     clear c8
     by_cases c9 : 0 ≤ yt
     ·rw [if_pos c9] at H
      have c9b0 : decide (0 ≤ yt) = true:=decide_eq_true c9
      clear c9
      by_cases c10 : ((aV xS yt).f0).toList = a1.toList
      ·rw [if_pos c10] at H
       have c10b0 : (((aV xS yt).f0).toList == a1.toList) = true:=beq_iff_eq.mpr c10
       have c10b1 : (((aV xS yt).f0).toList != a1.toList) = false:=bne_eq_false_iff_eq.mpr c10
       clear c10
       simp only [Option.some.injEq,Prod.mk.injEq] at H
       obtain ⟨rfl,rfl,rfl,rfl,rfl,rfl,rfl⟩:=H
       have Hz:=zh.out
       have H6:=zi.out
       have Fy : wr.cell? ⟨xZ,0,none⟩ = some (.int .i64 yA):=(ah xV.out 0).trans rfl
       have Fz : wr.cell? ⟨xZ,1,none⟩ = some (.bool yH):=(ah xV.out 1).trans rfl
       have FB : wr.cell? ⟨xZ,2,none⟩ = some (.int .i64 yI):=(ah xV.out 2).trans rfl
       have FC : wr.cell? ⟨xZ,3,none⟩ = some (.string yJ):=(ah xV.out 3).trans rfl
       have FD : wr.cell? ⟨xZ,4,none⟩ = some (.slice yO yE.length yP):=(ah xV.out 4).trans rfl
       have FE : wr.cell? ⟨xZ,5,none⟩ = some (.slice yQ xS.length yK):=(ah xV.out 5).trans rfl
       have FH:=aj xV.out 0
       have FI:=aj xV.out 1
       have FJ:=aj xV.out 2
       have FL:=aj xV.out 3
       have FM:=aj xV.out 4
       have FN:=aj xV.out 5
       have Aq : 0 ≤ (yt : Int):=of_decide_eq_true (by first|(with_reducible assumption)|assumption)
       have Ar : yt < (xS.length : Int):=of_decide_eq_true (by first|(with_reducible assumption)|assumption)
       obtain ⟨DU,Ai,Aj,Au,Av,DX,Dp,Dq,Dr,Dt,Du,Ad,Ae,zW,zX,zY,zZ⟩:=iG (Kd.bM yN.out).2.2 yt Aq Ar
       cases DX
       obtain ⟨Ep,Bp,Bq,zM⟩:=Kd.jO yN.out z50 yt Aq (by first|exact Ar|exact of_decide_eq_true (by first|(with_reducible assumption)|assumption)|(have e_:=(Kd.bM yN.out).1;omega))
       obtain ⟨Dv,Dw,Dx,Dy,rfl,zB,zC,zD,zF⟩:=lG Bq
       have ze:=zM 5 _ rfl
       rw [bN _ _ 5 (by omega)] at ze
       replace ze:=Option.some.inj (ze.symm.trans Ad)
       injection ze with hva_ hvn_ hvc_
       rw [hva_] at zC
       rw [hvc_] at zB
       have Dz:=Aside0.mk (show Kd.V k33 33 _ w.heap.size _ _ ((aV xS yt).f1.f4) from Kd.jc zB zC)
       clear hva_ hvn_ hvc_ zC zB
       have zf:=zM 6 _ rfl
       rw [bN _ _ 6 (by omega)] at zf
       replace zf:=Option.some.inj (zf.symm.trans Ae)
       injection zf with hva_ hvn_ hvc_
       rw [hva_] at zF
       rw [hvc_] at zD
       have DC:=Aside0.mk (show Kd.V k50 50 _ w.heap.size _ _ ((aV xS yt).f1.f5) from Kd.jc zD zF)
       clear hva_ hvn_ hvc_ zF zD
       clear zM Bp
       have DF:=Aside0.mk zX
       have DI:=Aside0.mk zW
       clear zX zW
       have DJ:=Aside0.mk zZ
       have DK:=Aside0.mk zY
       clear zZ zY
       replace Aq:=eq_true Aq
       replace Ar:=eq_true Ar
       have DL : 0 ≤ (yt : Int):=of_decide_eq_true (by first|(with_reducible assumption)|assumption)
       have DN : yt < (xS.length : Int):=of_decide_eq_true (by first|(with_reducible assumption)|assumption)
       obtain ⟨Er,G5,G6,G7,G8,G9,FP,FQ,FR,FU,FV,Bt,Bu,Bv,Bw,Bz,BA⟩:=iG (Kd.bM yN.out).2.2 yt DL DN
       obtain rfl : DU = Er:=(by injection G9)
       obtain ⟨H7,DY,DZ,Br⟩:=Kd.jO yN.out z50 yt DL (by first|exact DN|exact of_decide_eq_true (by first|(with_reducible assumption)|assumption)|(have e_:=(Kd.bM yN.out).1;omega))
       obtain ⟨FW,FX,FY,FZ,rfl,AA,AB,AJ,AL⟩:=lG DZ
       have Af:=Br 5 _ rfl
       rw [bN _ _ 5 (by omega)] at Af
       replace Af:=Option.some.inj (Af.symm.trans Bt)
       injection Af with hva_ hvn_ hvc_
       rw [hva_] at AB
       rw [hvc_] at AA
       have DR:=Aside0.mk (show Kd.V k33 33 _ w.heap.size _ _ ((aV xS yt).f1.f4) from Kd.jc AA AB)
       clear hva_ hvn_ hvc_ AB AA
       have Ag:=Br 6 _ rfl
       rw [bN _ _ 6 (by omega)] at Ag
       replace Ag:=Option.some.inj (Ag.symm.trans Bu)
       injection Ag with hva_ hvn_ hvc_
       rw [hva_] at AL
       rw [hvc_] at AJ
       have DT:=Aside0.mk (show Kd.V k50 50 _ w.heap.size _ _ ((aV xS yt).f1.f5) from Kd.jc AJ AL)
       clear hva_ hvn_ hvc_ AL AJ
       clear Br DY
       have F3:=Aside0.mk Bw
       have F6:=Aside0.mk Bv
       clear Bw Bv
       have F7:=Aside0.mk BA
       have F8:=Aside0.mk Bz
       clear BA Bz
       replace DL:=eq_true DL
       replace DN:=eq_true DN
       have ea_:=Option.some.inj (Ad.symm.trans Bt)
       injection ea_ with ea_ en_ ec_
       subst ea_
       subst ec_
       clear en_
       have ea_:=Option.some.inj (Ae.symm.trans Bu)
       injection ea_ with ea_ en_ ec_
       subst ea_
       subst ec_
       clear en_
       have F9 : wr.cell? ⟨yg,0,none⟩ = some (.int .i64 yU):=(ah yj.out 0).trans rfl
       have Ga : wr.cell? ⟨yg,1,none⟩ = some (.bool yR):=(ah yj.out 1).trans rfl
       have Gb : wr.cell? ⟨yg,2,none⟩ = some (.int .i64 yL):=(ah yj.out 2).trans rfl
       have Gc : wr.cell? ⟨yg,3,none⟩ = some (.string yD):=(ah yj.out 3).trans rfl
       have Gd : wr.cell? ⟨yg,4,none⟩ = some (.slice none 0 0):=(ah yj.out 4).trans rfl
       have Gf : wr.cell? ⟨yg,5,none⟩ = some (.slice none 0 0):=(ah yj.out 5).trans rfl
       have Gg:=aj yj.out 0
       have Gh:=aj yj.out 1
       have Gi:=aj yj.out 2
       have Gj:=aj yj.out 3
       have Gl:=aj yj.out 4
       have Gm:=aj yj.out 5
       go_wp2
       refine bodyPost_ret (iF rfl _ _ yg 33 #[.int .i64 ((aV xS yt).f1.f0),.bool ((aV xS yt).f1.f1),.int .i64 ((aV xS yt).f1.f2),.string ((aV xS yt).f1.f3),.slice Ai ((aV xS yt).f1.f4).length Aj,.slice Au ((aV xS yt).f1.f5).length Av] (0,0) _ rfl (by (with_reducible repeat (first|apply aA|apply aD|apply ay));refine aQ (cs:=#[.int .i64 ((aV xS yt).f1.f0),.bool ((aV xS yt).f1.f1),.int .i64 ((aV xS yt).f1.f2),.string ((aV xS yt).f1.f3),.slice Ai ((aV xS yt).f1.f4).length Aj,.slice none 0 0]) ?_ 5 _ rfl;(with_reducible repeat (first|apply aA|apply aD|apply ay));refine aQ (cs:=#[.int .i64 ((aV xS yt).f1.f0),.bool ((aV xS yt).f1.f1),.int .i64 ((aV xS yt).f1.f2),.string ((aV xS yt).f1.f3),.slice none 0 0,.slice none 0 0]) ?_ 4 _ rfl;(with_reducible repeat (first|apply aA|apply aD|apply ay));refine aQ (cs:=#[.int .i64 ((aV xS yt).f1.f0),.bool ((aV xS yt).f1.f1),.int .i64 ((aV xS yt).f1.f2),.string yD,.slice none 0 0,.slice none 0 0]) ?_ 3 _ rfl;(with_reducible repeat (first|apply aA|apply aD|apply ay));refine aQ (cs:=#[.int .i64 ((aV xS yt).f1.f0),.bool ((aV xS yt).f1.f1),.int .i64 yL,.string yD,.slice none 0 0,.slice none 0 0]) ?_ 2 _ rfl;(with_reducible repeat (first|apply aA|apply aD|apply ay));refine aQ (cs:=#[.int .i64 ((aV xS yt).f1.f0),.bool yR,.int .i64 yL,.string yD,.slice none 0 0,.slice none 0 0]) ?_ 1 _ rfl;(with_reducible repeat (first|apply aA|apply aD|apply ay));refine aQ (cs:=#[.int .i64 yU,.bool yR,.int .i64 yL,.string yD,.slice none 0 0,.slice none 0 0]) ?_ 0 _ rfl;(with_reducible repeat (first|apply aA|apply aD|apply ay));exact yj.out) Tryd.underlying33 rfl (by kernel_rfl)) rfl ?_
       exact ⟨_,_,by first|rfl|(simp [aX,aY] <;> rfl)|(simp [*,aX,aY] <;> rfl),by (with_reducible repeat (first|apply Kd.bC|apply Kd.bD|apply Kd.bL));exact Kd.bI (Kd.bn (p:=⟨yg,5,none⟩) (Kd.bn (p:=⟨yg,4,none⟩) (Kd.bn (p:=⟨yg,3,none⟩) (Kd.bn (p:=⟨yg,2,none⟩) (Kd.bn (p:=⟨yg,1,none⟩) (Kd.bn (p:=⟨yg,0,none⟩) (Kd.bI DR.out (fun k_ hk=>(⟨hk,hk.2.2⟩ : _ ∧ k_ ≠ yg))) (fun _ hk=>hk.2) (.int .i64 ((aV xS yt).f1.f0))) (fun _ hk=>hk.2) (.bool ((aV xS yt).f1.f1))) (fun _ hk=>hk.2) (.int .i64 ((aV xS yt).f1.f2))) (fun _ hk=>hk.2) (.string ((aV xS yt).f1.f3))) (fun _ hk=>hk.2) (.slice Ai ((aV xS yt).f1.f4).length Aj)) (fun _ hk=>hk.2) (.slice Au ((aV xS yt).f1.f5).length Av)) (fun _ hk=>hk.1.1),by (with_reducible repeat (first|apply Kd.bC|apply Kd.bD|apply Kd.bL));exact Kd.bI (Kd.bn (p:=⟨yg,5,none⟩) (Kd.bn (p:=⟨yg,4,none⟩) (Kd.bn (p:=⟨yg,3,none⟩) (Kd.bn (p:=⟨yg,2,none⟩) (Kd.bn (p:=⟨yg,1,none⟩) (Kd.bn (p:=⟨yg,0,none⟩) (Kd.bI DT.out (fun k_ hk=>(⟨hk,hk.2.2⟩ : _ ∧ k_ ≠ yg))) (fun _ hk=>hk.2) (.int .i64 ((aV xS yt).f1.f0))) (fun _ hk=>hk.2) (.bool ((aV xS yt).f1.f1))) (fun _ hk=>hk.2) (.int .i64 ((aV xS yt).f1.f2))) (fun _ hk=>hk.2) (.string ((aV xS yt).f1.f3))) (fun _ hk=>hk.2) (.slice Ai ((aV xS yt).f1.f4).length Aj)) (fun _ hk=>hk.2) (.slice Au ((aV xS yt).f1.f5).length Av)) (fun _ hk=>hk.1.1),by repeat (first|(with_reducible first|exact HB.out|apply av|apply ak|apply au|refine aG ?_ zI.out|refine aG ?_ Ak.out)|exact HB.out)⟩
      ·rw [if_neg c10] at H
       have c10b0 : (((aV xS yt).f0).toList == a1.toList) = false:=beq_eq_false_iff_ne.mpr c10
       have c10b1 : (((aV xS yt).f0).toList != a1.toList) = true:=bne_iff_ne.mpr c10
       have H':=Aside0.mk H
       clear H
       have Ei:=zh.out
       have Ej:=zi.out
       have Ck : wr.cell? ⟨xZ,0,none⟩ = some (.int .i64 yA):=(ah xV.out 0).trans rfl
       have Cm : wr.cell? ⟨xZ,1,none⟩ = some (.bool yH):=(ah xV.out 1).trans rfl
       have Cn : wr.cell? ⟨xZ,2,none⟩ = some (.int .i64 yI):=(ah xV.out 2).trans rfl
       have Co : wr.cell? ⟨xZ,3,none⟩ = some (.string yJ):=(ah xV.out 3).trans rfl
       have Cq : wr.cell? ⟨xZ,4,none⟩ = some (.slice yO yE.length yP):=(ah xV.out 4).trans rfl
       have Cr : wr.cell? ⟨xZ,5,none⟩ = some (.slice yQ xS.length yK):=(ah xV.out 5).trans rfl
       have Ct:=aj xV.out 0
       have Cu:=aj xV.out 1
       have Cv:=aj xV.out 2
       have Cw:=aj xV.out 3
       have Cx:=aj xV.out 4
       have Cy:=aj xV.out 5
       have Aq : 0 ≤ (yt : Int):=of_decide_eq_true (by first|(with_reducible assumption)|assumption)
       have Ar : yt < (xS.length : Int):=of_decide_eq_true (by first|(with_reducible assumption)|assumption)
       obtain ⟨DU,Ai,Aj,Au,Av,DX,Dp,Dq,Dr,Dt,Du,Ad,Ae,zW,zX,zY,zZ⟩:=iG (Kd.bM yN.out).2.2 yt Aq Ar
       cases DX
       obtain ⟨Ep,Bp,Bq,zM⟩:=Kd.jO yN.out z50 yt Aq (by first|exact Ar|exact of_decide_eq_true (by first|(with_reducible assumption)|assumption)|(have e_:=(Kd.bM yN.out).1;omega))
       obtain ⟨Dv,Dw,Dx,Dy,rfl,zB,zC,zD,zF⟩:=lG Bq
       have ze:=zM 5 _ rfl
       rw [bN _ _ 5 (by omega)] at ze
       replace ze:=Option.some.inj (ze.symm.trans Ad)
       injection ze with hva_ hvn_ hvc_
       rw [hva_] at zC
       rw [hvc_] at zB
       have Dz:=Aside0.mk (show Kd.V k33 33 _ w.heap.size _ _ ((aV xS yt).f1.f4) from Kd.jc zB zC)
       clear hva_ hvn_ hvc_ zC zB
       have zf:=zM 6 _ rfl
       rw [bN _ _ 6 (by omega)] at zf
       replace zf:=Option.some.inj (zf.symm.trans Ae)
       injection zf with hva_ hvn_ hvc_
       rw [hva_] at zF
       rw [hvc_] at zD
       have DC:=Aside0.mk (show Kd.V k50 50 _ w.heap.size _ _ ((aV xS yt).f1.f5) from Kd.jc zD zF)
       clear hva_ hvn_ hvc_ zF zD
       clear zM Bp
       have DF:=Aside0.mk zX
       have DI:=Aside0.mk zW
       clear zX zW
       have DJ:=Aside0.mk zZ
       have DK:=Aside0.mk zY
       clear zZ zY
       replace Aq:=eq_true Aq
       replace Ar:=eq_true Ar
       go_wp2
       go_roundg k1
       case measure=>have:=Ec.out;omega
       case rel=>exact ⟨(wrap64 (yt + 1)),(yU),(yR),(yL),(yD),(by first|rfl|(simp;done)|(simp [*];done)),H',⟨by have:=Ec.out;omega⟩,⟨by (with_reducible repeat (first|apply Kd.bC|apply Kd.bD|apply Kd.bL));exact yN.out⟩,⟨by (with_reducible repeat (first|apply aA|apply aD|apply ay));exact xV.out⟩,⟨by (with_reducible repeat (first|apply aA|apply aD|apply ay));exact yj.out⟩,⟨by repeat (first|(with_reducible first|exact HB.out|apply av|apply ak|apply au|refine aG ?_ zI.out|refine aG ?_ Ak.out)|exact HB.out)⟩⟩
     ·rw [if_neg c9] at H
      exact absurd H (by simp)
    ·rw [if_neg c8] at H
     have c8b0 : decide (yt < (xS.length : Int)) = false:=decide_eq_false c8
     clear c8
     simp only [Option.some.injEq,Prod.mk.injEq] at H
     obtain ⟨rfl,rfl,rfl,rfl,rfl,rfl,rfl⟩:=H
     have El:=zh.out
     have Em:=zi.out
     have Cz : wr.cell? ⟨xZ,0,none⟩ = some (.int .i64 yA):=(ah xV.out 0).trans rfl
     have CB : wr.cell? ⟨xZ,1,none⟩ = some (.bool yH):=(ah xV.out 1).trans rfl
     have CF : wr.cell? ⟨xZ,2,none⟩ = some (.int .i64 yI):=(ah xV.out 2).trans rfl
     have CG : wr.cell? ⟨xZ,3,none⟩ = some (.string yJ):=(ah xV.out 3).trans rfl
     have CJ : wr.cell? ⟨xZ,4,none⟩ = some (.slice yO yE.length yP):=(ah xV.out 4).trans rfl
     have CK : wr.cell? ⟨xZ,5,none⟩ = some (.slice yQ xS.length yK):=(ah xV.out 5).trans rfl
     have CO:=aj xV.out 0
     have CP:=aj xV.out 1
     have CQ:=aj xV.out 2
     have CS:=aj xV.out 3
     have CU:=aj xV.out 4
     have CV:=aj xV.out 5
     have Gn : wr.cell? ⟨yg,0,none⟩ = some (.int .i64 yU):=(ah yj.out 0).trans rfl
     have Gp : wr.cell? ⟨yg,1,none⟩ = some (.bool yR):=(ah yj.out 1).trans rfl
     have Gq : wr.cell? ⟨yg,2,none⟩ = some (.int .i64 yL):=(ah yj.out 2).trans rfl
     have Gr : wr.cell? ⟨yg,3,none⟩ = some (.string yD):=(ah yj.out 3).trans rfl
     have Gs : wr.cell? ⟨yg,4,none⟩ = some (.slice none 0 0):=(ah yj.out 4).trans rfl
     have Gt : wr.cell? ⟨yg,5,none⟩ = some (.slice none 0 0):=(ah yj.out 5).trans rfl
     have Gu:=aj yj.out 0
     have Gv:=aj yj.out 1
     have Gw:=aj yj.out 2
     have Gx:=aj yj.out 3
     have Gy:=aj yj.out 4
     have Gz:=aj yj.out 5
     go_wp2
     refine bodyPost_ret (iF rfl _ _ yg 33 #[.int .i64 0,.bool false,.int .i64 0,.string (⟨#[]⟩ : ByteArray),.slice none 0 0,.slice none 0 0] (0,0) _ rfl (by (with_reducible repeat (first|apply aA|apply aD|apply ay));refine aQ (cs:=#[.int .i64 0,.bool false,.int .i64 0,.string (⟨#[]⟩ : ByteArray),.slice none 0 0,.slice none 0 0]) ?_ 5 _ rfl;(with_reducible repeat (first|apply aA|apply aD|apply ay));refine aQ (cs:=#[.int .i64 0,.bool false,.int .i64 0,.string (⟨#[]⟩ : ByteArray),.slice none 0 0,.slice none 0 0]) ?_ 4 _ rfl;(with_reducible repeat (first|apply aA|apply aD|apply ay));refine aQ (cs:=#[.int .i64 0,.bool false,.int .i64 0,.string yD,.slice none 0 0,.slice none 0 0]) ?_ 3 _ rfl;(with_reducible repeat (first|apply aA|apply aD|apply ay));refine aQ (cs:=#[.int .i64 0,.bool false,.int .i64 yL,.string yD,.slice none 0 0,.slice none 0 0]) ?_ 2 _ rfl;(with_reducible repeat (first|apply aA|apply aD|apply ay));refine aQ (cs:=#[.int .i64 0,.bool yR,.int .i64 yL,.string yD,.slice none 0 0,.slice none 0 0]) ?_ 1 _ rfl;(with_reducible repeat (first|apply aA|apply aD|apply ay));refine aQ (cs:=#[.int .i64 yU,.bool yR,.int .i64 yL,.string yD,.slice none 0 0,.slice none 0 0]) ?_ 0 _ rfl;(with_reducible repeat (first|apply aA|apply aD|apply ay));exact yj.out) Tryd.underlying33 rfl (by kernel_rfl)) rfl ?_
     exact ⟨_,_,by first|rfl|(simp [aX,aY] <;> rfl)|(simp [*,aX,aY] <;> rfl),(Kd.eT _ _ _ _ _),(Kd.eT _ _ _ _ _),by repeat (first|(with_reducible first|exact HB.out|apply av|apply ak|apply au|refine aG ?_ zI.out|refine aG ?_ Ak.out)|exact HB.out)⟩
 ·rw [if_neg c3] at H
  have c3b0 : (yA == 5) = false:=beq_eq_false_iff_ne.mpr c3
  have c3b1 : (yA != 5) = true:=bne_iff_ne.mpr c3
  simp only [Option.some.injEq,Prod.mk.injEq] at H
  obtain ⟨rfl,rfl,rfl,rfl,rfl,rfl,rfl⟩:=H
  go_enter Tryd.func12,Tryd.ntmps12
  go_wp2_with (first|((with_reducible refine bH (N:=2) rfl ?_);refine bF ?hg (N:=2) ?hd (cs:=#[.int .i64 yA,.bool yH,.int .i64 yI,.string yJ,.slice yO yE.length yP,.slice yQ xS.length yK]) (t:=33) ?hr ?_;(case hd=>rfl);(case hg=>rfl);(case hr=>first|(go_simp;done)|(go_simp;rfl));intro xZ hg Ih hbox hb;have zN:=Aside0.mk (Kd.bB (Kd.dw (by (with_reducible repeat (first|apply Kd.bC|apply Kd.bD|apply Kd.bL));exact yG.out) xZ (Nat.le_of_eq hg.symm)) hb);have zO:=Aside0.mk (aK (by repeat (first|(with_reducible first|exact HB.out|apply av|apply ak|apply au)|exact HB.out)) hb);have zP:=Aside0.mk (hbox);have zQ:=Aside0.mk ((by rw [hg];exact (aM (by repeat (first|(with_reducible first|exact HB.out|apply av|apply ak|apply au)|exact HB.out))) : w.heap.size ≤ xZ));have zR:=Aside0.mk ((by rw [hg];exact (aM (by repeat (first|(with_reducible first|exact HB.out|apply av|apply ak|apply au)|exact HB.out))) : w.heap.size ≤ xZ));clear yG;clear HB;have yG:=zN;have HB:=zO;have xV:=zP;have En:=zQ;have zI:=zR;clear zN zO zP zQ zR;clear hb hbox hg)|((with_reducible refine bH (N:=4) rfl ?_);refine bF ?hg (N:=4) ?hd (cs:=#[.int .i64 0,.bool false,.int .i64 0,.string (⟨#[]⟩ : ByteArray),.slice none 0 0,.slice none 0 0]) (t:=33) ?hr ?_;(case hd=>rfl);(case hg=>rfl);(case hr=>first|(go_simp;done)|(go_simp;rfl));intro yg hg BG hbox hb;have zN:=Aside0.mk (Kd.bB (Kd.dw (by (with_reducible repeat (first|apply Kd.bC|apply Kd.bD|apply Kd.bL));exact yG.out) yg (Nat.le_of_eq hg.symm)) hb);have zO:=Aside0.mk (aI (g:=xZ) (o:=.cells #[.int .i64 yA,.bool yH,.int .i64 yI,.string yJ,.slice yO yE.length yP,.slice yQ xS.length yK] 33 (0,0)) (bk_ xV.out) hb);have zP:=Aside0.mk (aK (by repeat (first|(with_reducible first|exact HB.out|apply av|apply ak|apply au|refine aG ?_ zI.out)|exact HB.out)) hb);have zQ:=Aside0.mk (hbox);have zR:=Aside0.mk ((by rw [hg];exact (aM (by repeat (first|(with_reducible first|exact HB.out|apply av|apply ak|apply au|refine aG ?_ zI.out)|exact HB.out))) : w.heap.size ≤ yg));have AQ:=Aside0.mk ((by rw [hg];exact (aM (by repeat (first|(with_reducible first|exact HB.out|apply av|apply ak|apply au|refine aG ?_ zI.out)|exact HB.out))) : w.heap.size ≤ yg));have AU:=Aside0.mk ((by rw [hg];exact Nat.ne_of_lt (bO (g:=xZ) (o:=.cells #[.int .i64 yA,.bool yH,.int .i64 yI,.string yJ,.slice yO yE.length yP,.slice yQ xS.length yK] 33 (0,0)) (bk_ xV.out)) : xZ ≠ yg));have AV:=Aside0.mk ((by rw [hg];exact Nat.ne_of_gt (bO (g:=xZ) (o:=.cells #[.int .i64 yA,.bool yH,.int .i64 yI,.string yJ,.slice yO yE.length yP,.slice yQ xS.length yK] 33 (0,0)) (bk_ xV.out)) : yg ≠ xZ));clear yG;clear xV;clear HB;have yG:=zN;have xV:=zO;have HB:=zP;have yj:=zQ;have Eo:=zR;have Ak:=AQ;have zh:=AU;have zi:=AV;clear zN zO zP zQ zR AQ AU AV;clear hb hbox hg;have H8:=zh.out;have Ia:=zi.out;have GA : BG.cell? ⟨xZ,0,none⟩ = some (.int .i64 yA):=(ah xV.out 0).trans rfl;have GD : BG.cell? ⟨xZ,1,none⟩ = some (.bool yH):=(ah xV.out 1).trans rfl;have GH : BG.cell? ⟨xZ,2,none⟩ = some (.int .i64 yI):=(ah xV.out 2).trans rfl;have GI : BG.cell? ⟨xZ,3,none⟩ = some (.string yJ):=(ah xV.out 3).trans rfl;have GJ : BG.cell? ⟨xZ,4,none⟩ = some (.slice yO yE.length yP):=(ah xV.out 4).trans rfl;have GK : BG.cell? ⟨xZ,5,none⟩ = some (.slice yQ xS.length yK):=(ah xV.out 5).trans rfl;have GL:=aj xV.out 0;have GN:=aj xV.out 1;have GQ:=aj xV.out 2;have GR:=aj xV.out 3;have GU:=aj xV.out 4;have GV:=aj xV.out 5;have CW : BG.cell? ⟨yg,0,none⟩ = some (.int .i64 0):=(ah yj.out 0).trans rfl;have CX : BG.cell? ⟨yg,1,none⟩ = some (.bool false):=(ah yj.out 1).trans rfl;have CY : BG.cell? ⟨yg,2,none⟩ = some (.int .i64 0):=(ah yj.out 2).trans rfl;have CZ : BG.cell? ⟨yg,3,none⟩ = some (.string (⟨#[]⟩ : ByteArray)):=(ah yj.out 3).trans rfl;have C8 : BG.cell? ⟨yg,4,none⟩ = some (.slice none 0 0):=(ah yj.out 4).trans rfl;have C9 : BG.cell? ⟨yg,5,none⟩ = some (.slice none 0 0):=(ah yj.out 5).trans rfl;have Da:=aj yj.out 0;have Db:=aj yj.out 1;have Dc:=aj yj.out 2;have Df:=aj yj.out 3;have Dh:=aj yj.out 4;have Di:=aj yj.out 5))
  refine bodyPost_ret (iF rfl _ _ yg 33 #[.int .i64 0,.bool false,.int .i64 0,.string (⟨#[]⟩ : ByteArray),.slice none 0 0,.slice none 0 0] (0,0) _ rfl (by (with_reducible repeat (first|apply aA|apply aD|apply ay));refine aQ (cs:=#[.int .i64 0,.bool false,.int .i64 0,.string (⟨#[]⟩ : ByteArray),.slice none 0 0,.slice none 0 0]) ?_ 5 _ rfl;(with_reducible repeat (first|apply aA|apply aD|apply ay));refine aQ (cs:=#[.int .i64 0,.bool false,.int .i64 0,.string (⟨#[]⟩ : ByteArray),.slice none 0 0,.slice none 0 0]) ?_ 4 _ rfl;(with_reducible repeat (first|apply aA|apply aD|apply ay));refine aQ (cs:=#[.int .i64 0,.bool false,.int .i64 0,.string (⟨#[]⟩ : ByteArray),.slice none 0 0,.slice none 0 0]) ?_ 3 _ rfl;(with_reducible repeat (first|apply aA|apply aD|apply ay));refine aQ (cs:=#[.int .i64 0,.bool false,.int .i64 0,.string (⟨#[]⟩ : ByteArray),.slice none 0 0,.slice none 0 0]) ?_ 2 _ rfl;(with_reducible repeat (first|apply aA|apply aD|apply ay));refine aQ (cs:=#[.int .i64 0,.bool false,.int .i64 0,.string (⟨#[]⟩ : ByteArray),.slice none 0 0,.slice none 0 0]) ?_ 1 _ rfl;(with_reducible repeat (first|apply aA|apply aD|apply ay));refine aQ (cs:=#[.int .i64 0,.bool false,.int .i64 0,.string (⟨#[]⟩ : ByteArray),.slice none 0 0,.slice none 0 0]) ?_ 0 _ rfl;(with_reducible repeat (first|apply aA|apply aD|apply ay));exact yj.out) Tryd.underlying33 rfl (by kernel_rfl)) rfl ?_
  exact ⟨_,_,by first|rfl|(simp [aX,aY] <;> rfl)|(simp [*,aX,aY] <;> rfl),(Kd.eT _ _ _ _ _),(Kd.eT _ _ _ _ _),by repeat (first|(with_reducible first|exact HB.out|apply av|apply ak|apply au|refine aG ?_ zI.out|refine aG ?_ Ak.out)|exact HB.out)⟩
end Go.Proofs.YtnkkbiabloodaaaDoor.GVa
