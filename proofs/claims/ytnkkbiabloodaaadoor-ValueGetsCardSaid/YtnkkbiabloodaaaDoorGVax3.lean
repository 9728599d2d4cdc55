/- Written by this session's own program (wip/gen.py) out of the translation: plain Lean functions of the Go functions, and proofs that the calls come to their answers. No conditions beside those in the statements. -/
import Derived.Test.YtnkkbiabloodaaaDoorGVax0
namespace Go.Proofs.YtnkkbiabloodaaaDoor.GVa
open Go.RowKit Go.Proofs.YtnkkbiabloodaaaDoorW.PrintWords Go.Proofs.YtnkkbiabloodaaaDoorW.PrintLast Go.Proofs.YtnkkbiabloodaaaDoorW.PrintMore
attribute [local go_sem] fG fH fV fZ eO eP fI fJ
set_option linter.unusedVariables false
set_option linter.unusedSimpArgs false
def bf.l0 : Nat → List (S29) → List (S48) → Int → Int → Option ((List (S29)))
 | 0,_,_,_,_=>none
 | k + 1,x3,zP,Dx,zG=>if zG < Dx then (if 0 ≤ zG then (if zG < (zP.length : Int) then (if x3.length < 1599289640401 then (bf.l0 k (x3 ++ [(⟨(aC zP zG).f1.f0,(aC zP zG).f1.f1,(aC zP zG).f1.f2,(aC zP zG).f1.f3,(aC zP zG).f1.f4,(aC zP zG).f1.f5⟩ : S29)]) zP Dx (wrap64 (zG + 1))) else (none)) else (none)) else (none)) else (some x3)
def bf.f (k : Nat) (yh : Int) (yw : Bool) (yx : Int) (yA : ByteArray) (yt : List (S29)) (xU : List (S48)) : Option ((List (S29))):=if yh = 4 then (some yt) else (if yh = 5 then (bf.l0 k ([] : List (S29)) xU (xU.length : Int) 0) else (some ([] : List (S29))))
theorem bf.eG : ∀ k,(∀ y0 y1 y2 y3,LeO (bf.l0 k y0 y1 y2 y3) (bf.l0 (k + 1) y0 y1 y2 y3))
 | 0=>fun _ _ _ _ r h=>by simp [bf.l0] at h
 | k + 1=>by
  have zZ:=bf.eG k
  ·intro y0 y1 y2 y3
   unfold bf.l0
   repeat' first
   | (with_reducible exact zZ _ _ _ _)
   | (with_reducible exact LeO.refl _)
   | (with_reducible exact LeO.none _)
   | (with_reducible refine LeO.ite ?_ ?_)
   | (with_reducible refine LeO.bind ?_ (fun _=>?_))
   | exact zZ _ _ _ _
   | exact LeO.none _
   | refine LeO.ite ?_ ?_
   | refine LeO.bind ?_ (fun _=>?_)
theorem bf.mono : ∀ a0 a1 a2 a3 a4 a5 k,LeO (bf.f k a0 a1 a2 a3 a4 a5) (bf.f (k + 1) a0 a1 a2 a3 a4 a5):=by
 intro a0 a1 a2 a3 a4 a5 k
 have zZ:=bf.eG k
 unfold bf.f
 repeat' first
   | (with_reducible exact zZ _ _ _ _)
   | (with_reducible exact LeO.refl _)
   | (with_reducible exact LeO.none _)
   | (with_reducible refine LeO.ite ?_ ?_)
   | (with_reducible refine LeO.bind ?_ (fun _=>?_))
   | exact zZ _ _ _ _
   | exact LeO.none _
   | refine LeO.ite ?_ ?_
   | refine LeO.bind ?_ (fun _=>?_)
set_option maxHeartbeats 8000000 in
set_option maxRecDepth 100000 in
theorem bf.calls (k : Nat) (yh : Int) (yw : Bool) (yx : Int) (yA : ByteArray) (yB : Nat → Prop) (yH : Option Addr) (yI : Nat) (yt : List (S29)) (yC : Nat → Prop) (yK : Option Addr) (yF : Nat) (xU : List (S48)) (r : List (S29)) (w : World) (Dy : Kd.V k29 29 w w.heap.size (fun k_=>yB k_) (.slice yH yt.length yI) yt) (Dz : Kd.V k48 48 w w.heap.size (fun k_=>yC k_) (.slice yK xU.length yF) xU) (h : bf.f k yh yw yx yA yt xU = some r) :
  Calls Tryd.prog 36 #[.agg #[.int .i64 yh,.bool yw,.int .i64 yx,.string yA,.slice yH yt.length yI,.slice yK xU.length yF]] w fun e w'=>∃ Fx : Value,e = .returned (Fx) ∧ Kd.V k29 29 w' w.heap.size (fun k_=>((yB k_ ∨ yC k_) ∨ w.heap.size ≤ k_)) Fx r ∧ Below w.heap.size w w':=by
 have Fa:=Tryd.underlying29
 have FP:=Tryd.underlying48
 have zf:=Aside0.mk (show Kd.V k29 29 w w.heap.size (fun k_=>((yB k_ ∨ yC k_) ∨ w.heap.size ≤ k_)) (.slice yH yt.length yI) yt from Kd.bI Dy (fun k_ hk=>.inl (.inl hk)))
 have zh:=Aside0.mk (show Kd.V k48 48 w w.heap.size (fun k_=>((yB k_ ∨ yC k_) ∨ w.heap.size ≤ k_)) (.slice yK xU.length yF) xU from Kd.bI Dz (fun k_ hk=>.inl (.inr hk)))
 have HB:=Aside0.mk (Below.refl w.heap.size w)
 have H : (if yh = 4 then (some yt) else (if yh = 5 then (bf.l0 k ([] : List (S29)) xU (xU.length : Int) 0) else (some ([] : List (S29))))) = some r:=h
 clear h
 by_cases c2 : yh = 4
 ·rw [if_pos c2] at H
  have c2b0 : (yh == 4) = true:=beq_iff_eq.mpr c2
  have c2b1 : (yh != 4) = false:=bne_eq_false_iff_eq.mpr c2
  clear c2
  obtain rfl:=Option.some.inj H
  go_enter Tryd.func36,Tryd.ntmps36
  go_wp2_with (first|((with_reducible refine bH (N:=1) rfl ?_);refine bF ?hg (N:=1) ?hd (cs:=#[.int .i64 yh,.bool yw,.int .i64 yx,.string yA,.slice yH yt.length yI,.slice yK xU.length yF]) (t:=29) ?hr ?_;(case hd=>rfl);(case hg=>rfl);(case hr=>first|(go_simp;done)|(go_simp;rfl));intro xZ hg w3 hbox hb;have zl:=Aside0.mk (Kd.bB (Kd.dw (by (with_reducible repeat (first|apply Kd.bC|apply Kd.bD|apply Kd.bL));exact zf.out) xZ (Nat.le_of_eq hg.symm)) hb);have zm:=Aside0.mk (Kd.bB (Kd.dw (by (with_reducible repeat (first|apply Kd.bC|apply Kd.bD|apply Kd.bL));exact zh.out) xZ (Nat.le_of_eq hg.symm)) hb);have zn:=Aside0.mk (aK (by repeat (first|(with_reducible first|exact HB.out|apply av|apply ak|apply au)|exact HB.out)) hb);have zo:=Aside0.mk (hbox);have zC:=Aside0.mk ((by rw [hg];exact (aM (by repeat (first|(with_reducible first|exact HB.out|apply av|apply ak|apply au)|exact HB.out))) : w.heap.size ≤ xZ));have zD:=Aside0.mk ((by rw [hg];exact (aM (by repeat (first|(with_reducible first|exact HB.out|apply av|apply ak|apply au)|exact HB.out))) : w.heap.size ≤ xZ));clear zf;clear zh;clear HB;have zf:=zl;have zh:=zm;have HB:=zn;have yg:=zo;have Cj:=zC;have yT:=zD;clear zl zm zn zo zC zD;clear hb hbox hg;have Cq : w3.cell? ⟨xZ,0,none⟩ = some (.int .i64 yh):=(ah yg.out 0).trans rfl;have Cr : w3.cell? ⟨xZ,1,none⟩ = some (.bool yw):=(ah yg.out 1).trans rfl;have Ct : w3.cell? ⟨xZ,2,none⟩ = some (.int .i64 yx):=(ah yg.out 2).trans rfl;have Cu : w3.cell? ⟨xZ,3,none⟩ = some (.string yA):=(ah yg.out 3).trans rfl;have Cv : w3.cell? ⟨xZ,4,none⟩ = some (.slice yH yt.length yI):=(ah yg.out 4).trans rfl;have Cw : w3.cell? ⟨xZ,5,none⟩ = some (.slice yK xU.length yF):=(ah yg.out 5).trans rfl;have Cx:=aj yg.out 0;have Cy:=aj yg.out 1;have Cz:=aj yg.out 2;have CB:=aj yg.out 3;have CF:=aj yg.out 4;have CG:=aj yg.out 5))
  go_ret
  exact ⟨_,by first|rfl|(simp [aX,aY] <;> rfl)|(simp [*,aX,aY] <;> rfl),by (with_reducible repeat (first|apply Kd.bC|apply Kd.bD|apply Kd.bL));exact Kd.bI zf.out (fun _ hk=>hk.1),by repeat (first|(with_reducible first|exact HB.out|apply av|apply ak|apply au|refine aG ?_ yT.out)|exact HB.out)⟩
 ·rw [if_neg c2] at H
  have c2b0 : (yh == 4) = false:=beq_eq_false_iff_ne.mpr c2
  have c2b1 : (yh != 4) = true:=bne_iff_ne.mpr c2
  by_cases c5 : yh = 5
  ·rw [if_pos c5] at H
   have c5b0 : (yh == 5) = true:=beq_iff_eq.mpr c5
   have c5b1 : (yh != 5) = false:=bne_eq_false_iff_eq.mpr c5
   clear c5
   have H':=Aside0.mk H
   clear H
   go_enter Tryd.func36,Tryd.ntmps36
   go_wp2_with (first|((with_reducible refine bH (N:=1) rfl ?_);refine bF ?hg (N:=1) ?hd (cs:=#[.int .i64 yh,.bool yw,.int .i64 yx,.string yA,.slice yH yt.length yI,.slice yK xU.length yF]) (t:=29) ?hr ?_;(case hd=>rfl);(case hg=>rfl);(case hr=>first|(go_simp;done)|(go_simp;rfl));intro xZ hg w6 hbox hb;have zl:=Aside0.mk (Kd.bB (Kd.dw (by (with_reducible repeat (first|apply Kd.bC|apply Kd.bD|apply Kd.bL));exact zf.out) xZ (Nat.le_of_eq hg.symm)) hb);have zm:=Aside0.mk (Kd.bB (Kd.dw (by (with_reducible repeat (first|apply Kd.bC|apply Kd.bD|apply Kd.bL));exact zh.out) xZ (Nat.le_of_eq hg.symm)) hb);have zn:=Aside0.mk (aK (by repeat (first|(with_reducible first|exact HB.out|apply av|apply ak|apply au)|exact HB.out)) hb);have zo:=Aside0.mk (hbox);have zC:=Aside0.mk ((by rw [hg];exact (aM (by repeat (first|(with_reducible first|exact HB.out|apply av|apply ak|apply au)|exact HB.out))) : w.heap.size ≤ xZ));have zD:=Aside0.mk ((by rw [hg];exact (aM (by repeat (first|(with_reducible first|exact HB.out|apply av|apply ak|apply au)|exact HB.out))) : w.heap.size ≤ xZ));clear zf;clear zh;clear HB;have zf:=zl;have zh:=zm;have HB:=zn;have yg:=zo;have Cj:=zC;have yT:=zD;clear zl zm zn zo zC zD;clear hb hbox hg;have CJ : w6.cell? ⟨xZ,0,none⟩ = some (.int .i64 yh):=(ah yg.out 0).trans rfl;have CK : w6.cell? ⟨xZ,1,none⟩ = some (.bool yw):=(ah yg.out 1).trans rfl;have CO : w6.cell? ⟨xZ,2,none⟩ = some (.int .i64 yx):=(ah yg.out 2).trans rfl;have CP : w6.cell? ⟨xZ,3,none⟩ = some (.string yA):=(ah yg.out 3).trans rfl;have CQ : w6.cell? ⟨xZ,4,none⟩ = some (.slice yH yt.length yI):=(ah yg.out 4).trans rfl;have CS : w6.cell? ⟨xZ,5,none⟩ = some (.slice yK xU.length yF):=(ah yg.out 5).trans rfl;have CU:=aj yg.out 0;have CV:=aj yg.out 1;have CW:=aj yg.out 2;have CX:=aj yg.out 3;have CY:=aj yg.out 4;have CZ:=aj yg.out 5))
   go_loopg [3,17] k (fun kq v3 v17 w'=>∃ (zU : List (S29)) (xS : Int),v17 = .int .i64 xS ∧ Aside0 (bf.l0 kq zU xU (xU.length : Int) xS = some r) ∧ Aside0 (kq ≤ k) ∧ Aside0 (Kd.N k29 29 w' w.heap.size (fun k_=>((yB k_ ∨ yC k_) ∨ w.heap.size ≤ k_) ∧ k_ ≠ xZ) v3 zU) ∧ Aside0 (Kd.V k48 48 w' w.heap.size (fun k_=>((yB k_ ∨ yC k_) ∨ w.heap.size ≤ k_) ∧ some k_ ≠ (v3 : Value).ownBlock ∧ k_ ≠ xZ) (.slice yK xU.length yF) xU) ∧ Aside0 (Kd.V k29 29 w' w.heap.size (fun k_=>((yB k_ ∨ yC k_) ∨ w.heap.size ≤ k_) ∧ some k_ ≠ (v3 : Value).ownBlock ∧ k_ ≠ xZ) (.slice yH yt.length yI) yt) ∧ Aside0 (Kd.V k48 48 w' w.heap.size (fun k_=>((yB k_ ∨ yC k_) ∨ w.heap.size ≤ k_) ∧ some k_ ≠ (v3 : Value).ownBlock ∧ k_ ≠ xZ) (.slice yK xU.length yF) xU) ∧ Aside0 (w'.heap[xZ]? = some (.cells #[.int .i64 yh,.bool yw,.int .i64 yx,.string yA,(.slice yH yt.length yI),(.slice yK xU.length yF)] 29 (0,0))) ∧ Aside0 (Below w.heap.size w w'))
   case atStart=>exact ⟨(([] : List (S29))),(0),(by first|rfl|(simp;done)|(simp [*];done)),H',⟨Nat.le_refl _⟩,⟨by first|exact Kd.jf _ _ _ _ _|exact Kd.iZ _ _ _ _ _|exact Kd.eT _ _ _ _ _|exact Kd.jG _ _ _ _ _|exact Kd.jJ _ _ _ _ _⟩,⟨by (with_reducible repeat (first|apply Kd.bC|apply Kd.bD|apply Kd.bL));exact Kd.bI zh.out (fun _ hk=>⟨hk.1,⟨(by simp [Value.ownBlock]),hk.2⟩⟩)⟩,⟨by (with_reducible repeat (first|apply Kd.bC|apply Kd.bD|apply Kd.bL));exact Kd.bI zf.out (fun _ hk=>⟨hk.1,⟨(by simp [Value.ownBlock]),hk.2⟩⟩)⟩,⟨by (with_reducible repeat (first|apply Kd.bC|apply Kd.bD|apply Kd.bL));exact Kd.bI zh.out (fun _ hk=>⟨hk.1,⟨(by simp [Value.ownBlock]),hk.2⟩⟩)⟩,⟨by (with_reducible repeat (first|apply aA|apply aD|apply ay));exact yg.out⟩,⟨by repeat (first|(with_reducible first|exact HB.out|apply av|apply ak|apply au|refine aG ?_ yT.out)|exact HB.out)⟩⟩
   case round =>
    clear H'
    try clear c2
    try clear c2b0
    try clear c2b1
    try clear p2
    try clear c3
    try clear c5
    try clear c5b0
    try clear c5b1
    try clear Cq
    try clear Cr
    try clear Ct
    try clear Cu
    try clear Cv
    try clear Cw
    try clear CJ
    try clear CK
    try clear CO
    try clear CP
    try clear CQ
    try clear CS
    try clear Cx
    try clear Cy
    try clear Cz
    try clear CB
    try clear CF
    try clear CG
    try clear CU
    try clear CV
    try clear CW
    try clear CX
    try clear CY
    try clear CZ
    obtain ⟨zU,xS,rfl,HA,Fy,zF,yG,yD,yE,yg,HB⟩:=hrel
    cases gk with
    | zero=>exact absurd HA.out (by simp [bf.l0])
    | succ k1 =>
     have H:=HA.out
     clear HA
     simp only [bf.l0] at H
     by_cases c8 : xS < (xU.length : Int)
     ·rw [if_pos c8] at H
      have c8b0 : decide (xS < (xU.length : Int)) = true:=decide_eq_true c8
      clear c8
      by_cases c9 : 0 ≤ xS
      ·rw [if_pos c9] at H
       have c9b0 : decide (0 ≤ xS) = true:=decide_eq_true c9
       clear c9
       by_cases c10 : xS < (xU.length : Int)
       ·rw [if_pos c10] at H
        have c10b0 : decide (xS < (xU.length : Int)) = true:=decide_eq_true c10
        clear c10
        by_cases c11 : zU.length < 1599289640401
        ·rw [if_pos c11] at H
         have DC:=Aside0.mk c11
         clear c11
         obtain ⟨DF,zQ⟩ : ∃ y_ : List (S29),y_ = (zU ++ [(⟨(aC xU xS).f1.f0,(aC xU xS).f1.f1,(aC xU xS).f1.f2,(aC xU xS).f1.f3,(aC xU xS).f1.f4,(aC xU xS).f1.f5⟩ : S29)]):=⟨_,rfl⟩
         replace H : (bf.l0 k1 DF xU (xU.length : Int) (wrap64 (xS + 1))) = some r:=by first|(rw [zQ];with_reducible exact H)|(have Fb:=(Option.bind_some _ _).symm.trans H;rw [zQ];with_reducible exact Fb)|(have Fb:=(Option.bind_some _ _).symm.trans H;with_reducible exact Fb)|with_reducible exact H|(rw [zQ];exact H)|exact H
         have DI:=Aside0.mk zQ
         clear zQ
         have H':=Aside0.mk H
         clear H
         have Bv : 0 ≤ (xS : Int):=of_decide_eq_true (by first|(with_reducible assumption)|assumption)
         have Bw : xS < (xU.length : Int):=of_decide_eq_true (by first|(with_reducible assumption)|assumption)
         obtain ⟨zq,yL,yM,yP,yQ,Fe,D6,D7,D8,D9,Ea,Bz,BA,z8,Ac,Ad,Ae⟩:=jE (Kd.bM yG.out).2.2 xS Bv Bw
         cases Fe
         obtain ⟨Fz,C8,C9,zV⟩:=Kd.jO yG.out z48 xS Bv (by first|exact Bw|exact of_decide_eq_true (by first|(with_reducible assumption)|assumption)|(have e_:=(Kd.bM yG.out).1;omega))
         obtain ⟨Eb,Ec,Ed,Ee,rfl,zH,zI,zJ,zK⟩:=lF C9
         have zu:=zV 5 _ rfl
         rw [bN _ _ 5 (by omega)] at zu
         replace zu:=Option.some.inj (zu.symm.trans Bz)
         injection zu with hva_ hvn_ hvc_
         rw [hva_] at zI
         rw [hvc_] at zH
         have yN:=Aside0.mk (show Kd.V k29 29 _ w.heap.size _ _ ((aC xU xS).f1.f4) from Kd.jc zH zI)
         clear hva_ hvn_ hvc_ zI zH
         have zw:=zV 6 _ rfl
         rw [bN _ _ 6 (by omega)] at zw
         replace zw:=Option.some.inj (zw.symm.trans BA)
         injection zw with hva_ hvn_ hvc_
         rw [hva_] at zK
         rw [hvc_] at zJ
         have yO:=Aside0.mk (show Kd.V k48 48 _ w.heap.size _ _ ((aC xU xS).f1.f5) from Kd.jc zJ zK)
         clear hva_ hvn_ hvc_ zK zJ
         clear zV C8
         have zx:=Aside0.mk Ac
         have Ef:=Aside0.mk z8
         clear Ac z8
         have zy:=Aside0.mk Ae
         have Eh:=Aside0.mk Ad
         clear Ae Ad
         replace Bv:=eq_true Bv
         replace Bw:=eq_true Bw
         go_wp2_with (first|((with_reducible refine bH (N:=5) rfl ?_);refine bF ?hg (N:=5) ?hd (cs:=#[.string (⟨#[]⟩ : ByteArray),.int .i64 0,.bool false,.int .i64 0,.string (⟨#[]⟩ : ByteArray),.slice none 0 0,.slice none 0 0]) (t:=48) ?hr ?_;(case hd=>rfl);(case hg=>rfl);(case hr=>first|(go_simp;done)|(go_simp;rfl));intro xV hg Ck hbox hb;have zl:=Aside0.mk (Kd.fC (Kd.mW (by (with_reducible repeat (first|apply Kd.dK|apply Kd.dL|apply Kd.dS));exact zF.out) xV (Nat.le_of_eq hg.symm)) hb);have zm:=Aside0.mk (Kd.bB (Kd.dw (by (with_reducible repeat (first|apply Kd.bC|apply Kd.bD|apply Kd.bL));exact yG.out) xV (Nat.le_of_eq hg.symm)) hb);have zn:=Aside0.mk (Kd.bB (Kd.dw (by (with_reducible repeat (first|apply Kd.bC|apply Kd.bD|apply Kd.bL));exact yD.out) xV (Nat.le_of_eq hg.symm)) hb);have zo:=Aside0.mk (Kd.bB (Kd.dw (by (with_reducible repeat (first|apply Kd.bC|apply Kd.bD|apply Kd.bL));exact yE.out) xV (Nat.le_of_eq hg.symm)) hb);have zC:=Aside0.mk (Kd.bB (Kd.dw (by (with_reducible repeat (first|apply Kd.bC|apply Kd.bD|apply Kd.bL));exact yN.out) xV (Nat.le_of_eq hg.symm)) hb);have zD:=Aside0.mk (Kd.bB (Kd.dw (by (with_reducible repeat (first|apply Kd.bC|apply Kd.bD|apply Kd.bL));exact yO.out) xV (Nat.le_of_eq hg.symm)) hb);have Af:=Aside0.mk (aI (g:=xZ) (o:=.cells #[.int .i64 yh,.bool yw,.int .i64 yx,.string yA,.slice yH yt.length yI,.slice (some zq) xU.length yF] 29 (0,0)) (bk_ yg.out) hb);have Ag:=Aside0.mk (Kd.bQ (by repeat (first|(with_reducible exact zx.out)|(with_reducible refine Kd.bW ?_ _)|(with_reducible refine Kd.bX ?_ _)|(with_reducible refine Kd.dh ?_)|exact zx.out)) hb);have Ap:=Aside0.mk (Kd.bQ (by repeat (first|(with_reducible exact zy.out)|(with_reducible refine Kd.bW ?_ _)|(with_reducible refine Kd.bX ?_ _)|(with_reducible refine Kd.dh ?_)|exact zy.out)) hb);have DJ:=Aside0.mk (aK (by repeat (first|(with_reducible first|exact HB.out|apply av|apply ak|apply au|refine aG ?_ yT.out)|exact HB.out)) hb);have Aq:=Aside0.mk (hbox);have Ar:=Aside0.mk ((by rw [hg];exact (aM (by repeat (first|(with_reducible first|exact HB.out|apply av|apply ak|apply au|refine aG ?_ yT.out)|exact HB.out))) : w.heap.size ≤ xV));have DK:=Aside0.mk ((by rw [hg];exact (aM (by repeat (first|(with_reducible first|exact HB.out|apply av|apply ak|apply au|refine aG ?_ yT.out)|exact HB.out))) : w.heap.size ≤ xV));have DL:=Aside0.mk ((by rw [hg];exact Nat.ne_of_lt (bO (g:=xZ) (o:=.cells #[.int .i64 yh,.bool yw,.int .i64 yx,.string yA,.slice yH yt.length yI,.slice (some zq) xU.length yF] 29 (0,0)) (bk_ yg.out)) : xZ ≠ xV));have DN:=Aside0.mk ((by rw [hg];exact Nat.ne_of_gt (bO (g:=xZ) (o:=.cells #[.int .i64 yh,.bool yw,.int .i64 yx,.string yA,.slice yH yt.length yI,.slice (some zq) xU.length yF] 29 (0,0)) (bk_ yg.out)) : xV ≠ xZ));clear zF;clear yG;clear yD;clear yE;clear yN;clear yO;clear yg;clear zx;clear zy;clear HB;have zF:=zl;have yG:=zm;have yD:=zn;have yE:=zo;have yN:=zC;have yO:=zD;have yg:=Af;have zx:=Ag;have zy:=Ap;have HB:=DJ;have yj:=Aq;have FB:=Ar;have zR:=DK;have yJ:=DL;have Am:=DN;clear zl zm zn zo zC zD Af Ag Ap DJ Aq Ar DK DL DN;clear hb hbox hg;have FC:=Am.out;have FD:=yJ.out;have Ei : Ck.cell? ⟨xV,0,none⟩ = some (.string (⟨#[]⟩ : ByteArray)):=(ah yj.out 0).trans rfl;have Ej : Ck.cell? ⟨xV,1,none⟩ = some (.int .i64 0):=(ah yj.out 1).trans rfl;have El : Ck.cell? ⟨xV,2,none⟩ = some (.bool false):=(ah yj.out 2).trans rfl;have Em : Ck.cell? ⟨xV,3,none⟩ = some (.int .i64 0):=(ah yj.out 3).trans rfl;have En : Ck.cell? ⟨xV,4,none⟩ = some (.string (⟨#[]⟩ : ByteArray)):=(ah yj.out 4).trans rfl;have Eo : Ck.cell? ⟨xV,5,none⟩ = some (.slice none 0 0):=(ah yj.out 5).trans rfl;have Ep : Ck.cell? ⟨xV,6,none⟩ = some (.slice none 0 0):=(ah yj.out 6).trans rfl;have Er:=aj yj.out 0;have Es:=aj yj.out 1;have Et:=aj yj.out 2;have Eu:=aj yj.out 3;have Ew:=aj yj.out 4;have Ey:=aj yj.out 5;have Ez:=aj yj.out 6)|((with_reducible refine pY (t:=48) (p:=5) rfl ?_);refine oP (t:=48) (p:=5) (v:=?vo_w15) (w1:=(((((((Ck.setCell ⟨xV,0,none⟩ (.string ((aC xU xS).f0))).setCell ⟨xV,1,none⟩ (.int .i64 ((aC xU xS).f1.f0))).setCell ⟨xV,2,none⟩ (.bool ((aC xU xS).f1.f1))).setCell ⟨xV,3,none⟩ (.int .i64 ((aC xU xS).f1.f2))).setCell ⟨xV,4,none⟩ (.string ((aC xU xS).f1.f3))).setCell ⟨xV,5,none⟩ (.slice yL ((aC xU xS).f1.f4).length yM)).setCell ⟨xV,6,none⟩ (.slice yP ((aC xU xS).f1.f5).length yQ))) ?hg ?ho ?hn ?hr ?_;(case ho=>rfl);(case hg=>rfl);(case hn=>rfl);(case hr=>first|(go_simp;done)|(go_simp;rfl));intro zT hw;have zl : Aside0 (Kd.N k29 29 zT w.heap.size (fun k_=>((yB k_ ∨ yC k_) ∨ w.heap.size ≤ k_) ∧ k_ ≠ xZ ∧ k_ ≠ xV) u3 zU):=⟨(by rw [hw];exact (by (with_reducible repeat (first|apply Kd.dK|apply Kd.dL|apply Kd.dS));exact Kd.dG (Kd.jK (p:=⟨xV,6,none⟩) (Kd.jK (p:=⟨xV,5,none⟩) (Kd.jK (p:=⟨xV,4,none⟩) (Kd.jK (p:=⟨xV,3,none⟩) (Kd.jK (p:=⟨xV,2,none⟩) (Kd.jK (p:=⟨xV,1,none⟩) (Kd.jK (p:=⟨xV,0,none⟩) (Kd.dG zF.out (fun k_ hk=>(⟨hk,hk.2⟩ : _ ∧ k_ ≠ xV))) (fun _ hk=>hk.2) (.string ((aC xU xS).f0))) (fun _ hk=>hk.2) (.int .i64 ((aC xU xS).f1.f0))) (fun _ hk=>hk.2) (.bool ((aC xU xS).f1.f1))) (fun _ hk=>hk.2) (.int .i64 ((aC xU xS).f1.f2))) (fun _ hk=>hk.2) (.string ((aC xU xS).f1.f3))) (fun _ hk=>hk.2) (.slice yL ((aC xU xS).f1.f4).length yM)) (fun _ hk=>hk.2) (.slice yP ((aC xU xS).f1.f5).length yQ)) (fun _ hk=>⟨hk.1.1.1,⟨hk.1.1.2,hk.1.2⟩⟩)))⟩;have zm : Aside0 (Kd.V k48 48 zT w.heap.size (fun k_=>((yB k_ ∨ yC k_) ∨ w.heap.size ≤ k_) ∧ some k_ ≠ (u3 : Value).ownBlock ∧ k_ ≠ xZ ∧ k_ ≠ xV) (.slice (some zq) xU.length yF) xU):=⟨(by rw [hw];exact (by (with_reducible repeat (first|apply Kd.bC|apply Kd.bD|apply Kd.bL));exact Kd.bI (Kd.bn (p:=⟨xV,6,none⟩) (Kd.bn (p:=⟨xV,5,none⟩) (Kd.bn (p:=⟨xV,4,none⟩) (Kd.bn (p:=⟨xV,3,none⟩) (Kd.bn (p:=⟨xV,2,none⟩) (Kd.bn (p:=⟨xV,1,none⟩) (Kd.bn (p:=⟨xV,0,none⟩) (Kd.bI yG.out (fun k_ hk=>(⟨hk,hk.2⟩ : _ ∧ k_ ≠ xV))) (fun _ hk=>hk.2) (.string ((aC xU xS).f0))) (fun _ hk=>hk.2) (.int .i64 ((aC xU xS).f1.f0))) (fun _ hk=>hk.2) (.bool ((aC xU xS).f1.f1))) (fun _ hk=>hk.2) (.int .i64 ((aC xU xS).f1.f2))) (fun _ hk=>hk.2) (.string ((aC xU xS).f1.f3))) (fun _ hk=>hk.2) (.slice yL ((aC xU xS).f1.f4).length yM)) (fun _ hk=>hk.2) (.slice yP ((aC xU xS).f1.f5).length yQ)) (fun _ hk=>⟨hk.1.1.1,⟨hk.1.1.2.1,⟨hk.1.1.2.2,hk.1.2⟩⟩⟩)))⟩;have zn : Aside0 (Kd.V k29 29 zT w.heap.size (fun k_=>((yB k_ ∨ yC k_) ∨ w.heap.size ≤ k_) ∧ some k_ ≠ (u3 : Value).ownBlock ∧ k_ ≠ xZ ∧ k_ ≠ xV) (.slice yH yt.length yI) yt):=⟨(by rw [hw];exact (by (with_reducible repeat (first|apply Kd.bC|apply Kd.bD|apply Kd.bL));exact Kd.bI (Kd.bn (p:=⟨xV,6,none⟩) (Kd.bn (p:=⟨xV,5,none⟩) (Kd.bn (p:=⟨xV,4,none⟩) (Kd.bn (p:=⟨xV,3,none⟩) (Kd.bn (p:=⟨xV,2,none⟩) (Kd.bn (p:=⟨xV,1,none⟩) (Kd.bn (p:=⟨xV,0,none⟩) (Kd.bI yD.out (fun k_ hk=>(⟨hk,hk.2⟩ : _ ∧ k_ ≠ xV))) (fun _ hk=>hk.2) (.string ((aC xU xS).f0))) (fun _ hk=>hk.2) (.int .i64 ((aC xU xS).f1.f0))) (fun _ hk=>hk.2) (.bool ((aC xU xS).f1.f1))) (fun _ hk=>hk.2) (.int .i64 ((aC xU xS).f1.f2))) (fun _ hk=>hk.2) (.string ((aC xU xS).f1.f3))) (fun _ hk=>hk.2) (.slice yL ((aC xU xS).f1.f4).length yM)) (fun _ hk=>hk.2) (.slice yP ((aC xU xS).f1.f5).length yQ)) (fun _ hk=>⟨hk.1.1.1,⟨hk.1.1.2.1,⟨hk.1.1.2.2,hk.1.2⟩⟩⟩)))⟩;have zo : Aside0 (Kd.V k48 48 zT w.heap.size (fun k_=>((yB k_ ∨ yC k_) ∨ w.heap.size ≤ k_) ∧ some k_ ≠ (u3 : Value).ownBlock ∧ k_ ≠ xZ ∧ k_ ≠ xV) (.slice (some zq) xU.length yF) xU):=⟨(by rw [hw];exact (by (with_reducible repeat (first|apply Kd.bC|apply Kd.bD|apply Kd.bL));exact Kd.bI (Kd.bn (p:=⟨xV,6,none⟩) (Kd.bn (p:=⟨xV,5,none⟩) (Kd.bn (p:=⟨xV,4,none⟩) (Kd.bn (p:=⟨xV,3,none⟩) (Kd.bn (p:=⟨xV,2,none⟩) (Kd.bn (p:=⟨xV,1,none⟩) (Kd.bn (p:=⟨xV,0,none⟩) (Kd.bI yE.out (fun k_ hk=>(⟨hk,hk.2⟩ : _ ∧ k_ ≠ xV))) (fun _ hk=>hk.2) (.string ((aC xU xS).f0))) (fun _ hk=>hk.2) (.int .i64 ((aC xU xS).f1.f0))) (fun _ hk=>hk.2) (.bool ((aC xU xS).f1.f1))) (fun _ hk=>hk.2) (.int .i64 ((aC xU xS).f1.f2))) (fun _ hk=>hk.2) (.string ((aC xU xS).f1.f3))) (fun _ hk=>hk.2) (.slice yL ((aC xU xS).f1.f4).length yM)) (fun _ hk=>hk.2) (.slice yP ((aC xU xS).f1.f5).length yQ)) (fun _ hk=>⟨hk.1.1.1,⟨hk.1.1.2.1,⟨hk.1.1.2.2,hk.1.2⟩⟩⟩)))⟩;have zC : Aside0 (Kd.V k29 29 zT w.heap.size (fun k_=>((yB k_ ∨ yC k_) ∨ w.heap.size ≤ k_) ∧ some k_ ≠ (u3 : Value).ownBlock ∧ k_ ≠ xZ ∧ k_ ≠ xV) (.slice yL ((aC xU xS).f1.f4).length yM) ((aC xU xS).f1.f4)):=⟨(by rw [hw];exact (by (with_reducible repeat (first|apply Kd.bC|apply Kd.bD|apply Kd.bL));exact Kd.bI (Kd.bn (p:=⟨xV,6,none⟩) (Kd.bn (p:=⟨xV,5,none⟩) (Kd.bn (p:=⟨xV,4,none⟩) (Kd.bn (p:=⟨xV,3,none⟩) (Kd.bn (p:=⟨xV,2,none⟩) (Kd.bn (p:=⟨xV,1,none⟩) (Kd.bn (p:=⟨xV,0,none⟩) (Kd.bI yN.out (fun k_ hk=>(⟨hk,hk.2⟩ : _ ∧ k_ ≠ xV))) (fun _ hk=>hk.2) (.string ((aC xU xS).f0))) (fun _ hk=>hk.2) (.int .i64 ((aC xU xS).f1.f0))) (fun _ hk=>hk.2) (.bool ((aC xU xS).f1.f1))) (fun _ hk=>hk.2) (.int .i64 ((aC xU xS).f1.f2))) (fun _ hk=>hk.2) (.string ((aC xU xS).f1.f3))) (fun _ hk=>hk.2) (.slice yL ((aC xU xS).f1.f4).length yM)) (fun _ hk=>hk.2) (.slice yP ((aC xU xS).f1.f5).length yQ)) (fun _ hk=>⟨hk.1.1.1,⟨hk.1.1.2.1,⟨hk.1.1.2.2,hk.1.2⟩⟩⟩)))⟩;have zD : Aside0 (Kd.V k48 48 zT w.heap.size (fun k_=>((yB k_ ∨ yC k_) ∨ w.heap.size ≤ k_) ∧ some k_ ≠ (u3 : Value).ownBlock ∧ k_ ≠ xZ ∧ k_ ≠ xV) (.slice yP ((aC xU xS).f1.f5).length yQ) ((aC xU xS).f1.f5)):=⟨(by rw [hw];exact (by (with_reducible repeat (first|apply Kd.bC|apply Kd.bD|apply Kd.bL));exact Kd.bI (Kd.bn (p:=⟨xV,6,none⟩) (Kd.bn (p:=⟨xV,5,none⟩) (Kd.bn (p:=⟨xV,4,none⟩) (Kd.bn (p:=⟨xV,3,none⟩) (Kd.bn (p:=⟨xV,2,none⟩) (Kd.bn (p:=⟨xV,1,none⟩) (Kd.bn (p:=⟨xV,0,none⟩) (Kd.bI yO.out (fun k_ hk=>(⟨hk,hk.2⟩ : _ ∧ k_ ≠ xV))) (fun _ hk=>hk.2) (.string ((aC xU xS).f0))) (fun _ hk=>hk.2) (.int .i64 ((aC xU xS).f1.f0))) (fun _ hk=>hk.2) (.bool ((aC xU xS).f1.f1))) (fun _ hk=>hk.2) (.int .i64 ((aC xU xS).f1.f2))) (fun _ hk=>hk.2) (.string ((aC xU xS).f1.f3))) (fun _ hk=>hk.2) (.slice yL ((aC xU xS).f1.f4).length yM)) (fun _ hk=>hk.2) (.slice yP ((aC xU xS).f1.f5).length yQ)) (fun _ hk=>⟨hk.1.1.1,⟨hk.1.1.2.1,⟨hk.1.1.2.2,hk.1.2⟩⟩⟩)))⟩;have Af : Aside0 (zT.heap[xZ]? = some (.cells #[.int .i64 yh,.bool yw,.int .i64 yx,.string yA,.slice yH yt.length yI,.slice (some zq) xU.length yF] 29 (0,0))):=⟨(by rw [hw];exact (by (with_reducible repeat (first|apply aA|apply aD|apply ay));refine bq ?_ yJ.out _;(with_reducible repeat (first|apply aA|apply aD|apply ay));refine bq ?_ yJ.out _;(with_reducible repeat (first|apply aA|apply aD|apply ay));refine bq ?_ yJ.out _;(with_reducible repeat (first|apply aA|apply aD|apply ay));refine bq ?_ yJ.out _;(with_reducible repeat (first|apply aA|apply aD|apply ay));refine bq ?_ yJ.out _;(with_reducible repeat (first|apply aA|apply aD|apply ay));refine bq ?_ yJ.out _;(with_reducible repeat (first|apply aA|apply aD|apply ay));refine bq ?_ yJ.out _;(with_reducible repeat (first|apply aA|apply aD|apply ay));exact yg.out))⟩;have Ag : Aside0 (zT.heap[xV]? = some (.cells #[.string ((aC xU xS).f0),.int .i64 ((aC xU xS).f1.f0),.bool ((aC xU xS).f1.f1),.int .i64 ((aC xU xS).f1.f2),.string ((aC xU xS).f1.f3),.slice yL ((aC xU xS).f1.f4).length yM,.slice yP ((aC xU xS).f1.f5).length yQ] 48 (0,0))):=⟨(by rw [hw];exact (by (with_reducible repeat (first|apply aA|apply aD|apply ay));refine aQ (cs:=#[.string ((aC xU xS).f0),.int .i64 ((aC xU xS).f1.f0),.bool ((aC xU xS).f1.f1),.int .i64 ((aC xU xS).f1.f2),.string ((aC xU xS).f1.f3),.slice yL ((aC xU xS).f1.f4).length yM,.slice none 0 0]) ?_ 6 _ rfl;(with_reducible repeat (first|apply aA|apply aD|apply ay));refine aQ (cs:=#[.string ((aC xU xS).f0),.int .i64 ((aC xU xS).f1.f0),.bool ((aC xU xS).f1.f1),.int .i64 ((aC xU xS).f1.f2),.string ((aC xU xS).f1.f3),.slice none 0 0,.slice none 0 0]) ?_ 5 _ rfl;(with_reducible repeat (first|apply aA|apply aD|apply ay));refine aQ (cs:=#[.string ((aC xU xS).f0),.int .i64 ((aC xU xS).f1.f0),.bool ((aC xU xS).f1.f1),.int .i64 ((aC xU xS).f1.f2),.string (⟨#[]⟩ : ByteArray),.slice none 0 0,.slice none 0 0]) ?_ 4 _ rfl;(with_reducible repeat (first|apply aA|apply aD|apply ay));refine aQ (cs:=#[.string ((aC xU xS).f0),.int .i64 ((aC xU xS).f1.f0),.bool ((aC xU xS).f1.f1),.int .i64 0,.string (⟨#[]⟩ : ByteArray),.slice none 0 0,.slice none 0 0]) ?_ 3 _ rfl;(with_reducible repeat (first|apply aA|apply aD|apply ay));refine aQ (cs:=#[.string ((aC xU xS).f0),.int .i64 ((aC xU xS).f1.f0),.bool false,.int .i64 0,.string (⟨#[]⟩ : ByteArray),.slice none 0 0,.slice none 0 0]) ?_ 2 _ rfl;(with_reducible repeat (first|apply aA|apply aD|apply ay));refine aQ (cs:=#[.string ((aC xU xS).f0),.int .i64 0,.bool false,.int .i64 0,.string (⟨#[]⟩ : ByteArray),.slice none 0 0,.slice none 0 0]) ?_ 1 _ rfl;(with_reducible repeat (first|apply aA|apply aD|apply ay));refine aQ (cs:=#[.string (⟨#[]⟩ : ByteArray),.int .i64 0,.bool false,.int .i64 0,.string (⟨#[]⟩ : ByteArray),.slice none 0 0,.slice none 0 0]) ?_ 0 _ rfl;(with_reducible repeat (first|apply aA|apply aD|apply ay));exact yj.out))⟩;have Ap : Aside0 (Below w.heap.size w zT):=⟨(by rw [hw];exact (by repeat (first|(with_reducible first|exact HB.out|apply av|apply ak|apply au|refine aG ?_ yT.out|refine aG ?_ zR.out)|exact HB.out)))⟩;clear hw;clear zF;clear yG;clear yD;clear yE;clear yN;clear yO;clear yg;clear yj;clear HB;have zF:=zl;have yG:=zm;have yD:=zn;have yE:=zo;have yN:=zC;have yO:=zD;have yg:=Af;have yj:=Ag;have HB:=Ap;clear zl zm zn zo zC zD Af Ag Ap;have EA : zT.cell? ⟨xV,0,none⟩ = some (.string ((aC xU xS).f0)):=(ah yj.out 0).trans rfl;have EB : zT.cell? ⟨xV,1,none⟩ = some (.int .i64 ((aC xU xS).f1.f0)):=(ah yj.out 1).trans rfl;have EC : zT.cell? ⟨xV,2,none⟩ = some (.bool ((aC xU xS).f1.f1)):=(ah yj.out 2).trans rfl;have ED : zT.cell? ⟨xV,3,none⟩ = some (.int .i64 ((aC xU xS).f1.f2)):=(ah yj.out 3).trans rfl;have EF : zT.cell? ⟨xV,4,none⟩ = some (.string ((aC xU xS).f1.f3)):=(ah yj.out 4).trans rfl;have EG : zT.cell? ⟨xV,5,none⟩ = some (.slice yL ((aC xU xS).f1.f4).length yM):=(ah yj.out 5).trans rfl;have EH : zT.cell? ⟨xV,6,none⟩ = some (.slice yP ((aC xU xS).f1.f5).length yQ):=(ah yj.out 6).trans rfl;have EI:=aj yj.out 0;have EJ:=aj yj.out 1;have EK:=aj yj.out 2;have EL:=aj yj.out 3;have EM:=aj yj.out 4;have EN:=aj yj.out 5;have EO:=aj yj.out 6)|((with_reducible refine ow (b:=.append) (xs:=#[.tmp 21,.tmp 24]) rfl ?_);at_builtin;refine Kd.sD k29 (w0:=w) w.heap.size rfl (.tmp 21) (.tmp 24) 26 29 (.agg #[(.int .i64 0),(.bool false),(.int .i64 0),(.string ⟨#[]⟩),(.slice none 0 0),(.slice none 0 0)]) 88 rfl Tryd.underlying26 jD rfl (by decide) (by omega) u3 zU (⟨(aC xU xS).f1.f0,(aC xU xS).f1.f1,(aC xU xS).f1.f2,(aC xU xS).f1.f3,(aC xU xS).f1.f4,(aC xU xS).f1.f5⟩ : S29) [.int .i64 ((aC xU xS).f1.f0),.bool ((aC xU xS).f1.f1),.int .i64 ((aC xU xS).f1.f2),.string ((aC xU xS).f1.f3),.slice yL ((aC xU xS).f1.f4).length yM,.slice yP ((aC xU xS).f1.f5).length yQ] (fun k_=>((yB k_ ∨ yC k_) ∨ w.heap.size ≤ k_) ∧ k_ ≠ xZ ∧ k_ ≠ xV) (fun k_=>((fun k_=>((yB k_ ∨ yC k_) ∨ w.heap.size ≤ k_) ∧ k_ ≠ xZ ∧ k_ ≠ xV)) k_ ∧ some k_ ≠ (u3 : Value).ownBlock) rfl rfl ?aP (fun _ hk=>hk) ?aF ?aO ?aB ?aS ?aL ?_;(case aP=>exact (iI _ _ (⟨(aC xU xS).f1.f0,(aC xU xS).f1.f1,(aC xU xS).f1.f2,(aC xU xS).f1.f3,(aC xU xS).f1.f4,(aC xU xS).f1.f5⟩ : S29) (Kd.bM (Kd.bI (ok':=(fun k_=>((fun k_=>((yB k_ ∨ yC k_) ∨ w.heap.size ≤ k_) ∧ k_ ≠ xZ ∧ k_ ≠ xV)) k_ ∧ some k_ ≠ (u3 : Value).ownBlock)) (yN.out) (fun k_ hk=>⟨⟨hk.1,⟨hk.2.2.1,hk.2.2.2⟩⟩,hk.2.1⟩))).2.1 (Kd.V_F (Kd.bI (ok':=(fun k_=>((fun k_=>((yB k_ ∨ yC k_) ∨ w.heap.size ≤ k_) ∧ k_ ≠ xZ ∧ k_ ≠ xV)) k_ ∧ some k_ ≠ (u3 : Value).ownBlock)) (yN.out) (fun k_ hk=>⟨⟨hk.1,⟨hk.2.2.1,hk.2.2.2⟩⟩,hk.2.1⟩))) (Kd.bM (Kd.bI (ok':=(fun k_=>((fun k_=>((yB k_ ∨ yC k_) ∨ w.heap.size ≤ k_) ∧ k_ ≠ xZ ∧ k_ ≠ xV)) k_ ∧ some k_ ≠ (u3 : Value).ownBlock)) (yO.out) (fun k_ hk=>⟨⟨hk.1,⟨hk.2.2.1,hk.2.2.2⟩⟩,hk.2.1⟩))).2.1 (Kd.V_F (Kd.bI (ok':=(fun k_=>((fun k_=>((yB k_ ∨ yC k_) ∨ w.heap.size ≤ k_) ∧ k_ ≠ xZ ∧ k_ ≠ xV)) k_ ∧ some k_ ≠ (u3 : Value).ownBlock)) (yO.out) (fun k_ hk=>⟨⟨hk.1,⟨hk.2.2.1,hk.2.2.2⟩⟩,hk.2.1⟩)))));(case aB=>exact (by repeat (first|(with_reducible first|exact HB.out|apply av|apply ak|apply au|refine aG ?_ yT.out|refine aG ?_ zR.out)|exact HB.out)));(case aF=>exact (fun k_ hk=>⟨(.inr (Nat.le_trans (aM (by repeat (first|(with_reducible first|exact HB.out|apply av|apply ak|apply au|refine aG ?_ yT.out|refine aG ?_ zR.out)|exact HB.out))) hk)),Kd.jr (g:=xZ) (o:=.cells #[.int .i64 yh,.bool yw,.int .i64 yx,.string yA,.slice yH yt.length yI,.slice (some zq) xU.length yF] 29 (0,0)) (bk_ yg.out) k_ hk,Kd.jr (g:=xV) (o:=.cells #[.string ((aC xU xS).f0),.int .i64 ((aC xU xS).f1.f0),.bool ((aC xU xS).f1.f1),.int .i64 ((aC xU xS).f1.f2),.string ((aC xU xS).f1.f3),.slice yL ((aC xU xS).f1.f4).length yM,.slice yP ((aC xU xS).f1.f5).length yQ] 48 (0,0)) (bk_ yj.out) k_ hk⟩));(case aO=>exact (by (with_reducible repeat (first|apply Kd.dK|apply Kd.dL|apply Kd.dS));exact zF.out));(case aS=>exact (aM (by repeat (first|(with_reducible first|exact HB.out|apply av|apply ak|apply au|refine aG ?_ yT.out|refine aG ?_ zR.out)|exact HB.out))));(case aL=>have:=DC.out;omega);intro v117 Da ho hb hg hat;rw [← DI.out] at ho;have zl:=Aside0.mk (Kd.jN (ok:=(fun k_=>((yB k_ ∨ yC k_) ∨ w.heap.size ≤ k_) ∧ k_ ≠ xZ ∧ k_ ≠ xV)) (by (with_reducible repeat (first|apply Kd.bC|apply Kd.bD|apply Kd.bL));exact Kd.bI yG.out (fun _ hk=>⟨⟨hk.1,⟨hk.2.2.1,hk.2.2.2⟩⟩,hk.2.1⟩)) hg hat);have zm:=Aside0.mk (Kd.jN (ok:=(fun k_=>((yB k_ ∨ yC k_) ∨ w.heap.size ≤ k_) ∧ k_ ≠ xZ ∧ k_ ≠ xV)) (by (with_reducible repeat (first|apply Kd.bC|apply Kd.bD|apply Kd.bL));exact Kd.bI yD.out (fun _ hk=>⟨⟨hk.1,⟨hk.2.2.1,hk.2.2.2⟩⟩,hk.2.1⟩)) hg hat);have zn:=Aside0.mk (Kd.jN (ok:=(fun k_=>((yB k_ ∨ yC k_) ∨ w.heap.size ≤ k_) ∧ k_ ≠ xZ ∧ k_ ≠ xV)) (by (with_reducible repeat (first|apply Kd.bC|apply Kd.bD|apply Kd.bL));exact Kd.bI yE.out (fun _ hk=>⟨⟨hk.1,⟨hk.2.2.1,hk.2.2.2⟩⟩,hk.2.1⟩)) hg hat);have zo:=Aside0.mk (dU (g:=xZ) (o:=.cells #[.int .i64 yh,.bool yw,.int .i64 yx,.string yA,.slice yH yt.length yI,.slice (some zq) xU.length yF] 29 (0,0)) (bk_ yg.out) hg (Kd.vF zF.out (fun _ hk=>hk.2.1)));have zC:=Aside0.mk (Kd.jN (ok:=(fun k_=>((yB k_ ∨ yC k_) ∨ w.heap.size ≤ k_) ∧ k_ ≠ xZ ∧ k_ ≠ xV)) (by (with_reducible repeat (first|apply Kd.bC|apply Kd.bD|apply Kd.bL));exact Kd.bI yN.out (fun _ hk=>⟨⟨hk.1,⟨hk.2.2.1,hk.2.2.2⟩⟩,hk.2.1⟩)) hg hat);have zD:=Aside0.mk (Kd.jN (ok:=(fun k_=>((yB k_ ∨ yC k_) ∨ w.heap.size ≤ k_) ∧ k_ ≠ xZ ∧ k_ ≠ xV)) (by (with_reducible repeat (first|apply Kd.bC|apply Kd.bD|apply Kd.bL));exact Kd.bI yO.out (fun _ hk=>⟨⟨hk.1,⟨hk.2.2.1,hk.2.2.2⟩⟩,hk.2.1⟩)) hg hat);have Af:=Aside0.mk (dU (g:=xV) (o:=.cells #[.string ((aC xU xS).f0),.int .i64 ((aC xU xS).f1.f0),.bool ((aC xU xS).f1.f1),.int .i64 ((aC xU xS).f1.f2),.string ((aC xU xS).f1.f3),.slice yL ((aC xU xS).f1.f4).length yM,.slice yP ((aC xU xS).f1.f5).length yQ] 48 (0,0)) (bk_ yj.out) hg (Kd.xI zF.out yj.out (by decide)));have Ag:=Aside0.mk (hb);have Ap:=Aside0.mk (ho);clear yG;clear yD;clear yE;clear yg;clear yN;clear yO;clear yj;clear HB;clear zF;have yG:=zl;have yD:=zm;have yE:=zn;have yg:=zo;have yN:=zC;have yO:=zD;have yj:=Af;have HB:=Ag;have DR:=Ap;clear zl zm zn zo zC zD Af Ag Ap;clear ho hb hg hat))
         go_roundg k1
         case measure=>have:=Fy.out;omega
         case rel=>exact ⟨(DF),(wrap64 (xS + 1)),(by first|rfl|(simp;done)|(simp [*];done)),H',⟨by have:=Fy.out;omega⟩,⟨by (with_reducible repeat (first|apply Kd.dK|apply Kd.dL|apply Kd.dS));exact Kd.dG DR.out (fun _ hk=>⟨hk.1,hk.2.1⟩)⟩,⟨by (with_reducible repeat (first|apply Kd.bC|apply Kd.bD|apply Kd.bL));exact Kd.bI yG.out (fun _ hk=>⟨hk.1.1,⟨hk.2,hk.1.2.1⟩⟩)⟩,⟨by (with_reducible repeat (first|apply Kd.bC|apply Kd.bD|apply Kd.bL));exact Kd.bI yD.out (fun _ hk=>⟨hk.1.1,⟨hk.2,hk.1.2.1⟩⟩)⟩,⟨by (with_reducible repeat (first|apply Kd.bC|apply Kd.bD|apply Kd.bL));exact Kd.bI yE.out (fun _ hk=>⟨hk.1.1,⟨hk.2,hk.1.2.1⟩⟩)⟩,⟨by (with_reducible repeat (first|apply aA|apply aD|apply ay));exact yg.out⟩,⟨by repeat (first|(with_reducible first|exact HB.out|apply av|apply ak|apply au|refine aG ?_ yT.out|refine aG ?_ zR.out)|exact HB.out)⟩⟩
        ·rw [if_neg c11] at H
         exact absurd H (by simp)
       ·rw [if_neg c10] at H
        exact absurd H (by simp)
      ·rw [if_neg c9] at H
       exact absurd H (by simp)
     ·rw [if_neg c8] at H
      have c8b0 : decide (xS < (xU.length : Int)) = false:=decide_eq_false c8
      clear c8
      obtain rfl:=Option.some.inj H
      go_wp2
      go_ret
      exact ⟨_,by first|rfl|(simp [aX,aY] <;> rfl)|(simp [*,aX,aY] <;> rfl),Kd.N_V (by (with_reducible repeat (first|apply Kd.dK|apply Kd.dL|apply Kd.dS));exact Kd.dG zF.out (fun _ hk=>hk.1)),by repeat (first|(with_reducible first|exact HB.out|apply av|apply ak|apply au|refine aG ?_ yT.out)|exact HB.out)⟩
  ·rw [if_neg c5] at H
   have c5b0 : (yh == 5) = false:=beq_eq_false_iff_ne.mpr c5
   have c5b1 : (yh != 5) = true:=bne_iff_ne.mpr c5
   obtain rfl:=Option.some.inj H
   go_enter Tryd.func36,Tryd.ntmps36
   go_wp2_with (first|((with_reducible refine bH (N:=1) rfl ?_);refine bF ?hg (N:=1) ?hd (cs:=#[.int .i64 yh,.bool yw,.int .i64 yx,.string yA,.slice yH yt.length yI,.slice yK xU.length yF]) (t:=29) ?hr ?_;(case hd=>rfl);(case hg=>rfl);(case hr=>first|(go_simp;done)|(go_simp;rfl));intro xZ hg Dv hbox hb;have zl:=Aside0.mk (Kd.bB (Kd.dw (by (with_reducible repeat (first|apply Kd.bC|apply Kd.bD|apply Kd.bL));exact zf.out) xZ (Nat.le_of_eq hg.symm)) hb);have zm:=Aside0.mk (Kd.bB (Kd.dw (by (with_reducible repeat (first|apply Kd.bC|apply Kd.bD|apply Kd.bL));exact zh.out) xZ (Nat.le_of_eq hg.symm)) hb);have zn:=Aside0.mk (aK (by repeat (first|(with_reducible first|exact HB.out|apply av|apply ak|apply au)|exact HB.out)) hb);have zo:=Aside0.mk (hbox);have zC:=Aside0.mk ((by rw [hg];exact (aM (by repeat (first|(with_reducible first|exact HB.out|apply av|apply ak|apply au)|exact HB.out))) : w.heap.size ≤ xZ));have zD:=Aside0.mk ((by rw [hg];exact (aM (by repeat (first|(with_reducible first|exact HB.out|apply av|apply ak|apply au)|exact HB.out))) : w.heap.size ≤ xZ));clear zf;clear zh;clear HB;have zf:=zl;have zh:=zm;have HB:=zn;have yg:=zo;have Cj:=zC;have yT:=zD;clear zl zm zn zo zC zD;clear hb hbox hg;have BD : Dv.cell? ⟨xZ,0,none⟩ = some (.int .i64 yh):=(ah yg.out 0).trans rfl;have BF : Dv.cell? ⟨xZ,1,none⟩ = some (.bool yw):=(ah yg.out 1).trans rfl;have BG : Dv.cell? ⟨xZ,2,none⟩ = some (.int .i64 yx):=(ah yg.out 2).trans rfl;have BH : Dv.cell? ⟨xZ,3,none⟩ = some (.string yA):=(ah yg.out 3).trans rfl;have BI : Dv.cell? ⟨xZ,4,none⟩ = some (.slice yH yt.length yI):=(ah yg.out 4).trans rfl;have BJ : Dv.cell? ⟨xZ,5,none⟩ = some (.slice yK xU.length yF):=(ah yg.out 5).trans rfl;have BK:=aj yg.out 0;have BL:=aj yg.out 1;have BM:=aj yg.out 2;have BN:=aj yg.out 3;have BO:=aj yg.out 4;have BP:=aj yg.out 5))
   go_ret
   exact ⟨_,by first|rfl|(simp [aX,aY] <;> rfl)|(simp [*,aX,aY] <;> rfl),(Kd.eT _ _ _ _ _),by repeat (first|(with_reducible first|exact HB.out|apply av|apply ak|apply au|refine aG ?_ yT.out)|exact HB.out)⟩
mutual
def aR.j0 : Nat → Bool → Int → Bool → Int → ByteArray → List (S29) → List (S48) → Option (Int)
 | 0,_,_,_,_,_,_,_=>none
 | k + 1,FQ,BQ,BR,BS,BU,BZ,Ca=>if FQ = true then (some 0) else ((bf.f k BQ BR BS BU BZ Ca).bind fun xX=>(aR.l0 k 0 xX (xX.length : Int) 0))
def aR.l0 : Nat → Int → List (S29) → Int → Int → Option (Int)
 | 0,_,_,_,_=>none
 | k + 1,x3,zP,Dx,zG=>if zG < Dx then (if 0 ≤ zG then (if zG < (zP.length : Int) then ((aR.f k ((aH zP zG).f0) ((aH zP zG).f1) ((aH zP zG).f2) ((aH zP zG).f3) ((aH zP zG).f4) ((aH zP zG).f5)).bind fun zW=>(aR.l0 k (mx x3 zW) zP Dx (wrap64 (zG + 1)))) else (none)) else (none)) else (some (wrap64 (x3 + 1)))
def aR.f : Nat → Int → Bool → Int → ByteArray → List (S29) → List (S48) → Option (Int)
 | 0,_,_,_,_,_,_=>none
 | k + 1,yh,yw,yx,yA,yt,xU=>if yh = 4 then (aR.j0 k false yh yw yx yA yt xU) else (aR.j0 k (yh != 5) yh yw yx yA yt xU)
end
theorem aR.eG : ∀ k,(∀ y0 y1 y2 y3 y4 y5,LeO (aR.f k y0 y1 y2 y3 y4 y5) (aR.f (k + 1) y0 y1 y2 y3 y4 y5)) ∧ (∀ y0 y1 y2 y3 y4 y5 y6,LeO (aR.j0 k y0 y1 y2 y3 y4 y5 y6) (aR.j0 (k + 1) y0 y1 y2 y3 y4 y5 y6)) ∧ (∀ y0 y1 y2 y3,LeO (aR.l0 k y0 y1 y2 y3) (aR.l0 (k + 1) y0 y1 y2 y3))
 | 0=>⟨fun _ _ _ _ _ _ r h=>by simp [aR.f] at h,fun _ _ _ _ _ _ _ r h=>by simp [aR.j0] at h,fun _ _ _ _ r h=>by simp [aR.l0] at h⟩
 | k + 1=>by
  obtain ⟨zZ,ih1,ih2⟩:=aR.eG k
  refine ⟨?_,?_,?_⟩
  ·intro y0 y1 y2 y3 y4 y5
   unfold aR.f
   repeat' first
   | (with_reducible exact zZ _ _ _ _ _ _)
   | (with_reducible exact ih1 _ _ _ _ _ _ _)
   | (with_reducible exact ih2 _ _ _ _)
   | (with_reducible exact bf.mono _ _ _ _ _ _ _)
   | (with_reducible exact LeO.refl _)
   | (with_reducible exact LeO.none _)
   | (with_reducible refine LeO.ite ?_ ?_)
   | (with_reducible refine LeO.bind ?_ (fun _=>?_))
   | exact zZ _ _ _ _ _ _
   | exact ih1 _ _ _ _ _ _ _
   | exact ih2 _ _ _ _
   | exact bf.mono _ _ _ _ _ _ _
   | exact LeO.none _
   | refine LeO.ite ?_ ?_
   | refine LeO.bind ?_ (fun _=>?_)
  ·intro y0 y1 y2 y3 y4 y5 y6
   unfold aR.j0
   repeat' first
   | (with_reducible exact zZ _ _ _ _ _ _)
   | (with_reducible exact ih1 _ _ _ _ _ _ _)
   | (with_reducible exact ih2 _ _ _ _)
   | (with_reducible exact bf.mono _ _ _ _ _ _ _)
   | (with_reducible exact LeO.refl _)
   | (with_reducible exact LeO.none _)
   | (with_reducible refine LeO.ite ?_ ?_)
   | (with_reducible refine LeO.bind ?_ (fun _=>?_))
   | exact zZ _ _ _ _ _ _
   | exact ih1 _ _ _ _ _ _ _
   | exact ih2 _ _ _ _
   | exact bf.mono _ _ _ _ _ _ _
   | exact LeO.none _
   | refine LeO.ite ?_ ?_
   | refine LeO.bind ?_ (fun _=>?_)
  ·intro y0 y1 y2 y3
   unfold aR.l0
   repeat' first
   | (with_reducible exact zZ _ _ _ _ _ _)
   | (with_reducible exact ih1 _ _ _ _ _ _ _)
   | (with_reducible exact ih2 _ _ _ _)
   | (with_reducible exact bf.mono _ _ _ _ _ _ _)
   | (with_reducible exact LeO.refl _)
   | (with_reducible exact LeO.none _)
   | (with_reducible refine LeO.ite ?_ ?_)
   | (with_reducible refine LeO.bind ?_ (fun _=>?_))
   | exact zZ _ _ _ _ _ _
   | exact ih1 _ _ _ _ _ _ _
   | exact ih2 _ _ _ _
   | exact bf.mono _ _ _ _ _ _ _
   | exact LeO.none _
   | refine LeO.ite ?_ ?_
   | refine LeO.bind ?_ (fun _=>?_)
theorem aR.mono : ∀ a0 a1 a2 a3 a4 a5 k,LeO (aR.f k a0 a1 a2 a3 a4 a5) (aR.f (k + 1) a0 a1 a2 a3 a4 a5):=by
 intro a0 a1 a2 a3 a4 a5 k
 obtain ⟨zZ,ih1,ih2⟩:=aR.eG k
 exact zZ a0 a1 a2 a3 a4 a5
set_option maxHeartbeats 8000000 in
set_option maxRecDepth 100000 in
theorem aR.calls (k : Nat) : ∀ (yh : Int) (yw : Bool) (yx : Int) (yA : ByteArray) (yH : Option Addr) (yI : Nat) (yt : List (S29)) (yK : Option Addr) (yF : Nat) (xU : List (S48)) (r : Int) (w : World) (Au : Kd.C k29 w yH yt.length yt) (Av : yt.length ≤ yI) (AA : Kd.C k48 w yK xU.length xU) (AB : xU.length ≤ yF) (h : aR.f k yh yw yx yA yt xU = some r),
  Calls Tryd.prog 22 #[.agg #[.int .i64 yh,.bool yw,.int .i64 yx,.string yA,.slice yH yt.length yI,.slice yK xU.length yF]] w fun e w'=>e = .returned (.int .i64 r) ∧ Below w.heap.size w w':=by
 induction k using Nat.strongRecOn with
 | _ k ih =>
 intro yh yw yx yA yH yI yt yK yF xU r w Au Av AA AB h
 cases k with
 | zero=>exact absurd h (by simp [aR.f])
 | succ k =>
 simp only [aR.f] at h
 have Fa:=Tryd.underlying29
 have DT:=Aside0.mk Au
 have DU:=Aside0.mk Av
 clear Au Av
 have DV:=Aside0.mk AA
 have DW:=Aside0.mk AB
 clear AA AB
 have HB:=Aside0.mk (Below.refl w.heap.size w)
 have H : (if yh = 4 then (aR.j0 k false yh yw yx yA yt xU) else (aR.j0 k (yh != 5) yh yw yx yA yt xU)) = some r:=h
 clear h
 have Fg:=Aside0.mk H
 clear H
 go_enter Tryd.func22,Tryd.ntmps22
 go_upto_region 1 with (first|((with_reducible refine bH (N:=1) rfl ?_);refine bF ?hg (N:=1) ?hd (cs:=#[.int .i64 yh,.bool yw,.int .i64 yx,.string yA,.slice yH yt.length yI,.slice yK xU.length yF]) (t:=29) ?hr ?_;(case hd=>rfl);(case hg=>rfl);(case hr=>first|(go_simp;done)|(go_simp;rfl));intro yu hg w3 hbox hb;have zl:=Aside0.mk (aK (by repeat (first|(with_reducible first|exact HB.out|apply av|apply ak|apply au)|exact HB.out)) hb);have zm:=Aside0.mk (hbox);have zn:=Aside0.mk ((by rw [hg];exact (aM (by repeat (first|(with_reducible first|exact HB.out|apply av|apply ak|apply au)|exact HB.out))) : w.heap.size ≤ yu));have zo:=Aside0.mk ((by rw [hg];exact (aM (by repeat (first|(with_reducible first|exact HB.out|apply av|apply ak|apply au)|exact HB.out))) : w.heap.size ≤ yu));clear HB;have HB:=zl;have yc:=zm;have Cm:=zn;have yU:=zo;clear zl zm zn zo;clear hb hbox hg))
 (try simp only [Act.put,List.setIfInBounds_toArray,List.set_cons_zero,List.set_cons_succ])
 go_cut [13] (fun v13 wc=>∃ (kq : Nat) (Ah : Bool),v13 = .bool Ah ∧ Aside0 (aR.j0 kq Ah yh yw yx yA yt xU = some r) ∧ Aside0 (kq ≤ k) ∧ Aside0 (wc.heap[yu]? = some (.cells #[.int .i64 yh,.bool yw,.int .i64 yx,.string yA,(.slice yH yt.length yI),(.slice yK xU.length yF)] 29 (0,0))) ∧ Aside0 (Below w.heap.size w wc))
 case first =>
  have H:=Fg.out
  clear Fg
  by_cases c4 : yh = 4
  ·rw [if_pos c4] at H
   have c4b0 : (yh == 4) = true:=beq_iff_eq.mpr c4
   have c4b1 : (yh != 4) = false:=bne_eq_false_iff_eq.mpr c4
   clear c4
   (first|rw [c4b0]|(simp only [aT,aU];rw [c4b0])|skip)
   have H':=Aside0.mk H
   clear H
   have AJ : w3.cell? ⟨yu,0,none⟩ = some (.int .i64 yh):=(ah yc.out 0).trans rfl
   have AL : w3.cell? ⟨yu,1,none⟩ = some (.bool yw):=(ah yc.out 1).trans rfl
   have AO : w3.cell? ⟨yu,2,none⟩ = some (.int .i64 yx):=(ah yc.out 2).trans rfl
   have AP : w3.cell? ⟨yu,3,none⟩ = some (.string yA):=(ah yc.out 3).trans rfl
   have AQ : w3.cell? ⟨yu,4,none⟩ = some (.slice yH yt.length yI):=(ah yc.out 4).trans rfl
   have AU : w3.cell? ⟨yu,5,none⟩ = some (.slice yK xU.length yF):=(ah yc.out 5).trans rfl
   have AV:=aj yc.out 0
   have AX:=aj yc.out 1
   have AY:=aj yc.out 2
   have AZ:=aj yc.out 3
   have Ba:=aj yc.out 4
   have Bb:=aj yc.out 5
   go_wp2
   go_meet
   case rel=>exact ⟨_,(false),(by first|rfl|(simp;done)|(simp [*];done)),H',⟨by first|omega|exact Nat.le_refl _⟩,⟨by (with_reducible repeat (first|apply aA|apply aD|apply ay));exact yc.out⟩,⟨by repeat (first|(with_reducible first|exact HB.out|apply av|apply ak|apply au|refine aG ?_ yU.out)|exact HB.out)⟩⟩
  ·rw [if_neg c4] at H
   have c4b0 : (yh == 4) = false:=beq_eq_false_iff_ne.mpr c4
   have c4b1 : (yh != 4) = true:=bne_iff_ne.mpr c4
   (first|rw [c4b0]|(simp only [aT,aU];rw [c4b0])|skip)
   have H':=Aside0.mk H
   clear H
   have Bc : w3.cell? ⟨yu,0,none⟩ = some (.int .i64 yh):=(ah yc.out 0).trans rfl
   have Bd : w3.cell? ⟨yu,1,none⟩ = some (.bool yw):=(ah yc.out 1).trans rfl
   have Bf : w3.cell? ⟨yu,2,none⟩ = some (.int .i64 yx):=(ah yc.out 2).trans rfl
   have Bg : w3.cell? ⟨yu,3,none⟩ = some (.string yA):=(ah yc.out 3).trans rfl
   have Bh : w3.cell? ⟨yu,4,none⟩ = some (.slice yH yt.length yI):=(ah yc.out 4).trans rfl
   have Bj : w3.cell? ⟨yu,5,none⟩ = some (.slice yK xU.length yF):=(ah yc.out 5).trans rfl
   have Bl:=aj yc.out 0
   have Bn:=aj yc.out 1
   have Bo:=aj yc.out 2
   have Bp:=aj yc.out 3
   have Bq:=aj yc.out 4
   have Br:=aj yc.out 5
   go_wp2
   go_meet
   case rel=>exact ⟨_,((yh != 5)),(by first|rfl|(simp;done)|(simp [*];done)),H',⟨by first|omega|exact Nat.le_refl _⟩,⟨by (with_reducible repeat (first|apply aA|apply aD|apply ay));exact yc.out⟩,⟨by repeat (first|(with_reducible first|exact HB.out|apply av|apply ak|apply au|refine aG ?_ yU.out)|exact HB.out)⟩⟩
 case rest =>
  clear Fg
  try clear c2
  try clear p2
  try clear c4
  try clear c4b0
  try clear c4b1
  try clear AJ
  try clear AL
  try clear AO
  try clear AP
  try clear AQ
  try clear AU
  try clear Bc
  try clear Bd
  try clear Bf
  try clear Bg
  try clear Bh
  try clear Bj
  try clear AV
  try clear AX
  try clear AY
  try clear AZ
  try clear Ba
  try clear Bb
  try clear Bl
  try clear Bn
  try clear Bo
  try clear Bp
  try clear Bq
  try clear Br
  obtain ⟨kq,Ah,rfl,HA,Fh,yc,HB⟩:=hcut
  cases kq with
  | zero=>exact absurd HA.out (by simp [aR.j0])
  | succ Dw =>
   have H:=HA.out
   clear HA
   simp only [aR.j0] at H
   by_cases c7 : Ah = true
   ·subst c7
    have H1 : (some 0) = some r:=by rw [if_pos rfl] at H;exact H
    clear H
    have H:=H1
    clear H1
    obtain rfl:=Option.some.inj H
    go_wp2
    go_ret
    exact ⟨by first|rfl|(simp [aX,aY] <;> rfl)|(simp [*,aX,aY] <;> rfl),by repeat (first|(with_reducible first|exact HB.out|apply av|apply ak|apply au|refine aG ?_ yU.out)|exact HB.out)⟩
   ·replace c7:=Bool.eq_false_iff.mpr c7
    subst c7
    have H1 : ((bf.f Dw yh yw yx yA yt xU).bind fun xX=>(aR.l0 Dw 0 xX (xX.length : Int) 0)) = some r:=by rw [if_neg (show ¬ (false = true) by decide)] at H;exact H
    clear H
    have H:=H1
    clear H1
    replace H:=Option.bind_eq_some_iff.mp H
    obtain ⟨xX,FE,H⟩:=H
    replace H : (aR.l0 Dw 0 xX (xX.length : Int) 0) = some r:=H
    have A8:=Aside0.mk FE
    clear FE
    have H':=Aside0.mk H
    clear H
    have Db : wc.cell? ⟨yu,0,none⟩ = some (.int .i64 yh):=(ah yc.out 0).trans rfl
    have Dc : wc.cell? ⟨yu,1,none⟩ = some (.bool yw):=(ah yc.out 1).trans rfl
    have Df : wc.cell? ⟨yu,2,none⟩ = some (.int .i64 yx):=(ah yc.out 2).trans rfl
    have Dh : wc.cell? ⟨yu,3,none⟩ = some (.string yA):=(ah yc.out 3).trans rfl
    have Di : wc.cell? ⟨yu,4,none⟩ = some (.slice yH yt.length yI):=(ah yc.out 4).trans rfl
    have Dj : wc.cell? ⟨yu,5,none⟩ = some (.slice yK xU.length yF):=(ah yc.out 5).trans rfl
    have Dk:=aj yc.out 0
    have Dl:=aj yc.out 1
    have Dm:=aj yc.out 2
    have Dn:=aj yc.out 3
    have Dp:=aj yc.out 4
    have Dq:=aj yc.out 5
    go_wp2_with (first|((with_reducible refine bV (f:=36) rfl ?_);refine dM (some 15) rfl rfl Tryd.func36 (by kernel_rfl) rfl #[.agg #[.int .i64 yh,.bool yw,.int .i64 yx,.string yA,.slice yH yt.length yI,.slice yK xU.length yF]] rfl (by (try simp only [List.map_toArray,List.map_cons,List.map_nil]);first|done|rfl|(simp only [List.length_drop,List.length_take];rfl)|(simp (disch:=first|omega|(simp at *;omega)) only [eD,eB,fU];rfl)) ?_;(with_reducible refine (bf.calls Dw yh yw yx yA (fun k_=>k_ < w.heap.size) _ _ yt (fun k_=>k_ < w.heap.size) _ _ xU xX _ ?Bt ?Bu A8.out).mono ?_);(case Bt=>exact Kd.jc DU.out (Kd.gZ (Kd.C_F mX DT.out) (by repeat (first|(with_reducible first|exact HB.out|apply av|apply ak|apply au|refine aG ?_ yU.out)|exact HB.out))));(case Bu=>exact Kd.jc DW.out (Kd.gZ (Kd.C_F o7 DV.out) (by repeat (first|(with_reducible first|exact HB.out|apply av|apply ak|apply au|refine aG ?_ yU.out)|exact HB.out))));rintro e FU ⟨FR,rfl,ho0,hb⟩;refine ⟨_,rfl,?_⟩;have zl:=Aside0.mk (Kd.jm (Kd.bI (ok':=fun k_=>k_ ≠ yu) ho0 (fun k_ hk_=>Or.elim hk_ (fun hs_=>Or.elim hs_ (fun hs_=>fun e_=>Nat.not_le.2 hs_ (by rw [e_];exact Cm.out)) (fun hs_=>fun e_=>Nat.not_le.2 hs_ (by rw [e_];exact Cm.out))) (fun hn_=>(Kd.jr (g:=yu) (o:=.cells #[.int .i64 yh,.bool yw,.int .i64 yx,.string yA,.slice yH yt.length yI,.slice yK xU.length yF] 29 (0,0)) (bk_ yc.out) k_ hn_)))) (aM (by repeat (first|(with_reducible first|exact HB.out|apply av|apply ak|apply au|refine aG ?_ yU.out)|exact HB.out))));have zm:=Aside0.mk (aI (g:=yu) (o:=.cells #[.int .i64 yh,.bool yw,.int .i64 yx,.string yA,.slice yH yt.length yI,.slice yK xU.length yF] 29 (0,0)) (bk_ yc.out) hb);have zn:=Aside0.mk (aK (by repeat (first|(with_reducible first|exact HB.out|apply av|apply ak|apply au|refine aG ?_ yU.out)|exact HB.out)) hb);clear yc;clear HB;have Cn:=zl;have yc:=zm;have HB:=zn;clear zl zm zn;(try clear hb);(try clear hb2);(try clear hk);(try clear hi);(try clear ho0);obtain ⟨Fj,Fp,Fq⟩:=Kd.dJ Cn.out;subst Fq))
    go_loopg [3,17] Dw (fun kq v3 v17 w'=>∃ (zX : Int) (xW : Int),v3 = .int .i64 zX ∧ v17 = .int .i64 xW ∧ Aside0 (aR.l0 kq zX xX (xX.length : Int) xW = some r) ∧ Aside0 (kq ≤ Dw) ∧ Aside0 (Kd.V k29 29 w' w.heap.size (fun k_=>k_ ≠ yu) (.slice Fj xX.length Fp) xX) ∧ Aside0 (w'.heap[yu]? = some (.cells #[.int .i64 yh,.bool yw,.int .i64 yx,.string yA,(.slice yH yt.length yI),(.slice yK xU.length yF)] 29 (0,0))) ∧ Aside0 (Below w.heap.size w w'))
    case atStart=>exact ⟨(0),(0),(by first|rfl|(simp;done)|(simp [*];done)),(by first|rfl|(simp;done)|(simp [*];done)),H',⟨Nat.le_refl _⟩,⟨by (with_reducible repeat (first|apply Kd.bC|apply Kd.bD|apply Kd.bL));exact Cn.out⟩,⟨by (with_reducible repeat (first|apply aA|apply aD|apply ay));exact yc.out⟩,⟨by repeat (first|(with_reducible first|exact HB.out|apply av|apply ak|apply au|refine aG ?_ yU.out)|exact HB.out)⟩⟩
    case round =>
     clear H'
     try clear c2
     try clear p2
     try clear c3
     try clear c4
     try clear c4b0
     try clear c4b1
     try clear c7
     try clear AJ
     try clear AL
     try clear AO
     try clear AP
     try clear AQ
     try clear AU
     try clear Bc
     try clear Bd
     try clear Bf
     try clear Bg
     try clear Bh
     try clear Bj
     try clear Db
     try clear Dc
     try clear Df
     try clear Dh
     try clear Di
     try clear Dj
     try clear AV
     try clear AX
     try clear AY
     try clear AZ
     try clear Ba
     try clear Bb
     try clear Bl
     try clear Bn
     try clear Bo
     try clear Bp
     try clear Bq
     try clear Br
     try clear Dk
     try clear Dl
     try clear Dm
     try clear Dn
     try clear Dp
     try clear Dq
     try clear p2
     obtain ⟨zX,xW,rfl,rfl,HA,Fu,yG,yc,HB⟩:=hrel
     cases gk with
     | zero=>exact absurd HA.out (by simp [aR.l0])
     | succ k2 =>
      have H:=HA.out
      clear HA
      simp only [aR.l0] at H
      by_cases c12 : xW < (xX.length : Int)
      ·rw [if_pos c12] at H
       have c12b0 : decide (xW < (xX.length : Int)) = true:=decide_eq_true c12
       clear c12
       by_cases c13 : 0 ≤ xW
       ·rw [if_pos c13] at H
        have c13b0 : decide (0 ≤ xW) = true:=decide_eq_true c13
        clear c13
        by_cases c14 : xW < (xX.length : Int)
        ·rw [if_pos c14] at H
         have c14b0 : decide (xW < (xX.length : Int)) = true:=decide_eq_true c14
         clear c14
         replace H:=Option.bind_eq_some_iff.mp H
         obtain ⟨zW,DX,H⟩:=H
         replace H : (aR.l0 k2 (mx zX zW) xX (xX.length : Int) (wrap64 (xW + 1))) = some r:=H
         have FH:=Aside0.mk DX
         clear DX
         obtain ⟨Dr,zS⟩ : ∃ j_ : Int,(mx zX zW) = j_:=⟨_,rfl⟩
         replace H : (aR.l0 k2 Dr xX (xX.length : Int) (wrap64 (xW + 1))) = some r:=by first|(rw [zS] at H;exact H)|(simp only [zS] at H ⊢;exact H)
         (try rw [zS] at FH)
         have Fv : (if zX < zW then zW else zX) = Dr:=zS
         have H':=Aside0.mk H
         clear H
         have Cb : 0 ≤ (xW : Int):=of_decide_eq_true (by first|(with_reducible assumption)|assumption)
         have Cc : xW < (xX.length : Int):=of_decide_eq_true (by first|(with_reducible assumption)|assumption)
         obtain ⟨FI,yY,yZ,za,ze,Fw,EP,ER,ES,ET,Ce,Cg,Ai,Aj,Ak,Al⟩:=jR (Kd.bM yG.out).2.2 xW Cb Cc
         cases Fw
         obtain ⟨FJ,Dt,Du,zY⟩:=Kd.jO yG.out z29 xW Cb (by first|exact Cc|exact of_decide_eq_true (by first|(with_reducible assumption)|assumption)|(have e_:=(Kd.bM yG.out).1;omega))
         obtain ⟨EU,EW,EZ,E8,rfl,zL,zM,zN,zO⟩:=j3 Du
         have zA:=zY 4 _ rfl
         rw [bN _ _ 4 (by omega)] at zA
         replace zA:=Option.some.inj (zA.symm.trans Ce)
         injection zA with hva_ hvn_ hvc_
         rw [hva_] at zM
         rw [hvc_] at zL
         have yV:=Aside0.mk (show Kd.V k29 29 _ w.heap.size _ _ ((aH xX xW).f4) from Kd.jc zL zM)
         clear hva_ hvn_ hvc_ zM zL
         have zB:=zY 5 _ rfl
         rw [bN _ _ 5 (by omega)] at zB
         replace zB:=Option.some.inj (zB.symm.trans Cg)
         injection zB with hva_ hvn_ hvc_
         rw [hva_] at zO
         rw [hvc_] at zN
         have yX:=Aside0.mk (show Kd.V k48 48 _ w.heap.size _ _ ((aH xX xW).f5) from Kd.jc zN zO)
         clear hva_ hvn_ hvc_ zO zN
         clear zY Dt
         have zi:=Aside0.mk Aj
         have Ch:=Aside0.mk Ai
         clear Aj Ai
         have zk:=Aside0.mk Al
         have Ci:=Aside0.mk Ak
         clear Al Ak
         replace Cb:=eq_true Cb
         replace Cc:=eq_true Cc
         go_wp2_with (first|((with_reducible refine bH (N:=5) rfl ?_);refine bF ?hg (N:=5) ?hd (cs:=#[.int .i64 0,.bool false,.int .i64 0,.string (⟨#[]⟩ : ByteArray),.slice none 0 0,.slice none 0 0]) (t:=29) ?hr ?_;(case hd=>rfl);(case hg=>rfl);(case hr=>first|(go_simp;done)|(go_simp;rfl));intro xY hg Da hbox hb;have zl:=Aside0.mk (Kd.bB (Kd.dw (by (with_reducible repeat (first|apply Kd.bC|apply Kd.bD|apply Kd.bL));exact yG.out) xY (Nat.le_of_eq hg.symm)) hb);have zm:=Aside0.mk (Kd.bB (Kd.dw (by (with_reducible repeat (first|apply Kd.bC|apply Kd.bD|apply Kd.bL));exact yV.out) xY (Nat.le_of_eq hg.symm)) hb);have zn:=Aside0.mk (Kd.bB (Kd.dw (by (with_reducible repeat (first|apply Kd.bC|apply Kd.bD|apply Kd.bL));exact yX.out) xY (Nat.le_of_eq hg.symm)) hb);have zo:=Aside0.mk (aI (g:=yu) (o:=.cells #[.int .i64 yh,.bool yw,.int .i64 yx,.string yA,.slice yH yt.length yI,.slice yK xU.length yF] 29 (0,0)) (bk_ yc.out) hb);have zC:=Aside0.mk (Kd.bQ (by repeat (first|(with_reducible exact zi.out)|(with_reducible refine Kd.bW ?_ _)|(with_reducible refine Kd.bX ?_ _)|(with_reducible refine Kd.dh ?_)|exact zi.out)) hb);have zD:=Aside0.mk (Kd.bQ (by repeat (first|(with_reducible exact zk.out)|(with_reducible refine Kd.bW ?_ _)|(with_reducible refine Kd.bX ?_ _)|(with_reducible refine Kd.dh ?_)|exact zk.out)) hb);have Af:=Aside0.mk (aK (by repeat (first|(with_reducible first|exact HB.out|apply av|apply ak|apply au|refine aG ?_ yU.out)|exact HB.out)) hb);have Ag:=Aside0.mk (hbox);have Ap:=Aside0.mk ((by rw [hg];exact (aM (by repeat (first|(with_reducible first|exact HB.out|apply av|apply ak|apply au|refine aG ?_ yU.out)|exact HB.out))) : w.heap.size ≤ xY));have DJ:=Aside0.mk ((by rw [hg];exact (aM (by repeat (first|(with_reducible first|exact HB.out|apply av|apply ak|apply au|refine aG ?_ yU.out)|exact HB.out))) : w.heap.size ≤ xY));have Aq:=Aside0.mk ((by rw [hg];exact Nat.ne_of_lt (bO (g:=yu) (o:=.cells #[.int .i64 yh,.bool yw,.int .i64 yx,.string yA,.slice yH yt.length yI,.slice yK xU.length yF] 29 (0,0)) (bk_ yc.out)) : yu ≠ xY));have Ar:=Aside0.mk ((by rw [hg];exact Nat.ne_of_gt (bO (g:=yu) (o:=.cells #[.int .i64 yh,.bool yw,.int .i64 yx,.string yA,.slice yH yt.length yI,.slice yK xU.length yF] 29 (0,0)) (bk_ yc.out)) : xY ≠ yu));clear yG;clear yV;clear yX;clear yc;clear zi;clear zk;clear HB;have yG:=zl;have yV:=zm;have yX:=zn;have yc:=zo;have zi:=zC;have zk:=zD;have HB:=Af;have yS:=Ag;have FL:=Ap;have Co:=DJ;have yR:=Aq;have Ao:=Ar;clear zl zm zn zo zC zD Af Ag Ap DJ Aq Ar;clear hb hbox hg;have FM:=Ao.out;have FN:=yR.out;have BD : Da.cell? ⟨xY,0,none⟩ = some (.int .i64 0):=(ah yS.out 0).trans rfl;have BF : Da.cell? ⟨xY,1,none⟩ = some (.bool false):=(ah yS.out 1).trans rfl;have BG : Da.cell? ⟨xY,2,none⟩ = some (.int .i64 0):=(ah yS.out 2).trans rfl;have BH : Da.cell? ⟨xY,3,none⟩ = some (.string (⟨#[]⟩ : ByteArray)):=(ah yS.out 3).trans rfl;have BI : Da.cell? ⟨xY,4,none⟩ = some (.slice none 0 0):=(ah yS.out 4).trans rfl;have BJ : Da.cell? ⟨xY,5,none⟩ = some (.slice none 0 0):=(ah yS.out 5).trans rfl;have BK:=aj yS.out 0;have BL:=aj yS.out 1;have BM:=aj yS.out 2;have BN:=aj yS.out 3;have BO:=aj yS.out 4;have BP:=aj yS.out 5)|((with_reducible refine bV (f:=22) rfl ?_);refine dM (some 23) rfl rfl Tryd.func22 (by kernel_rfl) rfl #[.agg #[.int .i64 ((aH xX xW).f0),.bool ((aH xX xW).f1),.int .i64 ((aH xX xW).f2),.string ((aH xX xW).f3),.slice yY ((aH xX xW).f4).length yZ,.slice za ((aH xX xW).f5).length ze]] rfl (by (try simp only [List.map_toArray,List.map_cons,List.map_nil]);first|done|rfl|(simp only [List.length_drop,List.length_take];rfl)|(simp (disch:=first|omega|(simp at *;omega)) only [eD,eB,fU];rfl)) ?_;(with_reducible refine (ih k2 (by have:=Fh.out;have:=Fu.out;omega) ((aH xX xW).f0) ((aH xX xW).f1) ((aH xX xW).f2) ((aH xX xW).f3) _ _ ((aH xX xW).f4) _ _ ((aH xX xW).f5) zW _ ?Bt ?Bu ?DY ?DZ FH.out).mono ?_);(case Bt=>repeat (first|exact ((Kd.bM (by (with_reducible repeat (first|apply Kd.bC|apply Kd.bD|apply Kd.bL));exact (Kd.bI (Kd.bn (p:=⟨xY,5,none⟩) (Kd.bn (p:=⟨xY,4,none⟩) (Kd.bn (p:=⟨xY,3,none⟩) (Kd.bn (p:=⟨xY,2,none⟩) (Kd.bn (p:=⟨xY,1,none⟩) (Kd.bn (p:=⟨xY,0,none⟩) (Kd.bI yV.out (fun k_ hk=>(⟨hk,hk.2⟩ : _ ∧ k_ ≠ xY))) (fun _ hk=>hk.2) (.int .i64 ((aH xX xW).f0))) (fun _ hk=>hk.2) (.bool ((aH xX xW).f1))) (fun _ hk=>hk.2) (.int .i64 ((aH xX xW).f2))) (fun _ hk=>hk.2) (.string ((aH xX xW).f3))) (fun _ hk=>hk.2) (.slice yY ((aH xX xW).f4).length yZ)) (fun _ hk=>hk.2) (.slice za ((aH xX xW).f5).length ze)) (fun _ h_=>h_.1)))).2.2)|(with_reducible refine Kd.bW ?_ _)|(with_reducible refine Kd.bX ?_ _)|(with_reducible refine Kd.dh ?_)));(case Bu=>exact Ch.out);(case DY=>repeat (first|exact ((Kd.bM (by (with_reducible repeat (first|apply Kd.bC|apply Kd.bD|apply Kd.bL));exact (Kd.bI (Kd.bn (p:=⟨xY,5,none⟩) (Kd.bn (p:=⟨xY,4,none⟩) (Kd.bn (p:=⟨xY,3,none⟩) (Kd.bn (p:=⟨xY,2,none⟩) (Kd.bn (p:=⟨xY,1,none⟩) (Kd.bn (p:=⟨xY,0,none⟩) (Kd.bI yX.out (fun k_ hk=>(⟨hk,hk.2⟩ : _ ∧ k_ ≠ xY))) (fun _ hk=>hk.2) (.int .i64 ((aH xX xW).f0))) (fun _ hk=>hk.2) (.bool ((aH xX xW).f1))) (fun _ hk=>hk.2) (.int .i64 ((aH xX xW).f2))) (fun _ hk=>hk.2) (.string ((aH xX xW).f3))) (fun _ hk=>hk.2) (.slice yY ((aH xX xW).f4).length yZ)) (fun _ hk=>hk.2) (.slice za ((aH xX xW).f5).length ze)) (fun _ h_=>h_.1)))).2.2)|(with_reducible refine Kd.bW ?_ _)|(with_reducible refine Kd.bX ?_ _)|(with_reducible refine Kd.dh ?_)));(case DZ=>exact Ci.out);rintro e FV ⟨rfl,hb⟩;refine ⟨_,rfl,?_⟩;have zl:=Aside0.mk (Kd.bB (by (with_reducible repeat (first|apply Kd.bC|apply Kd.bD|apply Kd.bL));exact (Kd.bI (Kd.bn (p:=⟨xY,5,none⟩) (Kd.bn (p:=⟨xY,4,none⟩) (Kd.bn (p:=⟨xY,3,none⟩) (Kd.bn (p:=⟨xY,2,none⟩) (Kd.bn (p:=⟨xY,1,none⟩) (Kd.bn (p:=⟨xY,0,none⟩) (Kd.bI yG.out (fun k_ hk=>(⟨hk,hk.2⟩ : _ ∧ k_ ≠ xY))) (fun _ hk=>hk.2) (.int .i64 ((aH xX xW).f0))) (fun _ hk=>hk.2) (.bool ((aH xX xW).f1))) (fun _ hk=>hk.2) (.int .i64 ((aH xX xW).f2))) (fun _ hk=>hk.2) (.string ((aH xX xW).f3))) (fun _ hk=>hk.2) (.slice yY ((aH xX xW).f4).length yZ)) (fun _ hk=>hk.2) (.slice za ((aH xX xW).f5).length ze)) (fun _ h_=>h_.1))) hb);have zm:=Aside0.mk (Kd.bB (by (with_reducible repeat (first|apply Kd.bC|apply Kd.bD|apply Kd.bL));exact (Kd.bI (Kd.bn (p:=⟨xY,5,none⟩) (Kd.bn (p:=⟨xY,4,none⟩) (Kd.bn (p:=⟨xY,3,none⟩) (Kd.bn (p:=⟨xY,2,none⟩) (Kd.bn (p:=⟨xY,1,none⟩) (Kd.bn (p:=⟨xY,0,none⟩) (Kd.bI yV.out (fun k_ hk=>(⟨hk,hk.2⟩ : _ ∧ k_ ≠ xY))) (fun _ hk=>hk.2) (.int .i64 ((aH xX xW).f0))) (fun _ hk=>hk.2) (.bool ((aH xX xW).f1))) (fun _ hk=>hk.2) (.int .i64 ((aH xX xW).f2))) (fun _ hk=>hk.2) (.string ((aH xX xW).f3))) (fun _ hk=>hk.2) (.slice yY ((aH xX xW).f4).length yZ)) (fun _ hk=>hk.2) (.slice za ((aH xX xW).f5).length ze)) (fun _ h_=>h_.1))) hb);have zn:=Aside0.mk (Kd.bB (by (with_reducible repeat (first|apply Kd.bC|apply Kd.bD|apply Kd.bL));exact (Kd.bI (Kd.bn (p:=⟨xY,5,none⟩) (Kd.bn (p:=⟨xY,4,none⟩) (Kd.bn (p:=⟨xY,3,none⟩) (Kd.bn (p:=⟨xY,2,none⟩) (Kd.bn (p:=⟨xY,1,none⟩) (Kd.bn (p:=⟨xY,0,none⟩) (Kd.bI yX.out (fun k_ hk=>(⟨hk,hk.2⟩ : _ ∧ k_ ≠ xY))) (fun _ hk=>hk.2) (.int .i64 ((aH xX xW).f0))) (fun _ hk=>hk.2) (.bool ((aH xX xW).f1))) (fun _ hk=>hk.2) (.int .i64 ((aH xX xW).f2))) (fun _ hk=>hk.2) (.string ((aH xX xW).f3))) (fun _ hk=>hk.2) (.slice yY ((aH xX xW).f4).length yZ)) (fun _ hk=>hk.2) (.slice za ((aH xX xW).f5).length ze)) (fun _ h_=>h_.1))) hb);have zo:=Aside0.mk (aI (g:=yu) (o:=.cells #[.int .i64 yh,.bool yw,.int .i64 yx,.string yA,.slice yH yt.length yI,.slice yK xU.length yF] 29 (0,0)) (by (with_reducible repeat (first|apply aA|apply aD|apply ay));refine bq ?_ yR.out _;(with_reducible repeat (first|apply aA|apply aD|apply ay));refine bq ?_ yR.out _;(with_reducible repeat (first|apply aA|apply aD|apply ay));refine bq ?_ yR.out _;(with_reducible repeat (first|apply aA|apply aD|apply ay));refine bq ?_ yR.out _;(with_reducible repeat (first|apply aA|apply aD|apply ay));refine bq ?_ yR.out _;(with_reducible repeat (first|apply aA|apply aD|apply ay));refine bq ?_ yR.out _;(with_reducible repeat (first|apply aA|apply aD|apply ay));exact yc.out) hb);have zC:=Aside0.mk (Kd.bQ ((Kd.bM (by (with_reducible repeat (first|apply Kd.bC|apply Kd.bD|apply Kd.bL));exact (Kd.bI (Kd.bn (p:=⟨xY,5,none⟩) (Kd.bn (p:=⟨xY,4,none⟩) (Kd.bn (p:=⟨xY,3,none⟩) (Kd.bn (p:=⟨xY,2,none⟩) (Kd.bn (p:=⟨xY,1,none⟩) (Kd.bn (p:=⟨xY,0,none⟩) (Kd.bI yV.out (fun k_ hk=>(⟨hk,hk.2⟩ : _ ∧ k_ ≠ xY))) (fun _ hk=>hk.2) (.int .i64 ((aH xX xW).f0))) (fun _ hk=>hk.2) (.bool ((aH xX xW).f1))) (fun _ hk=>hk.2) (.int .i64 ((aH xX xW).f2))) (fun _ hk=>hk.2) (.string ((aH xX xW).f3))) (fun _ hk=>hk.2) (.slice yY ((aH xX xW).f4).length yZ)) (fun _ hk=>hk.2) (.slice za ((aH xX xW).f5).length ze)) (fun _ h_=>h_.1)))).2.2) hb);have zD:=Aside0.mk (Kd.bQ ((Kd.bM (by (with_reducible repeat (first|apply Kd.bC|apply Kd.bD|apply Kd.bL));exact (Kd.bI (Kd.bn (p:=⟨xY,5,none⟩) (Kd.bn (p:=⟨xY,4,none⟩) (Kd.bn (p:=⟨xY,3,none⟩) (Kd.bn (p:=⟨xY,2,none⟩) (Kd.bn (p:=⟨xY,1,none⟩) (Kd.bn (p:=⟨xY,0,none⟩) (Kd.bI yX.out (fun k_ hk=>(⟨hk,hk.2⟩ : _ ∧ k_ ≠ xY))) (fun _ hk=>hk.2) (.int .i64 ((aH xX xW).f0))) (fun _ hk=>hk.2) (.bool ((aH xX xW).f1))) (fun _ hk=>hk.2) (.int .i64 ((aH xX xW).f2))) (fun _ hk=>hk.2) (.string ((aH xX xW).f3))) (fun _ hk=>hk.2) (.slice yY ((aH xX xW).f4).length yZ)) (fun _ hk=>hk.2) (.slice za ((aH xX xW).f5).length ze)) (fun _ h_=>h_.1)))).2.2) hb);have Af:=Aside0.mk (aI (g:=xY) (o:=.cells #[.int .i64 ((aH xX xW).f0),.bool ((aH xX xW).f1),.int .i64 ((aH xX xW).f2),.string ((aH xX xW).f3),.slice yY ((aH xX xW).f4).length yZ,.slice za ((aH xX xW).f5).length ze] 29 (0,0)) (by (with_reducible repeat (first|apply aA|apply aD|apply ay));refine aQ (cs:=#[.int .i64 ((aH xX xW).f0),.bool ((aH xX xW).f1),.int .i64 ((aH xX xW).f2),.string ((aH xX xW).f3),.slice yY ((aH xX xW).f4).length yZ,.slice none 0 0]) ?_ 5 _ rfl;(with_reducible repeat (first|apply aA|apply aD|apply ay));refine aQ (cs:=#[.int .i64 ((aH xX xW).f0),.bool ((aH xX xW).f1),.int .i64 ((aH xX xW).f2),.string ((aH xX xW).f3),.slice none 0 0,.slice none 0 0]) ?_ 4 _ rfl;(with_reducible repeat (first|apply aA|apply aD|apply ay));refine aQ (cs:=#[.int .i64 ((aH xX xW).f0),.bool ((aH xX xW).f1),.int .i64 ((aH xX xW).f2),.string (⟨#[]⟩ : ByteArray),.slice none 0 0,.slice none 0 0]) ?_ 3 _ rfl;(with_reducible repeat (first|apply aA|apply aD|apply ay));refine aQ (cs:=#[.int .i64 ((aH xX xW).f0),.bool ((aH xX xW).f1),.int .i64 0,.string (⟨#[]⟩ : ByteArray),.slice none 0 0,.slice none 0 0]) ?_ 2 _ rfl;(with_reducible repeat (first|apply aA|apply aD|apply ay));refine aQ (cs:=#[.int .i64 ((aH xX xW).f0),.bool false,.int .i64 0,.string (⟨#[]⟩ : ByteArray),.slice none 0 0,.slice none 0 0]) ?_ 1 _ rfl;(with_reducible repeat (first|apply aA|apply aD|apply ay));refine aQ (cs:=#[.int .i64 0,.bool false,.int .i64 0,.string (⟨#[]⟩ : ByteArray),.slice none 0 0,.slice none 0 0]) ?_ 0 _ rfl;(with_reducible repeat (first|apply aA|apply aD|apply ay));exact yS.out) hb);have Ag:=Aside0.mk (aK (by repeat (first|(with_reducible first|exact HB.out|apply av|apply ak|apply au|refine aG ?_ yU.out|refine aG ?_ Co.out)|exact HB.out)) hb);clear yG;clear yV;clear yX;clear yc;clear zi;clear zk;clear yS;clear HB;have yG:=zl;have yV:=zm;have yX:=zn;have yc:=zo;have zi:=zC;have zk:=zD;have yS:=Af;have HB:=Ag;clear zl zm zn zo zC zD Af Ag;(try clear hb);(try clear hb2);(try clear hk);(try clear hi)))
         go_roundg k2
         case measure=>have:=Fh.out;have:=Fu.out;omega
         case rel=>exact ⟨(Dr),(wrap64 (xW + 1)),(by first|rfl|(simp;done)|(simp only [← zS] <;> (first|rfl|simp))|(simp [*];done)),(by first|rfl|(simp;done)|(simp [*];done)),H',⟨by have:=Fh.out;have:=Fu.out;omega⟩,⟨by (with_reducible repeat (first|apply Kd.bC|apply Kd.bD|apply Kd.bL));exact Kd.bI yG.out (fun _ hk=>hk.1)⟩,⟨by (with_reducible repeat (first|apply aA|apply aD|apply ay));exact yc.out⟩,⟨by repeat (first|(with_reducible first|exact HB.out|apply av|apply ak|apply au|refine aG ?_ yU.out|refine aG ?_ Co.out)|exact HB.out)⟩⟩
        ·rw [if_neg c14] at H
         exact absurd H (by simp)
       ·rw [if_neg c13] at H
        exact absurd H (by simp)
      ·rw [if_neg c12] at H
       have c12b0 : decide (xW < (xX.length : Int)) = false:=decide_eq_false c12
       clear c12
       obtain rfl:=Option.some.inj H
       go_wp2
       go_ret
       exact ⟨by first|rfl|(simp [aX,aY] <;> rfl)|(simp [*,aX,aY] <;> rfl),by repeat (first|(with_reducible first|exact HB.out|apply av|apply ak|apply au|refine aG ?_ yU.out)|exact HB.out)⟩
end Go.Proofs.YtnkkbiabloodaaaDoor.GVa
