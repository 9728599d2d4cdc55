/- Written by this session's own program (wip/gen.py) out of the translation: plain Lean functions of the Go functions, and proofs that the calls come to their answers. No conditions beside those in the statements. -/
import Derived.Test.YtnkkbiabloodaaaDoorGVax0
import Derived.Test.YtnkkbiabloodaaaDoorGVax3
import Derived.Test.YtnkkbiabloodaaaDoorGVax4
import Derived.Test.YtnkkbiabloodaaaDoorGVaKeys
import Derived.Test.YtnkkbiabloodaaaDoorGW
namespace Go.Proofs.YtnkkbiabloodaaaDoor.GVa
open Go.RowKit Go.Proofs.YtnkkbiabloodaaaDoorW.PrintWords Go.Proofs.YtnkkbiabloodaaaDoorW.PrintLast Go.Proofs.YtnkkbiabloodaaaDoorW.PrintMore
attribute [local go_sem] fG fH fV fZ eO eP fI fJ
set_option linter.unusedVariables false
set_option linter.unusedSimpArgs false
mutual
def aN.j1 : Nat → Int → Int → Bool → Int → ByteArray → List (S29) → List (S48) → Option (Int)
 | 0,_,_,_,_,_,_,_=>none
 | k + 1,x3,yT,yU,yV,yN,yX,yO=>if x3 = 0 then ((bf.f k yT yU yV yN yX yO).bind fun t130=>(aN.l0 k t130 (t130.length : Int) 0)) else (some x3)
def aN.l0 : Nat → List (S29) → Int → Int → Option (Int)
 | 0,_,_,_=>none
 | k + 1,x28,x29,x30=>if x30 < x29 then (if 0 ≤ x30 then (if x30 < (x28.length : Int) then ((aN.f k ((aH x28 x30).f0) ((aH x28 x30).f1) ((aH x28 x30).f2) ((aH x28 x30).f3) ((aH x28 x30).f4) ((aH x28 x30).f5)).bind fun zi=>(if zi = 0 then (aN.l0 k x28 x29 (wrap64 (x30 + 1))) else (some zi))) else (none)) else (none)) else (some 0)
def aN.j0 : Nat → Int → Int → Bool → Int → Bool → Int → ByteArray → List (S29) → List (S48) → Option (Int)
 | 0,_,_,_,_,_,_,_,_,_=>none
 | k + 1,x3,x8,x9,yT,yU,yV,yN,yX,yO=>if x9 = true then (aN.j1 k x3 yT yU yV yN yX yO) else (if x8 = 3 then ((fT.f yN).bind fun zD=>(aN.j1 k zD yT yU yV yN yX yO)) else (if x8 = 5 then ((gH.f yO).bind fun zF=>(aN.j1 k zF yT yU yV yN yX yO)) else (aN.j1 k 15 yT yU yV yN yX yO)))
def aN.f : Nat → Int → Bool → Int → ByteArray → List (S29) → List (S48) → Option (Int)
 | 0,_,_,_,_,_,_=>none
 | k + 1,xW,yA,yB,yg,yh,xZ=>if xW = 0 then (aN.j0 k 0 xW (xW == 0) xW yA yB yg yh xZ) else (if xW = 1 then (aN.j0 k 0 xW (xW == 1) xW yA yB yg yh xZ) else (if xW = 2 then (aN.j0 k 0 xW (xW == 2) xW yA yB yg yh xZ) else (aN.j0 k 0 xW (xW == 4) xW yA yB yg yh xZ)))
end
theorem aN.eG : ∀ k,(∀ y0 y1 y2 y3 y4 y5,LeO (aN.f k y0 y1 y2 y3 y4 y5) (aN.f (k + 1) y0 y1 y2 y3 y4 y5)) ∧ (∀ y0 y1 y2 y3 y4 y5 y6,LeO (aN.j1 k y0 y1 y2 y3 y4 y5 y6) (aN.j1 (k + 1) y0 y1 y2 y3 y4 y5 y6)) ∧ (∀ y0 y1 y2,LeO (aN.l0 k y0 y1 y2) (aN.l0 (k + 1) y0 y1 y2)) ∧ (∀ y0 y1 y2 y3 y4 y5 y6 y7 y8,LeO (aN.j0 k y0 y1 y2 y3 y4 y5 y6 y7 y8) (aN.j0 (k + 1) y0 y1 y2 y3 y4 y5 y6 y7 y8))
 | 0=>⟨fun _ _ _ _ _ _ r h=>by simp [aN.f] at h,fun _ _ _ _ _ _ _ r h=>by simp [aN.j1] at h,fun _ _ _ r h=>by simp [aN.l0] at h,fun _ _ _ _ _ _ _ _ _ r h=>by simp [aN.j0] at h⟩
 | k + 1=>by
  obtain ⟨Bb,ih1,ih2,ih3⟩:=aN.eG k
  refine ⟨?_,?_,?_,?_⟩
  ·intro y0 y1 y2 y3 y4 y5
   unfold aN.f
   repeat' first
   | (with_reducible exact Bb _ _ _ _ _ _)
   | (with_reducible exact ih1 _ _ _ _ _ _ _)
   | (with_reducible exact ih2 _ _ _)
   | (with_reducible exact ih3 _ _ _ _ _ _ _ _ _)
   | (with_reducible exact bf.mono _ _ _ _ _ _ _)
   | (with_reducible exact LeO.refl _)
   | (with_reducible exact LeO.none _)
   | (with_reducible refine LeO.ite ?_ ?_)
   | (with_reducible refine LeO.bind ?_ (fun _=>?_))
   | exact Bb _ _ _ _ _ _
   | exact ih1 _ _ _ _ _ _ _
   | exact ih2 _ _ _
   | exact ih3 _ _ _ _ _ _ _ _ _
   | exact bf.mono _ _ _ _ _ _ _
   | exact LeO.none _
   | refine LeO.ite ?_ ?_
   | refine LeO.bind ?_ (fun _=>?_)
  ·intro y0 y1 y2 y3 y4 y5 y6
   unfold aN.j1
   repeat' first
   | (with_reducible exact Bb _ _ _ _ _ _)
   | (with_reducible exact ih1 _ _ _ _ _ _ _)
   | (with_reducible exact ih2 _ _ _)
   | (with_reducible exact ih3 _ _ _ _ _ _ _ _ _)
   | (with_reducible exact bf.mono _ _ _ _ _ _ _)
   | (with_reducible exact LeO.refl _)
   | (with_reducible exact LeO.none _)
   | (with_reducible refine LeO.ite ?_ ?_)
   | (with_reducible refine LeO.bind ?_ (fun _=>?_))
   | exact Bb _ _ _ _ _ _
   | exact ih1 _ _ _ _ _ _ _
   | exact ih2 _ _ _
   | exact ih3 _ _ _ _ _ _ _ _ _
   | exact bf.mono _ _ _ _ _ _ _
   | exact LeO.none _
   | refine LeO.ite ?_ ?_
   | refine LeO.bind ?_ (fun _=>?_)
  ·intro y0 y1 y2
   unfold aN.l0
   repeat' first
   | (with_reducible exact Bb _ _ _ _ _ _)
   | (with_reducible exact ih1 _ _ _ _ _ _ _)
   | (with_reducible exact ih2 _ _ _)
   | (with_reducible exact ih3 _ _ _ _ _ _ _ _ _)
   | (with_reducible exact bf.mono _ _ _ _ _ _ _)
   | (with_reducible exact LeO.refl _)
   | (with_reducible exact LeO.none _)
   | (with_reducible refine LeO.ite ?_ ?_)
   | (with_reducible refine LeO.bind ?_ (fun _=>?_))
   | exact Bb _ _ _ _ _ _
   | exact ih1 _ _ _ _ _ _ _
   | exact ih2 _ _ _
   | exact ih3 _ _ _ _ _ _ _ _ _
   | exact bf.mono _ _ _ _ _ _ _
   | exact LeO.none _
   | refine LeO.ite ?_ ?_
   | refine LeO.bind ?_ (fun _=>?_)
  ·intro y0 y1 y2 y3 y4 y5 y6 y7 y8
   unfold aN.j0
   repeat' first
   | (with_reducible exact Bb _ _ _ _ _ _)
   | (with_reducible exact ih1 _ _ _ _ _ _ _)
   | (with_reducible exact ih2 _ _ _)
   | (with_reducible exact ih3 _ _ _ _ _ _ _ _ _)
   | (with_reducible exact bf.mono _ _ _ _ _ _ _)
   | (with_reducible exact LeO.refl _)
   | (with_reducible exact LeO.none _)
   | (with_reducible refine LeO.ite ?_ ?_)
   | (with_reducible refine LeO.bind ?_ (fun _=>?_))
   | exact Bb _ _ _ _ _ _
   | exact ih1 _ _ _ _ _ _ _
   | exact ih2 _ _ _
   | exact ih3 _ _ _ _ _ _ _ _ _
   | exact bf.mono _ _ _ _ _ _ _
   | exact LeO.none _
   | refine LeO.ite ?_ ?_
   | refine LeO.bind ?_ (fun _=>?_)
theorem aN.mono : ∀ a0 a1 a2 a3 a4 a5 k,LeO (aN.f k a0 a1 a2 a3 a4 a5) (aN.f (k + 1) a0 a1 a2 a3 a4 a5):=by
 intro a0 a1 a2 a3 a4 a5 k
 obtain ⟨Bb,ih1,ih2,ih3⟩:=aN.eG k
 exact Bb a0 a1 a2 a3 a4 a5
set_option maxHeartbeats 8000000 in
set_option maxRecDepth 100000 in
theorem aN.calls (k : Nat) : ∀ (xW : Int) (yA : Bool) (yB : Int) (yg : ByteArray) (yJ : Option Addr) (yK : Nat) (yh : List (S29)) (yH : Option Addr) (yI : Nat) (xZ : List (S48)) (r : Int) (w : World) (AB : Kd.C k29 w yJ yh.length yh) (AJ : yh.length ≤ yK) (AL : Kd.C k48 w yH xZ.length xZ) (AO : xZ.length ≤ yI) (h : aN.f k xW yA yB yg yh xZ = some r) (hG : GW.GW w),
  Calls Tryd.prog 34 #[.agg #[.int .i64 xW,.bool yA,.int .i64 yB,.string yg,.slice yJ yh.length yK,.slice yH xZ.length yI]] w fun e w'=>e = .returned (.int .i64 r) ∧ Below w.heap.size w w':=by
 induction k using Nat.strongRecOn with
 | _ k ih =>
 intro xW yA yB yg yJ yK yh yH yI xZ r w AB AJ AL AO h hG
 cases k with
 | zero=>exact absurd h (by simp [aN.f])
 | succ k =>
 simp only [aN.f] at h
 have Dj:=Tryd.underlying29
 have BP:=Aside0.mk AB
 have BQ:=Aside0.mk AJ
 clear AB AJ
 have BH:=Aside0.mk AL
 have BI:=Aside0.mk AO
 clear AL AO
 have HB:=Aside0.mk (Below.refl w.heap.size w)
 have H : (if xW = 0 then (aN.j0 k 0 xW (xW == 0) xW yA yB yg yh xZ) else (if xW = 1 then (aN.j0 k 0 xW (xW == 1) xW yA yB yg yh xZ) else (if xW = 2 then (aN.j0 k 0 xW (xW == 2) xW yA yB yg yh xZ) else (aN.j0 k 0 xW (xW == 4) xW yA yB yg yh xZ)))) = some r:=h
 clear h
 have CY:=Aside0.mk H
 clear H
 go_enter Tryd.func34,Tryd.ntmps34
 go_upto_block 0 with (first|((with_reducible refine bH (N:=1) rfl ?_);refine bF ?hg (N:=1) ?hd (cs:=#[.int .i64 xW,.bool yA,.int .i64 yB,.string yg,.slice yJ yh.length yK,.slice yH xZ.length yI]) (t:=29) ?hr ?_;(case hd=>rfl);(case hg=>rfl);(case hr=>first|(go_simp;done)|(go_simp;rfl));intro xX hg w3 hbox hb;have zk:=Aside0.mk (aK (by repeat (first|(with_reducible first|exact HB.out|apply av|apply ak|apply au)|exact HB.out)) hb);have zl:=Aside0.mk (hbox);have zB:=Aside0.mk ((by rw [hg];exact (aM (by repeat (first|(with_reducible first|exact HB.out|apply av|apply ak|apply au)|exact HB.out))) : w.heap.size ≤ xX));have zU:=Aside0.mk ((by rw [hg];exact (aM (by repeat (first|(with_reducible first|exact HB.out|apply av|apply ak|apply au)|exact HB.out))) : w.heap.size ≤ xX));clear HB;have HB:=zk;have xV:=zl;have BJ:=zB;have yj:=zU;clear zk zl zB zU;clear hb hbox hg;have zG : w3.cell? ⟨xX,0,none⟩ = some (.int .i64 xW):=(ah xV.out 0).trans rfl;have zH : w3.cell? ⟨xX,1,none⟩ = some (.bool yA):=(ah xV.out 1).trans rfl;have zI : w3.cell? ⟨xX,2,none⟩ = some (.int .i64 yB):=(ah xV.out 2).trans rfl;have zJ : w3.cell? ⟨xX,3,none⟩ = some (.string yg):=(ah xV.out 3).trans rfl;have zK : w3.cell? ⟨xX,4,none⟩ = some (.slice yJ yh.length yK):=(ah xV.out 4).trans rfl;have zL : w3.cell? ⟨xX,5,none⟩ = some (.slice yH xZ.length yI):=(ah xV.out 5).trans rfl;have zM:=aj xV.out 0;have zN:=aj xV.out 1;have zO:=aj xV.out 2;have zP:=aj xV.out 3;have zQ:=aj xV.out 4;have zR:=aj xV.out 5))
 (try simp only [Act.put,List.setIfInBounds_toArray,List.set_cons_zero,List.set_cons_succ])
 go_cut [3] (fun v3 wc=>∃ (kq : Nat) (zC : Int),v3 = .int .i64 zC ∧ Aside0 (aN.j1 kq zC xW yA yB yg yh xZ = some r) ∧ Aside0 (kq ≤ k) ∧ Aside0 (wc.heap[xX]? = some (.cells #[.int .i64 xW,.bool yA,.int .i64 yB,.string yg,(.slice yJ yh.length yK),(.slice yH xZ.length yI)] 29 (0,0))) ∧ Aside0 (Below w.heap.size w wc))
 case first =>
  have H:=CY.out
  clear CY
  have CZ:=Aside0.mk H
  clear H
  go_upto_if 9 with (fail)
  go_cut [9] (fun v9 wc=>∃ (kq : Nat) (Bc : Bool),v9 = .bool Bc ∧ Aside0 (aN.j0 kq 0 xW Bc xW yA yB yg yh xZ = some r) ∧ Aside0 (kq ≤ k) ∧ Aside0 (wc.heap[xX]? = some (.cells #[.int .i64 xW,.bool yA,.int .i64 yB,.string yg,(.slice yJ yh.length yK),(.slice yH xZ.length yI)] 29 (0,0))) ∧ Aside0 (Below w.heap.size w wc))
  case first =>
   have H:=CZ.out
   clear CZ
   by_cases c6 : xW = 0
   ·rw [if_pos c6] at H
    have c6b0 : (xW == 0) = true:=beq_iff_eq.mpr c6
    have c6b1 : (xW != 0) = false:=bne_eq_false_iff_eq.mpr c6
    clear c6
    (first|rw [c6b0]|(simp only [aT,aU];rw [c6b0])|skip)
    have H':=Aside0.mk H
    clear H
    go_wp2
    go_meet
    case rel=>exact ⟨_,((xW == 0)),(by first|rfl|(simp;done)|(simp [*];done)),H',⟨by first|omega|exact Nat.le_refl _⟩,⟨by (with_reducible repeat (first|apply aA|apply aD|apply ay));exact xV.out⟩,⟨by repeat (first|(with_reducible first|exact HB.out|apply av|apply ak|apply au|refine aG ?_ yj.out)|exact HB.out)⟩⟩
   ·rw [if_neg c6] at H
    have c6b0 : (xW == 0) = false:=beq_eq_false_iff_ne.mpr c6
    have c6b1 : (xW != 0) = true:=bne_iff_ne.mpr c6
    (first|rw [c6b0]|(simp only [aT,aU];rw [c6b0])|skip)
    by_cases c7 : xW = 1
    ·rw [if_pos c7] at H
     have c7b0 : (xW == 1) = true:=beq_iff_eq.mpr c7
     have c7b1 : (xW != 1) = false:=bne_eq_false_iff_eq.mpr c7
     clear c7
     have H':=Aside0.mk H
     clear H
     go_wp2
     go_meet
     case rel=>exact ⟨_,((xW == 1)),(by first|rfl|(simp;done)|(simp [*];done)),H',⟨by first|omega|exact Nat.le_refl _⟩,⟨by (with_reducible repeat (first|apply aA|apply aD|apply ay));exact xV.out⟩,⟨by repeat (first|(with_reducible first|exact HB.out|apply av|apply ak|apply au|refine aG ?_ yj.out)|exact HB.out)⟩⟩
    ·rw [if_neg c7] at H
     have c7b0 : (xW == 1) = false:=beq_eq_false_iff_ne.mpr c7
     have c7b1 : (xW != 1) = true:=bne_iff_ne.mpr c7
     by_cases c8 : xW = 2
     ·rw [if_pos c8] at H
      have c8b0 : (xW == 2) = true:=beq_iff_eq.mpr c8
      have c8b1 : (xW != 2) = false:=bne_eq_false_iff_eq.mpr c8
      clear c8
      have H':=Aside0.mk H
      clear H
      go_wp2
      go_meet
      case rel=>exact ⟨_,((xW == 2)),(by first|rfl|(simp;done)|(simp [*];done)),H',⟨by first|omega|exact Nat.le_refl _⟩,⟨by (with_reducible repeat (first|apply aA|apply aD|apply ay));exact xV.out⟩,⟨by repeat (first|(with_reducible first|exact HB.out|apply av|apply ak|apply au|refine aG ?_ yj.out)|exact HB.out)⟩⟩
     ·rw [if_neg c8] at H
      have c8b0 : (xW == 2) = false:=beq_eq_false_iff_ne.mpr c8
      have c8b1 : (xW != 2) = true:=bne_iff_ne.mpr c8
      have H':=Aside0.mk H
      clear H
      go_wp2
      go_meet
      case rel=>exact ⟨_,((xW == 4)),(by first|rfl|(simp;done)|(simp [*];done)),H',⟨by first|omega|exact Nat.le_refl _⟩,⟨by (with_reducible repeat (first|apply aA|apply aD|apply ay));exact xV.out⟩,⟨by repeat (first|(with_reducible first|exact HB.out|apply av|apply ak|apply au|refine aG ?_ yj.out)|exact HB.out)⟩⟩
  case rest =>
   clear CZ
   try clear p2
   try clear c3
   try clear c6
   try clear c6b0
   try clear c6b1
   try clear c7
   try clear c7b0
   try clear c7b1
   try clear c8
   try clear c8b0
   try clear c8b1
   try clear zG
   try clear zH
   try clear zI
   try clear zJ
   try clear zK
   try clear zL
   try clear zM
   try clear zN
   try clear zO
   try clear zP
   try clear zQ
   try clear zR
   obtain ⟨kq,Bc,rfl,HA,Ch,xV,HB⟩:=hcut
   cases kq with
   | zero=>exact absurd HA.out (by simp [aN.j0])
   | succ BN =>
    have H:=HA.out
    clear HA
    simp only [aN.j0] at H
    by_cases c9 : Bc = true
    ·subst c9
     have H1 : (aN.j1 BN 0 xW yA yB yg yh xZ) = some r:=by rw [if_pos rfl] at H;exact H
     clear H
     have H:=H1
     clear H1
     have H':=Aside0.mk H
     clear H
     go_wp2
     go_meet
     case rel=>exact ⟨_,(0),(by first|rfl|(simp;done)|(simp [*];done)),H',⟨by have:=Ch.out;first|omega|exact Nat.le_refl _⟩,⟨by (with_reducible repeat (first|apply aA|apply aD|apply ay));exact xV.out⟩,⟨by repeat (first|(with_reducible first|exact HB.out|apply av|apply ak|apply au|refine aG ?_ yj.out)|exact HB.out)⟩⟩
    ·replace c9:=Bool.eq_false_iff.mpr c9
     subst c9
     have H1 : (if xW = 3 then ((fT.f yg).bind fun zD=>(aN.j1 BN zD xW yA yB yg yh xZ)) else (if xW = 5 then ((gH.f xZ).bind fun zF=>(aN.j1 BN zF xW yA yB yg yh xZ)) else (aN.j1 BN 15 xW yA yB yg yh xZ))) = some r:=by rw [if_neg (show ¬ (false = true) by decide)] at H;exact H
     clear H
     have H:=H1
     clear H1
     by_cases c10 : xW = 3
     ·rw [if_pos c10] at H
      have c10b0 : (xW == 3) = true:=beq_iff_eq.mpr c10
      have c10b1 : (xW != 3) = false:=bne_eq_false_iff_eq.mpr c10
      clear c10
      replace H:=Option.bind_eq_some_iff.mp H
      obtain ⟨zD,BR,H⟩:=H
      replace H : (aN.j1 BN zD xW yA yB yg yh xZ) = some r:=H
      have Dk:=Aside0.mk BR
      clear BR
      have H':=Aside0.mk H
      clear H
      have zV : wc.cell? ⟨xX,0,none⟩ = some (.int .i64 xW):=(ah xV.out 0).trans rfl
      have zW : wc.cell? ⟨xX,1,none⟩ = some (.bool yA):=(ah xV.out 1).trans rfl
      have zX : wc.cell? ⟨xX,2,none⟩ = some (.int .i64 yB):=(ah xV.out 2).trans rfl
      have zY : wc.cell? ⟨xX,3,none⟩ = some (.string yg):=(ah xV.out 3).trans rfl
      have zZ : wc.cell? ⟨xX,4,none⟩ = some (.slice yJ yh.length yK):=(ah xV.out 4).trans rfl
      have z8 : wc.cell? ⟨xX,5,none⟩ = some (.slice yH xZ.length yI):=(ah xV.out 5).trans rfl
      have Ac:=aj xV.out 0
      have Ad:=aj xV.out 1
      have Ae:=aj xV.out 2
      have Af:=aj xV.out 3
      have Ag:=aj xV.out 4
      have Ah:=aj xV.out 5
      go_wp2_with (first|((with_reducible refine bV (f:=47) rfl ?_);refine dM (some 18) rfl rfl Tryd.func47 (by kernel_rfl) rfl #[.string yg] rfl (by (try simp only [List.map_toArray,List.map_cons,List.map_nil]);first|done|rfl|(simp only [List.length_drop,List.length_take];rfl)|(simp (disch:=first|omega|(simp at *;omega)) only [eD,eB,fU];rfl)) ?_;(with_reducible refine (fT.calls yg zD _ Dk.out (by first|assumption|exact GW.below hG (by first|exact HB.out|assumption|(repeat (first|(with_reducible first|exact HB.out|apply av|apply ak|apply au|refine aG ?_ yj.out)|exact HB.out)))|exact GW.drawn hG (by first|assumption|(repeat (first|exact Drawn0.refl _|assumption|apply Drawn0.step))))).mono ?_);rintro e Dn ⟨rfl,hb⟩;refine ⟨_,rfl,?_⟩;have zk:=Aside0.mk (aI (g:=xX) (o:=.cells #[.int .i64 xW,.bool yA,.int .i64 yB,.string yg,.slice yJ yh.length yK,.slice yH xZ.length yI] 29 (0,0)) (bk_ xV.out) hb);have zl:=Aside0.mk (aK (by repeat (first|(with_reducible first|exact HB.out|apply av|apply ak|apply au|refine aG ?_ yj.out)|exact HB.out)) hb);clear xV;clear HB;have xV:=zk;have HB:=zl;clear zk zl;(try clear hb);(try clear hb2);(try clear hk);(try clear hi)))
      go_meet
      case rel=>exact ⟨_,(zD),(by first|rfl|(simp;done)|(simp [*];done)),H',⟨by have:=Ch.out;first|omega|exact Nat.le_refl _⟩,⟨by (with_reducible repeat (first|apply aA|apply aD|apply ay));exact xV.out⟩,⟨by repeat (first|(with_reducible first|exact HB.out|apply av|apply ak|apply au|refine aG ?_ yj.out)|exact HB.out)⟩⟩
     ·rw [if_neg c10] at H
      have c10b0 : (xW == 3) = false:=beq_eq_false_iff_ne.mpr c10
      have c10b1 : (xW != 3) = true:=bne_iff_ne.mpr c10
      by_cases c14 : xW = 5
      ·rw [if_pos c14] at H
       have c14b0 : (xW == 5) = true:=beq_iff_eq.mpr c14
       have c14b1 : (xW != 5) = false:=bne_eq_false_iff_eq.mpr c14
       clear c14
       replace H:=Option.bind_eq_some_iff.mp H
       obtain ⟨zF,BS,H⟩:=H
       replace H : (aN.j1 BN zF xW yA yB yg yh xZ) = some r:=H
       have Dl:=Aside0.mk BS
       clear BS
       have H':=Aside0.mk H
       clear H
       have Ai : wc.cell? ⟨xX,0,none⟩ = some (.int .i64 xW):=(ah xV.out 0).trans rfl
       have Aj : wc.cell? ⟨xX,1,none⟩ = some (.bool yA):=(ah xV.out 1).trans rfl
       have Ak : wc.cell? ⟨xX,2,none⟩ = some (.int .i64 yB):=(ah xV.out 2).trans rfl
       have Al : wc.cell? ⟨xX,3,none⟩ = some (.string yg):=(ah xV.out 3).trans rfl
       have Am : wc.cell? ⟨xX,4,none⟩ = some (.slice yJ yh.length yK):=(ah xV.out 4).trans rfl
       have Ao : wc.cell? ⟨xX,5,none⟩ = some (.slice yH xZ.length yI):=(ah xV.out 5).trans rfl
       have Ap:=aj xV.out 0
       have Aq:=aj xV.out 1
       have Ar:=aj xV.out 2
       have Au:=aj xV.out 3
       have Av:=aj xV.out 4
       have AA:=aj xV.out 5
       go_wp2_with (first|((with_reducible refine bV (f:=48) rfl ?_);refine dM (some 23) rfl rfl Tryd.func48 (by kernel_rfl) rfl #[.slice yH xZ.length yI] rfl (by (try simp only [List.map_toArray,List.map_cons,List.map_nil]);first|done|rfl|(simp only [List.length_drop,List.length_take];rfl)|(simp (disch:=first|omega|(simp at *;omega)) only [eD,eB,fU];rfl)) ?_;(with_reducible refine (gH.calls _ _ xZ zF _ ?zm ?zn Dl.out (by first|assumption|exact GW.below hG (by first|exact HB.out|assumption|(repeat (first|(with_reducible first|exact HB.out|apply av|apply ak|apply au|refine aG ?_ yj.out)|exact HB.out)))|exact GW.drawn hG (by first|assumption|(repeat (first|exact Drawn0.refl _|assumption|apply Drawn0.step))))).mono ?_);(case zm=>repeat (first|exact (Kd.bQ BH.out HB.out)|(with_reducible refine Kd.bW ?_ _)|(with_reducible refine Kd.bX ?_ _)|(with_reducible refine Kd.dh ?_)));(case zn=>exact BI.out);rintro e Dp ⟨rfl,hb⟩;refine ⟨_,rfl,?_⟩;have zk:=Aside0.mk (aI (g:=xX) (o:=.cells #[.int .i64 xW,.bool yA,.int .i64 yB,.string yg,.slice yJ yh.length yK,.slice yH xZ.length yI] 29 (0,0)) (bk_ xV.out) hb);have zl:=Aside0.mk (aK (by repeat (first|(with_reducible first|exact HB.out|apply av|apply ak|apply au|refine aG ?_ yj.out)|exact HB.out)) hb);clear xV;clear HB;have xV:=zk;have HB:=zl;clear zk zl;(try clear hb);(try clear hb2);(try clear hk);(try clear hi)))
       go_meet
       case rel=>exact ⟨_,(zF),(by first|rfl|(simp;done)|(simp [*];done)),H',⟨by have:=Ch.out;first|omega|exact Nat.le_refl _⟩,⟨by (with_reducible repeat (first|apply aA|apply aD|apply ay));exact xV.out⟩,⟨by repeat (first|(with_reducible first|exact HB.out|apply av|apply ak|apply au|refine aG ?_ yj.out)|exact HB.out)⟩⟩
      ·rw [if_neg c14] at H
       have c14b0 : (xW == 5) = false:=beq_eq_false_iff_ne.mpr c14
       have c14b1 : (xW != 5) = true:=bne_iff_ne.mpr c14
       have H':=Aside0.mk H
       clear H
       go_wp2
       go_meet
       case rel=>exact ⟨_,(15),(by first|rfl|(simp;done)|(simp [*];done)),H',⟨by have:=Ch.out;first|omega|exact Nat.le_refl _⟩,⟨by (with_reducible repeat (first|apply aA|apply aD|apply ay));exact xV.out⟩,⟨by repeat (first|(with_reducible first|exact HB.out|apply av|apply ak|apply au|refine aG ?_ yj.out)|exact HB.out)⟩⟩
 case rest =>
  clear CY
  try clear c1
  try clear p2
  try clear c3
  try clear c4
  try clear c6
  try clear c6b0
  try clear c6b1
  try clear c7
  try clear c7b0
  try clear c7b1
  try clear c8
  try clear c8b0
  try clear c8b1
  try clear c9
  try clear c10
  try clear c10b0
  try clear c10b1
  try clear c14
  try clear c14b0
  try clear c14b1
  try clear zV
  try clear zW
  try clear zX
  try clear zY
  try clear zZ
  try clear z8
  try clear Ai
  try clear Aj
  try clear Ak
  try clear Al
  try clear Am
  try clear Ao
  try clear zG
  try clear zH
  try clear zI
  try clear zJ
  try clear zK
  try clear zL
  try clear Ac
  try clear Ad
  try clear Ae
  try clear Af
  try clear Ag
  try clear Ah
  try clear Ap
  try clear Aq
  try clear Ar
  try clear Au
  try clear Av
  try clear AA
  try clear zM
  try clear zN
  try clear zO
  try clear zP
  try clear zQ
  try clear zR
  try clear p2
  obtain ⟨kq,zC,rfl,HA,Ci,xV,HB⟩:=hcut
  cases kq with
  | zero=>exact absurd HA.out (by simp [aN.j1])
  | succ Cj =>
   have H:=HA.out
   clear HA
   simp only [aN.j1] at H
   by_cases c18 : zC = 0
   ·rw [if_pos c18] at H
    have c18b0 : (zC == 0) = true:=beq_iff_eq.mpr c18
    have c18b1 : (zC != 0) = false:=bne_eq_false_iff_eq.mpr c18
    clear c18
    replace H:=Option.bind_eq_some_iff.mp H
    obtain ⟨t130,BU,H⟩:=H
    replace H : (aN.l0 Cj t130 (t130.length : Int) 0) = some r:=H
    have Dm:=Aside0.mk BU
    clear BU
    have H':=Aside0.mk H
    clear H
    have Bd : wc.cell? ⟨xX,0,none⟩ = some (.int .i64 xW):=(ah xV.out 0).trans rfl
    have Bf : wc.cell? ⟨xX,1,none⟩ = some (.bool yA):=(ah xV.out 1).trans rfl
    have Bg : wc.cell? ⟨xX,2,none⟩ = some (.int .i64 yB):=(ah xV.out 2).trans rfl
    have Bh : wc.cell? ⟨xX,3,none⟩ = some (.string yg):=(ah xV.out 3).trans rfl
    have Bj : wc.cell? ⟨xX,4,none⟩ = some (.slice yJ yh.length yK):=(ah xV.out 4).trans rfl
    have Bl : wc.cell? ⟨xX,5,none⟩ = some (.slice yH xZ.length yI):=(ah xV.out 5).trans rfl
    have Bn:=aj xV.out 0
    have Bo:=aj xV.out 1
    have Bp:=aj xV.out 2
    have Bq:=aj xV.out 3
    have Br:=aj xV.out 4
    have Bt:=aj xV.out 5
    go_wp2_with (first|((with_reducible refine bV (f:=36) rfl ?_);refine dM (some 28) rfl rfl Tryd.func36 (by kernel_rfl) rfl #[.agg #[.int .i64 xW,.bool yA,.int .i64 yB,.string yg,.slice yJ yh.length yK,.slice yH xZ.length yI]] rfl (by (try simp only [List.map_toArray,List.map_cons,List.map_nil]);first|done|rfl|(simp only [List.length_drop,List.length_take];rfl)|(simp (disch:=first|omega|(simp at *;omega)) only [eD,eB,fU];rfl)) ?_;(with_reducible refine (bf.calls Cj xW yA yB yg (fun k_=>k_ < w.heap.size) _ _ yh (fun k_=>k_ < w.heap.size) _ _ xZ t130 _ ?zm ?zn Dm.out).mono ?_);(case zm=>exact Kd.jc BQ.out (Kd.gZ (Kd.C_F mX BP.out) (by repeat (first|(with_reducible first|exact HB.out|apply av|apply ak|apply au|refine aG ?_ yj.out)|exact HB.out))));(case zn=>exact Kd.jc BI.out (Kd.gZ (Kd.C_F o7 BH.out) (by repeat (first|(with_reducible first|exact HB.out|apply av|apply ak|apply au|refine aG ?_ yj.out)|exact HB.out))));rintro e Dq ⟨v131,rfl,ho0,hb⟩;refine ⟨_,rfl,?_⟩;have zk:=Aside0.mk (Kd.jm (Kd.bI (ok':=fun k_=>k_ ≠ xX) ho0 (fun k_ hk_=>Or.elim hk_ (fun hs_=>Or.elim hs_ (fun hs_=>fun e_=>Nat.not_le.2 hs_ (by rw [e_];exact BJ.out)) (fun hs_=>fun e_=>Nat.not_le.2 hs_ (by rw [e_];exact BJ.out))) (fun hn_=>(Kd.jr (g:=xX) (o:=.cells #[.int .i64 xW,.bool yA,.int .i64 yB,.string yg,.slice yJ yh.length yK,.slice yH xZ.length yI] 29 (0,0)) (bk_ xV.out) k_ hn_)))) (aM (by repeat (first|(with_reducible first|exact HB.out|apply av|apply ak|apply au|refine aG ?_ yj.out)|exact HB.out))));have zl:=Aside0.mk (aI (g:=xX) (o:=.cells #[.int .i64 xW,.bool yA,.int .i64 yB,.string yg,.slice yJ yh.length yK,.slice yH xZ.length yI] 29 (0,0)) (bk_ xV.out) hb);have zB:=Aside0.mk (aK (by repeat (first|(with_reducible first|exact HB.out|apply av|apply ak|apply au|refine aG ?_ yj.out)|exact HB.out)) hb);clear xV;clear HB;have BK:=zk;have xV:=zl;have HB:=zB;clear zk zl zB;(try clear hb);(try clear hb2);(try clear hk);(try clear hi);(try clear ho0);obtain ⟨C8,C9,Da⟩:=Kd.dJ BK.out;subst Da))
    go_loopg [30] Cj (fun kq v30 w'=>∃ (xS : Int),v30 = .int .i64 xS ∧ Aside0 (aN.l0 kq t130 (t130.length : Int) xS = some r) ∧ Aside0 (kq ≤ Cj) ∧ Aside0 (Kd.V k29 29 w' w.heap.size (fun k_=>k_ ≠ xX) (.slice C8 t130.length C9) t130) ∧ Aside0 (w'.heap[xX]? = some (.cells #[.int .i64 xW,.bool yA,.int .i64 yB,.string yg,(.slice yJ yh.length yK),(.slice yH xZ.length yI)] 29 (0,0))) ∧ Aside0 (Below w.heap.size w w'))
    case atStart=>exact ⟨(0),(by first|rfl|(simp;done)|(simp [*];done)),H',⟨Nat.le_refl _⟩,⟨by (with_reducible repeat (first|apply Kd.bC|apply Kd.bD|apply Kd.bL));exact BK.out⟩,⟨by (with_reducible repeat (first|apply aA|apply aD|apply ay));exact xV.out⟩,⟨by repeat (first|(with_reducible first|exact HB.out|apply av|apply ak|apply au|refine aG ?_ yj.out)|exact HB.out)⟩⟩
    case round =>
     clear H'
     try clear c1
     try clear p2
     try clear c3
     try clear c4
     try clear c6
     try clear c6b0
     try clear c6b1
     try clear c7
     try clear c7b0
     try clear c7b1
     try clear c8
     try clear c8b0
     try clear c8b1
     try clear c9
     try clear c10
     try clear c10b0
     try clear c10b1
     try clear c14
     try clear c14b0
     try clear c14b1
     try clear c18
     try clear c18b0
     try clear c18b1
     try clear zV
     try clear zW
     try clear zX
     try clear zY
     try clear zZ
     try clear z8
     try clear Ai
     try clear Aj
     try clear Ak
     try clear Al
     try clear Am
     try clear Ao
     try clear Bd
     try clear Bf
     try clear Bg
     try clear Bh
     try clear Bj
     try clear Bl
     try clear zG
     try clear zH
     try clear zI
     try clear zJ
     try clear zK
     try clear zL
     try clear Ac
     try clear Ad
     try clear Ae
     try clear Af
     try clear Ag
     try clear Ah
     try clear Ap
     try clear Aq
     try clear Ar
     try clear Au
     try clear Av
     try clear AA
     try clear Bn
     try clear Bo
     try clear Bp
     try clear Bq
     try clear Br
     try clear Bt
     try clear zM
     try clear zN
     try clear zO
     try clear zP
     try clear zQ
     try clear zR
     try clear p2
     obtain ⟨xS,rfl,HA,Ck,yG,xV,HB⟩:=hrel
     cases gk with
     | zero=>exact absurd HA.out (by simp [aN.l0])
     | succ k2 =>
      have H:=HA.out
      clear HA
      simp only [aN.l0] at H
      by_cases c23 : xS < (t130.length : Int)
      ·rw [if_pos c23] at H
       have c23b0 : decide (xS < (t130.length : Int)) = true:=decide_eq_true c23
       clear c23
       by_cases c24 : 0 ≤ xS
       ·rw [if_pos c24] at H
        have c24b0 : decide (0 ≤ xS) = true:=decide_eq_true c24
        clear c24
        by_cases Cm : xS < (t130.length : Int)
        ·rw [if_pos Cm] at H
         have c25b0 : decide (xS < (t130.length : Int)) = true:=decide_eq_true Cm
         clear Cm
         replace H:=Option.bind_eq_some_iff.mp H
         obtain ⟨zi,BZ,H⟩:=H
         replace H : (if zi = 0 then (aN.l0 k2 t130 (t130.length : Int) (wrap64 (xS + 1))) else (some zi)) = some r:=H
         have Db:=Aside0.mk BZ
         clear BZ
         by_cases BL : zi = 0
         ·rw [if_pos BL] at H
          have c27b0 : (zi == 0) = true:=beq_iff_eq.mpr BL
          have c27b1 : (zi != 0) = false:=bne_eq_false_iff_eq.mpr BL
          clear BL
          have H':=Aside0.mk H
          clear H
          have zq : 0 ≤ (xS : Int):=of_decide_eq_true (by first|(with_reducible assumption)|assumption)
          have zu : xS < (t130.length : Int):=of_decide_eq_true (by first|(with_reducible assumption)|assumption)
          obtain ⟨Ca,yw,yx,yC,yD,BM,Bu,Bv,Bw,Bz,zw,zx,yZ,za,ze,zf⟩:=jR (Kd.bM yG.out).2.2 xS zq zu
          cases BM
          obtain ⟨Cb,zS,zT,yY⟩:=Kd.jO yG.out z29 xS zq (by first|exact zu|exact of_decide_eq_true (by first|(with_reducible assumption)|assumption)|(have e_:=(Kd.bM yG.out).1;omega))
          obtain ⟨BA,BD,BF,BG,rfl,yP,yQ,yR,yS⟩:=j3 zT
          have yL:=yY 4 _ rfl
          rw [bN _ _ 4 (by omega)] at yL
          replace yL:=Option.some.inj (yL.symm.trans zw)
          injection yL with hva_ hvn_ hvc_
          rw [hva_] at yQ
          rw [hvc_] at yP
          have yt:=Aside0.mk (show Kd.V k29 29 _ w.heap.size _ _ ((aH t130 xS).f4) from Kd.jc yP yQ)
          clear hva_ hvn_ hvc_ yQ yP
          have yM:=yY 5 _ rfl
          rw [bN _ _ 5 (by omega)] at yM
          replace yM:=Option.some.inj (yM.symm.trans zx)
          injection yM with hva_ hvn_ hvc_
          rw [hva_] at yS
          rw [hvc_] at yR
          have yu:=Aside0.mk (show Kd.V k48 48 _ w.heap.size _ _ ((aH t130 xS).f5) from Kd.jc yR yS)
          clear hva_ hvn_ hvc_ yS yR
          clear yY zS
          have yE:=Aside0.mk za
          have zy:=Aside0.mk yZ
          clear za yZ
          have yF:=Aside0.mk zf
          have zA:=Aside0.mk ze
          clear zf ze
          replace zq:=eq_true zq
          replace zu:=eq_true zu
          go_wp2_with (first|((with_reducible refine bH (N:=5) rfl ?_);refine bF ?hg (N:=5) ?hd (cs:=#[.int .i64 0,.bool false,.int .i64 0,.string (⟨#[]⟩ : ByteArray),.slice none 0 0,.slice none 0 0]) (t:=29) ?hr ?_;(case hd=>rfl);(case hg=>rfl);(case hr=>first|(go_simp;done)|(go_simp;rfl));intro xU hg BO hbox hb;have zk:=Aside0.mk (Kd.bB (Kd.dw (by (with_reducible repeat (first|apply Kd.bC|apply Kd.bD|apply Kd.bL));exact yG.out) xU (Nat.le_of_eq hg.symm)) hb);have zl:=Aside0.mk (Kd.bB (Kd.dw (by (with_reducible repeat (first|apply Kd.bC|apply Kd.bD|apply Kd.bL));exact yt.out) xU (Nat.le_of_eq hg.symm)) hb);have zB:=Aside0.mk (Kd.bB (Kd.dw (by (with_reducible repeat (first|apply Kd.bC|apply Kd.bD|apply Kd.bL));exact yu.out) xU (Nat.le_of_eq hg.symm)) hb);have zU:=Aside0.mk (aI (g:=xX) (o:=.cells #[.int .i64 xW,.bool yA,.int .i64 yB,.string yg,.slice yJ yh.length yK,.slice yH xZ.length yI] 29 (0,0)) (bk_ xV.out) hb);have AP:=Aside0.mk (Kd.bQ (by repeat (first|(with_reducible exact yE.out)|(with_reducible refine Kd.bW ?_ _)|(with_reducible refine Kd.bX ?_ _)|(with_reducible refine Kd.dh ?_)|exact yE.out)) hb);have AQ:=Aside0.mk (Kd.bQ (by repeat (first|(with_reducible exact yF.out)|(with_reducible refine Kd.bW ?_ _)|(with_reducible refine Kd.bX ?_ _)|(with_reducible refine Kd.dh ?_)|exact yF.out)) hb);have AU:=Aside0.mk (aK (by repeat (first|(with_reducible first|exact HB.out|apply av|apply ak|apply au|refine aG ?_ yj.out)|exact HB.out)) hb);have AV:=Aside0.mk (hbox);have Cc:=Aside0.mk ((by rw [hg];exact (aM (by repeat (first|(with_reducible first|exact HB.out|apply av|apply ak|apply au|refine aG ?_ yj.out)|exact HB.out))) : w.heap.size ≤ xU));have Ce:=Aside0.mk ((by rw [hg];exact (aM (by repeat (first|(with_reducible first|exact HB.out|apply av|apply ak|apply au|refine aG ?_ yj.out)|exact HB.out))) : w.heap.size ≤ xU));have AX:=Aside0.mk ((by rw [hg];exact Nat.ne_of_lt (bO (g:=xX) (o:=.cells #[.int .i64 xW,.bool yA,.int .i64 yB,.string yg,.slice yJ yh.length yK,.slice yH xZ.length yI] 29 (0,0)) (bk_ xV.out)) : xX ≠ xU));have AY:=Aside0.mk ((by rw [hg];exact Nat.ne_of_gt (bO (g:=xX) (o:=.cells #[.int .i64 xW,.bool yA,.int .i64 yB,.string yg,.slice yJ yh.length yK,.slice yH xZ.length yI] 29 (0,0)) (bk_ xV.out)) : xU ≠ xX));clear yG;clear yt;clear yu;clear xV;clear yE;clear yF;clear HB;have yG:=zk;have yt:=zl;have yu:=zB;have xV:=zU;have yE:=AP;have yF:=AQ;have HB:=AU;have yc:=AV;have Cg:=Cc;have zo:=Ce;have xY:=AX;have zh:=AY;clear zk zl zB zU AP AQ AU AV Cc Ce AX AY;clear hb hbox hg;have Dc:=zh.out;have Df:=xY.out;have Cn : BO.cell? ⟨xU,0,none⟩ = some (.int .i64 0):=(ah yc.out 0).trans rfl;have Co : BO.cell? ⟨xU,1,none⟩ = some (.bool false):=(ah yc.out 1).trans rfl;have Cq : BO.cell? ⟨xU,2,none⟩ = some (.int .i64 0):=(ah yc.out 2).trans rfl;have Cr : BO.cell? ⟨xU,3,none⟩ = some (.string (⟨#[]⟩ : ByteArray)):=(ah yc.out 3).trans rfl;have Ct : BO.cell? ⟨xU,4,none⟩ = some (.slice none 0 0):=(ah yc.out 4).trans rfl;have Cu : BO.cell? ⟨xU,5,none⟩ = some (.slice none 0 0):=(ah yc.out 5).trans rfl;have Cv:=aj yc.out 0;have Cw:=aj yc.out 1;have Cx:=aj yc.out 2;have Cy:=aj yc.out 3;have Cz:=aj yc.out 4;have CB:=aj yc.out 5)|((with_reducible refine bV (f:=34) rfl ?_);refine dM (some 35) rfl rfl Tryd.func34 (by kernel_rfl) rfl #[.agg #[.int .i64 ((aH t130 xS).f0),.bool ((aH t130 xS).f1),.int .i64 ((aH t130 xS).f2),.string ((aH t130 xS).f3),.slice yw ((aH t130 xS).f4).length yx,.slice yC ((aH t130 xS).f5).length yD]] rfl (by (try simp only [List.map_toArray,List.map_cons,List.map_nil]);first|done|rfl|(simp only [List.length_drop,List.length_take];rfl)|(simp (disch:=first|omega|(simp at *;omega)) only [eD,eB,fU];rfl)) ?_;(with_reducible refine (ih k2 (by have:=Ci.out;have:=Ck.out;omega) ((aH t130 xS).f0) ((aH t130 xS).f1) ((aH t130 xS).f2) ((aH t130 xS).f3) _ _ ((aH t130 xS).f4) _ _ ((aH t130 xS).f5) zi _ ?zm ?zn ?AZ ?Ba Db.out (by first|assumption|exact GW.below hG (by first|exact HB.out|assumption|(repeat (first|(with_reducible first|exact HB.out|apply av|apply ak|apply au|refine aG ?_ zo.out)|exact HB.out)))|exact GW.drawn hG (by first|assumption|(repeat (first|exact Drawn0.refl _|assumption|apply Drawn0.step))))).mono ?_);(case zm=>repeat (first|exact ((Kd.bM (by (with_reducible repeat (first|apply Kd.bC|apply Kd.bD|apply Kd.bL));exact (Kd.bI (Kd.bn (p:=⟨xU,5,none⟩) (Kd.bn (p:=⟨xU,4,none⟩) (Kd.bn (p:=⟨xU,3,none⟩) (Kd.bn (p:=⟨xU,2,none⟩) (Kd.bn (p:=⟨xU,1,none⟩) (Kd.bn (p:=⟨xU,0,none⟩) (Kd.bI yt.out (fun k_ hk=>(⟨hk,hk.2⟩ : _ ∧ k_ ≠ xU))) (fun _ hk=>hk.2) (.int .i64 ((aH t130 xS).f0))) (fun _ hk=>hk.2) (.bool ((aH t130 xS).f1))) (fun _ hk=>hk.2) (.int .i64 ((aH t130 xS).f2))) (fun _ hk=>hk.2) (.string ((aH t130 xS).f3))) (fun _ hk=>hk.2) (.slice yw ((aH t130 xS).f4).length yx)) (fun _ hk=>hk.2) (.slice yC ((aH t130 xS).f5).length yD)) (fun _ h_=>h_.1)))).2.2)|(with_reducible refine Kd.bW ?_ _)|(with_reducible refine Kd.bX ?_ _)|(with_reducible refine Kd.dh ?_)));(case zn=>exact zy.out);(case AZ=>repeat (first|exact ((Kd.bM (by (with_reducible repeat (first|apply Kd.bC|apply Kd.bD|apply Kd.bL));exact (Kd.bI (Kd.bn (p:=⟨xU,5,none⟩) (Kd.bn (p:=⟨xU,4,none⟩) (Kd.bn (p:=⟨xU,3,none⟩) (Kd.bn (p:=⟨xU,2,none⟩) (Kd.bn (p:=⟨xU,1,none⟩) (Kd.bn (p:=⟨xU,0,none⟩) (Kd.bI yu.out (fun k_ hk=>(⟨hk,hk.2⟩ : _ ∧ k_ ≠ xU))) (fun _ hk=>hk.2) (.int .i64 ((aH t130 xS).f0))) (fun _ hk=>hk.2) (.bool ((aH t130 xS).f1))) (fun _ hk=>hk.2) (.int .i64 ((aH t130 xS).f2))) (fun _ hk=>hk.2) (.string ((aH t130 xS).f3))) (fun _ hk=>hk.2) (.slice yw ((aH t130 xS).f4).length yx)) (fun _ hk=>hk.2) (.slice yC ((aH t130 xS).f5).length yD)) (fun _ h_=>h_.1)))).2.2)|(with_reducible refine Kd.bW ?_ _)|(with_reducible refine Kd.bX ?_ _)|(with_reducible refine Kd.dh ?_)));(case Ba=>exact zA.out);rintro e Dr ⟨rfl,hb⟩;refine ⟨_,rfl,?_⟩;have zk:=Aside0.mk (Kd.bB (by (with_reducible repeat (first|apply Kd.bC|apply Kd.bD|apply Kd.bL));exact (Kd.bI (Kd.bn (p:=⟨xU,5,none⟩) (Kd.bn (p:=⟨xU,4,none⟩) (Kd.bn (p:=⟨xU,3,none⟩) (Kd.bn (p:=⟨xU,2,none⟩) (Kd.bn (p:=⟨xU,1,none⟩) (Kd.bn (p:=⟨xU,0,none⟩) (Kd.bI yG.out (fun k_ hk=>(⟨hk,hk.2⟩ : _ ∧ k_ ≠ xU))) (fun _ hk=>hk.2) (.int .i64 ((aH t130 xS).f0))) (fun _ hk=>hk.2) (.bool ((aH t130 xS).f1))) (fun _ hk=>hk.2) (.int .i64 ((aH t130 xS).f2))) (fun _ hk=>hk.2) (.string ((aH t130 xS).f3))) (fun _ hk=>hk.2) (.slice yw ((aH t130 xS).f4).length yx)) (fun _ hk=>hk.2) (.slice yC ((aH t130 xS).f5).length yD)) (fun _ h_=>h_.1))) hb);have zl:=Aside0.mk (Kd.bB (by (with_reducible repeat (first|apply Kd.bC|apply Kd.bD|apply Kd.bL));exact (Kd.bI (Kd.bn (p:=⟨xU,5,none⟩) (Kd.bn (p:=⟨xU,4,none⟩) (Kd.bn (p:=⟨xU,3,none⟩) (Kd.bn (p:=⟨xU,2,none⟩) (Kd.bn (p:=⟨xU,1,none⟩) (Kd.bn (p:=⟨xU,0,none⟩) (Kd.bI yt.out (fun k_ hk=>(⟨hk,hk.2⟩ : _ ∧ k_ ≠ xU))) (fun _ hk=>hk.2) (.int .i64 ((aH t130 xS).f0))) (fun _ hk=>hk.2) (.bool ((aH t130 xS).f1))) (fun _ hk=>hk.2) (.int .i64 ((aH t130 xS).f2))) (fun _ hk=>hk.2) (.string ((aH t130 xS).f3))) (fun _ hk=>hk.2) (.slice yw ((aH t130 xS).f4).length yx)) (fun _ hk=>hk.2) (.slice yC ((aH t130 xS).f5).length yD)) (fun _ h_=>h_.1))) hb);have zB:=Aside0.mk (Kd.bB (by (with_reducible repeat (first|apply Kd.bC|apply Kd.bD|apply Kd.bL));exact (Kd.bI (Kd.bn (p:=⟨xU,5,none⟩) (Kd.bn (p:=⟨xU,4,none⟩) (Kd.bn (p:=⟨xU,3,none⟩) (Kd.bn (p:=⟨xU,2,none⟩) (Kd.bn (p:=⟨xU,1,none⟩) (Kd.bn (p:=⟨xU,0,none⟩) (Kd.bI yu.out (fun k_ hk=>(⟨hk,hk.2⟩ : _ ∧ k_ ≠ xU))) (fun _ hk=>hk.2) (.int .i64 ((aH t130 xS).f0))) (fun _ hk=>hk.2) (.bool ((aH t130 xS).f1))) (fun _ hk=>hk.2) (.int .i64 ((aH t130 xS).f2))) (fun _ hk=>hk.2) (.string ((aH t130 xS).f3))) (fun _ hk=>hk.2) (.slice yw ((aH t130 xS).f4).length yx)) (fun _ hk=>hk.2) (.slice yC ((aH t130 xS).f5).length yD)) (fun _ h_=>h_.1))) hb);have zU:=Aside0.mk (aI (g:=xX) (o:=.cells #[.int .i64 xW,.bool yA,.int .i64 yB,.string yg,.slice yJ yh.length yK,.slice yH xZ.length yI] 29 (0,0)) (by (with_reducible repeat (first|apply aA|apply aD|apply ay));refine bq ?_ xY.out _;(with_reducible repeat (first|apply aA|apply aD|apply ay));refine bq ?_ xY.out _;(with_reducible repeat (first|apply aA|apply aD|apply ay));refine bq ?_ xY.out _;(with_reducible repeat (first|apply aA|apply aD|apply ay));refine bq ?_ xY.out _;(with_reducible repeat (first|apply aA|apply aD|apply ay));refine bq ?_ xY.out _;(with_reducible repeat (first|apply aA|apply aD|apply ay));refine bq ?_ xY.out _;(with_reducible repeat (first|apply aA|apply aD|apply ay));exact xV.out) hb);have AP:=Aside0.mk (Kd.bQ ((Kd.bM (by (with_reducible repeat (first|apply Kd.bC|apply Kd.bD|apply Kd.bL));exact (Kd.bI (Kd.bn (p:=⟨xU,5,none⟩) (Kd.bn (p:=⟨xU,4,none⟩) (Kd.bn (p:=⟨xU,3,none⟩) (Kd.bn (p:=⟨xU,2,none⟩) (Kd.bn (p:=⟨xU,1,none⟩) (Kd.bn (p:=⟨xU,0,none⟩) (Kd.bI yt.out (fun k_ hk=>(⟨hk,hk.2⟩ : _ ∧ k_ ≠ xU))) (fun _ hk=>hk.2) (.int .i64 ((aH t130 xS).f0))) (fun _ hk=>hk.2) (.bool ((aH t130 xS).f1))) (fun _ hk=>hk.2) (.int .i64 ((aH t130 xS).f2))) (fun _ hk=>hk.2) (.string ((aH t130 xS).f3))) (fun _ hk=>hk.2) (.slice yw ((aH t130 xS).f4).length yx)) (fun _ hk=>hk.2) (.slice yC ((aH t130 xS).f5).length yD)) (fun _ h_=>h_.1)))).2.2) hb);have AQ:=Aside0.mk (Kd.bQ ((Kd.bM (by (with_reducible repeat (first|apply Kd.bC|apply Kd.bD|apply Kd.bL));exact (Kd.bI (Kd.bn (p:=⟨xU,5,none⟩) (Kd.bn (p:=⟨xU,4,none⟩) (Kd.bn (p:=⟨xU,3,none⟩) (Kd.bn (p:=⟨xU,2,none⟩) (Kd.bn (p:=⟨xU,1,none⟩) (Kd.bn (p:=⟨xU,0,none⟩) (Kd.bI yu.out (fun k_ hk=>(⟨hk,hk.2⟩ : _ ∧ k_ ≠ xU))) (fun _ hk=>hk.2) (.int .i64 ((aH t130 xS).f0))) (fun _ hk=>hk.2) (.bool ((aH t130 xS).f1))) (fun _ hk=>hk.2) (.int .i64 ((aH t130 xS).f2))) (fun _ hk=>hk.2) (.string ((aH t130 xS).f3))) (fun _ hk=>hk.2) (.slice yw ((aH t130 xS).f4).length yx)) (fun _ hk=>hk.2) (.slice yC ((aH t130 xS).f5).length yD)) (fun _ h_=>h_.1)))).2.2) hb);have AU:=Aside0.mk (aI (g:=xU) (o:=.cells #[.int .i64 ((aH t130 xS).f0),.bool ((aH t130 xS).f1),.int .i64 ((aH t130 xS).f2),.string ((aH t130 xS).f3),.slice yw ((aH t130 xS).f4).length yx,.slice yC ((aH t130 xS).f5).length yD] 29 (0,0)) (by (with_reducible repeat (first|apply aA|apply aD|apply ay));refine aQ (cs:=#[.int .i64 ((aH t130 xS).f0),.bool ((aH t130 xS).f1),.int .i64 ((aH t130 xS).f2),.string ((aH t130 xS).f3),.slice yw ((aH t130 xS).f4).length yx,.slice none 0 0]) ?_ 5 _ rfl;(with_reducible repeat (first|apply aA|apply aD|apply ay));refine aQ (cs:=#[.int .i64 ((aH t130 xS).f0),.bool ((aH t130 xS).f1),.int .i64 ((aH t130 xS).f2),.string ((aH t130 xS).f3),.slice none 0 0,.slice none 0 0]) ?_ 4 _ rfl;(with_reducible repeat (first|apply aA|apply aD|apply ay));refine aQ (cs:=#[.int .i64 ((aH t130 xS).f0),.bool ((aH t130 xS).f1),.int .i64 ((aH t130 xS).f2),.string (⟨#[]⟩ : ByteArray),.slice none 0 0,.slice none 0 0]) ?_ 3 _ rfl;(with_reducible repeat (first|apply aA|apply aD|apply ay));refine aQ (cs:=#[.int .i64 ((aH t130 xS).f0),.bool ((aH t130 xS).f1),.int .i64 0,.string (⟨#[]⟩ : ByteArray),.slice none 0 0,.slice none 0 0]) ?_ 2 _ rfl;(with_reducible repeat (first|apply aA|apply aD|apply ay));refine aQ (cs:=#[.int .i64 ((aH t130 xS).f0),.bool false,.int .i64 0,.string (⟨#[]⟩ : ByteArray),.slice none 0 0,.slice none 0 0]) ?_ 1 _ rfl;(with_reducible repeat (first|apply aA|apply aD|apply ay));refine aQ (cs:=#[.int .i64 0,.bool false,.int .i64 0,.string (⟨#[]⟩ : ByteArray),.slice none 0 0,.slice none 0 0]) ?_ 0 _ rfl;(with_reducible repeat (first|apply aA|apply aD|apply ay));exact yc.out) hb);have AV:=Aside0.mk (aK (by repeat (first|(with_reducible first|exact HB.out|apply av|apply ak|apply au|refine aG ?_ yj.out|refine aG ?_ zo.out)|exact HB.out)) hb);clear yG;clear yt;clear yu;clear xV;clear yE;clear yF;clear yc;clear HB;have yG:=zk;have yt:=zl;have yu:=zB;have xV:=zU;have yE:=AP;have yF:=AQ;have yc:=AU;have HB:=AV;clear zk zl zB zU AP AQ AU AV;(try clear hb);(try clear hb2);(try clear hk);(try clear hi)))
          go_roundg k2
          case measure=>have:=Ci.out;have:=Ck.out;omega
          case rel=>exact ⟨(wrap64 (xS + 1)),(by first|rfl|(simp;done)|(simp [*];done)),H',⟨by have:=Ci.out;have:=Ck.out;omega⟩,⟨by (with_reducible repeat (first|apply Kd.bC|apply Kd.bD|apply Kd.bL));exact Kd.bI yG.out (fun _ hk=>hk.1)⟩,⟨by (with_reducible repeat (first|apply aA|apply aD|apply ay));exact xV.out⟩,⟨by repeat (first|(with_reducible first|exact HB.out|apply av|apply ak|apply au|refine aG ?_ yj.out|refine aG ?_ zo.out)|exact HB.out)⟩⟩
         ·rw [if_neg BL] at H
          have c27b0 : (zi == 0) = false:=beq_eq_false_iff_ne.mpr BL
          have c27b1 : (zi != 0) = true:=bne_iff_ne.mpr BL
          obtain rfl:=Option.some.inj H
          have zq : 0 ≤ (xS : Int):=of_decide_eq_true (by first|(with_reducible assumption)|assumption)
          have zu : xS < (t130.length : Int):=of_decide_eq_true (by first|(with_reducible assumption)|assumption)
          obtain ⟨Ca,yw,yx,yC,yD,BM,Bu,Bv,Bw,Bz,zw,zx,yZ,za,ze,zf⟩:=jR (Kd.bM yG.out).2.2 xS zq zu
          cases BM
          obtain ⟨Cb,zS,zT,yY⟩:=Kd.jO yG.out z29 xS zq (by first|exact zu|exact of_decide_eq_true (by first|(with_reducible assumption)|assumption)|(have e_:=(Kd.bM yG.out).1;omega))
          obtain ⟨BA,BD,BF,BG,rfl,yP,yQ,yR,yS⟩:=j3 zT
          have yL:=yY 4 _ rfl
          rw [bN _ _ 4 (by omega)] at yL
          replace yL:=Option.some.inj (yL.symm.trans zw)
          injection yL with hva_ hvn_ hvc_
          rw [hva_] at yQ
          rw [hvc_] at yP
          have yt:=Aside0.mk (show Kd.V k29 29 _ w.heap.size _ _ ((aH t130 xS).f4) from Kd.jc yP yQ)
          clear hva_ hvn_ hvc_ yQ yP
          have yM:=yY 5 _ rfl
          rw [bN _ _ 5 (by omega)] at yM
          replace yM:=Option.some.inj (yM.symm.trans zx)
          injection yM with hva_ hvn_ hvc_
          rw [hva_] at yS
          rw [hvc_] at yR
          have yu:=Aside0.mk (show Kd.V k48 48 _ w.heap.size _ _ ((aH t130 xS).f5) from Kd.jc yR yS)
          clear hva_ hvn_ hvc_ yS yR
          clear yY zS
          have yE:=Aside0.mk za
          have zy:=Aside0.mk yZ
          clear za yZ
          have yF:=Aside0.mk zf
          have zA:=Aside0.mk ze
          clear zf ze
          replace zq:=eq_true zq
          replace zu:=eq_true zu
          go_wp2_with (first|((with_reducible refine bH (N:=5) rfl ?_);refine bF ?hg (N:=5) ?hd (cs:=#[.int .i64 0,.bool false,.int .i64 0,.string (⟨#[]⟩ : ByteArray),.slice none 0 0,.slice none 0 0]) (t:=29) ?hr ?_;(case hd=>rfl);(case hg=>rfl);(case hr=>first|(go_simp;done)|(go_simp;rfl));intro xU hg w32 hbox hb;have zk:=Aside0.mk (Kd.bB (Kd.dw (by (with_reducible repeat (first|apply Kd.bC|apply Kd.bD|apply Kd.bL));exact yG.out) xU (Nat.le_of_eq hg.symm)) hb);have zl:=Aside0.mk (Kd.bB (Kd.dw (by (with_reducible repeat (first|apply Kd.bC|apply Kd.bD|apply Kd.bL));exact yt.out) xU (Nat.le_of_eq hg.symm)) hb);have zB:=Aside0.mk (Kd.bB (Kd.dw (by (with_reducible repeat (first|apply Kd.bC|apply Kd.bD|apply Kd.bL));exact yu.out) xU (Nat.le_of_eq hg.symm)) hb);have zU:=Aside0.mk (aI (g:=xX) (o:=.cells #[.int .i64 xW,.bool yA,.int .i64 yB,.string yg,.slice yJ yh.length yK,.slice yH xZ.length yI] 29 (0,0)) (bk_ xV.out) hb);have AP:=Aside0.mk (Kd.bQ (by repeat (first|(with_reducible exact yE.out)|(with_reducible refine Kd.bW ?_ _)|(with_reducible refine Kd.bX ?_ _)|(with_reducible refine Kd.dh ?_)|exact yE.out)) hb);have AQ:=Aside0.mk (Kd.bQ (by repeat (first|(with_reducible exact yF.out)|(with_reducible refine Kd.bW ?_ _)|(with_reducible refine Kd.bX ?_ _)|(with_reducible refine Kd.dh ?_)|exact yF.out)) hb);have AU:=Aside0.mk (aK (by repeat (first|(with_reducible first|exact HB.out|apply av|apply ak|apply au|refine aG ?_ yj.out)|exact HB.out)) hb);have AV:=Aside0.mk (hbox);have Cc:=Aside0.mk ((by rw [hg];exact (aM (by repeat (first|(with_reducible first|exact HB.out|apply av|apply ak|apply au|refine aG ?_ yj.out)|exact HB.out))) : w.heap.size ≤ xU));have Ce:=Aside0.mk ((by rw [hg];exact (aM (by repeat (first|(with_reducible first|exact HB.out|apply av|apply ak|apply au|refine aG ?_ yj.out)|exact HB.out))) : w.heap.size ≤ xU));have AX:=Aside0.mk ((by rw [hg];exact Nat.ne_of_lt (bO (g:=xX) (o:=.cells #[.int .i64 xW,.bool yA,.int .i64 yB,.string yg,.slice yJ yh.length yK,.slice yH xZ.length yI] 29 (0,0)) (bk_ xV.out)) : xX ≠ xU));have AY:=Aside0.mk ((by rw [hg];exact Nat.ne_of_gt (bO (g:=xX) (o:=.cells #[.int .i64 xW,.bool yA,.int .i64 yB,.string yg,.slice yJ yh.length yK,.slice yH xZ.length yI] 29 (0,0)) (bk_ xV.out)) : xU ≠ xX));clear yG;clear yt;clear yu;clear xV;clear yE;clear yF;clear HB;have yG:=zk;have yt:=zl;have yu:=zB;have xV:=zU;have yE:=AP;have yF:=AQ;have HB:=AU;have yc:=AV;have Cg:=Cc;have zo:=Ce;have xY:=AX;have zh:=AY;clear zk zl zB zU AP AQ AU AV Cc Ce AX AY;clear hb hbox hg;have Dh:=zh.out;have Di:=xY.out;have CF : w32.cell? ⟨xU,0,none⟩ = some (.int .i64 0):=(ah yc.out 0).trans rfl;have CG : w32.cell? ⟨xU,1,none⟩ = some (.bool false):=(ah yc.out 1).trans rfl;have CJ : w32.cell? ⟨xU,2,none⟩ = some (.int .i64 0):=(ah yc.out 2).trans rfl;have CK : w32.cell? ⟨xU,3,none⟩ = some (.string (⟨#[]⟩ : ByteArray)):=(ah yc.out 3).trans rfl;have CO : w32.cell? ⟨xU,4,none⟩ = some (.slice none 0 0):=(ah yc.out 4).trans rfl;have CP : w32.cell? ⟨xU,5,none⟩ = some (.slice none 0 0):=(ah yc.out 5).trans rfl;have CQ:=aj yc.out 0;have CS:=aj yc.out 1;have CU:=aj yc.out 2;have CV:=aj yc.out 3;have CW:=aj yc.out 4;have CX:=aj yc.out 5)|((with_reducible refine bV (f:=34) rfl ?_);refine dM (some 35) rfl rfl Tryd.func34 (by kernel_rfl) rfl #[.agg #[.int .i64 ((aH t130 xS).f0),.bool ((aH t130 xS).f1),.int .i64 ((aH t130 xS).f2),.string ((aH t130 xS).f3),.slice yw ((aH t130 xS).f4).length yx,.slice yC ((aH t130 xS).f5).length yD]] rfl (by (try simp only [List.map_toArray,List.map_cons,List.map_nil]);first|done|rfl|(simp only [List.length_drop,List.length_take];rfl)|(simp (disch:=first|omega|(simp at *;omega)) only [eD,eB,fU];rfl)) ?_;(with_reducible refine (ih k2 (by have:=Ci.out;have:=Ck.out;omega) ((aH t130 xS).f0) ((aH t130 xS).f1) ((aH t130 xS).f2) ((aH t130 xS).f3) _ _ ((aH t130 xS).f4) _ _ ((aH t130 xS).f5) zi _ ?zm ?zn ?AZ ?Ba Db.out (by first|assumption|exact GW.below hG (by first|exact HB.out|assumption|(repeat (first|(with_reducible first|exact HB.out|apply av|apply ak|apply au|refine aG ?_ zo.out)|exact HB.out)))|exact GW.drawn hG (by first|assumption|(repeat (first|exact Drawn0.refl _|assumption|apply Drawn0.step))))).mono ?_);(case zm=>repeat (first|exact ((Kd.bM (by (with_reducible repeat (first|apply Kd.bC|apply Kd.bD|apply Kd.bL));exact (Kd.bI (Kd.bn (p:=⟨xU,5,none⟩) (Kd.bn (p:=⟨xU,4,none⟩) (Kd.bn (p:=⟨xU,3,none⟩) (Kd.bn (p:=⟨xU,2,none⟩) (Kd.bn (p:=⟨xU,1,none⟩) (Kd.bn (p:=⟨xU,0,none⟩) (Kd.bI yt.out (fun k_ hk=>(⟨hk,hk.2⟩ : _ ∧ k_ ≠ xU))) (fun _ hk=>hk.2) (.int .i64 ((aH t130 xS).f0))) (fun _ hk=>hk.2) (.bool ((aH t130 xS).f1))) (fun _ hk=>hk.2) (.int .i64 ((aH t130 xS).f2))) (fun _ hk=>hk.2) (.string ((aH t130 xS).f3))) (fun _ hk=>hk.2) (.slice yw ((aH t130 xS).f4).length yx)) (fun _ hk=>hk.2) (.slice yC ((aH t130 xS).f5).length yD)) (fun _ h_=>h_.1)))).2.2)|(with_reducible refine Kd.bW ?_ _)|(with_reducible refine Kd.bX ?_ _)|(with_reducible refine Kd.dh ?_)));(case zn=>exact zy.out);(case AZ=>repeat (first|exact ((Kd.bM (by (with_reducible repeat (first|apply Kd.bC|apply Kd.bD|apply Kd.bL));exact (Kd.bI (Kd.bn (p:=⟨xU,5,none⟩) (Kd.bn (p:=⟨xU,4,none⟩) (Kd.bn (p:=⟨xU,3,none⟩) (Kd.bn (p:=⟨xU,2,none⟩) (Kd.bn (p:=⟨xU,1,none⟩) (Kd.bn (p:=⟨xU,0,none⟩) (Kd.bI yu.out (fun k_ hk=>(⟨hk,hk.2⟩ : _ ∧ k_ ≠ xU))) (fun _ hk=>hk.2) (.int .i64 ((aH t130 xS).f0))) (fun _ hk=>hk.2) (.bool ((aH t130 xS).f1))) (fun _ hk=>hk.2) (.int .i64 ((aH t130 xS).f2))) (fun _ hk=>hk.2) (.string ((aH t130 xS).f3))) (fun _ hk=>hk.2) (.slice yw ((aH t130 xS).f4).length yx)) (fun _ hk=>hk.2) (.slice yC ((aH t130 xS).f5).length yD)) (fun _ h_=>h_.1)))).2.2)|(with_reducible refine Kd.bW ?_ _)|(with_reducible refine Kd.bX ?_ _)|(with_reducible refine Kd.dh ?_)));(case Ba=>exact zA.out);rintro e Dt ⟨rfl,hb⟩;refine ⟨_,rfl,?_⟩;have zk:=Aside0.mk (Kd.bB (by (with_reducible repeat (first|apply Kd.bC|apply Kd.bD|apply Kd.bL));exact (Kd.bI (Kd.bn (p:=⟨xU,5,none⟩) (Kd.bn (p:=⟨xU,4,none⟩) (Kd.bn (p:=⟨xU,3,none⟩) (Kd.bn (p:=⟨xU,2,none⟩) (Kd.bn (p:=⟨xU,1,none⟩) (Kd.bn (p:=⟨xU,0,none⟩) (Kd.bI yG.out (fun k_ hk=>(⟨hk,hk.2⟩ : _ ∧ k_ ≠ xU))) (fun _ hk=>hk.2) (.int .i64 ((aH t130 xS).f0))) (fun _ hk=>hk.2) (.bool ((aH t130 xS).f1))) (fun _ hk=>hk.2) (.int .i64 ((aH t130 xS).f2))) (fun _ hk=>hk.2) (.string ((aH t130 xS).f3))) (fun _ hk=>hk.2) (.slice yw ((aH t130 xS).f4).length yx)) (fun _ hk=>hk.2) (.slice yC ((aH t130 xS).f5).length yD)) (fun _ h_=>h_.1))) hb);have zl:=Aside0.mk (Kd.bB (by (with_reducible repeat (first|apply Kd.bC|apply Kd.bD|apply Kd.bL));exact (Kd.bI (Kd.bn (p:=⟨xU,5,none⟩) (Kd.bn (p:=⟨xU,4,none⟩) (Kd.bn (p:=⟨xU,3,none⟩) (Kd.bn (p:=⟨xU,2,none⟩) (Kd.bn (p:=⟨xU,1,none⟩) (Kd.bn (p:=⟨xU,0,none⟩) (Kd.bI yt.out (fun k_ hk=>(⟨hk,hk.2⟩ : _ ∧ k_ ≠ xU))) (fun _ hk=>hk.2) (.int .i64 ((aH t130 xS).f0))) (fun _ hk=>hk.2) (.bool ((aH t130 xS).f1))) (fun _ hk=>hk.2) (.int .i64 ((aH t130 xS).f2))) (fun _ hk=>hk.2) (.string ((aH t130 xS).f3))) (fun _ hk=>hk.2) (.slice yw ((aH t130 xS).f4).length yx)) (fun _ hk=>hk.2) (.slice yC ((aH t130 xS).f5).length yD)) (fun _ h_=>h_.1))) hb);have zB:=Aside0.mk (Kd.bB (by (with_reducible repeat (first|apply Kd.bC|apply Kd.bD|apply Kd.bL));exact (Kd.bI (Kd.bn (p:=⟨xU,5,none⟩) (Kd.bn (p:=⟨xU,4,none⟩) (Kd.bn (p:=⟨xU,3,none⟩) (Kd.bn (p:=⟨xU,2,none⟩) (Kd.bn (p:=⟨xU,1,none⟩) (Kd.bn (p:=⟨xU,0,none⟩) (Kd.bI yu.out (fun k_ hk=>(⟨hk,hk.2⟩ : _ ∧ k_ ≠ xU))) (fun _ hk=>hk.2) (.int .i64 ((aH t130 xS).f0))) (fun _ hk=>hk.2) (.bool ((aH t130 xS).f1))) (fun _ hk=>hk.2) (.int .i64 ((aH t130 xS).f2))) (fun _ hk=>hk.2) (.string ((aH t130 xS).f3))) (fun _ hk=>hk.2) (.slice yw ((aH t130 xS).f4).length yx)) (fun _ hk=>hk.2) (.slice yC ((aH t130 xS).f5).length yD)) (fun _ h_=>h_.1))) hb);have zU:=Aside0.mk (aI (g:=xX) (o:=.cells #[.int .i64 xW,.bool yA,.int .i64 yB,.string yg,.slice yJ yh.length yK,.slice yH xZ.length yI] 29 (0,0)) (by (with_reducible repeat (first|apply aA|apply aD|apply ay));refine bq ?_ xY.out _;(with_reducible repeat (first|apply aA|apply aD|apply ay));refine bq ?_ xY.out _;(with_reducible repeat (first|apply aA|apply aD|apply ay));refine bq ?_ xY.out _;(with_reducible repeat (first|apply aA|apply aD|apply ay));refine bq ?_ xY.out _;(with_reducible repeat (first|apply aA|apply aD|apply ay));refine bq ?_ xY.out _;(with_reducible repeat (first|apply aA|apply aD|apply ay));refine bq ?_ xY.out _;(with_reducible repeat (first|apply aA|apply aD|apply ay));exact xV.out) hb);have AP:=Aside0.mk (Kd.bQ ((Kd.bM (by (with_reducible repeat (first|apply Kd.bC|apply Kd.bD|apply Kd.bL));exact (Kd.bI (Kd.bn (p:=⟨xU,5,none⟩) (Kd.bn (p:=⟨xU,4,none⟩) (Kd.bn (p:=⟨xU,3,none⟩) (Kd.bn (p:=⟨xU,2,none⟩) (Kd.bn (p:=⟨xU,1,none⟩) (Kd.bn (p:=⟨xU,0,none⟩) (Kd.bI yt.out (fun k_ hk=>(⟨hk,hk.2⟩ : _ ∧ k_ ≠ xU))) (fun _ hk=>hk.2) (.int .i64 ((aH t130 xS).f0))) (fun _ hk=>hk.2) (.bool ((aH t130 xS).f1))) (fun _ hk=>hk.2) (.int .i64 ((aH t130 xS).f2))) (fun _ hk=>hk.2) (.string ((aH t130 xS).f3))) (fun _ hk=>hk.2) (.slice yw ((aH t130 xS).f4).length yx)) (fun _ hk=>hk.2) (.slice yC ((aH t130 xS).f5).length yD)) (fun _ h_=>h_.1)))).2.2) hb);have AQ:=Aside0.mk (Kd.bQ ((Kd.bM (by (with_reducible repeat (first|apply Kd.bC|apply Kd.bD|apply Kd.bL));exact (Kd.bI (Kd.bn (p:=⟨xU,5,none⟩) (Kd.bn (p:=⟨xU,4,none⟩) (Kd.bn (p:=⟨xU,3,none⟩) (Kd.bn (p:=⟨xU,2,none⟩) (Kd.bn (p:=⟨xU,1,none⟩) (Kd.bn (p:=⟨xU,0,none⟩) (Kd.bI yu.out (fun k_ hk=>(⟨hk,hk.2⟩ : _ ∧ k_ ≠ xU))) (fun _ hk=>hk.2) (.int .i64 ((aH t130 xS).f0))) (fun _ hk=>hk.2) (.bool ((aH t130 xS).f1))) (fun _ hk=>hk.2) (.int .i64 ((aH t130 xS).f2))) (fun _ hk=>hk.2) (.string ((aH t130 xS).f3))) (fun _ hk=>hk.2) (.slice yw ((aH t130 xS).f4).length yx)) (fun _ hk=>hk.2) (.slice yC ((aH t130 xS).f5).length yD)) (fun _ h_=>h_.1)))).2.2) hb);have AU:=Aside0.mk (aI (g:=xU) (o:=.cells #[.int .i64 ((aH t130 xS).f0),.bool ((aH t130 xS).f1),.int .i64 ((aH t130 xS).f2),.string ((aH t130 xS).f3),.slice yw ((aH t130 xS).f4).length yx,.slice yC ((aH t130 xS).f5).length yD] 29 (0,0)) (by (with_reducible repeat (first|apply aA|apply aD|apply ay));refine aQ (cs:=#[.int .i64 ((aH t130 xS).f0),.bool ((aH t130 xS).f1),.int .i64 ((aH t130 xS).f2),.string ((aH t130 xS).f3),.slice yw ((aH t130 xS).f4).length yx,.slice none 0 0]) ?_ 5 _ rfl;(with_reducible repeat (first|apply aA|apply aD|apply ay));refine aQ (cs:=#[.int .i64 ((aH t130 xS).f0),.bool ((aH t130 xS).f1),.int .i64 ((aH t130 xS).f2),.string ((aH t130 xS).f3),.slice none 0 0,.slice none 0 0]) ?_ 4 _ rfl;(with_reducible repeat (first|apply aA|apply aD|apply ay));refine aQ (cs:=#[.int .i64 ((aH t130 xS).f0),.bool ((aH t130 xS).f1),.int .i64 ((aH t130 xS).f2),.string (⟨#[]⟩ : ByteArray),.slice none 0 0,.slice none 0 0]) ?_ 3 _ rfl;(with_reducible repeat (first|apply aA|apply aD|apply ay));refine aQ (cs:=#[.int .i64 ((aH t130 xS).f0),.bool ((aH t130 xS).f1),.int .i64 0,.string (⟨#[]⟩ : ByteArray),.slice none 0 0,.slice none 0 0]) ?_ 2 _ rfl;(with_reducible repeat (first|apply aA|apply aD|apply ay));refine aQ (cs:=#[.int .i64 ((aH t130 xS).f0),.bool false,.int .i64 0,.string (⟨#[]⟩ : ByteArray),.slice none 0 0,.slice none 0 0]) ?_ 1 _ rfl;(with_reducible repeat (first|apply aA|apply aD|apply ay));refine aQ (cs:=#[.int .i64 0,.bool false,.int .i64 0,.string (⟨#[]⟩ : ByteArray),.slice none 0 0,.slice none 0 0]) ?_ 0 _ rfl;(with_reducible repeat (first|apply aA|apply aD|apply ay));exact yc.out) hb);have AV:=Aside0.mk (aK (by repeat (first|(with_reducible first|exact HB.out|apply av|apply ak|apply au|refine aG ?_ yj.out|refine aG ?_ zo.out)|exact HB.out)) hb);clear yG;clear yt;clear yu;clear xV;clear yE;clear yF;clear yc;clear HB;have yG:=zk;have yt:=zl;have yu:=zB;have xV:=zU;have yE:=AP;have yF:=AQ;have yc:=AU;have HB:=AV;clear zk zl zB zU AP AQ AU AV;(try clear hb);(try clear hb2);(try clear hk);(try clear hi)))
          go_ret
          exact ⟨by first|rfl|(simp [aX,aY] <;> rfl)|(simp [*,aX,aY] <;> rfl),by repeat (first|(with_reducible first|exact HB.out|apply av|apply ak|apply au|refine aG ?_ yj.out|refine aG ?_ zo.out)|exact HB.out)⟩
        ·rw [if_neg Cm] at H
         exact absurd H (by simp)
       ·rw [if_neg c24] at H
        exact absurd H (by simp)
      ·rw [if_neg c23] at H
       have c23b0 : decide (xS < (t130.length : Int)) = false:=decide_eq_false c23
       clear c23
       obtain rfl:=Option.some.inj H
       go_wp2
       go_ret
       exact ⟨by first|rfl|(simp [aX,aY] <;> rfl)|(simp [*,aX,aY] <;> rfl),by repeat (first|(with_reducible first|exact HB.out|apply av|apply ak|apply au|refine aG ?_ yj.out)|exact HB.out)⟩
   ·rw [if_neg c18] at H
    have c18b0 : (zC == 0) = false:=beq_eq_false_iff_ne.mpr c18
    have c18b1 : (zC != 0) = true:=bne_iff_ne.mpr c18
    obtain rfl:=Option.some.inj H
    go_wp2
    go_ret
    exact ⟨by first|rfl|(simp [aX,aY] <;> rfl)|(simp [*,aX,aY] <;> rfl),by repeat (first|(with_reducible first|exact HB.out|apply av|apply ak|apply au|refine aG ?_ yj.out)|exact HB.out)⟩
end Go.Proofs.YtnkkbiabloodaaaDoor.GVa
