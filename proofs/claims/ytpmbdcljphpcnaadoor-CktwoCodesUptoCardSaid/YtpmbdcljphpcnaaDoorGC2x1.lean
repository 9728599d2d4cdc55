/- Written by this session's own program (wip/gen.py) out of the translation: plain Lean functions of the Go functions, and proofs that the calls come to their answers. No conditions beside those in the statements. -/
import Derived.Test.YtpmbdcljphpcnaaDoorGC2x0
namespace Go.Proofs.YtpmbdcljphpcnaaDoor.GC2
open Go.RowKit Go.Proofs.YtpmbdcljphpcnaaDoorW.PrintWords Go.Proofs.YtpmbdcljphpcnaaDoorW.PrintLast Go.Proofs.YtpmbdcljphpcnaaDoorW.PrintMore
attribute [local go_sem] eY eZ fJ fK eP eT fq fu
set_option linter.unusedVariables false
set_option linter.unusedSimpArgs false
mutual
def aW.l0 : Nat → Int → List (S98) → Int → Int → Option (Bool)
 | 0,_,_,_,_=>none
 | k + 1,x3,x9,x10,za=>if za < x10 then (if 0 ≤ za then (if za < (x9.length : Int) then (aW.l1 k (wrap64 (x3 + (wrap64 ((wrap64 ((wrap64 (1 + (((aD x9 za).f0).size : Int))) + (((aD x9 za).f1).size : Int))) + (((aD x9 za).f2).size : Int))))) x9 x10 za ((aD x9 za).f5) (((aD x9 za).f5).length : Int) 0) else (none)) else (none)) else (some true)
def aW.l1 : Nat → Int → List (S98) → Int → Int → List (S100) → Int → Int → Option (Bool)
 | 0,_,_,_,_,_,_,_=>none
 | k + 1,x3,x9,x10,za,x30,x31,x32=>if x32 < x31 then (if 0 ≤ x32 then (if x32 < (x30.length : Int) then (aW.l1 k (wrap64 (x3 + (wrap64 ((wrap64 (1 + (((dS x30 x32).f0).size : Int))) + (((dS x30 x32).f1).size : Int))))) x9 x10 za x30 x31 (wrap64 (x32 + 1))) else (none)) else (none)) else (if x3 > 20000 then (some false) else (aW.l0 k x3 x9 x10 (wrap64 (za + 1))))
end
def aW.f (k : Nat) (xY : Int) (xJ : List (S98)) : Option (Bool):=aW.l0 k 0 xJ (xJ.length : Int) 0
theorem aW.dO : ∀ k,(∀ y0 y1 y2 y3,LeO (aW.l0 k y0 y1 y2 y3) (aW.l0 (k + 1) y0 y1 y2 y3)) ∧ (∀ y0 y1 y2 y3 y4 y5 y6,LeO (aW.l1 k y0 y1 y2 y3 y4 y5 y6) (aW.l1 (k + 1) y0 y1 y2 y3 y4 y5 y6))
 | 0=>⟨fun _ _ _ _ r h=>by simp [aW.l0] at h,fun _ _ _ _ _ _ _ r h=>by simp [aW.l1] at h⟩
 | k + 1=>by
  obtain ⟨yU,ih1⟩:=aW.dO k
  refine ⟨?_,?_⟩
  ·intro y0 y1 y2 y3
   unfold aW.l0
   repeat' first
   | (with_reducible exact yU _ _ _ _)
   | (with_reducible exact ih1 _ _ _ _ _ _ _)
   | (with_reducible exact LeO.refl _)
   | (with_reducible exact LeO.none _)
   | (with_reducible refine LeO.ite ?_ ?_)
   | (with_reducible refine LeO.bind ?_ (fun _=>?_))
   | exact yU _ _ _ _
   | exact ih1 _ _ _ _ _ _ _
   | exact LeO.none _
   | refine LeO.ite ?_ ?_
   | refine LeO.bind ?_ (fun _=>?_)
  ·intro y0 y1 y2 y3 y4 y5 y6
   unfold aW.l1
   repeat' first
   | (with_reducible exact yU _ _ _ _)
   | (with_reducible exact ih1 _ _ _ _ _ _ _)
   | (with_reducible exact LeO.refl _)
   | (with_reducible exact LeO.none _)
   | (with_reducible refine LeO.ite ?_ ?_)
   | (with_reducible refine LeO.bind ?_ (fun _=>?_))
   | exact yU _ _ _ _
   | exact ih1 _ _ _ _ _ _ _
   | exact LeO.none _
   | refine LeO.ite ?_ ?_
   | refine LeO.bind ?_ (fun _=>?_)
theorem aW.mono : ∀ a0 a1 k,LeO (aW.f k a0 a1) (aW.f (k + 1) a0 a1):=by
 intro a0 a1 k
 obtain ⟨yU,ih1⟩:=aW.dO k
 unfold aW.f
 repeat' first
   | (with_reducible exact yU _ _ _ _)
   | (with_reducible exact ih1 _ _ _ _ _ _ _)
   | (with_reducible exact LeO.refl _)
   | (with_reducible exact LeO.none _)
   | (with_reducible refine LeO.ite ?_ ?_)
   | (with_reducible refine LeO.bind ?_ (fun _=>?_))
   | exact yU _ _ _ _
   | exact ih1 _ _ _ _ _ _ _
   | exact LeO.none _
   | refine LeO.ite ?_ ?_
   | refine LeO.bind ?_ (fun _=>?_)
set_option maxHeartbeats 8000000 in
set_option maxRecDepth 100000 in
theorem aW.calls (k : Nat) (xY : Int) (ze : Option Addr) (yh : Nat) (xJ : List (S98)) (r : Bool) (w : World) (zy : Kd.C k98 w ze xJ.length xJ) (zA : xJ.length ≤ yh) (h : aW.f k xY xJ = some r) :
  Calls Tryd.prog 22 #[.agg #[.int .u64 xY,.slice ze xJ.length yh]] w fun e w'=>e = .returned (.bool r) ∧ Below w.heap.size w w':=by
 have Bt:=Tryd.underlying49
 have Bu:=Tryd.underlying98
 have AQ:=Tryd.underlying100
 have z8:=Aside0.mk zy
 have AU:=Aside0.mk zA
 clear zy zA
 have HB:=Aside0.mk (Below.refl w.heap.size w)
 have H : (aW.l0 k 0 xJ (xJ.length : Int) 0) = some r:=h
 clear h
 have H':=Aside0.mk H
 clear H
 go_enter Tryd.func22,Tryd.ntmps22
 go_wp2_with (first|((with_reducible refine dN (N:=1) rfl ?_);refine dK ?hg (N:=1) ?hd (cs:=#[.int .u64 xY,.slice ze xJ.length yh]) (t:=49) ?hr ?_;(case hd=>rfl);(case hg=>rfl);(case hr=>first|(go_simp;done)|(go_simp;rfl));intro xP hg w2 hbox hb;have xU:=Aside0.mk (aQ (by repeat (first|(with_reducible first|exact HB.out|apply ay|apply aj|apply av)|exact HB.out)) hb);have yP:=Aside0.mk (hbox);have zB:=Aside0.mk ((by rw [hg];exact (aV (by repeat (first|(with_reducible first|exact HB.out|apply ay|apply aj|apply av)|exact HB.out))) : w.heap.size ≤ xP));have zC:=Aside0.mk ((by rw [hg];exact (aV (by repeat (first|(with_reducible first|exact HB.out|apply ay|apply aj|apply av)|exact HB.out))) : w.heap.size ≤ xP));clear HB;have HB:=xU;have xL:=yP;have AV:=zB;have xS:=zC;clear xU yP zB zC;clear hb hbox hg;have zf : w2.cell? ⟨xP,0,none⟩ = some (.int .u64 xY):=(au xL.out 0).trans rfl;have zh : w2.cell? ⟨xP,1,none⟩ = some (.slice ze xJ.length yh):=(au xL.out 1).trans rfl;have zi:=aH xL.out 0;have zk:=aH xL.out 1))
 go_loopg [3,11] k (fun kq v3 v11 w'=>∃ (zq : Int) (xI : Int),v3 = .int .i64 zq ∧ v11 = .int .i64 xI ∧ Aside0 (aW.l0 kq zq xJ (xJ.length : Int) xI = some r) ∧ Aside0 (kq ≤ k) ∧ Aside0 (w'.heap[xP]? = some (.cells #[.int .u64 xY,(.slice ze xJ.length yh)] 49 (0,0))) ∧ Aside0 (Below w.heap.size w w'))
 case atStart=>exact ⟨(0),(0),(by first|rfl|(simp;done)|(simp [*];done)),(by first|rfl|(simp;done)|(simp [*];done)),H',⟨Nat.le_refl _⟩,⟨by (with_reducible repeat (first|apply aC|apply aG|apply aA));exact xL.out⟩,⟨by repeat (first|(with_reducible first|exact HB.out|apply ay|apply aj|apply av|refine ak ?_ xS.out)|exact HB.out)⟩⟩
 case round =>
  clear H'
  try clear c2
  try clear p2
  try clear zf
  try clear zh
  try clear zi
  try clear zk
  obtain ⟨zq,xI,rfl,rfl,HA,zF,xL,HB⟩:=hrel
  cases gk with
  | zero=>exact absurd HA.out (by simp [aW.l0])
  | succ k1 =>
   have H:=HA.out
   clear HA
   simp only [aW.l0] at H
   by_cases c4 : xI < (xJ.length : Int)
   ·rw [if_pos c4] at H
    have c4b0 : decide (xI < (xJ.length : Int)) = true:=decide_eq_true c4
    clear c4
    by_cases c5 : 0 ≤ xI
    ·rw [if_pos c5] at H
     have c5b0 : decide (0 ≤ xI) = true:=decide_eq_true c5
     clear c5
     by_cases c6 : xI < (xJ.length : Int)
     ·rw [if_pos c6] at H
      have c6b0 : decide (xI < (xJ.length : Int)) = true:=decide_eq_true c6
      clear c6
      have H':=Aside0.mk H
      clear H
      have zu : 0 ≤ (xI : Int):=of_decide_eq_true (by first|(with_reducible assumption)|assumption)
      have zw : xI < (xJ.length : Int):=of_decide_eq_true (by first|(with_reducible assumption)|assumption)
      obtain ⟨yC,zG,yF,Av,yt,yu,yw,yx,yA,yB,yQ,yR⟩:=jD z8.out xI zu zw
      cases Av
      replace yt:=(HB.out.cell (World.block_lt_of_cell? w _ yt)).trans yt
      replace yu:=(HB.out.cell (World.block_lt_of_cell? w _ yu)).trans yu
      replace yw:=(HB.out.cell (World.block_lt_of_cell? w _ yw)).trans yw
      replace yx:=(HB.out.cell (World.block_lt_of_cell? w _ yx)).trans yx
      replace yA:=(HB.out.cell (World.block_lt_of_cell? w _ yA)).trans yA
      replace yB:=(HB.out.cell (World.block_lt_of_cell? w _ yB)).trans yB
      have zx:=Aside0.mk yR
      have Am:=Aside0.mk yQ
      clear yR yQ
      replace zu:=eq_true zu
      replace zw:=eq_true zw
      go_wp2_with (first|((with_reducible refine dN (N:=5) rfl ?_);refine dK ?hg (N:=5) ?hd (cs:=#[.string (⟨#[]⟩ : ByteArray),.string (⟨#[]⟩ : ByteArray),.string (⟨#[]⟩ : ByteArray),.int .u8 0,.int .u16 0,.slice none 0 0]) (t:=98) ?hr ?_;(case hd=>rfl);(case hg=>rfl);(case hr=>first|(go_simp;done)|(go_simp;rfl));intro xQ hg w7 hbox hb;have xU:=Aside0.mk (aK (g:=xP) (o:=.cells #[.int .u64 xY,.slice (some yC) xJ.length yh] 49 (0,0)) (bk_ xL.out) hb);have yP:=Aside0.mk (aQ (by repeat (first|(with_reducible first|exact HB.out|apply ay|apply aj|apply av|refine ak ?_ xS.out)|exact HB.out)) hb);have zB:=Aside0.mk (hbox);have zC:=Aside0.mk ((by rw [hg];exact (aV (by repeat (first|(with_reducible first|exact HB.out|apply ay|apply aj|apply av|refine ak ?_ xS.out)|exact HB.out))) : w.heap.size ≤ xQ));have Aa:=Aside0.mk ((by rw [hg];exact (aV (by repeat (first|(with_reducible first|exact HB.out|apply ay|apply aj|apply av|refine ak ?_ xS.out)|exact HB.out))) : w.heap.size ≤ xQ));have Ab:=Aside0.mk ((by rw [hg];exact Nat.ne_of_lt (bP (g:=xP) (o:=.cells #[.int .u64 xY,.slice (some yC) xJ.length yh] 49 (0,0)) (bk_ xL.out)) : xP ≠ xQ));have Ac:=Aside0.mk ((by rw [hg];exact Nat.ne_of_gt (bP (g:=xP) (o:=.cells #[.int .u64 xY,.slice (some yC) xJ.length yh] 49 (0,0)) (bk_ xL.out)) : xQ ≠ xP));clear xL;clear HB;have xL:=xU;have HB:=yP;have xM:=zB;have AX:=zC;have yD:=Aa;have xO:=Ab;have yV:=Ac;clear xU yP zB zC Aa Ab Ac;clear hb hbox hg;have Bv:=yV.out;have Bw:=xO.out;have zH : w7.cell? ⟨xQ,0,none⟩ = some (.string (⟨#[]⟩ : ByteArray)):=(au xM.out 0).trans rfl;have zI : w7.cell? ⟨xQ,1,none⟩ = some (.string (⟨#[]⟩ : ByteArray)):=(au xM.out 1).trans rfl;have zJ : w7.cell? ⟨xQ,2,none⟩ = some (.string (⟨#[]⟩ : ByteArray)):=(au xM.out 2).trans rfl;have zK : w7.cell? ⟨xQ,3,none⟩ = some (.int .u8 0):=(au xM.out 3).trans rfl;have zL : w7.cell? ⟨xQ,4,none⟩ = some (.int .u16 0):=(au xM.out 4).trans rfl;have zM : w7.cell? ⟨xQ,5,none⟩ = some (.slice none 0 0):=(au xM.out 5).trans rfl;have zN:=aH xM.out 0;have zO:=aH xM.out 1;have zP:=aH xM.out 2;have zQ:=aH xM.out 3;have zR:=aH xM.out 4;have zS:=aH xM.out 5))
      go_loopg [3,32] k1 (fun kq v3 v32 w'=>∃ (yJ : Int) (xR : Int),v3 = .int .i64 yJ ∧ v32 = .int .i64 xR ∧ Aside0 (aW.l1 kq yJ xJ (xJ.length : Int) xI ((aD xJ xI).f5) (((aD xJ xI).f5).length : Int) xR = some r) ∧ Aside0 (kq ≤ k1) ∧ Aside0 (w'.heap[xP]? = some (.cells #[.int .u64 xY,(.slice (some yC) xJ.length yh)] 49 (0,0))) ∧ Aside0 (w'.heap[xQ]? = some (.cells #[.string ((aD xJ xI).f0),.string ((aD xJ xI).f1),.string ((aD xJ xI).f2),.int .u8 ((aD xJ xI).f3),.int .u16 ((aD xJ xI).f4),(.slice zG ((aD xJ xI).f5).length yF)] 98 (0,0))) ∧ Aside0 (Below w.heap.size w w'))
      case atStart=>exact ⟨(wrap64 (zq + (wrap64 ((wrap64 ((wrap64 (1 + (((aD xJ xI).f0).size : Int))) + (((aD xJ xI).f1).size : Int))) + (((aD xJ xI).f2).size : Int))))),(0),(by first|rfl|(simp;done)|(simp [*];done)),(by first|rfl|(simp;done)|(simp [*];done)),H',⟨Nat.le_refl _⟩,⟨by (with_reducible repeat (first|apply aC|apply aG|apply aA));refine aU ?_ xO.out _;(with_reducible repeat (first|apply aC|apply aG|apply aA));refine aU ?_ xO.out _;(with_reducible repeat (first|apply aC|apply aG|apply aA));refine aU ?_ xO.out _;(with_reducible repeat (first|apply aC|apply aG|apply aA));refine aU ?_ xO.out _;(with_reducible repeat (first|apply aC|apply aG|apply aA));refine aU ?_ xO.out _;(with_reducible repeat (first|apply aC|apply aG|apply aA));refine aU ?_ xO.out _;(with_reducible repeat (first|apply aC|apply aG|apply aA));exact xL.out⟩,⟨by (with_reducible repeat (first|apply aC|apply aG|apply aA));refine bE (cs:=#[.string ((aD xJ xI).f0),.string ((aD xJ xI).f1),.string ((aD xJ xI).f2),.int .u8 ((aD xJ xI).f3),.int .u16 ((aD xJ xI).f4),.slice none 0 0]) ?_ 5 _ rfl;(with_reducible repeat (first|apply aC|apply aG|apply aA));refine bE (cs:=#[.string ((aD xJ xI).f0),.string ((aD xJ xI).f1),.string ((aD xJ xI).f2),.int .u8 ((aD xJ xI).f3),.int .u16 0,.slice none 0 0]) ?_ 4 _ rfl;(with_reducible repeat (first|apply aC|apply aG|apply aA));refine bE (cs:=#[.string ((aD xJ xI).f0),.string ((aD xJ xI).f1),.string ((aD xJ xI).f2),.int .u8 0,.int .u16 0,.slice none 0 0]) ?_ 3 _ rfl;(with_reducible repeat (first|apply aC|apply aG|apply aA));refine bE (cs:=#[.string ((aD xJ xI).f0),.string ((aD xJ xI).f1),.string (⟨#[]⟩ : ByteArray),.int .u8 0,.int .u16 0,.slice none 0 0]) ?_ 2 _ rfl;(with_reducible repeat (first|apply aC|apply aG|apply aA));refine bE (cs:=#[.string ((aD xJ xI).f0),.string (⟨#[]⟩ : ByteArray),.string (⟨#[]⟩ : ByteArray),.int .u8 0,.int .u16 0,.slice none 0 0]) ?_ 1 _ rfl;(with_reducible repeat (first|apply aC|apply aG|apply aA));refine bE (cs:=#[.string (⟨#[]⟩ : ByteArray),.string (⟨#[]⟩ : ByteArray),.string (⟨#[]⟩ : ByteArray),.int .u8 0,.int .u16 0,.slice none 0 0]) ?_ 0 _ rfl;(with_reducible repeat (first|apply aC|apply aG|apply aA));exact xM.out⟩,⟨by repeat (first|(with_reducible first|exact HB.out|apply ay|apply aj|apply av|refine ak ?_ xS.out|refine ak ?_ yD.out)|exact HB.out)⟩⟩
      case round =>
       clear H'
       try clear c1
       try clear p1
       try clear q1
       try clear hx1
       try clear c2
       try clear p2
       try clear c4
       try clear c4b0
       try clear c5
       try clear c5b0
       try clear c6
       try clear c6b0
       try clear p6
       try clear c8
       try clear zf
       try clear zh
       try clear zH
       try clear zI
       try clear zJ
       try clear zK
       try clear zL
       try clear zM
       try clear zi
       try clear zk
       try clear zN
       try clear zO
       try clear zP
       try clear zQ
       try clear zR
       try clear zS
       try clear yt
       try clear yu
       try clear yw
       try clear yx
       try clear yA
       try clear yB
       try clear zu
       try clear p2
       try clear zw
       obtain ⟨yJ,xR,rfl,rfl,HA,Ao,xL,xM,HB⟩:=hrel
       cases gk with
       | zero=>exact absurd HA.out (by simp [aW.l1])
       | succ k2 =>
        have H:=HA.out
        clear HA
        simp only [aW.l1] at H
        by_cases c10 : xR < (((aD xJ xI).f5).length : Int)
        ·rw [if_pos c10] at H
         have c10b0 : decide (xR < (((aD xJ xI).f5).length : Int)) = true:=decide_eq_true c10
         clear c10
         by_cases c11 : 0 ≤ xR
         ·rw [if_pos c11] at H
          have c11b0 : decide (0 ≤ xR) = true:=decide_eq_true c11
          clear c11
          by_cases c12 : xR < (((aD xJ xI).f5).length : Int)
          ·rw [if_pos c12] at H
           have c12b0 : decide (xR < (((aD xJ xI).f5).length : Int)) = true:=decide_eq_true c12
           clear c12
           have H':=Aside0.mk H
           clear H
           have zT : 0 ≤ (xR : Int):=of_decide_eq_true (by first|(with_reducible assumption)|assumption)
           have zU : xR < (((aD xJ xI).f5).length : Int):=of_decide_eq_true (by first|(with_reducible assumption)|assumption)
           obtain ⟨zl,Aw,yG,yH⟩:=jl zx.out xR zT zU
           cases Aw
           replace yG:=(HB.out.cell (World.block_lt_of_cell? w _ yG)).trans yG
           replace yH:=(HB.out.cell (World.block_lt_of_cell? w _ yH)).trans yH
           replace zT:=eq_true zT
           replace zU:=eq_true zU
           go_wp2_with (first|((with_reducible refine dN (N:=7) rfl ?_);refine dK ?hg (N:=7) ?hd (cs:=#[.string (⟨#[]⟩ : ByteArray),.string (⟨#[]⟩ : ByteArray)]) (t:=100) ?hr ?_;(case hd=>rfl);(case hg=>rfl);(case hr=>first|(go_simp;done)|(go_simp;rfl));intro yg hg AY hbox hb;have xU:=Aside0.mk (aK (g:=xP) (o:=.cells #[.int .u64 xY,.slice (some yC) xJ.length yh] 49 (0,0)) (bk_ xL.out) hb);have yP:=Aside0.mk (aK (g:=xQ) (o:=.cells #[.string ((aD xJ xI).f0),.string ((aD xJ xI).f1),.string ((aD xJ xI).f2),.int .u8 ((aD xJ xI).f3),.int .u16 ((aD xJ xI).f4),.slice (some zl) ((aD xJ xI).f5).length yF] 98 (0,0)) (bk_ xM.out) hb);have zB:=Aside0.mk (aQ (by repeat (first|(with_reducible first|exact HB.out|apply ay|apply aj|apply av|refine ak ?_ xS.out|refine ak ?_ yD.out)|exact HB.out)) hb);have zC:=Aside0.mk (hbox);have Aa:=Aside0.mk ((by rw [hg];exact (aV (by repeat (first|(with_reducible first|exact HB.out|apply ay|apply aj|apply av|refine ak ?_ xS.out|refine ak ?_ yD.out)|exact HB.out))) : w.heap.size ≤ yg));have Ab:=Aside0.mk ((by rw [hg];exact (aV (by repeat (first|(with_reducible first|exact HB.out|apply ay|apply aj|apply av|refine ak ?_ xS.out|refine ak ?_ yD.out)|exact HB.out))) : w.heap.size ≤ yg));have Ac:=Aside0.mk ((by rw [hg];exact Nat.ne_of_lt (bP (g:=xP) (o:=.cells #[.int .u64 xY,.slice (some yC) xJ.length yh] 49 (0,0)) (bk_ xL.out)) : xP ≠ yg));have AZ:=Aside0.mk ((by rw [hg];exact Nat.ne_of_gt (bP (g:=xP) (o:=.cells #[.int .u64 xY,.slice (some yC) xJ.length yh] 49 (0,0)) (bk_ xL.out)) : yg ≠ xP));have A9:=Aside0.mk ((by rw [hg];exact Nat.ne_of_lt (bP (g:=xQ) (o:=.cells #[.string ((aD xJ xI).f0),.string ((aD xJ xI).f1),.string ((aD xJ xI).f2),.int .u8 ((aD xJ xI).f3),.int .u16 ((aD xJ xI).f4),.slice (some zl) ((aD xJ xI).f5).length yF] 98 (0,0)) (bk_ xM.out)) : xQ ≠ yg));have Bf:=Aside0.mk ((by rw [hg];exact Nat.ne_of_gt (bP (g:=xQ) (o:=.cells #[.string ((aD xJ xI).f0),.string ((aD xJ xI).f1),.string ((aD xJ xI).f2),.int .u8 ((aD xJ xI).f3),.int .u16 ((aD xJ xI).f4),.slice (some zl) ((aD xJ xI).f5).length yF] 98 (0,0)) (bk_ xM.out)) : yg ≠ xQ));clear xL;clear xM;clear HB;have xL:=xU;have xM:=yP;have HB:=zB;have yS:=zC;have Bg:=Aa;have Ad:=Ab;have xZ:=Ac;have yX:=AZ;have yc:=A9;have yY:=Bf;clear xU yP zB zC Aa Ab Ac AZ A9 Bf;clear hb hbox hg;have Bh:=yX.out;have Bj:=xZ.out;have Bl:=yY.out;have Bn:=yc.out;have Ap : AY.cell? ⟨yg,0,none⟩ = some (.string (⟨#[]⟩ : ByteArray)):=(au yS.out 0).trans rfl;have Aq : AY.cell? ⟨yg,1,none⟩ = some (.string (⟨#[]⟩ : ByteArray)):=(au yS.out 1).trans rfl;have Ar:=aH yS.out 0;have Au:=aH yS.out 1))
           go_roundg k2
           case measure=>have:=zF.out;have:=Ao.out;omega
           case rel=>exact ⟨(wrap64 (yJ + (wrap64 ((wrap64 (1 + (((dS ((aD xJ xI).f5) xR).f0).size : Int))) + (((dS ((aD xJ xI).f5) xR).f1).size : Int))))),(wrap64 (xR + 1)),(by first|rfl|(simp;done)|(simp [*];done)),(by first|rfl|(simp;done)|(simp [*];done)),H',⟨by have:=zF.out;have:=Ao.out;omega⟩,⟨by (with_reducible repeat (first|apply aC|apply aG|apply aA));refine aU ?_ xZ.out _;(with_reducible repeat (first|apply aC|apply aG|apply aA));refine aU ?_ xZ.out _;(with_reducible repeat (first|apply aC|apply aG|apply aA));exact xL.out⟩,⟨by (with_reducible repeat (first|apply aC|apply aG|apply aA));refine aU ?_ yc.out _;(with_reducible repeat (first|apply aC|apply aG|apply aA));refine aU ?_ yc.out _;(with_reducible repeat (first|apply aC|apply aG|apply aA));exact xM.out⟩,⟨by repeat (first|(with_reducible first|exact HB.out|apply ay|apply aj|apply av|refine ak ?_ xS.out|refine ak ?_ yD.out|refine ak ?_ Ad.out)|exact HB.out)⟩⟩
          ·rw [if_neg c12] at H
           exact absurd H (by simp)
         ·rw [if_neg c11] at H
          exact absurd H (by simp)
        ·rw [if_neg c10] at H
         have c10b0 : decide (xR < (((aD xJ xI).f5).length : Int)) = false:=decide_eq_false c10
         clear c10
         by_cases c17 : yJ > 20000
         ·rw [if_pos c17] at H
          have c17b0 : decide (20000 < yJ) = true:=decide_eq_true c17
          clear c17
          obtain rfl:=Option.some.inj H
          go_wp2
          go_ret
          exact ⟨by first|rfl|(simp [aZ,bf] <;> rfl)|(simp [*,aZ,bf] <;> rfl),by repeat (first|(with_reducible first|exact HB.out|apply ay|apply aj|apply av|refine ak ?_ xS.out|refine ak ?_ yD.out)|exact HB.out)⟩
         ·rw [if_neg c17] at H
          have c17b0 : decide (20000 < yJ) = false:=decide_eq_false c17
          clear c17
          have H':=Aside0.mk H
          clear H
          go_wp2
          go_roundg k2
          case measure=>have:=zF.out;have:=Ao.out;omega
          case rel=>exact ⟨(yJ),(wrap64 (xI + 1)),(by first|rfl|(simp;done)|(simp [*];done)),(by first|rfl|(simp;done)|(simp [*];done)),H',⟨by have:=zF.out;have:=Ao.out;omega⟩,⟨by (with_reducible repeat (first|apply aC|apply aG|apply aA));exact xL.out⟩,⟨by repeat (first|(with_reducible first|exact HB.out|apply ay|apply aj|apply av|refine ak ?_ xS.out|refine ak ?_ yD.out)|exact HB.out)⟩⟩
     ·rw [if_neg c6] at H
      exact absurd H (by simp)
    ·rw [if_neg c5] at H
     exact absurd H (by simp)
   ·rw [if_neg c4] at H
    have c4b0 : decide (xI < (xJ.length : Int)) = false:=decide_eq_false c4
    clear c4
    obtain rfl:=Option.some.inj H
    go_wp2
    go_ret
    exact ⟨by first|rfl|(simp [aZ,bf] <;> rfl)|(simp [*,aZ,bf] <;> rfl),by repeat (first|(with_reducible first|exact HB.out|apply ay|apply aj|apply av|refine ak ?_ xS.out)|exact HB.out)⟩
def gu.f (a0 : Int) : Option (Bool):=if a0 = 1 then (some true) else (if a0 = 2 then (some true) else (if a0 = 4 then (some true) else (if a0 = 8 then (some true) else (some false))))
set_option maxHeartbeats 8000000 in
set_option maxRecDepth 100000 in
theorem gu.calls (a0 : Int) (r : Bool) (w : World) (h : gu.f a0 = some r) :
  Calls Tryd.prog 71 #[.int .i64 a0] w fun e w'=>e = .returned (.bool r) ∧ Drawn0 w w':=by
 have H : (if a0 = 1 then (some true) else (if a0 = 2 then (some true) else (if a0 = 4 then (some true) else (if a0 = 8 then (some true) else (some false))))) = some r:=h
 clear h
 by_cases c2 : a0 = 1
 ·rw [if_pos c2] at H
  have c2b0 : (a0 == 1) = true:=beq_iff_eq.mpr c2
  have c2b1 : (a0 != 1) = false:=bne_eq_false_iff_eq.mpr c2
  clear c2
  obtain rfl:=Option.some.inj H
  go_enter Tryd.func71,Tryd.ntmps71
  go_wp2
  go_ret
  exact ⟨by first|rfl|(simp;done)|(simp [*];done),by repeat (first|exact Drawn0.refl _|apply Drawn0.step)⟩
 ·rw [if_neg c2] at H
  have c2b0 : (a0 == 1) = false:=beq_eq_false_iff_ne.mpr c2
  have c2b1 : (a0 != 1) = true:=bne_iff_ne.mpr c2
  by_cases c3 : a0 = 2
  ·rw [if_pos c3] at H
   have c3b0 : (a0 == 2) = true:=beq_iff_eq.mpr c3
   have c3b1 : (a0 != 2) = false:=bne_eq_false_iff_eq.mpr c3
   clear c3
   obtain rfl:=Option.some.inj H
   go_enter Tryd.func71,Tryd.ntmps71
   go_wp2
   go_ret
   exact ⟨by first|rfl|(simp;done)|(simp [*];done),by repeat (first|exact Drawn0.refl _|apply Drawn0.step)⟩
  ·rw [if_neg c3] at H
   have c3b0 : (a0 == 2) = false:=beq_eq_false_iff_ne.mpr c3
   have c3b1 : (a0 != 2) = true:=bne_iff_ne.mpr c3
   by_cases c4 : a0 = 4
   ·rw [if_pos c4] at H
    have c4b0 : (a0 == 4) = true:=beq_iff_eq.mpr c4
    have c4b1 : (a0 != 4) = false:=bne_eq_false_iff_eq.mpr c4
    clear c4
    obtain rfl:=Option.some.inj H
    go_enter Tryd.func71,Tryd.ntmps71
    go_wp2
    go_ret
    exact ⟨by first|rfl|(simp;done)|(simp [*];done),by repeat (first|exact Drawn0.refl _|apply Drawn0.step)⟩
   ·rw [if_neg c4] at H
    have c4b0 : (a0 == 4) = false:=beq_eq_false_iff_ne.mpr c4
    have c4b1 : (a0 != 4) = true:=bne_iff_ne.mpr c4
    by_cases c5 : a0 = 8
    ·rw [if_pos c5] at H
     have c5b0 : (a0 == 8) = true:=beq_iff_eq.mpr c5
     have c5b1 : (a0 != 8) = false:=bne_eq_false_iff_eq.mpr c5
     clear c5
     obtain rfl:=Option.some.inj H
     go_enter Tryd.func71,Tryd.ntmps71
     go_wp2
     go_ret
     exact ⟨by first|rfl|(simp;done)|(simp [*];done),by repeat (first|exact Drawn0.refl _|apply Drawn0.step)⟩
    ·rw [if_neg c5] at H
     have c5b0 : (a0 == 8) = false:=beq_eq_false_iff_ne.mpr c5
     have c5b1 : (a0 != 8) = true:=bne_iff_ne.mpr c5
     obtain rfl:=Option.some.inj H
     go_enter Tryd.func71,Tryd.ntmps71
     go_wp2
     go_ret
     exact ⟨by first|rfl|(simp;done)|(simp [*];done),by repeat (first|exact Drawn0.refl _|apply Drawn0.step)⟩
def bT.l0 : Nat → Int → Int → List Int → Int → Int → Option (ByteArray)
 | 0,_,_,_,_,_=>none
 | k + 1,x0,x1,x5,Bo,zV=>if zV < Bo then (if 0 ≤ (wrap64 (8 * zV)) then (if 0 ≤ (wrap64 ((wrap64 (x0 - 1)) - zV)) then (if (wrap64 ((wrap64 (x0 - 1)) - zV)) < (x5.length : Int) then (bT.l0 k x0 x1 (x5.set ((wrap64 ((wrap64 (x0 - 1)) - zV)) : Int).toNat ((shr .u64 x1 (wrap64 (8 * zV))) % 256)) Bo (wrap64 (zV + 1))) else (none)) else (none)) else (none)) else (some (strOfNums x5))
def bT.f (k : Nat) (a0 : Int) (a1 : Int) : Option (ByteArray):=(gu.f a0).bind fun yZ=>(if yZ = true then (if 0 ≤ a0 then (if (a0 : Int).toNat ≤ 281474976710656 then (bT.l0 k a0 a1 (List.replicate (a0 : Int).toNat 0) a0 0) else (none)) else (none)) else (some (⟨#[]⟩ : ByteArray)))
theorem bT.dO : ∀ k,(∀ y0 y1 y2 y3 y4,LeO (bT.l0 k y0 y1 y2 y3 y4) (bT.l0 (k + 1) y0 y1 y2 y3 y4))
 | 0=>fun _ _ _ _ _ r h=>by simp [bT.l0] at h
 | k + 1=>by
  have yU:=bT.dO k
  ·intro y0 y1 y2 y3 y4
   unfold bT.l0
   repeat' first
   | (with_reducible exact yU _ _ _ _ _)
   | (with_reducible exact LeO.refl _)
   | (with_reducible exact LeO.none _)
   | (with_reducible refine LeO.ite ?_ ?_)
   | (with_reducible refine LeO.bind ?_ (fun _=>?_))
   | exact yU _ _ _ _ _
   | exact LeO.none _
   | refine LeO.ite ?_ ?_
   | refine LeO.bind ?_ (fun _=>?_)
theorem bT.mono : ∀ a0 a1 k,LeO (bT.f k a0 a1) (bT.f (k + 1) a0 a1):=by
 intro a0 a1 k
 have yU:=bT.dO k
 unfold bT.f
 repeat' first
   | (with_reducible exact yU _ _ _ _ _)
   | (with_reducible exact LeO.refl _)
   | (with_reducible exact LeO.none _)
   | (with_reducible refine LeO.ite ?_ ?_)
   | (with_reducible refine LeO.bind ?_ (fun _=>?_))
   | exact yU _ _ _ _ _
   | exact LeO.none _
   | refine LeO.ite ?_ ?_
   | refine LeO.bind ?_ (fun _=>?_)
set_option maxHeartbeats 8000000 in
set_option maxRecDepth 100000 in
theorem bT.calls (k : Nat) (a0 : Int) (a1 : Int) (r : ByteArray) (w : World) (h : bT.f k a0 a1 = some r) :
  Calls Tryd.prog 38 #[.int .i64 a0,.int .u64 a1] w fun e w'=>e = .returned (.string r) ∧ Below w.heap.size w w':=by
 have HB:=Aside0.mk (Below.refl w.heap.size w)
 have H : ((gu.f a0).bind fun yZ=>(if yZ = true then (if 0 ≤ a0 then (if (a0 : Int).toNat ≤ 281474976710656 then (bT.l0 k a0 a1 (List.replicate (a0 : Int).toNat 0) a0 0) else (none)) else (none)) else (some (⟨#[]⟩ : ByteArray)))) = some r:=h
 clear h
 replace H:=Option.bind_eq_some_iff.mp H
 obtain ⟨yZ,Ae,H⟩:=H
 replace H : (if yZ = true then (if 0 ≤ a0 then (if (a0 : Int).toNat ≤ 281474976710656 then (bT.l0 k a0 a1 (List.replicate (a0 : Int).toNat 0) a0 0) else (none)) else (none)) else (some (⟨#[]⟩ : ByteArray))) = some r:=H
 have A3:=Aside0.mk Ae
 clear Ae
 by_cases c4 : yZ = true
 ·subst c4
  have H1 : (if 0 ≤ a0 then (if (a0 : Int).toNat ≤ 281474976710656 then (bT.l0 k a0 a1 (List.replicate (a0 : Int).toNat 0) a0 0) else (none)) else (none)) = some r:=by rw [if_pos rfl] at H;exact H
  clear H
  have H:=H1
  clear H1
  by_cases c5 : 0 ≤ a0
  ·rw [if_pos c5] at H
   have c5b0:=eq_true c5
   have c5b1 : decide (0 ≤ a0) = true:=decide_eq_true c5
   clear c5
   by_cases c6 : (a0 : Int).toNat ≤ 281474976710656
   ·rw [if_pos c6] at H
    have c6b0:=eq_true c6
    have c6b1 : decide ((a0 : Int).toNat ≤ 281474976710656) = true:=decide_eq_true c6
    clear c6
    obtain ⟨Af,yK⟩ : ∃ y_ : List Int,y_ = (List.replicate (a0 : Int).toNat 0):=⟨_,rfl⟩
    replace H : (bT.l0 k a0 a1 Af a0 0) = some r:=by first|(rw [yK];with_reducible exact H)|(have zW:=(Option.bind_some _ _).symm.trans H;rw [yK];with_reducible exact zW)|(have zW:=(Option.bind_some _ _).symm.trans H;with_reducible exact zW)|with_reducible exact H|(rw [yK];exact H)|exact H
    have zD:=Aside0.mk yK
    clear yK
    have H':=Aside0.mk H
    clear H
    go_enter Tryd.func38,Tryd.ntmps38
    go_wp2_with (first|((with_reducible refine bK (f:=71) rfl ?_);refine dH (some 8) rfl rfl Tryd.func71 (by kernel_rfl) rfl #[.int .i64 a0] rfl (by (try simp only [List.map_toArray,List.map_cons,List.map_nil]);first|done|rfl|(simp only [List.length_drop,List.length_take];rfl)|(simp (disch:=first|omega|(simp at *;omega)) only [dh,bY,dY];rfl)) ?_;(with_reducible refine (gu.calls a0 true _ A3.out).mono ?_);rintro e w' ⟨rfl,⟨nd,rfl⟩⟩;refine ⟨_,rfl,?_⟩)|((with_reducible refine dN (N:=11) rfl ?_);refine Kd.uq (Kd.int .u8) _ 5 rfl (N:=11) rfl 69 _ _ rfl a0 rfl rfl Tryd.underlying69 (.int .u8 0) 1 info5 rfl (by decide) (by omega) 0 (ok:=fun _=>True) (okp:=fun _=>True) rfl (fun _ hk=>hk) trivial (of_decide_eq_true (by first|(with_reducible assumption)|assumption)) (Nat.le_trans (Nat.mul_le_mul_right _ (of_decide_eq_true (by first|(with_reducible assumption)|assumption) : a0.toNat ≤ 281474976710656)) (by omega)) (Below.refl _ _) (Nat.le_refl _) ?_;intro Ay w7 Ag hb hg_ hnew_;clear hg_ hnew_;(first|rw [← zD.out] at Ag|(simp only [Int.reduceToNat] at Ag;rw [← zD.out] at Ag));have xU:=Aside0.mk (Kd.gP Ag (aV (by repeat (first|(with_reducible first|exact HB.out|apply ay|apply aj|apply av)|exact HB.out))));have yP:=Aside0.mk (aQ (by repeat (first|(with_reducible first|exact HB.out|apply ay|apply aj|apply av)|exact HB.out)) hb);clear HB;have Ah:=xU;have HB:=yP;clear xU yP;clear hb Ag))
    go_loopg [13] k (fun kq v13 w'=>∃ (xW : List Int) (xK : Int),v13 = .int .i64 xK ∧ Aside0 (bT.l0 kq a0 a1 xW a0 xK = some r) ∧ Aside0 (kq ≤ k) ∧ Aside0 (Kd.R (Kd.int .u8) 5 w' w.heap.size (fun _=>True) Ay xW) ∧ Aside0 (Below w.heap.size w w'))
    case atStart=>exact ⟨(Af),(0),(by first|rfl|(simp;done)|(simp [*];done)),H',⟨Nat.le_refl _⟩,⟨by (with_reducible repeat (first|apply Kd.dI|apply Kd.dJ|apply Kd.dU));exact Ah.out⟩,⟨by repeat (first|(with_reducible first|exact HB.out|apply ay|apply aj|apply av)|exact HB.out)⟩⟩
    case round =>
     clear H'
     try clear p2
     try clear c3
     try clear c4
     try clear c5
     try clear c5b0
     try clear c5b1
     try clear c6
     try clear c6b0
     try clear c6b1
     try clear c7
     obtain ⟨xW,xK,rfl,HA,zF,yN,HB⟩:=hrel
     cases gk with
     | zero=>exact absurd HA.out (by simp [bT.l0])
     | succ k1 =>
      have H:=HA.out
      clear HA
      simp only [bT.l0] at H
      by_cases c9 : xK < a0
      ·rw [if_pos c9] at H
       have c9b0 : decide (xK < a0) = true:=decide_eq_true c9
       clear c9
       obtain ⟨yI,zm⟩ : ∃ j_ : Int,(wrap64 (8 * xK)) = j_:=⟨_,rfl⟩
       replace H : (if 0 ≤ (yI) then (if 0 ≤ (wrap64 ((wrap64 (a0 - 1)) - xK)) then (if (wrap64 ((wrap64 (a0 - 1)) - xK)) < (xW.length : Int) then (bT.l0 k1 a0 a1 (xW.set ((wrap64 ((wrap64 (a0 - 1)) - xK)) : Int).toNat ((shr .u64 a1 (yI)) % 256)) a0 (wrap64 (xK + 1))) else (none)) else (none)) else (none)) = some r:=by first|(rw [zm] at H;exact H)|(simp only [zm] at H ⊢;exact H)
       have hji10w : (IntKind.i64.wrap (8 * xK)) = yI:=(bD _).trans zm
       by_cases c11 : 0 ≤ (yI)
       ·rw [if_pos c11] at H
        have c11b0:=eq_true c11
        have c11b1 : decide (0 ≤ (yI)) = true:=decide_eq_true c11
        clear c11
        obtain ⟨yO,yT⟩ : ∃ j_ : Int,(shr .u64 a1 (yI)) = j_:=⟨_,rfl⟩
        replace H : (if 0 ≤ (wrap64 ((wrap64 (a0 - 1)) - xK)) then (if (wrap64 ((wrap64 (a0 - 1)) - xK)) < (xW.length : Int) then (bT.l0 k1 a0 a1 (xW.set ((wrap64 ((wrap64 (a0 - 1)) - xK)) : Int).toNat ((yO) % 256)) a0 (wrap64 (xK + 1))) else (none)) else (none)) = some r:=by first|(rw [yT] at H;exact H)|(simp only [yT] at H ⊢;exact H)
        have Az : (a1 / 2 ^ min (yI).toNat 64) = yO:=yT
        have hji12z : (yI) ≤ 64 → (a1 / 2 ^ (yI).toNat) = yO:=ql yT
        obtain ⟨xX,zn⟩ : ∃ j_ : Int,(wrap64 ((wrap64 (a0 - 1)) - xK)) = j_:=⟨_,rfl⟩
        replace H : (if 0 ≤ (xX) then (if (xX) < (xW.length : Int) then (bT.l0 k1 a0 a1 (xW.set ((xX) : Int).toNat ((yO) % 256)) a0 (wrap64 (xK + 1))) else (none)) else (none)) = some r:=by first|(rw [zn] at H;exact H)|(simp only [zn] at H ⊢;exact H)
        have hji13w : (IntKind.i64.wrap ((wrap64 (a0 - 1)) - xK)) = xX:=(bD _).trans zn
        by_cases c14 : 0 ≤ (xX)
        ·rw [if_pos c14] at H
         have c14b0 : decide (0 ≤ (xX)) = true:=decide_eq_true c14
         clear c14
         by_cases c15 : (xX) < (xW.length : Int)
         ·rw [if_pos c15] at H
          have c15b0 : decide ((xX) < (xW.length : Int)) = true:=decide_eq_true c15
          clear c15
          obtain ⟨zX,yL⟩ : ∃ y_ : List Int,y_ = (xW.set ((xX) : Int).toNat ((yO) % 256)):=⟨_,rfl⟩
          replace H : (bT.l0 k1 a0 a1 zX a0 (wrap64 (xK + 1))) = some r:=by first|(rw [yL];with_reducible exact H)|(have zW:=(Option.bind_some _ _).symm.trans H;rw [yL];with_reducible exact zW)|(have zW:=(Option.bind_some _ _).symm.trans H;with_reducible exact zW)|with_reducible exact H|(rw [yL];exact H)|exact H
          have Ai:=Aside0.mk yL
          clear yL
          have H':=Aside0.mk H
          clear H
          have p16 : 0 ≤ ((xX) : Int):=of_decide_eq_true (by first|(with_reducible assumption)|assumption)
          have q16 : ((xX) : Int) < ((xW.length : Int) : Int):=of_decide_eq_true (by first|(with_reducible assumption)|assumption)
          obtain ⟨zY,AA,Aj,Ak,AB,Bz,Al⟩:=Kd.um yN.out (by omega)
          (first|cases Aj|(injection Aj with ea_ en_ ec_;(first|subst ea_|(injection ea_ with ea_;subst ea_));subst ec_;clear en_))
          have AJ:=Aside0.mk Ak
          have BA:=Aside0.mk Al
          clear Ak AB Al
          obtain ⟨AL,AO⟩:=Kd.sG 0 yN.out ((xX) : Int) p16 q16
          replace p16:=eq_true p16
          replace q16:=eq_true q16
          have zZ:=Kd.uD yN.out ((xX) : Int) ((yO) % 256)
          go_wp2_with (first|((with_reducible refine oH (t:=5) (p:=26) rfl ?_);refine nH (t:=5) (p:=26) (v:=?vo_w18) (w1:=(wr.setCell ⟨zY,((xX) : Int).toNat,none⟩ (.int .u8 ((yO) % 256)))) ?hg ?ho ?hn ?hr ?_;(case ho=>rfl);(case hg=>rfl);(case hn=>rfl);(case hr=>first|(go_simp;done)|(go_simp;rfl));intro AP hw;have hg : wr.grownBy AP (some zY):=(by rw [hw];exact zZ.2);have hp_ : Kd.R (Kd.int .u8) 5 AP w.heap.size (fun _=>True) (.slice (some ⟨zY,0,none⟩) xW.length AA) zX:=(by rw [hw,Ai.out];exact zZ.1);clear zZ;have xU:=Aside0.mk (hp_);have yP:=Aside0.mk ((by rw [hw];exact ak (HB.out) AJ.out : Below w.heap.size w AP));clear yN;clear HB;have yN:=xU;have HB:=yP;clear xU yP;clear hg hw hp_))
          go_roundg k1
          case measure=>have:=zF.out;omega
          case rel=>exact ⟨(zX),(wrap64 (xK + 1)),(by first|rfl|(simp;done)|(simp [*];done)),H',⟨by have:=zF.out;omega⟩,⟨by (with_reducible repeat (first|apply Kd.dI|apply Kd.dJ|apply Kd.dU));exact yN.out⟩,⟨by repeat (first|(with_reducible first|exact HB.out|apply ay|apply aj|apply av)|exact HB.out)⟩⟩
         ·rw [if_neg c15] at H
          exact absurd H (by simp)
        ·rw [if_neg c14] at H
         exact absurd H (by simp)
       ·rw [if_neg c11] at H
        exact absurd H (by simp)
      ·rw [if_neg c9] at H
       have c9b0 : decide (xK < a0) = false:=decide_eq_false c9
       clear c9
       obtain rfl:=Option.some.inj H
       have Bp:=fU (P:=Tryd.prog) Tryd.underlying69 Tryd.underlying5 Tryd.underlying9 (Kd.gF yN.out)
       go_wp2
       go_ret
       exact ⟨by first|rfl|(simp [aZ,bf] <;> rfl)|(simp [*,aZ,bf] <;> rfl),by repeat (first|(with_reducible first|exact HB.out|apply ay|apply aj|apply av)|exact HB.out)⟩
   ·rw [if_neg c6] at H
    exact absurd H (by simp)
  ·rw [if_neg c5] at H
   exact absurd H (by simp)
 ·replace c4:=Bool.eq_false_iff.mpr c4
  subst c4
  have H1 : (some (⟨#[]⟩ : ByteArray)) = some r:=by rw [if_neg (show ¬ (false = true) by decide)] at H;exact H
  clear H
  have H:=H1
  clear H1
  obtain rfl:=Option.some.inj H
  go_enter Tryd.func38,Tryd.ntmps38
  go_wp2_with (first|((with_reducible refine bK (f:=71) rfl ?_);refine dH (some 8) rfl rfl Tryd.func71 (by kernel_rfl) rfl #[.int .i64 a0] rfl (by (try simp only [List.map_toArray,List.map_cons,List.map_nil]);first|done|rfl|(simp only [List.length_drop,List.length_take];rfl)|(simp (disch:=first|omega|(simp at *;omega)) only [dh,bY,dY];rfl)) ?_;(with_reducible refine (gu.calls a0 false _ A3.out).mono ?_);rintro e w' ⟨rfl,⟨nd,rfl⟩⟩;refine ⟨_,rfl,?_⟩))
  go_ret
  exact ⟨by first|rfl|(simp [aZ,bf] <;> rfl)|(simp [*,aZ,bf] <;> rfl),by repeat (first|(with_reducible first|exact HB.out|apply ay|apply aj|apply av)|exact HB.out)⟩
def d9.f (k : Nat) (a0 : ByteArray) : Option (ByteArray × Int):=if (a0.size : Int) > 4096 then (some ((⟨#[]⟩ : ByteArray),2)) else ((bT.f k 2 (IntKind.u64.wrap ((a0.size : Int)))).bind fun yj=>(if yj.size + a0.size ≤ 9223372036854775807 then (some (yj ++ a0,0)) else (none)))
theorem d9.mono : ∀ a0 k,LeO (d9.f k a0) (d9.f (k + 1) a0):=by
 intro a0 k
 unfold d9.f
 repeat' first
   | (with_reducible exact bT.mono _ _ _)
   | (with_reducible exact LeO.refl _)
   | (with_reducible exact LeO.none _)
   | (with_reducible refine LeO.ite ?_ ?_)
   | (with_reducible refine LeO.bind ?_ (fun _=>?_))
   | exact bT.mono _ _ _
   | exact LeO.none _
   | refine LeO.ite ?_ ?_
   | refine LeO.bind ?_ (fun _=>?_)
set_option maxHeartbeats 8000000 in
set_option maxRecDepth 100000 in
theorem d9.calls (k : Nat) (a0 : ByteArray) (r1 : ByteArray) (r2 : Int) (w : World) (h : d9.f k a0 = some (r1,r2)) :
  Calls Tryd.prog 39 #[.string a0] w fun e w'=>e = .returned (.tuple #[.string r1,.int .i64 r2]) ∧ Below w.heap.size w w':=by
 have HB:=Aside0.mk (Below.refl w.heap.size w)
 have H : (if (a0.size : Int) > 4096 then (some ((⟨#[]⟩ : ByteArray),2)) else ((bT.f k 2 (IntKind.u64.wrap ((a0.size : Int)))).bind fun yj=>(if yj.size + a0.size ≤ 9223372036854775807 then (some (yj ++ a0,0)) else (none)))) = some (r1,r2):=h
 clear h
 by_cases c2 : (a0.size : Int) > 4096
 ·rw [if_pos c2] at H
  have c2b0 : decide (4096 < (a0.size : Int)) = true:=decide_eq_true c2
  have c2b1 : decide (4096 < a0.size) = true:=decide_eq_true (by omega)
  clear c2
  simp only [Option.some.injEq,Prod.mk.injEq] at H
  obtain ⟨rfl,rfl⟩:=H
  go_enter Tryd.func39,Tryd.ntmps39
  go_wp2
  go_ret2
  exact ⟨by first|rfl|(simp [aZ,bf] <;> rfl)|(simp [*,aZ,bf] <;> rfl),by repeat (first|(with_reducible first|exact HB.out|apply ay|apply aj|apply av)|exact HB.out)⟩
 ·rw [if_neg c2] at H
  have c2b0 : decide (4096 < (a0.size : Int)) = false:=decide_eq_false c2
  have c2b1 : decide (4096 < a0.size) = false:=decide_eq_false (by omega)
  clear c2
  replace H:=Option.bind_eq_some_iff.mp H
  obtain ⟨yj,Ae,H⟩:=H
  replace H : (if yj.size + a0.size ≤ 9223372036854775807 then (some (yj ++ a0,0)) else (none)) = some (r1,r2):=H
  have A3:=Aside0.mk Ae
  clear Ae
  by_cases c4 : yj.size + a0.size ≤ 9223372036854775807
  ·rw [if_pos c4] at H
   have c4b0:=eq_true c4
   have c4b1 : decide (yj.size + a0.size ≤ 9223372036854775807) = true:=decide_eq_true c4
   try have c4b2 : (9223372036854775807 < yj.size + a0.size) = False:=eq_false (Nat.not_lt.2 c4)
   simp only [Option.some.injEq,Prod.mk.injEq] at H
   obtain ⟨rfl,rfl⟩:=H
   go_enter Tryd.func39,Tryd.ntmps39
   go_wp2_with (first|((with_reducible refine bK (f:=38) rfl ?_);refine dH (some 10) rfl rfl Tryd.func38 (by kernel_rfl) rfl #[.int .i64 2,.int .u64 (IntKind.u64.wrap ((a0.size : Int)))] rfl (by (try simp only [List.map_toArray,List.map_cons,List.map_nil]);first|done|rfl|(simp only [List.length_drop,List.length_take];rfl)|(simp (disch:=first|omega|(simp at *;omega)) only [dh,bY,dY];rfl)) ?_;(with_reducible refine (bT.calls k 2 (IntKind.u64.wrap ((a0.size : Int))) yj _ A3.out).mono ?_);rintro e w5 ⟨rfl,hb⟩;refine ⟨_,rfl,?_⟩;have xU:=Aside0.mk (aQ (by repeat (first|(with_reducible first|exact HB.out|apply ay|apply aj|apply av)|exact HB.out)) hb);clear HB;have HB:=xU;clear xU;(try clear hb);(try clear hb2);(try clear hk);(try clear hi)))
   go_ret2
   exact ⟨by first|rfl|(simp [aZ,bf] <;> rfl)|(simp [*,aZ,bf] <;> rfl),by repeat (first|(with_reducible first|exact HB.out|apply ay|apply aj|apply av)|exact HB.out)⟩
  ·rw [if_neg c4] at H
   exact absurd H (by simp)
def dL.f (k : Nat)  : Option (Bool):=(d9.f k (⟨#[97]⟩ : ByteArray)).bind fun yM=>((bT.f k 2 258).bind fun xV=>(if xV.toList = ([1,2] : List UInt8) then (if yM.1.toList = ([0,1,97] : List UInt8) then (some (yM.2 == 0)) else (some false)) else (some false)))
theorem dL.mono : ∀ k,LeO (dL.f k ) (dL.f (k + 1) ):=by
 intro  k
 unfold dL.f
 repeat' first
   | (with_reducible exact bT.mono _ _ _)
   | (with_reducible exact d9.mono _ _)
   | (with_reducible exact LeO.refl _)
   | (with_reducible exact LeO.none _)
   | (with_reducible refine LeO.ite ?_ ?_)
   | (with_reducible refine LeO.bind ?_ (fun _=>?_))
   | exact bT.mono _ _ _
   | exact d9.mono _ _
   | exact LeO.none _
   | refine LeO.ite ?_ ?_
   | refine LeO.bind ?_ (fun _=>?_)
set_option maxHeartbeats 8000000 in
set_option maxRecDepth 100000 in
theorem dL.calls (k : Nat)  (r : Bool) (w : World) (h : dL.f k  = some r) :
  Calls Tryd.prog 33 #[] w fun e w'=>e = .returned (.bool r) ∧ Below w.heap.size w w':=by
 have HB:=Aside0.mk (Below.refl w.heap.size w)
 have H : ((d9.f k (⟨#[97]⟩ : ByteArray)).bind fun yM=>((bT.f k 2 258).bind fun xV=>(if xV.toList = ([1,2] : List UInt8) then (if yM.1.toList = ([0,1,97] : List UInt8) then (some (yM.2 == 0)) else (some false)) else (some false)))) = some r:=h
 clear h
 replace H:=Option.bind_eq_some_iff.mp H
 obtain ⟨⟨yE,zo⟩,Bq,H⟩:=H
 replace H : ((bT.f k 2 258).bind fun xV=>(if xV.toList = ([1,2] : List UInt8) then (if yE.toList = ([0,1,97] : List UInt8) then (some (zo == 0)) else (some false)) else (some false))) = some r:=H
 have A1:=Aside0.mk Bq
 clear Bq
 replace H:=Option.bind_eq_some_iff.mp H
 obtain ⟨xV,Br,H⟩:=H
 replace H : (if xV.toList = ([1,2] : List UInt8) then (if yE.toList = ([0,1,97] : List UInt8) then (some (zo == 0)) else (some false)) else (some false)) = some r:=H
 have A2:=Aside0.mk Br
 clear Br
 by_cases c3 : xV.toList = ([1,2] : List UInt8)
 ·rw [if_pos c3] at H
  have c3b0 : (xV.toList == ([1,2] : List UInt8)) = true:=beq_iff_eq.mpr c3
  have c3b1 : (xV.toList != ([1,2] : List UInt8)) = false:=bne_eq_false_iff_eq.mpr c3
  clear c3
  by_cases c4 : yE.toList = ([0,1,97] : List UInt8)
  ·rw [if_pos c4] at H
   have c4b0 : (yE.toList == ([0,1,97] : List UInt8)) = true:=beq_iff_eq.mpr c4
   have c4b1 : (yE.toList != ([0,1,97] : List UInt8)) = false:=bne_eq_false_iff_eq.mpr c4
   clear c4
   obtain rfl:=Option.some.inj H
   go_enter Tryd.func33,Tryd.ntmps33
   go_wp2_with (first|((with_reducible refine bK (f:=39) rfl ?_);refine dH (some 4) rfl rfl Tryd.func39 (by kernel_rfl) rfl #[.string (⟨#[97]⟩ : ByteArray)] rfl (by (try simp only [List.map_toArray,List.map_cons,List.map_nil]);first|done|rfl|(simp only [List.length_drop,List.length_take];rfl)|(simp (disch:=first|omega|(simp at *;omega)) only [dh,bY,dY];rfl)) ?_;(with_reducible refine (d9.calls k (⟨#[97]⟩ : ByteArray) yE zo _ A1.out).mono ?_);rintro e w5 ⟨rfl,hb⟩;refine ⟨_,rfl,?_⟩;have xU:=Aside0.mk (aQ (by repeat (first|(with_reducible first|exact HB.out|apply ay|apply aj|apply av)|exact HB.out)) hb);clear HB;have HB:=xU;clear xU;(try clear hb);(try clear hb2);(try clear hk);(try clear hi))|((with_reducible refine bK (f:=38) rfl ?_);refine dH (some 7) rfl rfl Tryd.func38 (by kernel_rfl) rfl #[.int .i64 2,.int .u64 258] rfl (by (try simp only [List.map_toArray,List.map_cons,List.map_nil]);first|done|rfl|(simp only [List.length_drop,List.length_take];rfl)|(simp (disch:=first|omega|(simp at *;omega)) only [dh,bY,dY];rfl)) ?_;(with_reducible refine (bT.calls k 2 258 xV _ A2.out).mono ?_);rintro e w6 ⟨rfl,hb⟩;refine ⟨_,rfl,?_⟩;have xU:=Aside0.mk (aQ (by repeat (first|(with_reducible first|exact HB.out|apply ay|apply aj|apply av)|exact HB.out)) hb);clear HB;have HB:=xU;clear xU;(try clear hb);(try clear hb2);(try clear hk);(try clear hi)))
   go_ret
   exact ⟨by first|rfl|(simp [aZ,bf] <;> rfl)|(simp [*,aZ,bf] <;> rfl),by repeat (first|(with_reducible first|exact HB.out|apply ay|apply aj|apply av)|exact HB.out)⟩
  ·rw [if_neg c4] at H
   have c4b0 : (yE.toList == ([0,1,97] : List UInt8)) = false:=beq_eq_false_iff_ne.mpr c4
   have c4b1 : (yE.toList != ([0,1,97] : List UInt8)) = true:=bne_iff_ne.mpr c4
   obtain rfl:=Option.some.inj H
   go_enter Tryd.func33,Tryd.ntmps33
   go_wp2_with (first|((with_reducible refine bK (f:=39) rfl ?_);refine dH (some 4) rfl rfl Tryd.func39 (by kernel_rfl) rfl #[.string (⟨#[97]⟩ : ByteArray)] rfl (by (try simp only [List.map_toArray,List.map_cons,List.map_nil]);first|done|rfl|(simp only [List.length_drop,List.length_take];rfl)|(simp (disch:=first|omega|(simp at *;omega)) only [dh,bY,dY];rfl)) ?_;(with_reducible refine (d9.calls k (⟨#[97]⟩ : ByteArray) yE zo _ A1.out).mono ?_);rintro e w7 ⟨rfl,hb⟩;refine ⟨_,rfl,?_⟩;have xU:=Aside0.mk (aQ (by repeat (first|(with_reducible first|exact HB.out|apply ay|apply aj|apply av)|exact HB.out)) hb);clear HB;have HB:=xU;clear xU;(try clear hb);(try clear hb2);(try clear hk);(try clear hi))|((with_reducible refine bK (f:=38) rfl ?_);refine dH (some 7) rfl rfl Tryd.func38 (by kernel_rfl) rfl #[.int .i64 2,.int .u64 258] rfl (by (try simp only [List.map_toArray,List.map_cons,List.map_nil]);first|done|rfl|(simp only [List.length_drop,List.length_take];rfl)|(simp (disch:=first|omega|(simp at *;omega)) only [dh,bY,dY];rfl)) ?_;(with_reducible refine (bT.calls k 2 258 xV _ A2.out).mono ?_);rintro e w8 ⟨rfl,hb⟩;refine ⟨_,rfl,?_⟩;have xU:=Aside0.mk (aQ (by repeat (first|(with_reducible first|exact HB.out|apply ay|apply aj|apply av)|exact HB.out)) hb);clear HB;have HB:=xU;clear xU;(try clear hb);(try clear hb2);(try clear hk);(try clear hi)))
   go_ret
   exact ⟨by first|rfl|(simp [aZ,bf] <;> rfl)|(simp [*,aZ,bf] <;> rfl),by repeat (first|(with_reducible first|exact HB.out|apply ay|apply aj|apply av)|exact HB.out)⟩
 ·rw [if_neg c3] at H
  have c3b0 : (xV.toList == ([1,2] : List UInt8)) = false:=beq_eq_false_iff_ne.mpr c3
  have c3b1 : (xV.toList != ([1,2] : List UInt8)) = true:=bne_iff_ne.mpr c3
  obtain rfl:=Option.some.inj H
  go_enter Tryd.func33,Tryd.ntmps33
  go_wp2_with (first|((with_reducible refine bK (f:=39) rfl ?_);refine dH (some 4) rfl rfl Tryd.func39 (by kernel_rfl) rfl #[.string (⟨#[97]⟩ : ByteArray)] rfl (by (try simp only [List.map_toArray,List.map_cons,List.map_nil]);first|done|rfl|(simp only [List.length_drop,List.length_take];rfl)|(simp (disch:=first|omega|(simp at *;omega)) only [dh,bY,dY];rfl)) ?_;(with_reducible refine (d9.calls k (⟨#[97]⟩ : ByteArray) yE zo _ A1.out).mono ?_);rintro e w9 ⟨rfl,hb⟩;refine ⟨_,rfl,?_⟩;have xU:=Aside0.mk (aQ (by repeat (first|(with_reducible first|exact HB.out|apply ay|apply aj|apply av)|exact HB.out)) hb);clear HB;have HB:=xU;clear xU;(try clear hb);(try clear hb2);(try clear hk);(try clear hi))|((with_reducible refine bK (f:=38) rfl ?_);refine dH (some 7) rfl rfl Tryd.func38 (by kernel_rfl) rfl #[.int .i64 2,.int .u64 258] rfl (by (try simp only [List.map_toArray,List.map_cons,List.map_nil]);first|done|rfl|(simp only [List.length_drop,List.length_take];rfl)|(simp (disch:=first|omega|(simp at *;omega)) only [dh,bY,dY];rfl)) ?_;(with_reducible refine (bT.calls k 2 258 xV _ A2.out).mono ?_);rintro e BF ⟨rfl,hb⟩;refine ⟨_,rfl,?_⟩;have xU:=Aside0.mk (aQ (by repeat (first|(with_reducible first|exact HB.out|apply ay|apply aj|apply av)|exact HB.out)) hb);clear HB;have HB:=xU;clear xU;(try clear hb);(try clear hb2);(try clear hk);(try clear hi)))
  go_ret
  exact ⟨by first|rfl|(simp [aZ,bf] <;> rfl)|(simp [*,aZ,bf] <;> rfl),by repeat (first|(with_reducible first|exact HB.out|apply ay|apply aj|apply av)|exact HB.out)⟩
def dP.f (a0 : Int) : Option (Bool):=if a0 ≥ 97 then (some (decide (a0 ≤ 122))) else (some false)
set_option maxHeartbeats 8000000 in
set_option maxRecDepth 100000 in
theorem dP.calls (a0 : Int) (r : Bool) (w : World) (h : dP.f a0 = some r) :
  Calls Tryd.prog 73 #[.int .u8 a0] w fun e w'=>e = .returned (.bool r) ∧ Drawn0 w w':=by
 have H : (if a0 ≥ 97 then (some (decide (a0 ≤ 122))) else (some false)) = some r:=h
 clear h
 by_cases c2 : a0 ≥ 97
 ·rw [if_pos c2] at H
  have c2b0 : decide (97 ≤ a0) = true:=decide_eq_true c2
  clear c2
  obtain rfl:=Option.some.inj H
  go_enter Tryd.func73,Tryd.ntmps73
  go_wp2
  go_ret
  exact ⟨by first|rfl|(simp;done)|(simp [*];done),by repeat (first|exact Drawn0.refl _|apply Drawn0.step)⟩
 ·rw [if_neg c2] at H
  have c2b0 : decide (97 ≤ a0) = false:=decide_eq_false c2
  clear c2
  obtain rfl:=Option.some.inj H
  go_enter Tryd.func73,Tryd.ntmps73
  go_wp2
  go_ret
  exact ⟨by first|rfl|(simp;done)|(simp [*];done),by repeat (first|exact Drawn0.refl _|apply Drawn0.step)⟩
def dA.f (a0 : Int) : Option (Bool):=if a0 ≥ 48 then (some (decide (a0 ≤ 57))) else (some false)
set_option maxHeartbeats 8000000 in
set_option maxRecDepth 100000 in
theorem dA.calls (a0 : Int) (r : Bool) (w : World) (h : dA.f a0 = some r) :
  Calls Tryd.prog 74 #[.int .u8 a0] w fun e w'=>e = .returned (.bool r) ∧ Drawn0 w w':=by
 have H : (if a0 ≥ 48 then (some (decide (a0 ≤ 57))) else (some false)) = some r:=h
 clear h
 by_cases c2 : a0 ≥ 48
 ·rw [if_pos c2] at H
  have c2b0 : decide (48 ≤ a0) = true:=decide_eq_true c2
  clear c2
  obtain rfl:=Option.some.inj H
  go_enter Tryd.func74,Tryd.ntmps74
  go_wp2
  go_ret
  exact ⟨by first|rfl|(simp;done)|(simp [*];done),by repeat (first|exact Drawn0.refl _|apply Drawn0.step)⟩
 ·rw [if_neg c2] at H
  have c2b0 : decide (48 ≤ a0) = false:=decide_eq_false c2
  clear c2
  obtain rfl:=Option.some.inj H
  go_enter Tryd.func74,Tryd.ntmps74
  go_wp2
  go_ret
  exact ⟨by first|rfl|(simp;done)|(simp [*];done),by repeat (first|exact Drawn0.refl _|apply Drawn0.step)⟩
end Go.Proofs.YtpmbdcljphpcnaaDoor.GC2
