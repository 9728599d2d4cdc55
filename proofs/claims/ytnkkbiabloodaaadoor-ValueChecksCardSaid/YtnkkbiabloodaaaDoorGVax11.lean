/- Written by this session's own program (wip/gen.py) out of the translation: plain Lean functions of the Go functions, and proofs that the calls come to their answers. No conditions beside those in the statements. -/
import Derived.Test.YtnkkbiabloodaaaDoorGVax0
import Derived.Test.YtnkkbiabloodaaaDoorGVax10
namespace Go.Proofs.YtnkkbiabloodaaaDoor.GVa
open Go.RowKit Go.Proofs.YtnkkbiabloodaaaDoorW.PrintWords Go.Proofs.YtnkkbiabloodaaaDoorW.PrintLast Go.Proofs.YtnkkbiabloodaaaDoorW.PrintMore
attribute [local go_sem] eG eH fK fM dZ d9 eO eP
set_option linter.unusedVariables false
set_option linter.unusedSimpArgs false
mutual
def aI.j0 : Nat → Bool → Int → Bool → Int → ByteArray → List (S33) → List (S50) → Option (Int)
 | 0,_,_,_,_,_,_,_=>none
 | k + 1,x18,yt,yA,yB,yx,yc,xY=>if x18 = true then (some 15) else (if yt = 3 then ((bP.f k yx).bind fun t208=>(some t208)) else (if yt = 4 then (aI.l0 k 0 yt yA yB yx yc xY) else (aI.j2 k yt yA yB yx yc xY)))
def aI.j2 : Nat → Int → Bool → Int → ByteArray → List (S33) → List (S50) → Option (Int)
 | 0,_,_,_,_,_,_=>none
 | k + 1,yt,yA,yB,yx,yc,xY=>if yt = 5 then (aI.l1 k 0 yt yA yB yx yc xY) else (some 0)
def aI.l1 : Nat → Int → Int → Bool → Int → ByteArray → List (S33) → List (S50) → Option (Int)
 | 0,_,_,_,_,_,_,_=>none
 | k + 1,x5,yt,yA,yB,yx,yc,xY=>if x5 < (xY.length : Int) then (if 0 ≤ x5 then ((bP.f k ((aW xY x5).f0)).bind fun t212=>(if t212 = 0 then (aI.l1 k (wrap64 (x5 + 1)) yt yA yB yx yc xY) else (some t212))) else (none)) else (aI.l2 k 0 yt yA yB yx yc xY)
def aI.l2 : Nat → Int → Int → Bool → Int → ByteArray → List (S33) → List (S50) → Option (Int)
 | 0,_,_,_,_,_,_,_=>none
 | k + 1,x7,yt,yA,yB,yx,yc,xY=>if x7 < (xY.length : Int) then (aI.l3 k x7 0 yt yA yB yx yc xY) else (aI.l4 k 0 yt yA yB yx yc xY)
def aI.l3 : Nat → Int → Int → Int → Bool → Int → ByteArray → List (S33) → List (S50) → Option (Int)
 | 0,_,_,_,_,_,_,_,_=>none
 | k + 1,x7,x8,yt,yA,yB,yx,yc,xY=>if x8 < x7 then (if 0 ≤ x7 then (if x7 < (xY.length : Int) then (if 0 ≤ x8 then (if x8 < (xY.length : Int) then (if ((aW xY x7).f0).toList = ((aW xY x8).f0).toList then (some 8) else (aI.l3 k x7 (wrap64 (x8 + 1)) yt yA yB yx yc xY)) else (none)) else (none)) else (none)) else (none)) else (aI.l2 k (wrap64 (x7 + 1)) yt yA yB yx yc xY)
def aI.l4 : Nat → Int → Int → Bool → Int → ByteArray → List (S33) → List (S50) → Option (Int)
 | 0,_,_,_,_,_,_,_=>none
 | k + 1,x9,yt,yA,yB,yx,yc,xY=>if x9 < (xY.length : Int) then (if 0 ≤ x9 then ((aI.f k ((aW xY x9).f1.f0) ((aW xY x9).f1.f1) ((aW xY x9).f1.f2) ((aW xY x9).f1.f3) ((aW xY x9).f1.f4) ((aW xY x9).f1.f5)).bind fun zS=>(if zS = 0 then (aI.l4 k (wrap64 (x9 + 1)) yt yA yB yx yc xY) else (some zS))) else (none)) else (some 0)
def aI.l0 : Nat → Int → Int → Bool → Int → ByteArray → List (S33) → List (S50) → Option (Int)
 | 0,_,_,_,_,_,_,_=>none
 | k + 1,x3,yt,yA,yB,yx,yc,xY=>if x3 < (yc.length : Int) then (if 0 ≤ x3 then ((aI.f k ((bD yc x3).f0) ((bD yc x3).f1) ((bD yc x3).f2) ((bD yc x3).f3) ((bD yc x3).f4) ((bD yc x3).f5)).bind fun t210=>(if t210 = 0 then (aI.l0 k (wrap64 (x3 + 1)) yt yA yB yx yc xY) else (some t210))) else (none)) else (aI.j2 k yt yA yB yx yc xY)
def aI.f : Nat → Int → Bool → Int → ByteArray → List (S33) → List (S50) → Option (Int)
 | 0,_,_,_,_,_,_=>none
 | k + 1,xX,yg,yh,xZ,xW,xV=>if xX < 0 then (aI.j0 k true xX yg yh xZ xW xV) else (aI.j0 k (decide (xX > 5)) xX yg yh xZ xW xV)
end
theorem aI.eu : ∀ k,(∀ y0 y1 y2 y3 y4 y5,LeO (aI.f k y0 y1 y2 y3 y4 y5) (aI.f (k + 1) y0 y1 y2 y3 y4 y5)) ∧ (∀ y0 y1 y2 y3 y4 y5 y6,LeO (aI.j0 k y0 y1 y2 y3 y4 y5 y6) (aI.j0 (k + 1) y0 y1 y2 y3 y4 y5 y6)) ∧ (∀ y0 y1 y2 y3 y4 y5,LeO (aI.j2 k y0 y1 y2 y3 y4 y5) (aI.j2 (k + 1) y0 y1 y2 y3 y4 y5)) ∧ (∀ y0 y1 y2 y3 y4 y5 y6,LeO (aI.l1 k y0 y1 y2 y3 y4 y5 y6) (aI.l1 (k + 1) y0 y1 y2 y3 y4 y5 y6)) ∧ (∀ y0 y1 y2 y3 y4 y5 y6,LeO (aI.l2 k y0 y1 y2 y3 y4 y5 y6) (aI.l2 (k + 1) y0 y1 y2 y3 y4 y5 y6)) ∧ (∀ y0 y1 y2 y3 y4 y5 y6 y7,LeO (aI.l3 k y0 y1 y2 y3 y4 y5 y6 y7) (aI.l3 (k + 1) y0 y1 y2 y3 y4 y5 y6 y7)) ∧ (∀ y0 y1 y2 y3 y4 y5 y6,LeO (aI.l4 k y0 y1 y2 y3 y4 y5 y6) (aI.l4 (k + 1) y0 y1 y2 y3 y4 y5 y6)) ∧ (∀ y0 y1 y2 y3 y4 y5 y6,LeO (aI.l0 k y0 y1 y2 y3 y4 y5 y6) (aI.l0 (k + 1) y0 y1 y2 y3 y4 y5 y6))
 | 0=>⟨fun _ _ _ _ _ _ r h=>by simp [aI.f] at h,fun _ _ _ _ _ _ _ r h=>by simp [aI.j0] at h,fun _ _ _ _ _ _ r h=>by simp [aI.j2] at h,fun _ _ _ _ _ _ _ r h=>by simp [aI.l1] at h,fun _ _ _ _ _ _ _ r h=>by simp [aI.l2] at h,fun _ _ _ _ _ _ _ _ r h=>by simp [aI.l3] at h,fun _ _ _ _ _ _ _ r h=>by simp [aI.l4] at h,fun _ _ _ _ _ _ _ r h=>by simp [aI.l0] at h⟩
 | k + 1=>by
  obtain ⟨AA,ih1,ih2,ih3,ih4,ih5,AB,AJ⟩:=aI.eu k
  refine ⟨?_,?_,?_,?_,?_,?_,?_,?_⟩
  ·intro y0 y1 y2 y3 y4 y5
   unfold aI.f
   repeat' first
   | (with_reducible exact AA _ _ _ _ _ _)
   | (with_reducible exact ih1 _ _ _ _ _ _ _)
   | (with_reducible exact ih2 _ _ _ _ _ _)
   | (with_reducible exact ih3 _ _ _ _ _ _ _)
   | (with_reducible exact ih4 _ _ _ _ _ _ _)
   | (with_reducible exact ih5 _ _ _ _ _ _ _ _)
   | (with_reducible exact AB _ _ _ _ _ _ _)
   | (with_reducible exact AJ _ _ _ _ _ _ _)
   | (with_reducible exact bP.mono _ _)
   | (with_reducible exact LeO.refl _)
   | (with_reducible exact LeO.none _)
   | (with_reducible refine LeO.ite ?_ ?_)
   | (with_reducible refine LeO.bind ?_ (fun _=>?_))
   | exact AA _ _ _ _ _ _
   | exact ih1 _ _ _ _ _ _ _
   | exact ih2 _ _ _ _ _ _
   | exact ih3 _ _ _ _ _ _ _
   | exact ih4 _ _ _ _ _ _ _
   | exact ih5 _ _ _ _ _ _ _ _
   | exact AB _ _ _ _ _ _ _
   | exact AJ _ _ _ _ _ _ _
   | exact bP.mono _ _
   | exact LeO.none _
   | refine LeO.ite ?_ ?_
   | refine LeO.bind ?_ (fun _=>?_)
  ·intro y0 y1 y2 y3 y4 y5 y6
   unfold aI.j0
   repeat' first
   | (with_reducible exact AA _ _ _ _ _ _)
   | (with_reducible exact ih1 _ _ _ _ _ _ _)
   | (with_reducible exact ih2 _ _ _ _ _ _)
   | (with_reducible exact ih3 _ _ _ _ _ _ _)
   | (with_reducible exact ih4 _ _ _ _ _ _ _)
   | (with_reducible exact ih5 _ _ _ _ _ _ _ _)
   | (with_reducible exact AB _ _ _ _ _ _ _)
   | (with_reducible exact AJ _ _ _ _ _ _ _)
   | (with_reducible exact bP.mono _ _)
   | (with_reducible exact LeO.refl _)
   | (with_reducible exact LeO.none _)
   | (with_reducible refine LeO.ite ?_ ?_)
   | (with_reducible refine LeO.bind ?_ (fun _=>?_))
   | exact AA _ _ _ _ _ _
   | exact ih1 _ _ _ _ _ _ _
   | exact ih2 _ _ _ _ _ _
   | exact ih3 _ _ _ _ _ _ _
   | exact ih4 _ _ _ _ _ _ _
   | exact ih5 _ _ _ _ _ _ _ _
   | exact AB _ _ _ _ _ _ _
   | exact AJ _ _ _ _ _ _ _
   | exact bP.mono _ _
   | exact LeO.none _
   | refine LeO.ite ?_ ?_
   | refine LeO.bind ?_ (fun _=>?_)
  ·intro y0 y1 y2 y3 y4 y5
   unfold aI.j2
   repeat' first
   | (with_reducible exact AA _ _ _ _ _ _)
   | (with_reducible exact ih1 _ _ _ _ _ _ _)
   | (with_reducible exact ih2 _ _ _ _ _ _)
   | (with_reducible exact ih3 _ _ _ _ _ _ _)
   | (with_reducible exact ih4 _ _ _ _ _ _ _)
   | (with_reducible exact ih5 _ _ _ _ _ _ _ _)
   | (with_reducible exact AB _ _ _ _ _ _ _)
   | (with_reducible exact AJ _ _ _ _ _ _ _)
   | (with_reducible exact bP.mono _ _)
   | (with_reducible exact LeO.refl _)
   | (with_reducible exact LeO.none _)
   | (with_reducible refine LeO.ite ?_ ?_)
   | (with_reducible refine LeO.bind ?_ (fun _=>?_))
   | exact AA _ _ _ _ _ _
   | exact ih1 _ _ _ _ _ _ _
   | exact ih2 _ _ _ _ _ _
   | exact ih3 _ _ _ _ _ _ _
   | exact ih4 _ _ _ _ _ _ _
   | exact ih5 _ _ _ _ _ _ _ _
   | exact AB _ _ _ _ _ _ _
   | exact AJ _ _ _ _ _ _ _
   | exact bP.mono _ _
   | exact LeO.none _
   | refine LeO.ite ?_ ?_
   | refine LeO.bind ?_ (fun _=>?_)
  ·intro y0 y1 y2 y3 y4 y5 y6
   unfold aI.l1
   repeat' first
   | (with_reducible exact AA _ _ _ _ _ _)
   | (with_reducible exact ih1 _ _ _ _ _ _ _)
   | (with_reducible exact ih2 _ _ _ _ _ _)
   | (with_reducible exact ih3 _ _ _ _ _ _ _)
   | (with_reducible exact ih4 _ _ _ _ _ _ _)
   | (with_reducible exact ih5 _ _ _ _ _ _ _ _)
   | (with_reducible exact AB _ _ _ _ _ _ _)
   | (with_reducible exact AJ _ _ _ _ _ _ _)
   | (with_reducible exact bP.mono _ _)
   | (with_reducible exact LeO.refl _)
   | (with_reducible exact LeO.none _)
   | (with_reducible refine LeO.ite ?_ ?_)
   | (with_reducible refine LeO.bind ?_ (fun _=>?_))
   | exact AA _ _ _ _ _ _
   | exact ih1 _ _ _ _ _ _ _
   | exact ih2 _ _ _ _ _ _
   | exact ih3 _ _ _ _ _ _ _
   | exact ih4 _ _ _ _ _ _ _
   | exact ih5 _ _ _ _ _ _ _ _
   | exact AB _ _ _ _ _ _ _
   | exact AJ _ _ _ _ _ _ _
   | exact bP.mono _ _
   | exact LeO.none _
   | refine LeO.ite ?_ ?_
   | refine LeO.bind ?_ (fun _=>?_)
  ·intro y0 y1 y2 y3 y4 y5 y6
   unfold aI.l2
   repeat' first
   | (with_reducible exact AA _ _ _ _ _ _)
   | (with_reducible exact ih1 _ _ _ _ _ _ _)
   | (with_reducible exact ih2 _ _ _ _ _ _)
   | (with_reducible exact ih3 _ _ _ _ _ _ _)
   | (with_reducible exact ih4 _ _ _ _ _ _ _)
   | (with_reducible exact ih5 _ _ _ _ _ _ _ _)
   | (with_reducible exact AB _ _ _ _ _ _ _)
   | (with_reducible exact AJ _ _ _ _ _ _ _)
   | (with_reducible exact bP.mono _ _)
   | (with_reducible exact LeO.refl _)
   | (with_reducible exact LeO.none _)
   | (with_reducible refine LeO.ite ?_ ?_)
   | (with_reducible refine LeO.bind ?_ (fun _=>?_))
   | exact AA _ _ _ _ _ _
   | exact ih1 _ _ _ _ _ _ _
   | exact ih2 _ _ _ _ _ _
   | exact ih3 _ _ _ _ _ _ _
   | exact ih4 _ _ _ _ _ _ _
   | exact ih5 _ _ _ _ _ _ _ _
   | exact AB _ _ _ _ _ _ _
   | exact AJ _ _ _ _ _ _ _
   | exact bP.mono _ _
   | exact LeO.none _
   | refine LeO.ite ?_ ?_
   | refine LeO.bind ?_ (fun _=>?_)
  ·intro y0 y1 y2 y3 y4 y5 y6 y7
   unfold aI.l3
   repeat' first
   | (with_reducible exact AA _ _ _ _ _ _)
   | (with_reducible exact ih1 _ _ _ _ _ _ _)
   | (with_reducible exact ih2 _ _ _ _ _ _)
   | (with_reducible exact ih3 _ _ _ _ _ _ _)
   | (with_reducible exact ih4 _ _ _ _ _ _ _)
   | (with_reducible exact ih5 _ _ _ _ _ _ _ _)
   | (with_reducible exact AB _ _ _ _ _ _ _)
   | (with_reducible exact AJ _ _ _ _ _ _ _)
   | (with_reducible exact bP.mono _ _)
   | (with_reducible exact LeO.refl _)
   | (with_reducible exact LeO.none _)
   | (with_reducible refine LeO.ite ?_ ?_)
   | (with_reducible refine LeO.bind ?_ (fun _=>?_))
   | exact AA _ _ _ _ _ _
   | exact ih1 _ _ _ _ _ _ _
   | exact ih2 _ _ _ _ _ _
   | exact ih3 _ _ _ _ _ _ _
   | exact ih4 _ _ _ _ _ _ _
   | exact ih5 _ _ _ _ _ _ _ _
   | exact AB _ _ _ _ _ _ _
   | exact AJ _ _ _ _ _ _ _
   | exact bP.mono _ _
   | exact LeO.none _
   | refine LeO.ite ?_ ?_
   | refine LeO.bind ?_ (fun _=>?_)
  ·intro y0 y1 y2 y3 y4 y5 y6
   unfold aI.l4
   repeat' first
   | (with_reducible exact AA _ _ _ _ _ _)
   | (with_reducible exact ih1 _ _ _ _ _ _ _)
   | (with_reducible exact ih2 _ _ _ _ _ _)
   | (with_reducible exact ih3 _ _ _ _ _ _ _)
   | (with_reducible exact ih4 _ _ _ _ _ _ _)
   | (with_reducible exact ih5 _ _ _ _ _ _ _ _)
   | (with_reducible exact AB _ _ _ _ _ _ _)
   | (with_reducible exact AJ _ _ _ _ _ _ _)
   | (with_reducible exact bP.mono _ _)
   | (with_reducible exact LeO.refl _)
   | (with_reducible exact LeO.none _)
   | (with_reducible refine LeO.ite ?_ ?_)
   | (with_reducible refine LeO.bind ?_ (fun _=>?_))
   | exact AA _ _ _ _ _ _
   | exact ih1 _ _ _ _ _ _ _
   | exact ih2 _ _ _ _ _ _
   | exact ih3 _ _ _ _ _ _ _
   | exact ih4 _ _ _ _ _ _ _
   | exact ih5 _ _ _ _ _ _ _ _
   | exact AB _ _ _ _ _ _ _
   | exact AJ _ _ _ _ _ _ _
   | exact bP.mono _ _
   | exact LeO.none _
   | refine LeO.ite ?_ ?_
   | refine LeO.bind ?_ (fun _=>?_)
  ·intro y0 y1 y2 y3 y4 y5 y6
   unfold aI.l0
   repeat' first
   | (with_reducible exact AA _ _ _ _ _ _)
   | (with_reducible exact ih1 _ _ _ _ _ _ _)
   | (with_reducible exact ih2 _ _ _ _ _ _)
   | (with_reducible exact ih3 _ _ _ _ _ _ _)
   | (with_reducible exact ih4 _ _ _ _ _ _ _)
   | (with_reducible exact ih5 _ _ _ _ _ _ _ _)
   | (with_reducible exact AB _ _ _ _ _ _ _)
   | (with_reducible exact AJ _ _ _ _ _ _ _)
   | (with_reducible exact bP.mono _ _)
   | (with_reducible exact LeO.refl _)
   | (with_reducible exact LeO.none _)
   | (with_reducible refine LeO.ite ?_ ?_)
   | (with_reducible refine LeO.bind ?_ (fun _=>?_))
   | exact AA _ _ _ _ _ _
   | exact ih1 _ _ _ _ _ _ _
   | exact ih2 _ _ _ _ _ _
   | exact ih3 _ _ _ _ _ _ _
   | exact ih4 _ _ _ _ _ _ _
   | exact ih5 _ _ _ _ _ _ _ _
   | exact AB _ _ _ _ _ _ _
   | exact AJ _ _ _ _ _ _ _
   | exact bP.mono _ _
   | exact LeO.none _
   | refine LeO.ite ?_ ?_
   | refine LeO.bind ?_ (fun _=>?_)
theorem aI.mono : ∀ a0 a1 a2 a3 a4 a5 k,LeO (aI.f k a0 a1 a2 a3 a4 a5) (aI.f (k + 1) a0 a1 a2 a3 a4 a5):=by
 intro a0 a1 a2 a3 a4 a5 k
 obtain ⟨AA,ih1,ih2,ih3,ih4,ih5,AB,AJ⟩:=aI.eu k
 exact AA a0 a1 a2 a3 a4 a5
set_option maxHeartbeats 8000000 in
set_option maxRecDepth 100000 in
theorem aI.calls (k : Nat) : ∀ (xX : Int) (yg : Bool) (yh : Int) (xZ : ByteArray) (yE : Option Addr) (yC : Nat) (xW : List (S33)) (yF : Option Addr) (yD : Nat) (xV : List (S50)) (r : Int) (w : World) (Bg : Kd.C k33 w yE xW.length xW) (Bh : xW.length ≤ yC) (Bj : Kd.C k50 w yF xV.length xV) (Bl : xV.length ≤ yD) (h : aI.f k xX yg yh xZ xW xV = some r),
  Calls Tryd.prog 35 #[.agg #[.int .i64 xX,.bool yg,.int .i64 yh,.string xZ,.slice yE xW.length yC,.slice yF xV.length yD]] w fun e w'=>e = .returned (.int .i64 r) ∧ Below w.heap.size w w':=by
 induction k using Nat.strongRecOn with
 | _ k ih =>
 intro xX yg yh xZ yE yC xW yF yD xV r w Bg Bh Bj Bl h
 cases k with
 | zero=>exact absurd h (by simp [aI.f])
 | succ k =>
 simp only [aI.f] at h
 have Jf:=Tryd.underlying33
 have BJ:=Aside0.mk Bg
 have I8:=Aside0.mk Bh
 clear Bg Bh
 have Aq:=Aside0.mk Bj
 have I9:=Aside0.mk Bl
 clear Bj Bl
 have HB:=Aside0.mk (Below.refl w.heap.size w)
 have H : (if xX < 0 then (aI.j0 k true xX yg yh xZ xW xV) else (aI.j0 k (decide (xX > 5)) xX yg yh xZ xW xV)) = some r:=h
 clear h
 have Iq:=Aside0.mk H
 clear H
 go_enter Tryd.func35,Tryd.ntmps35
 go_upto_region 1 with (first|((with_reducible refine bV (N:=1) rfl ?_);refine bT ?hg (N:=1) ?hd (cs:=#[.int .i64 xX,.bool yg,.int .i64 yh,.string xZ,.slice yE xW.length yC,.slice yF xV.length yD]) (t:=33) ?hr ?_;(case hd=>rfl);(case hg=>rfl);(case hr=>first|(go_simp;done)|(go_simp;rfl));intro xU hg w3 hbox hb;have yN:=Aside0.mk (aT (by repeat (first|(with_reducible first|exact HB.out|apply av|apply ak|apply au)|exact HB.out)) hb);have yO:=Aside0.mk (hbox);have BK:=Aside0.mk ((by rw [hg];exact (aM (by repeat (first|(with_reducible first|exact HB.out|apply av|apply ak|apply au)|exact HB.out))) : w.heap.size ≤ xU));have BL:=Aside0.mk ((by rw [hg];exact (aM (by repeat (first|(with_reducible first|exact HB.out|apply av|apply ak|apply au)|exact HB.out))) : w.heap.size ≤ xU));clear HB;have HB:=yN;have xS:=yO;have BM:=BK;have yj:=BL;clear yN yO BK BL;clear hb hbox hg))
 repeat (go_quiet (first|((with_reducible refine bV (N:=1) rfl ?_);refine bT ?hg (N:=1) ?hd (cs:=#[.int .i64 xX,.bool yg,.int .i64 yh,.string xZ,.slice yE xW.length yC,.slice yF xV.length yD]) (t:=33) ?hr ?_;(case hd=>rfl);(case hg=>rfl);(case hr=>first|(go_simp;done)|(go_simp;rfl));intro xU hg w3 hbox hb;have yN:=Aside0.mk (aT (by repeat (first|(with_reducible first|exact HB.out|apply av|apply ak|apply au)|exact HB.out)) hb);have yO:=Aside0.mk (hbox);have BK:=Aside0.mk ((by rw [hg];exact (aM (by repeat (first|(with_reducible first|exact HB.out|apply av|apply ak|apply au)|exact HB.out))) : w.heap.size ≤ xU));have BL:=Aside0.mk ((by rw [hg];exact (aM (by repeat (first|(with_reducible first|exact HB.out|apply av|apply ak|apply au)|exact HB.out))) : w.heap.size ≤ xU));clear HB;have HB:=yN;have xS:=yO;have BM:=BK;have yj:=BL;clear yN yO BK BL;clear hb hbox hg));go_upto_region 1 with (first|((with_reducible refine bV (N:=1) rfl ?_);refine bT ?hg (N:=1) ?hd (cs:=#[.int .i64 xX,.bool yg,.int .i64 yh,.string xZ,.slice yE xW.length yC,.slice yF xV.length yD]) (t:=33) ?hr ?_;(case hd=>rfl);(case hg=>rfl);(case hr=>first|(go_simp;done)|(go_simp;rfl));intro xU hg w3 hbox hb;have yN:=Aside0.mk (aT (by repeat (first|(with_reducible first|exact HB.out|apply av|apply ak|apply au)|exact HB.out)) hb);have yO:=Aside0.mk (hbox);have BK:=Aside0.mk ((by rw [hg];exact (aM (by repeat (first|(with_reducible first|exact HB.out|apply av|apply ak|apply au)|exact HB.out))) : w.heap.size ≤ xU));have BL:=Aside0.mk ((by rw [hg];exact (aM (by repeat (first|(with_reducible first|exact HB.out|apply av|apply ak|apply au)|exact HB.out))) : w.heap.size ≤ xU));clear HB;have HB:=yN;have xS:=yO;have BM:=BK;have yj:=BL;clear yN yO BK BL;clear hb hbox hg)))
 (try simp only [Act.put,List.setIfInBounds_toArray,List.set_cons_zero,List.set_cons_succ])
 go_cut [18] (fun v18 wc=>∃ (kq : Nat) (Bb : Bool),v18 = .bool Bb ∧ Aside0 (aI.j0 kq Bb xX yg yh xZ xW xV = some r) ∧ Aside0 (kq ≤ k) ∧ Aside0 (wc.heap[xU]? = some (.cells #[.int .i64 xX,.bool yg,.int .i64 yh,.string xZ,(.slice yE xW.length yC),(.slice yF xV.length yD)] 33 (0,0))) ∧ Aside0 (Below w.heap.size w wc))
 case first =>
  have H:=Iq.out
  clear Iq
  by_cases c4 : xX < 0
  ·rw [if_pos c4] at H
   have c4b0 : decide (xX < 0) = true:=decide_eq_true c4
   clear c4
   (first|rw [c4b0]|(simp only [bA,bB];rw [c4b0])|skip)
   have H':=Aside0.mk H
   clear H
   have Ir : w3.cell? ⟨xU,0,none⟩ = some (.int .i64 xX):=(ah xS.out 0).trans rfl
   have Iu : w3.cell? ⟨xU,1,none⟩ = some (.bool yg):=(ah xS.out 1).trans rfl
   have Iw : w3.cell? ⟨xU,2,none⟩ = some (.int .i64 yh):=(ah xS.out 2).trans rfl
   have Iy : w3.cell? ⟨xU,3,none⟩ = some (.string xZ):=(ah xS.out 3).trans rfl
   have Iz : w3.cell? ⟨xU,4,none⟩ = some (.slice yE xW.length yC):=(ah xS.out 4).trans rfl
   have IB : w3.cell? ⟨xU,5,none⟩ = some (.slice yF xV.length yD):=(ah xS.out 5).trans rfl
   have IC:=aj xS.out 0
   have IE:=aj xS.out 1
   have IG:=aj xS.out 2
   have II:=aj xS.out 3
   have IJ:=aj xS.out 4
   have IK:=aj xS.out 5
   go_wp2
   repeat (go_quiet (fail);try go_wp2)
   go_meet
   case rel=>exact ⟨_,(true),(by first|rfl|(simp;done)|(simp [*];done)),H',⟨by first|omega|exact Nat.le_refl _⟩,⟨by (with_reducible repeat (first|apply aA|apply aC|apply ay));exact xS.out⟩,⟨by repeat (first|(with_reducible first|exact HB.out|apply av|apply ak|apply au|refine aD ?_ yj.out)|exact HB.out)⟩⟩
  ·rw [if_neg c4] at H
   have c4b0 : decide (xX < 0) = false:=decide_eq_false c4
   clear c4
   (first|rw [c4b0]|(simp only [bA,bB];rw [c4b0])|skip)
   have H':=Aside0.mk H
   clear H
   have IL : w3.cell? ⟨xU,0,none⟩ = some (.int .i64 xX):=(ah xS.out 0).trans rfl
   have IQ : w3.cell? ⟨xU,1,none⟩ = some (.bool yg):=(ah xS.out 1).trans rfl
   have IU : w3.cell? ⟨xU,2,none⟩ = some (.int .i64 yh):=(ah xS.out 2).trans rfl
   have IV : w3.cell? ⟨xU,3,none⟩ = some (.string xZ):=(ah xS.out 3).trans rfl
   have IW : w3.cell? ⟨xU,4,none⟩ = some (.slice yE xW.length yC):=(ah xS.out 4).trans rfl
   have IX : w3.cell? ⟨xU,5,none⟩ = some (.slice yF xV.length yD):=(ah xS.out 5).trans rfl
   have IY:=aj xS.out 0
   have IZ:=aj xS.out 1
   have I4:=aj xS.out 2
   have I5:=aj xS.out 3
   have I6:=aj xS.out 4
   have I7:=aj xS.out 5
   go_wp2
   repeat (go_quiet (fail);try go_wp2)
   go_meet
   case rel=>exact ⟨_,(decide (xX > 5)),(by first|rfl|(simp;done)|(simp [*];done)),H',⟨by first|omega|exact Nat.le_refl _⟩,⟨by (with_reducible repeat (first|apply aA|apply aC|apply ay));exact xS.out⟩,⟨by repeat (first|(with_reducible first|exact HB.out|apply av|apply ak|apply au|refine aD ?_ yj.out)|exact HB.out)⟩⟩
 case rest =>
  clear Iq
  obtain ⟨kq,Bb,rfl,HA,Ar,xS,HB⟩:=hcut
  cases kq with
  | zero=>exact absurd HA.out (by simp [aI.j0])
  | succ Bp =>
   have H:=HA.out
   clear HA
   simp only [aI.j0] at H
   by_cases c7 : Bb = true
   ·subst c7
    have H1 : (some 15) = some r:=by rw [if_pos rfl] at H;exact H
    clear H
    have H:=H1
    clear H1
    obtain rfl:=Option.some.inj H
    go_wp2
    repeat (go_quiet (fail);try go_wp2)
    go_ret
    exact ⟨by first|rfl|(simp [bg,bn] <;> rfl)|(simp [*,bg,bn] <;> rfl),by repeat (first|(with_reducible first|exact HB.out|apply av|apply ak|apply au|refine aD ?_ yj.out)|exact HB.out)⟩
   ·replace c7:=Bool.eq_false_iff.mpr c7
    subst c7
    have H1 : (if xX = 3 then ((bP.f Bp xZ).bind fun t208=>(some t208)) else (if xX = 4 then (aI.l0 Bp 0 xX yg yh xZ xW xV) else (aI.j2 Bp xX yg yh xZ xW xV))) = some r:=by rw [if_neg (show ¬ (false = true) by decide)] at H;exact H
    clear H
    have H:=H1
    clear H1
    by_cases c8 : xX = 3
    ·rw [if_pos c8] at H
     have c8b0 : (xX == 3) = true:=beq_iff_eq.mpr c8
     have c8b1 : (xX != 3) = false:=bne_eq_false_iff_eq.mpr c8
     clear c8
     replace H:=Option.bind_eq_some_iff.mp H
     obtain ⟨t208,Ja,H⟩:=H
     replace H : (some t208) = some r:=H
     have A9:=Aside0.mk Ja
     clear Ja
     obtain rfl:=Option.some.inj H
     have CJ : wc.cell? ⟨xU,0,none⟩ = some (.int .i64 xX):=(ah xS.out 0).trans rfl
     have CK : wc.cell? ⟨xU,1,none⟩ = some (.bool yg):=(ah xS.out 1).trans rfl
     have CO : wc.cell? ⟨xU,2,none⟩ = some (.int .i64 yh):=(ah xS.out 2).trans rfl
     have CP : wc.cell? ⟨xU,3,none⟩ = some (.string xZ):=(ah xS.out 3).trans rfl
     have CQ : wc.cell? ⟨xU,4,none⟩ = some (.slice yE xW.length yC):=(ah xS.out 4).trans rfl
     have CS : wc.cell? ⟨xU,5,none⟩ = some (.slice yF xV.length yD):=(ah xS.out 5).trans rfl
     have CU:=aj xS.out 0
     have CV:=aj xS.out 1
     have CW:=aj xS.out 2
     have CX:=aj xS.out 3
     have CY:=aj xS.out 4
     have CZ:=aj xS.out 5
     go_wp2_with (first|(go_at_call 49;(with_reducible refine (bP.calls Bp xZ t208 _ A9.out).mono ?_);rintro e w' ⟨rfl,⟨nd,rfl⟩⟩;(try first|exact ⟨rfl,_,World.drewN_drewN _ _ _⟩|exact ⟨rfl,_,Eq.trans (World.drewN_drewN _ _ _) (congrArg (World.drewN _) (Nat.add_assoc _ _ _))⟩)))
     repeat (go_quiet (first|(go_at_call 49;(with_reducible refine (bP.calls Bp xZ t208 _ A9.out).mono ?_);rintro e w' ⟨rfl,⟨nd,rfl⟩⟩;(try first|exact ⟨rfl,_,World.drewN_drewN _ _ _⟩|exact ⟨rfl,_,Eq.trans (World.drewN_drewN _ _ _) (congrArg (World.drewN _) (Nat.add_assoc _ _ _))⟩)));try go_wp2_with (first|(go_at_call 49;(with_reducible refine (bP.calls Bp xZ t208 _ A9.out).mono ?_);rintro e w' ⟨rfl,⟨nd,rfl⟩⟩;(try first|exact ⟨rfl,_,World.drewN_drewN _ _ _⟩|exact ⟨rfl,_,Eq.trans (World.drewN_drewN _ _ _) (congrArg (World.drewN _) (Nat.add_assoc _ _ _))⟩))))
     go_ret
     exact ⟨by first|rfl|(simp [bg,bn] <;> rfl)|(simp [*,bg,bn] <;> rfl),by repeat (first|(with_reducible first|exact HB.out|apply av|apply ak|apply au|refine aD ?_ yj.out)|exact HB.out)⟩
    ·rw [if_neg c8] at H
     have c8b0 : (xX == 3) = false:=beq_eq_false_iff_ne.mpr c8
     have c8b1 : (xX != 3) = true:=bne_iff_ne.mpr c8
     have BN:=Aside0.mk H
     clear H
     have C8 : wc.cell? ⟨xU,0,none⟩ = some (.int .i64 xX):=(ah xS.out 0).trans rfl
     have C9 : wc.cell? ⟨xU,1,none⟩ = some (.bool yg):=(ah xS.out 1).trans rfl
     have Da : wc.cell? ⟨xU,2,none⟩ = some (.int .i64 yh):=(ah xS.out 2).trans rfl
     have Db : wc.cell? ⟨xU,3,none⟩ = some (.string xZ):=(ah xS.out 3).trans rfl
     have Dc : wc.cell? ⟨xU,4,none⟩ = some (.slice yE xW.length yC):=(ah xS.out 4).trans rfl
     have Df : wc.cell? ⟨xU,5,none⟩ = some (.slice yF xV.length yD):=(ah xS.out 5).trans rfl
     have Dh:=aj xS.out 0
     have Di:=aj xS.out 1
     have Dj:=aj xS.out 2
     have Dk:=aj xS.out 3
     have Dl:=aj xS.out 4
     have Dm:=aj xS.out 5
     go_upto_if 27 with (fail)
     repeat (go_quiet (fail);go_upto_if 27 with (fail))
     go_cut [] (fun wc=>∃ (kq : Nat),Aside0 (aI.j2 kq xX yg yh xZ xW xV = some r) ∧ Aside0 (kq ≤ Bp) ∧ Aside0 (wc.heap[xU]? = some (.cells #[.int .i64 xX,.bool yg,.int .i64 yh,.string xZ,(.slice yE xW.length yC),(.slice yF xV.length yD)] 33 (0,0))) ∧ Aside0 (Below w.heap.size w wc))
     case first =>
      have H:=BN.out
      clear BN
      by_cases c13 : xX = 4
      ·rw [if_pos c13] at H
       have c13b0 : (xX == 4) = true:=beq_iff_eq.mpr c13
       have c13b1 : (xX != 4) = false:=bne_eq_false_iff_eq.mpr c13
       clear c13
       (first|rw [c13b0]|(simp only [bA,bB];rw [c13b0])|skip)
       have H':=Aside0.mk H
       clear H
       go_wp2
       repeat (go_quiet (fail);try go_wp2)
       go_loopg [3] Bp (fun kq v3 w'=>∃ (yu : Int),v3 = .int .i64 yu ∧ Aside0 (aI.l0 kq yu xX yg yh xZ xW xV = some r) ∧ Aside0 (kq ≤ Bp) ∧ Aside0 (w'.heap[xU]? = some (.cells #[.int .i64 xX,.bool yg,.int .i64 yh,.string xZ,(.slice yE xW.length yC),(.slice yF xV.length yD)] 33 (0,0))) ∧ Aside0 (Below w.heap.size w w'))
       case atStart=>exact ⟨(0),(by first|rfl|(simp;done)|(simp [*];done)),H',⟨Nat.le_refl _⟩,⟨by (with_reducible repeat (first|apply aA|apply aC|apply ay));exact xS.out⟩,⟨by repeat (first|(with_reducible first|exact HB.out|apply av|apply ak|apply au|refine aD ?_ yj.out)|exact HB.out)⟩⟩
       case round =>
        clear H'
        obtain ⟨yu,rfl,HA,Bq,xS,HB⟩:=hrel
        cases gk with
        | zero=>exact absurd HA.out (by simp [aI.l0])
        | succ k2 =>
         have H:=HA.out
         clear HA
         simp only [aI.l0] at H
         by_cases c14 : yu < (xW.length : Int)
         ·rw [if_pos c14] at H
          have c14b0 : decide (yu < (xW.length : Int)) = true:=decide_eq_true c14
          clear c14
          by_cases c15 : 0 ≤ yu
          ·rw [if_pos c15] at H
           have c15b0 : decide (0 ≤ yu) = true:=decide_eq_true c15
           clear c15
           replace H:=Option.bind_eq_some_iff.mp H
           obtain ⟨t210,Cy,H⟩:=H
           replace H : (if t210 = 0 then (aI.l0 k2 (wrap64 (yu + 1)) xX yg yh xZ xW xV) else (some t210)) = some r:=H
           have Ct:=Aside0.mk Cy
           clear Cy
           by_cases c17 : t210 = 0
           ·rw [if_pos c17] at H
            have c17b0 : (t210 == 0) = true:=beq_iff_eq.mpr c17
            have c17b1 : (t210 != 0) = false:=bne_eq_false_iff_eq.mpr c17
            clear c17
            have H':=Aside0.mk H
            clear H
            have Dn : wr.cell? ⟨xU,0,none⟩ = some (.int .i64 xX):=(ah xS.out 0).trans rfl
            have Dp : wr.cell? ⟨xU,1,none⟩ = some (.bool yg):=(ah xS.out 1).trans rfl
            have Dq : wr.cell? ⟨xU,2,none⟩ = some (.int .i64 yh):=(ah xS.out 2).trans rfl
            have Dr : wr.cell? ⟨xU,3,none⟩ = some (.string xZ):=(ah xS.out 3).trans rfl
            have Dt : wr.cell? ⟨xU,4,none⟩ = some (.slice yE xW.length yC):=(ah xS.out 4).trans rfl
            have Du : wr.cell? ⟨xU,5,none⟩ = some (.slice yF xV.length yD):=(ah xS.out 5).trans rfl
            have Dv:=aj xS.out 0
            have Dw:=aj xS.out 1
            have Dx:=aj xS.out 2
            have Dy:=aj xS.out 3
            have Dz:=aj xS.out 4
            have DC:=aj xS.out 5
            have AL : 0 ≤ (yu : Int):=of_decide_eq_true (by first|(with_reducible assumption)|assumption)
            have AO : yu < (xW.length : Int):=of_decide_eq_true (by first|(with_reducible assumption)|assumption)
            obtain ⟨Au,BO,BP,BQ,BR,e209,yP,yQ,yR,yS,yT,yU,zT,zU,zV,zW⟩:=jD BJ.out yu AL AO
            cases e209
            replace yP:=(HB.out.cell (World.block_lt_of_cell? w _ yP)).trans yP
            replace yQ:=(HB.out.cell (World.block_lt_of_cell? w _ yQ)).trans yQ
            replace yR:=(HB.out.cell (World.block_lt_of_cell? w _ yR)).trans yR
            replace yS:=(HB.out.cell (World.block_lt_of_cell? w _ yS)).trans yS
            replace yT:=(HB.out.cell (World.block_lt_of_cell? w _ yT)).trans yT
            replace yU:=(HB.out.cell (World.block_lt_of_cell? w _ yU)).trans yU
            have yV:=Aside0.mk zU
            have yX:=Aside0.mk zT
            clear zU zT
            have yY:=Aside0.mk zW
            have yZ:=Aside0.mk zV
            clear zW zV
            replace AL:=eq_true AL
            replace AO:=eq_true AO
            go_wp2_with (first|(go_at_call 35;(with_reducible refine (ih k2 (by have:=Ar.out;have:=Bq.out;omega) ((bD xW yu).f0) ((bD xW yu).f1) ((bD xW yu).f2) ((bD xW yu).f3) _ _ ((bD xW yu).f4) _ _ ((bD xW yu).f5) t210 _ ?yG ?yH ?yI ?yJ Ct.out).mono ?_);(case yG=>repeat (first|exact (Kd.bO yV.out HB.out)|(with_reducible refine Kd.bJ ?_ _)|(with_reducible refine Kd.bL ?_ _)|(with_reducible refine Kd.bS ?_)));(case yH=>exact yX.out);(case yI=>repeat (first|exact (Kd.bO yY.out HB.out)|(with_reducible refine Kd.bJ ?_ _)|(with_reducible refine Kd.bL ?_ _)|(with_reducible refine Kd.bS ?_)));(case yJ=>exact yZ.out);rintro e Jb ⟨rfl,hb⟩;have yN:=Aside0.mk (aU (g:=xU) (o:=.cells #[.int .i64 xX,.bool yg,.int .i64 yh,.string xZ,.slice (some Au) xW.length yC,.slice yF xV.length yD] 33 (0,0)) (bk_ xS.out) hb);have yO:=Aside0.mk (aT (by repeat (first|(with_reducible first|exact HB.out|apply av|apply ak|apply au|refine aD ?_ yj.out)|exact HB.out)) hb);clear xS;clear HB;have xS:=yN;have HB:=yO;clear yN yO;(try clear hb);(try clear hb2);(try clear hk);(try clear hi)))
            repeat (go_quiet (first|(go_at_call 35;(with_reducible refine (ih k2 (by have:=Ar.out;have:=Bq.out;omega) ((bD xW yu).f0) ((bD xW yu).f1) ((bD xW yu).f2) ((bD xW yu).f3) _ _ ((bD xW yu).f4) _ _ ((bD xW yu).f5) t210 _ ?yG ?yH ?yI ?yJ Ct.out).mono ?_);(case yG=>repeat (first|exact (Kd.bO yV.out HB.out)|(with_reducible refine Kd.bJ ?_ _)|(with_reducible refine Kd.bL ?_ _)|(with_reducible refine Kd.bS ?_)));(case yH=>exact yX.out);(case yI=>repeat (first|exact (Kd.bO yY.out HB.out)|(with_reducible refine Kd.bJ ?_ _)|(with_reducible refine Kd.bL ?_ _)|(with_reducible refine Kd.bS ?_)));(case yJ=>exact yZ.out);rintro e Jb ⟨rfl,hb⟩;have yN:=Aside0.mk (aU (g:=xU) (o:=.cells #[.int .i64 xX,.bool yg,.int .i64 yh,.string xZ,.slice (some Au) xW.length yC,.slice yF xV.length yD] 33 (0,0)) (bk_ xS.out) hb);have yO:=Aside0.mk (aT (by repeat (first|(with_reducible first|exact HB.out|apply av|apply ak|apply au|refine aD ?_ yj.out)|exact HB.out)) hb);clear xS;clear HB;have xS:=yN;have HB:=yO;clear yN yO;(try clear hb);(try clear hb2);(try clear hk);(try clear hi)));try go_wp2_with (first|(go_at_call 35;(with_reducible refine (ih k2 (by have:=Ar.out;have:=Bq.out;omega) ((bD xW yu).f0) ((bD xW yu).f1) ((bD xW yu).f2) ((bD xW yu).f3) _ _ ((bD xW yu).f4) _ _ ((bD xW yu).f5) t210 _ ?yG ?yH ?yI ?yJ Ct.out).mono ?_);(case yG=>repeat (first|exact (Kd.bO yV.out HB.out)|(with_reducible refine Kd.bJ ?_ _)|(with_reducible refine Kd.bL ?_ _)|(with_reducible refine Kd.bS ?_)));(case yH=>exact yX.out);(case yI=>repeat (first|exact (Kd.bO yY.out HB.out)|(with_reducible refine Kd.bJ ?_ _)|(with_reducible refine Kd.bL ?_ _)|(with_reducible refine Kd.bS ?_)));(case yJ=>exact yZ.out);rintro e Jb ⟨rfl,hb⟩;have yN:=Aside0.mk (aU (g:=xU) (o:=.cells #[.int .i64 xX,.bool yg,.int .i64 yh,.string xZ,.slice (some Au) xW.length yC,.slice yF xV.length yD] 33 (0,0)) (bk_ xS.out) hb);have yO:=Aside0.mk (aT (by repeat (first|(with_reducible first|exact HB.out|apply av|apply ak|apply au|refine aD ?_ yj.out)|exact HB.out)) hb);clear xS;clear HB;have xS:=yN;have HB:=yO;clear yN yO;(try clear hb);(try clear hb2);(try clear hk);(try clear hi))))
            go_roundg k2
            case measure=>have:=Ar.out;have:=Bq.out;omega
            case rel=>exact ⟨(wrap64 (yu + 1)),(by first|rfl|(simp;done)|(simp [*];done)),H',⟨by have:=Ar.out;have:=Bq.out;omega⟩,⟨by (with_reducible repeat (first|apply aA|apply aC|apply ay));exact xS.out⟩,⟨by repeat (first|(with_reducible first|exact HB.out|apply av|apply ak|apply au|refine aD ?_ yj.out)|exact HB.out)⟩⟩
           ·rw [if_neg c17] at H
            have c17b0 : (t210 == 0) = false:=beq_eq_false_iff_ne.mpr c17
            have c17b1 : (t210 != 0) = true:=bne_iff_ne.mpr c17
            obtain rfl:=Option.some.inj H
            have DF : wr.cell? ⟨xU,0,none⟩ = some (.int .i64 xX):=(ah xS.out 0).trans rfl
            have DI : wr.cell? ⟨xU,1,none⟩ = some (.bool yg):=(ah xS.out 1).trans rfl
            have DJ : wr.cell? ⟨xU,2,none⟩ = some (.int .i64 yh):=(ah xS.out 2).trans rfl
            have DK : wr.cell? ⟨xU,3,none⟩ = some (.string xZ):=(ah xS.out 3).trans rfl
            have DL : wr.cell? ⟨xU,4,none⟩ = some (.slice yE xW.length yC):=(ah xS.out 4).trans rfl
            have DN : wr.cell? ⟨xU,5,none⟩ = some (.slice yF xV.length yD):=(ah xS.out 5).trans rfl
            have DR:=aj xS.out 0
            have DT:=aj xS.out 1
            have DU:=aj xS.out 2
            have DV:=aj xS.out 3
            have DW:=aj xS.out 4
            have DX:=aj xS.out 5
            have AL : 0 ≤ (yu : Int):=of_decide_eq_true (by first|(with_reducible assumption)|assumption)
            have AO : yu < (xW.length : Int):=of_decide_eq_true (by first|(with_reducible assumption)|assumption)
            obtain ⟨Au,BO,BP,BQ,BR,e209,yP,yQ,yR,yS,yT,yU,zT,zU,zV,zW⟩:=jD BJ.out yu AL AO
            cases e209
            replace yP:=(HB.out.cell (World.block_lt_of_cell? w _ yP)).trans yP
            replace yQ:=(HB.out.cell (World.block_lt_of_cell? w _ yQ)).trans yQ
            replace yR:=(HB.out.cell (World.block_lt_of_cell? w _ yR)).trans yR
            replace yS:=(HB.out.cell (World.block_lt_of_cell? w _ yS)).trans yS
            replace yT:=(HB.out.cell (World.block_lt_of_cell? w _ yT)).trans yT
            replace yU:=(HB.out.cell (World.block_lt_of_cell? w _ yU)).trans yU
            have yV:=Aside0.mk zU
            have yX:=Aside0.mk zT
            clear zU zT
            have yY:=Aside0.mk zW
            have yZ:=Aside0.mk zV
            clear zW zV
            replace AL:=eq_true AL
            replace AO:=eq_true AO
            go_wp2_with (first|(go_at_call 35;(with_reducible refine (ih k2 (by have:=Ar.out;have:=Bq.out;omega) ((bD xW yu).f0) ((bD xW yu).f1) ((bD xW yu).f2) ((bD xW yu).f3) _ _ ((bD xW yu).f4) _ _ ((bD xW yu).f5) t210 _ ?yG ?yH ?yI ?yJ Ct.out).mono ?_);(case yG=>repeat (first|exact (Kd.bO yV.out HB.out)|(with_reducible refine Kd.bJ ?_ _)|(with_reducible refine Kd.bL ?_ _)|(with_reducible refine Kd.bS ?_)));(case yH=>exact yX.out);(case yI=>repeat (first|exact (Kd.bO yY.out HB.out)|(with_reducible refine Kd.bJ ?_ _)|(with_reducible refine Kd.bL ?_ _)|(with_reducible refine Kd.bS ?_)));(case yJ=>exact yZ.out);rintro e Jc ⟨rfl,hb⟩;have yN:=Aside0.mk (aU (g:=xU) (o:=.cells #[.int .i64 xX,.bool yg,.int .i64 yh,.string xZ,.slice (some Au) xW.length yC,.slice yF xV.length yD] 33 (0,0)) (bk_ xS.out) hb);have yO:=Aside0.mk (aT (by repeat (first|(with_reducible first|exact HB.out|apply av|apply ak|apply au|refine aD ?_ yj.out)|exact HB.out)) hb);clear xS;clear HB;have xS:=yN;have HB:=yO;clear yN yO;(try clear hb);(try clear hb2);(try clear hk);(try clear hi)))
            repeat (go_quiet (first|(go_at_call 35;(with_reducible refine (ih k2 (by have:=Ar.out;have:=Bq.out;omega) ((bD xW yu).f0) ((bD xW yu).f1) ((bD xW yu).f2) ((bD xW yu).f3) _ _ ((bD xW yu).f4) _ _ ((bD xW yu).f5) t210 _ ?yG ?yH ?yI ?yJ Ct.out).mono ?_);(case yG=>repeat (first|exact (Kd.bO yV.out HB.out)|(with_reducible refine Kd.bJ ?_ _)|(with_reducible refine Kd.bL ?_ _)|(with_reducible refine Kd.bS ?_)));(case yH=>exact yX.out);(case yI=>repeat (first|exact (Kd.bO yY.out HB.out)|(with_reducible refine Kd.bJ ?_ _)|(with_reducible refine Kd.bL ?_ _)|(with_reducible refine Kd.bS ?_)));(case yJ=>exact yZ.out);rintro e Jc ⟨rfl,hb⟩;have yN:=Aside0.mk (aU (g:=xU) (o:=.cells #[.int .i64 xX,.bool yg,.int .i64 yh,.string xZ,.slice (some Au) xW.length yC,.slice yF xV.length yD] 33 (0,0)) (bk_ xS.out) hb);have yO:=Aside0.mk (aT (by repeat (first|(with_reducible first|exact HB.out|apply av|apply ak|apply au|refine aD ?_ yj.out)|exact HB.out)) hb);clear xS;clear HB;have xS:=yN;have HB:=yO;clear yN yO;(try clear hb);(try clear hb2);(try clear hk);(try clear hi)));try go_wp2_with (first|(go_at_call 35;(with_reducible refine (ih k2 (by have:=Ar.out;have:=Bq.out;omega) ((bD xW yu).f0) ((bD xW yu).f1) ((bD xW yu).f2) ((bD xW yu).f3) _ _ ((bD xW yu).f4) _ _ ((bD xW yu).f5) t210 _ ?yG ?yH ?yI ?yJ Ct.out).mono ?_);(case yG=>repeat (first|exact (Kd.bO yV.out HB.out)|(with_reducible refine Kd.bJ ?_ _)|(with_reducible refine Kd.bL ?_ _)|(with_reducible refine Kd.bS ?_)));(case yH=>exact yX.out);(case yI=>repeat (first|exact (Kd.bO yY.out HB.out)|(with_reducible refine Kd.bJ ?_ _)|(with_reducible refine Kd.bL ?_ _)|(with_reducible refine Kd.bS ?_)));(case yJ=>exact yZ.out);rintro e Jc ⟨rfl,hb⟩;have yN:=Aside0.mk (aU (g:=xU) (o:=.cells #[.int .i64 xX,.bool yg,.int .i64 yh,.string xZ,.slice (some Au) xW.length yC,.slice yF xV.length yD] 33 (0,0)) (bk_ xS.out) hb);have yO:=Aside0.mk (aT (by repeat (first|(with_reducible first|exact HB.out|apply av|apply ak|apply au|refine aD ?_ yj.out)|exact HB.out)) hb);clear xS;clear HB;have xS:=yN;have HB:=yO;clear yN yO;(try clear hb);(try clear hb2);(try clear hk);(try clear hi))))
            go_ret
            exact ⟨by first|rfl|(simp [bg,bn] <;> rfl)|(simp [*,bg,bn] <;> rfl),by repeat (first|(with_reducible first|exact HB.out|apply av|apply ak|apply au|refine aD ?_ yj.out)|exact HB.out)⟩
          ·rw [if_neg c15] at H
           exact absurd H (by simp)
         ·rw [if_neg c14] at H
          have c14b0 : decide (yu < (xW.length : Int)) = false:=decide_eq_false c14
          clear c14
          have H':=Aside0.mk H
          clear H
          have DY : wr.cell? ⟨xU,0,none⟩ = some (.int .i64 xX):=(ah xS.out 0).trans rfl
          have DZ : wr.cell? ⟨xU,1,none⟩ = some (.bool yg):=(ah xS.out 1).trans rfl
          have D5 : wr.cell? ⟨xU,2,none⟩ = some (.int .i64 yh):=(ah xS.out 2).trans rfl
          have D6 : wr.cell? ⟨xU,3,none⟩ = some (.string xZ):=(ah xS.out 3).trans rfl
          have D7 : wr.cell? ⟨xU,4,none⟩ = some (.slice yE xW.length yC):=(ah xS.out 4).trans rfl
          have D8 : wr.cell? ⟨xU,5,none⟩ = some (.slice yF xV.length yD):=(ah xS.out 5).trans rfl
          have D9:=aj xS.out 0
          have Ea:=aj xS.out 1
          have Eb:=aj xS.out 2
          have Ec:=aj xS.out 3
          have Ed:=aj xS.out 4
          have Ee:=aj xS.out 5
          go_wp2
          repeat (go_quiet (fail);try go_wp2)
          go_meet
          case rel=>exact ⟨_,H',⟨by have:=Ar.out;have:=Bq.out;first|omega|exact Nat.le_refl _⟩,⟨by (with_reducible repeat (first|apply aA|apply aC|apply ay));exact xS.out⟩,⟨by repeat (first|(with_reducible first|exact HB.out|apply av|apply ak|apply au|refine aD ?_ yj.out)|exact HB.out)⟩⟩
      ·rw [if_neg c13] at H
       have c13b0 : (xX == 4) = false:=beq_eq_false_iff_ne.mpr c13
       have c13b1 : (xX != 4) = true:=bne_iff_ne.mpr c13
       (first|rw [c13b0]|(simp only [bA,bB];rw [c13b0])|skip)
       have H':=Aside0.mk H
       clear H
       go_wp2
       repeat (go_quiet (fail);try go_wp2)
       go_meet
       case rel=>exact ⟨_,H',⟨by have:=Ar.out;first|omega|exact Nat.le_refl _⟩,⟨by (with_reducible repeat (first|apply aA|apply aC|apply ay));exact xS.out⟩,⟨by repeat (first|(with_reducible first|exact HB.out|apply av|apply ak|apply au|refine aD ?_ yj.out)|exact HB.out)⟩⟩
     case rest =>
      clear BN
      obtain ⟨kq,HA,zX,xS,HB⟩:=hcut
      cases kq with
      | zero=>exact absurd HA.out (by simp [aI.j2])
      | succ Cz =>
       have H:=HA.out
       clear HA
       simp only [aI.j2] at H
       by_cases c23 : xX = 5
       ·rw [if_pos c23] at H
        have c23b0 : (xX == 5) = true:=beq_iff_eq.mpr c23
        have c23b1 : (xX != 5) = false:=bne_eq_false_iff_eq.mpr c23
        clear c23
        have H':=Aside0.mk H
        clear H
        have Ef : wc.cell? ⟨xU,0,none⟩ = some (.int .i64 xX):=(ah xS.out 0).trans rfl
        have Eh : wc.cell? ⟨xU,1,none⟩ = some (.bool yg):=(ah xS.out 1).trans rfl
        have Ei : wc.cell? ⟨xU,2,none⟩ = some (.int .i64 yh):=(ah xS.out 2).trans rfl
        have Ej : wc.cell? ⟨xU,3,none⟩ = some (.string xZ):=(ah xS.out 3).trans rfl
        have El : wc.cell? ⟨xU,4,none⟩ = some (.slice yE xW.length yC):=(ah xS.out 4).trans rfl
        have Em : wc.cell? ⟨xU,5,none⟩ = some (.slice yF xV.length yD):=(ah xS.out 5).trans rfl
        have En:=aj xS.out 0
        have Eo:=aj xS.out 1
        have Ep:=aj xS.out 2
        have Er:=aj xS.out 3
        have Es:=aj xS.out 4
        have Et:=aj xS.out 5
        go_wp2
        repeat (go_quiet (fail);try go_wp2)
        go_loopg [5] Cz (fun kq v5 w'=>∃ (yL : Int),v5 = .int .i64 yL ∧ Aside0 (aI.l1 kq yL xX yg yh xZ xW xV = some r) ∧ Aside0 (kq ≤ Cz) ∧ Aside0 (w'.heap[xU]? = some (.cells #[.int .i64 xX,.bool yg,.int .i64 yh,.string xZ,(.slice yE xW.length yC),(.slice yF xV.length yD)] 33 (0,0))) ∧ Aside0 (Below w.heap.size w w'))
        case atStart=>exact ⟨(0),(by first|rfl|(simp;done)|(simp [*];done)),H',⟨Nat.le_refl _⟩,⟨by (with_reducible repeat (first|apply aA|apply aC|apply ay));exact xS.out⟩,⟨by repeat (first|(with_reducible first|exact HB.out|apply av|apply ak|apply au|refine aD ?_ yj.out)|exact HB.out)⟩⟩
        case round =>
         clear H'
         obtain ⟨yL,rfl,HA,Bc,xS,HB⟩:=hrel
         cases gk with
         | zero=>exact absurd HA.out (by simp [aI.l1])
         | succ k3 =>
          have H:=HA.out
          clear HA
          simp only [aI.l1] at H
          by_cases Cu : yL < (xV.length : Int)
          ·rw [if_pos Cu] at H
           have c25b0 : decide (yL < (xV.length : Int)) = true:=decide_eq_true Cu
           clear Cu
           by_cases Eu : 0 ≤ yL
           ·rw [if_pos Eu] at H
            have c26b0 : decide (0 ≤ yL) = true:=decide_eq_true Eu
            clear Eu
            replace H:=Option.bind_eq_some_iff.mp H
            obtain ⟨t212,CB,H⟩:=H
            replace H : (if t212 = 0 then (aI.l1 k3 (wrap64 (yL + 1)) xX yg yh xZ xW xV) else (some t212)) = some r:=H
            have Cv:=Aside0.mk CB
            clear CB
            by_cases c28 : t212 = 0
            ·rw [if_pos c28] at H
             have c28b0 : (t212 == 0) = true:=beq_iff_eq.mpr c28
             have c28b1 : (t212 != 0) = false:=bne_eq_false_iff_eq.mpr c28
             clear c28
             have H':=Aside0.mk H
             clear H
             have Ew : wr.cell? ⟨xU,0,none⟩ = some (.int .i64 xX):=(ah xS.out 0).trans rfl
             have Ey : wr.cell? ⟨xU,1,none⟩ = some (.bool yg):=(ah xS.out 1).trans rfl
             have Ez : wr.cell? ⟨xU,2,none⟩ = some (.int .i64 yh):=(ah xS.out 2).trans rfl
             have EA : wr.cell? ⟨xU,3,none⟩ = some (.string xZ):=(ah xS.out 3).trans rfl
             have EB : wr.cell? ⟨xU,4,none⟩ = some (.slice yE xW.length yC):=(ah xS.out 4).trans rfl
             have EC : wr.cell? ⟨xU,5,none⟩ = some (.slice yF xV.length yD):=(ah xS.out 5).trans rfl
             have ED:=aj xS.out 0
             have EF:=aj xS.out 1
             have EG:=aj xS.out 2
             have EH:=aj xS.out 3
             have EI:=aj xS.out 4
             have EJ:=aj xS.out 5
             have AP : 0 ≤ (yL : Int):=of_decide_eq_true (by first|(with_reducible assumption)|assumption)
             have AQ : yL < (xV.length : Int):=of_decide_eq_true (by first|(with_reducible assumption)|assumption)
             obtain ⟨CF,BS,BU,BZ,Ca,e211,za,ze,zf,zh,zi,zk,zl,zY,zZ,z8,Ac⟩:=fV Aq.out yL AP AQ
             cases e211
             replace za:=(HB.out.cell (World.block_lt_of_cell? w _ za)).trans za
             replace ze:=(HB.out.cell (World.block_lt_of_cell? w _ ze)).trans ze
             replace zf:=(HB.out.cell (World.block_lt_of_cell? w _ zf)).trans zf
             replace zh:=(HB.out.cell (World.block_lt_of_cell? w _ zh)).trans zh
             replace zi:=(HB.out.cell (World.block_lt_of_cell? w _ zi)).trans zi
             replace zk:=(HB.out.cell (World.block_lt_of_cell? w _ zk)).trans zk
             replace zl:=(HB.out.cell (World.block_lt_of_cell? w _ zl)).trans zl
             have Br:=Aside0.mk zZ
             have Bt:=Aside0.mk zY
             clear zZ zY
             have Bu:=Aside0.mk Ac
             have Bv:=Aside0.mk z8
             clear Ac z8
             replace AP:=eq_true AP
             replace AQ:=eq_true AQ
             go_wp2_with (first|(go_at_call 49;(with_reducible refine (bP.calls k3 ((aW xV yL).f0) t212 _ Cv.out).mono ?_);rintro e w' ⟨rfl,⟨nd,rfl⟩⟩;(try first|exact ⟨rfl,_,World.drewN_drewN _ _ _⟩|exact ⟨rfl,_,Eq.trans (World.drewN_drewN _ _ _) (congrArg (World.drewN _) (Nat.add_assoc _ _ _))⟩)))
             repeat (go_quiet (first|(go_at_call 49;(with_reducible refine (bP.calls k3 ((aW xV yL).f0) t212 _ Cv.out).mono ?_);rintro e w' ⟨rfl,⟨nd,rfl⟩⟩;(try first|exact ⟨rfl,_,World.drewN_drewN _ _ _⟩|exact ⟨rfl,_,Eq.trans (World.drewN_drewN _ _ _) (congrArg (World.drewN _) (Nat.add_assoc _ _ _))⟩)));try go_wp2_with (first|(go_at_call 49;(with_reducible refine (bP.calls k3 ((aW xV yL).f0) t212 _ Cv.out).mono ?_);rintro e w' ⟨rfl,⟨nd,rfl⟩⟩;(try first|exact ⟨rfl,_,World.drewN_drewN _ _ _⟩|exact ⟨rfl,_,Eq.trans (World.drewN_drewN _ _ _) (congrArg (World.drewN _) (Nat.add_assoc _ _ _))⟩))))
             go_roundg k3
             case measure=>have:=Ar.out;have:=zX.out;have:=Bc.out;omega
             case rel=>exact ⟨(wrap64 (yL + 1)),(by first|rfl|(simp;done)|(simp [*];done)),H',⟨by have:=Ar.out;have:=zX.out;have:=Bc.out;omega⟩,⟨by (with_reducible repeat (first|apply aA|apply aC|apply ay));exact xS.out⟩,⟨by repeat (first|(with_reducible first|exact HB.out|apply av|apply ak|apply au|refine aD ?_ yj.out)|exact HB.out)⟩⟩
            ·rw [if_neg c28] at H
             have c28b0 : (t212 == 0) = false:=beq_eq_false_iff_ne.mpr c28
             have c28b1 : (t212 != 0) = true:=bne_iff_ne.mpr c28
             obtain rfl:=Option.some.inj H
             have EK : wr.cell? ⟨xU,0,none⟩ = some (.int .i64 xX):=(ah xS.out 0).trans rfl
             have EL : wr.cell? ⟨xU,1,none⟩ = some (.bool yg):=(ah xS.out 1).trans rfl
             have EM : wr.cell? ⟨xU,2,none⟩ = some (.int .i64 yh):=(ah xS.out 2).trans rfl
             have EN : wr.cell? ⟨xU,3,none⟩ = some (.string xZ):=(ah xS.out 3).trans rfl
             have EO : wr.cell? ⟨xU,4,none⟩ = some (.slice yE xW.length yC):=(ah xS.out 4).trans rfl
             have EP : wr.cell? ⟨xU,5,none⟩ = some (.slice yF xV.length yD):=(ah xS.out 5).trans rfl
             have ER:=aj xS.out 0
             have ES:=aj xS.out 1
             have ET:=aj xS.out 2
             have EU:=aj xS.out 3
             have EW:=aj xS.out 4
             have EZ:=aj xS.out 5
             have AP : 0 ≤ (yL : Int):=of_decide_eq_true (by first|(with_reducible assumption)|assumption)
             have AQ : yL < (xV.length : Int):=of_decide_eq_true (by first|(with_reducible assumption)|assumption)
             obtain ⟨CF,BS,BU,BZ,Ca,e211,za,ze,zf,zh,zi,zk,zl,zY,zZ,z8,Ac⟩:=fV Aq.out yL AP AQ
             cases e211
             replace za:=(HB.out.cell (World.block_lt_of_cell? w _ za)).trans za
             replace ze:=(HB.out.cell (World.block_lt_of_cell? w _ ze)).trans ze
             replace zf:=(HB.out.cell (World.block_lt_of_cell? w _ zf)).trans zf
             replace zh:=(HB.out.cell (World.block_lt_of_cell? w _ zh)).trans zh
             replace zi:=(HB.out.cell (World.block_lt_of_cell? w _ zi)).trans zi
             replace zk:=(HB.out.cell (World.block_lt_of_cell? w _ zk)).trans zk
             replace zl:=(HB.out.cell (World.block_lt_of_cell? w _ zl)).trans zl
             have Br:=Aside0.mk zZ
             have Bt:=Aside0.mk zY
             clear zZ zY
             have Bu:=Aside0.mk Ac
             have Bv:=Aside0.mk z8
             clear Ac z8
             replace AP:=eq_true AP
             replace AQ:=eq_true AQ
             go_wp2_with (first|(go_at_call 49;(with_reducible refine (bP.calls k3 ((aW xV yL).f0) t212 _ Cv.out).mono ?_);rintro e w' ⟨rfl,⟨nd,rfl⟩⟩;(try first|exact ⟨rfl,_,World.drewN_drewN _ _ _⟩|exact ⟨rfl,_,Eq.trans (World.drewN_drewN _ _ _) (congrArg (World.drewN _) (Nat.add_assoc _ _ _))⟩)))
             repeat (go_quiet (first|(go_at_call 49;(with_reducible refine (bP.calls k3 ((aW xV yL).f0) t212 _ Cv.out).mono ?_);rintro e w' ⟨rfl,⟨nd,rfl⟩⟩;(try first|exact ⟨rfl,_,World.drewN_drewN _ _ _⟩|exact ⟨rfl,_,Eq.trans (World.drewN_drewN _ _ _) (congrArg (World.drewN _) (Nat.add_assoc _ _ _))⟩)));try go_wp2_with (first|(go_at_call 49;(with_reducible refine (bP.calls k3 ((aW xV yL).f0) t212 _ Cv.out).mono ?_);rintro e w' ⟨rfl,⟨nd,rfl⟩⟩;(try first|exact ⟨rfl,_,World.drewN_drewN _ _ _⟩|exact ⟨rfl,_,Eq.trans (World.drewN_drewN _ _ _) (congrArg (World.drewN _) (Nat.add_assoc _ _ _))⟩))))
             go_ret
             exact ⟨by first|rfl|(simp [bg,bn] <;> rfl)|(simp [*,bg,bn] <;> rfl),by repeat (first|(with_reducible first|exact HB.out|apply av|apply ak|apply au|refine aD ?_ yj.out)|exact HB.out)⟩
           ·rw [if_neg Eu] at H
            exact absurd H (by simp)
          ·rw [if_neg Cu] at H
           have c25b0 : decide (yL < (xV.length : Int)) = false:=decide_eq_false Cu
           clear Cu
           have H':=Aside0.mk H
           clear H
           have E5 : wr.cell? ⟨xU,0,none⟩ = some (.int .i64 xX):=(ah xS.out 0).trans rfl
           have E8 : wr.cell? ⟨xU,1,none⟩ = some (.bool yg):=(ah xS.out 1).trans rfl
           have E9 : wr.cell? ⟨xU,2,none⟩ = some (.int .i64 yh):=(ah xS.out 2).trans rfl
           have Fa : wr.cell? ⟨xU,3,none⟩ = some (.string xZ):=(ah xS.out 3).trans rfl
           have Fb : wr.cell? ⟨xU,4,none⟩ = some (.slice yE xW.length yC):=(ah xS.out 4).trans rfl
           have Fe : wr.cell? ⟨xU,5,none⟩ = some (.slice yF xV.length yD):=(ah xS.out 5).trans rfl
           have Fg:=aj xS.out 0
           have Fh:=aj xS.out 1
           have Fj:=aj xS.out 2
           have Fp:=aj xS.out 3
           have Fq:=aj xS.out 4
           have Fu:=aj xS.out 5
           go_wp2
           repeat (go_quiet (fail);try go_wp2)
           go_loopg [7] k3 (fun kq v7 w'=>∃ (yK : Int),v7 = .int .i64 yK ∧ Aside0 (aI.l2 kq yK xX yg yh xZ xW xV = some r) ∧ Aside0 (kq ≤ k3) ∧ Aside0 (w'.heap[xU]? = some (.cells #[.int .i64 xX,.bool yg,.int .i64 yh,.string xZ,(.slice yE xW.length yC),(.slice yF xV.length yD)] 33 (0,0))) ∧ Aside0 (Below w.heap.size w w'))
           case atStart=>exact ⟨(0),(by first|rfl|(simp;done)|(simp [*];done)),H',⟨Nat.le_refl _⟩,⟨by (with_reducible repeat (first|apply aA|apply aC|apply ay));exact xS.out⟩,⟨by repeat (first|(with_reducible first|exact HB.out|apply av|apply ak|apply au|refine aD ?_ yj.out)|exact HB.out)⟩⟩
           case round =>
            clear H'
            obtain ⟨yK,rfl,HA,Bf,xS,HB⟩:=hrel
            cases gk with
            | zero=>exact absurd HA.out (by simp [aI.l2])
            | succ k4 =>
             have H:=HA.out
             clear HA
             simp only [aI.l2] at H
             by_cases c32 : yK < (xV.length : Int)
             ·rw [if_pos c32] at H
              have c32b0 : decide (yK < (xV.length : Int)) = true:=decide_eq_true c32
              clear c32
              have H':=Aside0.mk H
              clear H
              have Fv : wr.cell? ⟨xU,0,none⟩ = some (.int .i64 xX):=(ah xS.out 0).trans rfl
              have Fw : wr.cell? ⟨xU,1,none⟩ = some (.bool yg):=(ah xS.out 1).trans rfl
              have Fx : wr.cell? ⟨xU,2,none⟩ = some (.int .i64 yh):=(ah xS.out 2).trans rfl
              have Fy : wr.cell? ⟨xU,3,none⟩ = some (.string xZ):=(ah xS.out 3).trans rfl
              have Fz : wr.cell? ⟨xU,4,none⟩ = some (.slice yE xW.length yC):=(ah xS.out 4).trans rfl
              have FB : wr.cell? ⟨xU,5,none⟩ = some (.slice yF xV.length yD):=(ah xS.out 5).trans rfl
              have FC:=aj xS.out 0
              have FD:=aj xS.out 1
              have FE:=aj xS.out 2
              have FH:=aj xS.out 3
              have FI:=aj xS.out 4
              have FJ:=aj xS.out 5
              go_wp2
              repeat (go_quiet (fail);try go_wp2)
              go_loopg [8] k4 (fun kq v8 w'=>∃ (yM : Int),v8 = .int .i64 yM ∧ Aside0 (aI.l3 kq yK yM xX yg yh xZ xW xV = some r) ∧ Aside0 (kq ≤ k4) ∧ Aside0 (w'.heap[xU]? = some (.cells #[.int .i64 xX,.bool yg,.int .i64 yh,.string xZ,(.slice yE xW.length yC),(.slice yF xV.length yD)] 33 (0,0))) ∧ Aside0 (Below w.heap.size w w'))
              case atStart=>exact ⟨(0),(by first|rfl|(simp;done)|(simp [*];done)),H',⟨Nat.le_refl _⟩,⟨by (with_reducible repeat (first|apply aA|apply aC|apply ay));exact xS.out⟩,⟨by repeat (first|(with_reducible first|exact HB.out|apply av|apply ak|apply au|refine aD ?_ yj.out)|exact HB.out)⟩⟩
              case round =>
               clear H'
               obtain ⟨yM,rfl,HA,Bd,xS,HB⟩:=hrel
               cases gk with
               | zero=>exact absurd HA.out (by simp [aI.l3])
               | succ k5 =>
                have H:=HA.out
                clear HA
                simp only [aI.l3] at H
                by_cases c34 : yM < yK
                ·rw [if_pos c34] at H
                 have c34b0 : decide (yM < yK) = true:=decide_eq_true c34
                 clear c34
                 by_cases FL : 0 ≤ yK
                 ·rw [if_pos FL] at H
                  have c35b0 : decide (0 ≤ yK) = true:=decide_eq_true FL
                  clear FL
                  by_cases FM : yK < (xV.length : Int)
                  ·rw [if_pos FM] at H
                   have c36b0 : decide (yK < (xV.length : Int)) = true:=decide_eq_true FM
                   clear FM
                   by_cases c37 : 0 ≤ yM
                   ·rw [if_pos c37] at H
                    have c37b0 : decide (0 ≤ yM) = true:=decide_eq_true c37
                    clear c37
                    by_cases FN : yM < (xV.length : Int)
                    ·rw [if_pos FN] at H
                     have c38b0 : decide (yM < (xV.length : Int)) = true:=decide_eq_true FN
                     clear FN
                     by_cases Cb : ((aW xV yK).f0).toList = ((aW xV yM).f0).toList
                     ·rw [if_pos Cb] at H
                      have c39b0 : (((aW xV yK).f0).toList == ((aW xV yM).f0).toList) = true:=beq_iff_eq.mpr Cb
                      have c39b1 : (((aW xV yK).f0).toList != ((aW xV yM).f0).toList) = false:=bne_eq_false_iff_eq.mpr Cb
                      clear Cb
                      obtain rfl:=Option.some.inj H
                      have FP : wr.cell? ⟨xU,0,none⟩ = some (.int .i64 xX):=(ah xS.out 0).trans rfl
                      have FQ : wr.cell? ⟨xU,1,none⟩ = some (.bool yg):=(ah xS.out 1).trans rfl
                      have FR : wr.cell? ⟨xU,2,none⟩ = some (.int .i64 yh):=(ah xS.out 2).trans rfl
                      have FU : wr.cell? ⟨xU,3,none⟩ = some (.string xZ):=(ah xS.out 3).trans rfl
                      have FV : wr.cell? ⟨xU,4,none⟩ = some (.slice yE xW.length yC):=(ah xS.out 4).trans rfl
                      have FW : wr.cell? ⟨xU,5,none⟩ = some (.slice yF xV.length yD):=(ah xS.out 5).trans rfl
                      have FX:=aj xS.out 0
                      have FY:=aj xS.out 1
                      have FZ:=aj xS.out 2
                      have F3:=aj xS.out 3
                      have F6:=aj xS.out 4
                      have F7:=aj xS.out 5
                      have AU : 0 ≤ (yK : Int):=of_decide_eq_true (by first|(with_reducible assumption)|assumption)
                      have AV : yK < (xV.length : Int):=of_decide_eq_true (by first|(with_reducible assumption)|assumption)
                      obtain ⟨Bn,Cc,Ce,Cg,Ch,e213,zm,zn,zo,zq,zu,zw,zx,Ad,Ae,Af,Ag⟩:=fV Aq.out yK AU AV
                      cases e213
                      replace zm:=(HB.out.cell (World.block_lt_of_cell? w _ zm)).trans zm
                      replace zn:=(HB.out.cell (World.block_lt_of_cell? w _ zn)).trans zn
                      replace zo:=(HB.out.cell (World.block_lt_of_cell? w _ zo)).trans zo
                      replace zq:=(HB.out.cell (World.block_lt_of_cell? w _ zq)).trans zq
                      replace zu:=(HB.out.cell (World.block_lt_of_cell? w _ zu)).trans zu
                      replace zw:=(HB.out.cell (World.block_lt_of_cell? w _ zw)).trans zw
                      replace zx:=(HB.out.cell (World.block_lt_of_cell? w _ zx)).trans zx
                      have Bw:=Aside0.mk Ae
                      have Bz:=Aside0.mk Ad
                      clear Ae Ad
                      have BA:=Aside0.mk Ag
                      have BD:=Aside0.mk Af
                      clear Ag Af
                      replace AU:=eq_true AU
                      replace AV:=eq_true AV
                      have AX : 0 ≤ (yM : Int):=of_decide_eq_true (by first|(with_reducible assumption)|assumption)
                      have AY : yM < (xV.length : Int):=of_decide_eq_true (by first|(with_reducible assumption)|assumption)
                      obtain ⟨Bo,Ci,Cj,Ck,Cm,e214,zy,zA,zB,zC,zD,zF,zG,Ah,Ai,Aj,Ak⟩:=fV Aq.out yM AX AY
                      obtain rfl : Bn = Bo:=(by injection e214)
                      replace zy:=(HB.out.cell (World.block_lt_of_cell? w _ zy)).trans zy
                      replace zA:=(HB.out.cell (World.block_lt_of_cell? w _ zA)).trans zA
                      replace zB:=(HB.out.cell (World.block_lt_of_cell? w _ zB)).trans zB
                      replace zC:=(HB.out.cell (World.block_lt_of_cell? w _ zC)).trans zC
                      replace zD:=(HB.out.cell (World.block_lt_of_cell? w _ zD)).trans zD
                      replace zF:=(HB.out.cell (World.block_lt_of_cell? w _ zF)).trans zF
                      replace zG:=(HB.out.cell (World.block_lt_of_cell? w _ zG)).trans zG
                      have BF:=Aside0.mk Ai
                      have BG:=Aside0.mk Ah
                      clear Ai Ah
                      have BH:=Aside0.mk Ak
                      have BI:=Aside0.mk Aj
                      clear Ak Aj
                      replace AX:=eq_true AX
                      replace AY:=eq_true AY
                      go_wp2
                      repeat (go_quiet (fail);try go_wp2)
                      go_ret
                      exact ⟨by first|rfl|(simp [bg,bn] <;> rfl)|(simp [*,bg,bn] <;> rfl),by repeat (first|(with_reducible first|exact HB.out|apply av|apply ak|apply au|refine aD ?_ yj.out)|exact HB.out)⟩
                     ·rw [if_neg Cb] at H
                      have c39b0 : (((aW xV yK).f0).toList == ((aW xV yM).f0).toList) = false:=beq_eq_false_iff_ne.mpr Cb
                      have c39b1 : (((aW xV yK).f0).toList != ((aW xV yM).f0).toList) = true:=bne_iff_ne.mpr Cb
                      have H':=Aside0.mk H
                      clear H
                      have F8 : wr.cell? ⟨xU,0,none⟩ = some (.int .i64 xX):=(ah xS.out 0).trans rfl
                      have F9 : wr.cell? ⟨xU,1,none⟩ = some (.bool yg):=(ah xS.out 1).trans rfl
                      have Ga : wr.cell? ⟨xU,2,none⟩ = some (.int .i64 yh):=(ah xS.out 2).trans rfl
                      have Gb : wr.cell? ⟨xU,3,none⟩ = some (.string xZ):=(ah xS.out 3).trans rfl
                      have Gc : wr.cell? ⟨xU,4,none⟩ = some (.slice yE xW.length yC):=(ah xS.out 4).trans rfl
                      have Gd : wr.cell? ⟨xU,5,none⟩ = some (.slice yF xV.length yD):=(ah xS.out 5).trans rfl
                      have Gf:=aj xS.out 0
                      have Gg:=aj xS.out 1
                      have Gh:=aj xS.out 2
                      have Gi:=aj xS.out 3
                      have Gj:=aj xS.out 4
                      have Gl:=aj xS.out 5
                      have AU : 0 ≤ (yK : Int):=of_decide_eq_true (by first|(with_reducible assumption)|assumption)
                      have AV : yK < (xV.length : Int):=of_decide_eq_true (by first|(with_reducible assumption)|assumption)
                      obtain ⟨Bn,Cc,Ce,Cg,Ch,e213,zm,zn,zo,zq,zu,zw,zx,Ad,Ae,Af,Ag⟩:=fV Aq.out yK AU AV
                      cases e213
                      replace zm:=(HB.out.cell (World.block_lt_of_cell? w _ zm)).trans zm
                      replace zn:=(HB.out.cell (World.block_lt_of_cell? w _ zn)).trans zn
                      replace zo:=(HB.out.cell (World.block_lt_of_cell? w _ zo)).trans zo
                      replace zq:=(HB.out.cell (World.block_lt_of_cell? w _ zq)).trans zq
                      replace zu:=(HB.out.cell (World.block_lt_of_cell? w _ zu)).trans zu
                      replace zw:=(HB.out.cell (World.block_lt_of_cell? w _ zw)).trans zw
                      replace zx:=(HB.out.cell (World.block_lt_of_cell? w _ zx)).trans zx
                      have Bw:=Aside0.mk Ae
                      have Bz:=Aside0.mk Ad
                      clear Ae Ad
                      have BA:=Aside0.mk Ag
                      have BD:=Aside0.mk Af
                      clear Ag Af
                      replace AU:=eq_true AU
                      replace AV:=eq_true AV
                      have AX : 0 ≤ (yM : Int):=of_decide_eq_true (by first|(with_reducible assumption)|assumption)
                      have AY : yM < (xV.length : Int):=of_decide_eq_true (by first|(with_reducible assumption)|assumption)
                      obtain ⟨Bo,Ci,Cj,Ck,Cm,e214,zy,zA,zB,zC,zD,zF,zG,Ah,Ai,Aj,Ak⟩:=fV Aq.out yM AX AY
                      obtain rfl : Bn = Bo:=(by injection e214)
                      replace zy:=(HB.out.cell (World.block_lt_of_cell? w _ zy)).trans zy
                      replace zA:=(HB.out.cell (World.block_lt_of_cell? w _ zA)).trans zA
                      replace zB:=(HB.out.cell (World.block_lt_of_cell? w _ zB)).trans zB
                      replace zC:=(HB.out.cell (World.block_lt_of_cell? w _ zC)).trans zC
                      replace zD:=(HB.out.cell (World.block_lt_of_cell? w _ zD)).trans zD
                      replace zF:=(HB.out.cell (World.block_lt_of_cell? w _ zF)).trans zF
                      replace zG:=(HB.out.cell (World.block_lt_of_cell? w _ zG)).trans zG
                      have BF:=Aside0.mk Ai
                      have BG:=Aside0.mk Ah
                      clear Ai Ah
                      have BH:=Aside0.mk Ak
                      have BI:=Aside0.mk Aj
                      clear Ak Aj
                      replace AX:=eq_true AX
                      replace AY:=eq_true AY
                      go_wp2
                      repeat (go_quiet (fail);try go_wp2)
                      go_roundg k5
                      case measure=>have:=Ar.out;have:=zX.out;have:=Bc.out;have:=Bf.out;have:=Bd.out;omega
                      case rel=>exact ⟨(wrap64 (yM + 1)),(by first|rfl|(simp;done)|(simp [*];done)),H',⟨by have:=Ar.out;have:=zX.out;have:=Bc.out;have:=Bf.out;have:=Bd.out;omega⟩,⟨by (with_reducible repeat (first|apply aA|apply aC|apply ay));exact xS.out⟩,⟨by repeat (first|(with_reducible first|exact HB.out|apply av|apply ak|apply au|refine aD ?_ yj.out)|exact HB.out)⟩⟩
                    ·rw [if_neg FN] at H
                     exact absurd H (by simp)
                   ·rw [if_neg c37] at H
                    exact absurd H (by simp)
                  ·rw [if_neg FM] at H
                   exact absurd H (by simp)
                 ·rw [if_neg FL] at H
                  exact absurd H (by simp)
                ·rw [if_neg c34] at H
                 have c34b0 : decide (yM < yK) = false:=decide_eq_false c34
                 clear c34
                 have H':=Aside0.mk H
                 clear H
                 go_wp2
                 repeat (go_quiet (fail);try go_wp2)
                 go_roundg k5
                 case measure=>have:=Ar.out;have:=zX.out;have:=Bc.out;have:=Bf.out;have:=Bd.out;omega
                 case rel=>exact ⟨(wrap64 (yK + 1)),(by first|rfl|(simp;done)|(simp [*];done)),H',⟨by have:=Ar.out;have:=zX.out;have:=Bc.out;have:=Bf.out;have:=Bd.out;omega⟩,⟨by (with_reducible repeat (first|apply aA|apply aC|apply ay));exact xS.out⟩,⟨by repeat (first|(with_reducible first|exact HB.out|apply av|apply ak|apply au|refine aD ?_ yj.out)|exact HB.out)⟩⟩
             ·rw [if_neg c32] at H
              have c32b0 : decide (yK < (xV.length : Int)) = false:=decide_eq_false c32
              clear c32
              have H':=Aside0.mk H
              clear H
              have Gm : wr.cell? ⟨xU,0,none⟩ = some (.int .i64 xX):=(ah xS.out 0).trans rfl
              have Gn : wr.cell? ⟨xU,1,none⟩ = some (.bool yg):=(ah xS.out 1).trans rfl
              have Gp : wr.cell? ⟨xU,2,none⟩ = some (.int .i64 yh):=(ah xS.out 2).trans rfl
              have Gq : wr.cell? ⟨xU,3,none⟩ = some (.string xZ):=(ah xS.out 3).trans rfl
              have Gr : wr.cell? ⟨xU,4,none⟩ = some (.slice yE xW.length yC):=(ah xS.out 4).trans rfl
              have Gs : wr.cell? ⟨xU,5,none⟩ = some (.slice yF xV.length yD):=(ah xS.out 5).trans rfl
              have Gt:=aj xS.out 0
              have Gu:=aj xS.out 1
              have Gv:=aj xS.out 2
              have Gw:=aj xS.out 3
              have Gx:=aj xS.out 4
              have Gy:=aj xS.out 5
              go_wp2
              repeat (go_quiet (fail);try go_wp2)
              go_loopg [9] k4 (fun kq v9 w'=>∃ (yw : Int),v9 = .int .i64 yw ∧ Aside0 (aI.l4 kq yw xX yg yh xZ xW xV = some r) ∧ Aside0 (kq ≤ k4) ∧ Aside0 (w'.heap[xU]? = some (.cells #[.int .i64 xX,.bool yg,.int .i64 yh,.string xZ,(.slice yE xW.length yC),(.slice yF xV.length yD)] 33 (0,0))) ∧ Aside0 (Below w.heap.size w w'))
              case atStart=>exact ⟨(0),(by first|rfl|(simp;done)|(simp [*];done)),H',⟨Nat.le_refl _⟩,⟨by (with_reducible repeat (first|apply aA|apply aC|apply ay));exact xS.out⟩,⟨by repeat (first|(with_reducible first|exact HB.out|apply av|apply ak|apply au|refine aD ?_ yj.out)|exact HB.out)⟩⟩
              case round =>
               clear H'
               obtain ⟨yw,rfl,HA,Bd,xS,HB⟩:=hrel
               cases gk with
               | zero=>exact absurd HA.out (by simp [aI.l4])
               | succ k5 =>
                have H:=HA.out
                clear HA
                simp only [aI.l4] at H
                by_cases Cw : yw < (xV.length : Int)
                ·rw [if_pos Cw] at H
                 have c43b0 : decide (yw < (xV.length : Int)) = true:=decide_eq_true Cw
                 clear Cw
                 by_cases Gz : 0 ≤ yw
                 ·rw [if_pos Gz] at H
                  have c44b0 : decide (0 ≤ yw) = true:=decide_eq_true Gz
                  clear Gz
                  replace H:=Option.bind_eq_some_iff.mp H
                  obtain ⟨zS,CG,H⟩:=H
                  replace H : (if zS = 0 then (aI.l4 k5 (wrap64 (yw + 1)) xX yg yh xZ xW xV) else (some zS)) = some r:=H
                  have Cx:=Aside0.mk CG
                  clear CG
                  by_cases c46 : zS = 0
                  ·rw [if_pos c46] at H
                   have c46b0 : (zS == 0) = true:=beq_iff_eq.mpr c46
                   have c46b1 : (zS != 0) = false:=bne_eq_false_iff_eq.mpr c46
                   clear c46
                   have H':=Aside0.mk H
                   clear H
                   have GA : wr.cell? ⟨xU,0,none⟩ = some (.int .i64 xX):=(ah xS.out 0).trans rfl
                   have GD : wr.cell? ⟨xU,1,none⟩ = some (.bool yg):=(ah xS.out 1).trans rfl
                   have GH : wr.cell? ⟨xU,2,none⟩ = some (.int .i64 yh):=(ah xS.out 2).trans rfl
                   have GI : wr.cell? ⟨xU,3,none⟩ = some (.string xZ):=(ah xS.out 3).trans rfl
                   have GJ : wr.cell? ⟨xU,4,none⟩ = some (.slice yE xW.length yC):=(ah xS.out 4).trans rfl
                   have GK : wr.cell? ⟨xU,5,none⟩ = some (.slice yF xV.length yD):=(ah xS.out 5).trans rfl
                   have GL:=aj xS.out 0
                   have GN:=aj xS.out 1
                   have GQ:=aj xS.out 2
                   have GR:=aj xS.out 3
                   have GU:=aj xS.out 4
                   have GV:=aj xS.out 5
                   have AZ : 0 ≤ (yw : Int):=of_decide_eq_true (by first|(with_reducible assumption)|assumption)
                   have Ba : yw < (xV.length : Int):=of_decide_eq_true (by first|(with_reducible assumption)|assumption)
                   obtain ⟨Av,Cn,Co,Cq,Cr,e215,zH,zI,zJ,zK,zL,zM,zN,Al,Am,Ao,Ap⟩:=fV Aq.out yw AZ Ba
                   cases e215
                   replace zH:=(HB.out.cell (World.block_lt_of_cell? w _ zH)).trans zH
                   replace zI:=(HB.out.cell (World.block_lt_of_cell? w _ zI)).trans zI
                   replace zJ:=(HB.out.cell (World.block_lt_of_cell? w _ zJ)).trans zJ
                   replace zK:=(HB.out.cell (World.block_lt_of_cell? w _ zK)).trans zK
                   replace zL:=(HB.out.cell (World.block_lt_of_cell? w _ zL)).trans zL
                   replace zM:=(HB.out.cell (World.block_lt_of_cell? w _ zM)).trans zM
                   replace zN:=(HB.out.cell (World.block_lt_of_cell? w _ zN)).trans zN
                   have zO:=Aside0.mk Am
                   have zP:=Aside0.mk Al
                   clear Am Al
                   have zQ:=Aside0.mk Ap
                   have zR:=Aside0.mk Ao
                   clear Ap Ao
                   replace AZ:=eq_true AZ
                   replace Ba:=eq_true Ba
                   go_wp2_with (first|(go_at_call 35;(with_reducible refine (ih k5 (by have:=Ar.out;have:=zX.out;have:=Bc.out;have:=Bf.out;have:=Bd.out;omega) ((aW xV yw).f1.f0) ((aW xV yw).f1.f1) ((aW xV yw).f1.f2) ((aW xV yw).f1.f3) _ _ ((aW xV yw).f1.f4) _ _ ((aW xV yw).f1.f5) zS _ ?yG ?yH ?yI ?yJ Cx.out).mono ?_);(case yG=>repeat (first|exact (Kd.bO zO.out HB.out)|(with_reducible refine Kd.bJ ?_ _)|(with_reducible refine Kd.bL ?_ _)|(with_reducible refine Kd.bS ?_)));(case yH=>exact zP.out);(case yI=>repeat (first|exact (Kd.bO zQ.out HB.out)|(with_reducible refine Kd.bJ ?_ _)|(with_reducible refine Kd.bL ?_ _)|(with_reducible refine Kd.bS ?_)));(case yJ=>exact zR.out);rintro e Jd ⟨rfl,hb⟩;have yN:=Aside0.mk (aU (g:=xU) (o:=.cells #[.int .i64 xX,.bool yg,.int .i64 yh,.string xZ,.slice yE xW.length yC,.slice (some Av) xV.length yD] 33 (0,0)) (bk_ xS.out) hb);have yO:=Aside0.mk (aT (by repeat (first|(with_reducible first|exact HB.out|apply av|apply ak|apply au|refine aD ?_ yj.out)|exact HB.out)) hb);clear xS;clear HB;have xS:=yN;have HB:=yO;clear yN yO;(try clear hb);(try clear hb2);(try clear hk);(try clear hi)))
                   repeat (go_quiet (first|(go_at_call 35;(with_reducible refine (ih k5 (by have:=Ar.out;have:=zX.out;have:=Bc.out;have:=Bf.out;have:=Bd.out;omega) ((aW xV yw).f1.f0) ((aW xV yw).f1.f1) ((aW xV yw).f1.f2) ((aW xV yw).f1.f3) _ _ ((aW xV yw).f1.f4) _ _ ((aW xV yw).f1.f5) zS _ ?yG ?yH ?yI ?yJ Cx.out).mono ?_);(case yG=>repeat (first|exact (Kd.bO zO.out HB.out)|(with_reducible refine Kd.bJ ?_ _)|(with_reducible refine Kd.bL ?_ _)|(with_reducible refine Kd.bS ?_)));(case yH=>exact zP.out);(case yI=>repeat (first|exact (Kd.bO zQ.out HB.out)|(with_reducible refine Kd.bJ ?_ _)|(with_reducible refine Kd.bL ?_ _)|(with_reducible refine Kd.bS ?_)));(case yJ=>exact zR.out);rintro e Jd ⟨rfl,hb⟩;have yN:=Aside0.mk (aU (g:=xU) (o:=.cells #[.int .i64 xX,.bool yg,.int .i64 yh,.string xZ,.slice yE xW.length yC,.slice (some Av) xV.length yD] 33 (0,0)) (bk_ xS.out) hb);have yO:=Aside0.mk (aT (by repeat (first|(with_reducible first|exact HB.out|apply av|apply ak|apply au|refine aD ?_ yj.out)|exact HB.out)) hb);clear xS;clear HB;have xS:=yN;have HB:=yO;clear yN yO;(try clear hb);(try clear hb2);(try clear hk);(try clear hi)));try go_wp2_with (first|(go_at_call 35;(with_reducible refine (ih k5 (by have:=Ar.out;have:=zX.out;have:=Bc.out;have:=Bf.out;have:=Bd.out;omega) ((aW xV yw).f1.f0) ((aW xV yw).f1.f1) ((aW xV yw).f1.f2) ((aW xV yw).f1.f3) _ _ ((aW xV yw).f1.f4) _ _ ((aW xV yw).f1.f5) zS _ ?yG ?yH ?yI ?yJ Cx.out).mono ?_);(case yG=>repeat (first|exact (Kd.bO zO.out HB.out)|(with_reducible refine Kd.bJ ?_ _)|(with_reducible refine Kd.bL ?_ _)|(with_reducible refine Kd.bS ?_)));(case yH=>exact zP.out);(case yI=>repeat (first|exact (Kd.bO zQ.out HB.out)|(with_reducible refine Kd.bJ ?_ _)|(with_reducible refine Kd.bL ?_ _)|(with_reducible refine Kd.bS ?_)));(case yJ=>exact zR.out);rintro e Jd ⟨rfl,hb⟩;have yN:=Aside0.mk (aU (g:=xU) (o:=.cells #[.int .i64 xX,.bool yg,.int .i64 yh,.string xZ,.slice yE xW.length yC,.slice (some Av) xV.length yD] 33 (0,0)) (bk_ xS.out) hb);have yO:=Aside0.mk (aT (by repeat (first|(with_reducible first|exact HB.out|apply av|apply ak|apply au|refine aD ?_ yj.out)|exact HB.out)) hb);clear xS;clear HB;have xS:=yN;have HB:=yO;clear yN yO;(try clear hb);(try clear hb2);(try clear hk);(try clear hi))))
                   go_roundg k5
                   case measure=>have:=Ar.out;have:=zX.out;have:=Bc.out;have:=Bf.out;have:=Bd.out;omega
                   case rel=>exact ⟨(wrap64 (yw + 1)),(by first|rfl|(simp;done)|(simp [*];done)),H',⟨by have:=Ar.out;have:=zX.out;have:=Bc.out;have:=Bf.out;have:=Bd.out;omega⟩,⟨by (with_reducible repeat (first|apply aA|apply aC|apply ay));exact xS.out⟩,⟨by repeat (first|(with_reducible first|exact HB.out|apply av|apply ak|apply au|refine aD ?_ yj.out)|exact HB.out)⟩⟩
                  ·rw [if_neg c46] at H
                   have c46b0 : (zS == 0) = false:=beq_eq_false_iff_ne.mpr c46
                   have c46b1 : (zS != 0) = true:=bne_iff_ne.mpr c46
                   obtain rfl:=Option.some.inj H
                   have GY : wr.cell? ⟨xU,0,none⟩ = some (.int .i64 xX):=(ah xS.out 0).trans rfl
                   have GZ : wr.cell? ⟨xU,1,none⟩ = some (.bool yg):=(ah xS.out 1).trans rfl
                   have G5 : wr.cell? ⟨xU,2,none⟩ = some (.int .i64 yh):=(ah xS.out 2).trans rfl
                   have G6 : wr.cell? ⟨xU,3,none⟩ = some (.string xZ):=(ah xS.out 3).trans rfl
                   have G7 : wr.cell? ⟨xU,4,none⟩ = some (.slice yE xW.length yC):=(ah xS.out 4).trans rfl
                   have G8 : wr.cell? ⟨xU,5,none⟩ = some (.slice yF xV.length yD):=(ah xS.out 5).trans rfl
                   have G9:=aj xS.out 0
                   have He:=aj xS.out 1
                   have Hf:=aj xS.out 2
                   have Hg:=aj xS.out 3
                   have Hl:=aj xS.out 4
                   have Ho:=aj xS.out 5
                   have AZ : 0 ≤ (yw : Int):=of_decide_eq_true (by first|(with_reducible assumption)|assumption)
                   have Ba : yw < (xV.length : Int):=of_decide_eq_true (by first|(with_reducible assumption)|assumption)
                   obtain ⟨Av,Cn,Co,Cq,Cr,e215,zH,zI,zJ,zK,zL,zM,zN,Al,Am,Ao,Ap⟩:=fV Aq.out yw AZ Ba
                   cases e215
                   replace zH:=(HB.out.cell (World.block_lt_of_cell? w _ zH)).trans zH
                   replace zI:=(HB.out.cell (World.block_lt_of_cell? w _ zI)).trans zI
                   replace zJ:=(HB.out.cell (World.block_lt_of_cell? w _ zJ)).trans zJ
                   replace zK:=(HB.out.cell (World.block_lt_of_cell? w _ zK)).trans zK
                   replace zL:=(HB.out.cell (World.block_lt_of_cell? w _ zL)).trans zL
                   replace zM:=(HB.out.cell (World.block_lt_of_cell? w _ zM)).trans zM
                   replace zN:=(HB.out.cell (World.block_lt_of_cell? w _ zN)).trans zN
                   have zO:=Aside0.mk Am
                   have zP:=Aside0.mk Al
                   clear Am Al
                   have zQ:=Aside0.mk Ap
                   have zR:=Aside0.mk Ao
                   clear Ap Ao
                   replace AZ:=eq_true AZ
                   replace Ba:=eq_true Ba
                   go_wp2_with (first|(go_at_call 35;(with_reducible refine (ih k5 (by have:=Ar.out;have:=zX.out;have:=Bc.out;have:=Bf.out;have:=Bd.out;omega) ((aW xV yw).f1.f0) ((aW xV yw).f1.f1) ((aW xV yw).f1.f2) ((aW xV yw).f1.f3) _ _ ((aW xV yw).f1.f4) _ _ ((aW xV yw).f1.f5) zS _ ?yG ?yH ?yI ?yJ Cx.out).mono ?_);(case yG=>repeat (first|exact (Kd.bO zO.out HB.out)|(with_reducible refine Kd.bJ ?_ _)|(with_reducible refine Kd.bL ?_ _)|(with_reducible refine Kd.bS ?_)));(case yH=>exact zP.out);(case yI=>repeat (first|exact (Kd.bO zQ.out HB.out)|(with_reducible refine Kd.bJ ?_ _)|(with_reducible refine Kd.bL ?_ _)|(with_reducible refine Kd.bS ?_)));(case yJ=>exact zR.out);rintro e Je ⟨rfl,hb⟩;have yN:=Aside0.mk (aU (g:=xU) (o:=.cells #[.int .i64 xX,.bool yg,.int .i64 yh,.string xZ,.slice yE xW.length yC,.slice (some Av) xV.length yD] 33 (0,0)) (bk_ xS.out) hb);have yO:=Aside0.mk (aT (by repeat (first|(with_reducible first|exact HB.out|apply av|apply ak|apply au|refine aD ?_ yj.out)|exact HB.out)) hb);clear xS;clear HB;have xS:=yN;have HB:=yO;clear yN yO;(try clear hb);(try clear hb2);(try clear hk);(try clear hi)))
                   repeat (go_quiet (first|(go_at_call 35;(with_reducible refine (ih k5 (by have:=Ar.out;have:=zX.out;have:=Bc.out;have:=Bf.out;have:=Bd.out;omega) ((aW xV yw).f1.f0) ((aW xV yw).f1.f1) ((aW xV yw).f1.f2) ((aW xV yw).f1.f3) _ _ ((aW xV yw).f1.f4) _ _ ((aW xV yw).f1.f5) zS _ ?yG ?yH ?yI ?yJ Cx.out).mono ?_);(case yG=>repeat (first|exact (Kd.bO zO.out HB.out)|(with_reducible refine Kd.bJ ?_ _)|(with_reducible refine Kd.bL ?_ _)|(with_reducible refine Kd.bS ?_)));(case yH=>exact zP.out);(case yI=>repeat (first|exact (Kd.bO zQ.out HB.out)|(with_reducible refine Kd.bJ ?_ _)|(with_reducible refine Kd.bL ?_ _)|(with_reducible refine Kd.bS ?_)));(case yJ=>exact zR.out);rintro e Je ⟨rfl,hb⟩;have yN:=Aside0.mk (aU (g:=xU) (o:=.cells #[.int .i64 xX,.bool yg,.int .i64 yh,.string xZ,.slice yE xW.length yC,.slice (some Av) xV.length yD] 33 (0,0)) (bk_ xS.out) hb);have yO:=Aside0.mk (aT (by repeat (first|(with_reducible first|exact HB.out|apply av|apply ak|apply au|refine aD ?_ yj.out)|exact HB.out)) hb);clear xS;clear HB;have xS:=yN;have HB:=yO;clear yN yO;(try clear hb);(try clear hb2);(try clear hk);(try clear hi)));try go_wp2_with (first|(go_at_call 35;(with_reducible refine (ih k5 (by have:=Ar.out;have:=zX.out;have:=Bc.out;have:=Bf.out;have:=Bd.out;omega) ((aW xV yw).f1.f0) ((aW xV yw).f1.f1) ((aW xV yw).f1.f2) ((aW xV yw).f1.f3) _ _ ((aW xV yw).f1.f4) _ _ ((aW xV yw).f1.f5) zS _ ?yG ?yH ?yI ?yJ Cx.out).mono ?_);(case yG=>repeat (first|exact (Kd.bO zO.out HB.out)|(with_reducible refine Kd.bJ ?_ _)|(with_reducible refine Kd.bL ?_ _)|(with_reducible refine Kd.bS ?_)));(case yH=>exact zP.out);(case yI=>repeat (first|exact (Kd.bO zQ.out HB.out)|(with_reducible refine Kd.bJ ?_ _)|(with_reducible refine Kd.bL ?_ _)|(with_reducible refine Kd.bS ?_)));(case yJ=>exact zR.out);rintro e Je ⟨rfl,hb⟩;have yN:=Aside0.mk (aU (g:=xU) (o:=.cells #[.int .i64 xX,.bool yg,.int .i64 yh,.string xZ,.slice yE xW.length yC,.slice (some Av) xV.length yD] 33 (0,0)) (bk_ xS.out) hb);have yO:=Aside0.mk (aT (by repeat (first|(with_reducible first|exact HB.out|apply av|apply ak|apply au|refine aD ?_ yj.out)|exact HB.out)) hb);clear xS;clear HB;have xS:=yN;have HB:=yO;clear yN yO;(try clear hb);(try clear hb2);(try clear hk);(try clear hi))))
                   go_ret
                   exact ⟨by first|rfl|(simp [bg,bn] <;> rfl)|(simp [*,bg,bn] <;> rfl),by repeat (first|(with_reducible first|exact HB.out|apply av|apply ak|apply au|refine aD ?_ yj.out)|exact HB.out)⟩
                 ·rw [if_neg Gz] at H
                  exact absurd H (by simp)
                ·rw [if_neg Cw] at H
                 have c43b0 : decide (yw < (xV.length : Int)) = false:=decide_eq_false Cw
                 clear Cw
                 obtain rfl:=Option.some.inj H
                 have Hq : wr.cell? ⟨xU,0,none⟩ = some (.int .i64 xX):=(ah xS.out 0).trans rfl
                 have Hr : wr.cell? ⟨xU,1,none⟩ = some (.bool yg):=(ah xS.out 1).trans rfl
                 have Ht : wr.cell? ⟨xU,2,none⟩ = some (.int .i64 yh):=(ah xS.out 2).trans rfl
                 have Hu : wr.cell? ⟨xU,3,none⟩ = some (.string xZ):=(ah xS.out 3).trans rfl
                 have Hw : wr.cell? ⟨xU,4,none⟩ = some (.slice yE xW.length yC):=(ah xS.out 4).trans rfl
                 have Hy : wr.cell? ⟨xU,5,none⟩ = some (.slice yF xV.length yD):=(ah xS.out 5).trans rfl
                 have Hz:=aj xS.out 0
                 have H6:=aj xS.out 1
                 have H7:=aj xS.out 2
                 have H8:=aj xS.out 3
                 have H9:=aj xS.out 4
                 have Ia:=aj xS.out 5
                 go_wp2
                 repeat (go_quiet (fail);try go_wp2)
                 go_ret
                 exact ⟨by first|rfl|(simp [bg,bn] <;> rfl)|(simp [*,bg,bn] <;> rfl),by repeat (first|(with_reducible first|exact HB.out|apply av|apply ak|apply au|refine aD ?_ yj.out)|exact HB.out)⟩
       ·rw [if_neg c23] at H
        have c23b0 : (xX == 5) = false:=beq_eq_false_iff_ne.mpr c23
        have c23b1 : (xX != 5) = true:=bne_iff_ne.mpr c23
        obtain rfl:=Option.some.inj H
        have Ib : wc.cell? ⟨xU,0,none⟩ = some (.int .i64 xX):=(ah xS.out 0).trans rfl
        have Ic : wc.cell? ⟨xU,1,none⟩ = some (.bool yg):=(ah xS.out 1).trans rfl
        have Ie : wc.cell? ⟨xU,2,none⟩ = some (.int .i64 yh):=(ah xS.out 2).trans rfl
        have Ig : wc.cell? ⟨xU,3,none⟩ = some (.string xZ):=(ah xS.out 3).trans rfl
        have Ih : wc.cell? ⟨xU,4,none⟩ = some (.slice yE xW.length yC):=(ah xS.out 4).trans rfl
        have Ii : wc.cell? ⟨xU,5,none⟩ = some (.slice yF xV.length yD):=(ah xS.out 5).trans rfl
        have Ij:=aj xS.out 0
        have Ik:=aj xS.out 1
        have Il:=aj xS.out 2
        have Im:=aj xS.out 3
        have Io:=aj xS.out 4
        have Ip:=aj xS.out 5
        go_wp2
        repeat (go_quiet (fail);try go_wp2)
        go_ret
        exact ⟨by first|rfl|(simp [bg,bn] <;> rfl)|(simp [*,bg,bn] <;> rfl),by repeat (first|(with_reducible first|exact HB.out|apply av|apply ak|apply au|refine aD ?_ yj.out)|exact HB.out)⟩
end Go.Proofs.YtnkkbiabloodaaaDoor.GVa
