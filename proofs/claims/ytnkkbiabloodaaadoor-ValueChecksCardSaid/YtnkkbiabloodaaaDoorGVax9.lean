/- Written by this session's own program (wip/gen.py) out of the translation: plain Lean functions of the Go functions, and proofs that the calls come to their answers. No conditions beside those in the statements. -/
import Derived.Test.YtnkkbiabloodaaaDoorGVax0
namespace Go.Proofs.YtnkkbiabloodaaaDoor.GVa
open Go.RowKit Go.Proofs.YtnkkbiabloodaaaDoorW.PrintWords Go.Proofs.YtnkkbiabloodaaaDoorW.PrintLast Go.Proofs.YtnkkbiabloodaaaDoorW.PrintMore
attribute [local go_sem] eG eH fK fM dZ d9 eO eP
set_option linter.unusedVariables false
set_option linter.unusedSimpArgs false
mutual
def aV.l0 : Nat → Int → Int → Int → Bool → Int → ByteArray → List (S33) → List (S50) → Option (Int)
 | 0,_,_,_,_,_,_,_,_=>none
 | k + 1,x3,x4,yQ,yR,yS,yT,yj,yt=>if x4 < (yj.length : Int) then (if 0 ≤ x4 then ((aV.f k ((bD yj x4).f0) ((bD yj x4).f1) ((bD yj x4).f2) ((bD yj x4).f3) ((bD yj x4).f4) ((bD yj x4).f5)).bind fun t203=>(if t203 > x3 then (aV.l0 k t203 (wrap64 (x4 + 1)) yQ yR yS yT yj yt) else (aV.l0 k x3 (wrap64 (x4 + 1)) yQ yR yS yT yj yt))) else (none)) else (some (wrap64 (x3 + 1)))
def aV.l1 : Nat → Int → Int → Int → Bool → Int → ByteArray → List (S33) → List (S50) → Option (Int)
 | 0,_,_,_,_,_,_,_,_=>none
 | k + 1,x3,x6,yQ,yR,yS,yT,yj,yt=>if x6 < (yt.length : Int) then (if 0 ≤ x6 then ((aV.f k ((aW yt x6).f1.f0) ((aW yt x6).f1.f1) ((aW yt x6).f1.f2) ((aW yt x6).f1.f3) ((aW yt x6).f1.f4) ((aW yt x6).f1.f5)).bind fun zh=>(if zh > x3 then (aV.l1 k zh (wrap64 (x6 + 1)) yQ yR yS yT yj yt) else (aV.l1 k x3 (wrap64 (x6 + 1)) yQ yR yS yT yj yt))) else (none)) else (some (wrap64 (x3 + 1)))
def aV.f : Nat → Int → Bool → Int → ByteArray → List (S33) → List (S50) → Option (Int)
 | 0,_,_,_,_,_,_=>none
 | k + 1,xX,yc,yg,yh,xV,xW=>if xX = 4 then (aV.l0 k 0 0 xX yc yg yh xV xW) else (if xX = 5 then (aV.l1 k 0 0 xX yc yg yh xV xW) else (some 0))
end
theorem aV.eu : ∀ k,(∀ y0 y1 y2 y3 y4 y5,LeO (aV.f k y0 y1 y2 y3 y4 y5) (aV.f (k + 1) y0 y1 y2 y3 y4 y5)) ∧ (∀ y0 y1 y2 y3 y4 y5 y6 y7,LeO (aV.l0 k y0 y1 y2 y3 y4 y5 y6 y7) (aV.l0 (k + 1) y0 y1 y2 y3 y4 y5 y6 y7)) ∧ (∀ y0 y1 y2 y3 y4 y5 y6 y7,LeO (aV.l1 k y0 y1 y2 y3 y4 y5 y6 y7) (aV.l1 (k + 1) y0 y1 y2 y3 y4 y5 y6 y7))
 | 0=>⟨fun _ _ _ _ _ _ r h=>by simp [aV.f] at h,fun _ _ _ _ _ _ _ _ r h=>by simp [aV.l0] at h,fun _ _ _ _ _ _ _ _ r h=>by simp [aV.l1] at h⟩
 | k + 1=>by
  obtain ⟨Bu,ih1,ih2⟩:=aV.eu k
  refine ⟨?_,?_,?_⟩
  ·intro y0 y1 y2 y3 y4 y5
   unfold aV.f
   repeat' first
   | (with_reducible exact Bu _ _ _ _ _ _)
   | (with_reducible exact ih1 _ _ _ _ _ _ _ _)
   | (with_reducible exact ih2 _ _ _ _ _ _ _ _)
   | (with_reducible exact LeO.refl _)
   | (with_reducible exact LeO.none _)
   | (with_reducible refine LeO.ite ?_ ?_)
   | (with_reducible refine LeO.bind ?_ (fun _=>?_))
   | exact Bu _ _ _ _ _ _
   | exact ih1 _ _ _ _ _ _ _ _
   | exact ih2 _ _ _ _ _ _ _ _
   | exact LeO.none _
   | refine LeO.ite ?_ ?_
   | refine LeO.bind ?_ (fun _=>?_)
  ·intro y0 y1 y2 y3 y4 y5 y6 y7
   unfold aV.l0
   repeat' first
   | (with_reducible exact Bu _ _ _ _ _ _)
   | (with_reducible exact ih1 _ _ _ _ _ _ _ _)
   | (with_reducible exact ih2 _ _ _ _ _ _ _ _)
   | (with_reducible exact LeO.refl _)
   | (with_reducible exact LeO.none _)
   | (with_reducible refine LeO.ite ?_ ?_)
   | (with_reducible refine LeO.bind ?_ (fun _=>?_))
   | exact Bu _ _ _ _ _ _
   | exact ih1 _ _ _ _ _ _ _ _
   | exact ih2 _ _ _ _ _ _ _ _
   | exact LeO.none _
   | refine LeO.ite ?_ ?_
   | refine LeO.bind ?_ (fun _=>?_)
  ·intro y0 y1 y2 y3 y4 y5 y6 y7
   unfold aV.l1
   repeat' first
   | (with_reducible exact Bu _ _ _ _ _ _)
   | (with_reducible exact ih1 _ _ _ _ _ _ _ _)
   | (with_reducible exact ih2 _ _ _ _ _ _ _ _)
   | (with_reducible exact LeO.refl _)
   | (with_reducible exact LeO.none _)
   | (with_reducible refine LeO.ite ?_ ?_)
   | (with_reducible refine LeO.bind ?_ (fun _=>?_))
   | exact Bu _ _ _ _ _ _
   | exact ih1 _ _ _ _ _ _ _ _
   | exact ih2 _ _ _ _ _ _ _ _
   | exact LeO.none _
   | refine LeO.ite ?_ ?_
   | refine LeO.bind ?_ (fun _=>?_)
theorem aV.mono : ∀ a0 a1 a2 a3 a4 a5 k,LeO (aV.f k a0 a1 a2 a3 a4 a5) (aV.f (k + 1) a0 a1 a2 a3 a4 a5):=by
 intro a0 a1 a2 a3 a4 a5 k
 obtain ⟨Bu,ih1,ih2⟩:=aV.eu k
 exact Bu a0 a1 a2 a3 a4 a5
set_option maxHeartbeats 8000000 in
set_option maxRecDepth 100000 in
theorem aV.calls (k : Nat) : ∀ (xX : Int) (yc : Bool) (yg : Int) (yh : ByteArray) (yG : Option Addr) (yE : Nat) (xV : List (S33)) (yH : Option Addr) (yF : Nat) (xW : List (S50)) (r : Int) (w : World) (zR : Kd.C k33 w yG xV.length xV) (zS : xV.length ≤ yE) (zT : Kd.C k50 w yH xW.length xW) (zU : xW.length ≤ yF) (h : aV.f k xX yc yg yh xV xW = some r),
  Calls Tryd.prog 23 #[.agg #[.int .i64 xX,.bool yc,.int .i64 yg,.string yh,.slice yG xV.length yE,.slice yH xW.length yF]] w fun e w'=>e = .returned (.int .i64 r) ∧ Below w.heap.size w w':=by
 induction k using Nat.strongRecOn with
 | _ k ih =>
 intro xX yc yg yh yG yE xV yH yF xW r w zR zS zT zU h
 cases k with
 | zero=>exact absurd h (by simp [aV.f])
 | succ k =>
 simp only [aV.f] at h
 have Dt:=Tryd.underlying33
 have Bv:=Aside0.mk zR
 have Dn:=Aside0.mk zS
 clear zR zS
 have Bw:=Aside0.mk zT
 have Dp:=Aside0.mk zU
 clear zT zU
 have HB:=Aside0.mk (Below.refl w.heap.size w)
 have H : (if xX = 4 then (aV.l0 k 0 0 xX yc yg yh xV xW) else (if xX = 5 then (aV.l1 k 0 0 xX yc yg yh xV xW) else (some 0))) = some r:=h
 clear h
 by_cases c2 : xX = 4
 ·rw [if_pos c2] at H
  have c2b0 : (xX == 4) = true:=beq_iff_eq.mpr c2
  have c2b1 : (xX != 4) = false:=bne_eq_false_iff_eq.mpr c2
  clear c2
  have H':=Aside0.mk H
  clear H
  go_enter Tryd.func23,Tryd.ntmps23
  go_wp2_with (first|((with_reducible refine bV (N:=1) rfl ?_);refine bT ?hg (N:=1) ?hd (cs:=#[.int .i64 xX,.bool yc,.int .i64 yg,.string yh,.slice yG xV.length yE,.slice yH xW.length yF]) (t:=33) ?hr ?_;(case hd=>rfl);(case hg=>rfl);(case hr=>first|(go_simp;done)|(go_simp;rfl));intro xU hg w3 hbox hb;have zn:=Aside0.mk (aT (by repeat (first|(with_reducible first|exact HB.out|apply av|apply ak|apply au)|exact HB.out)) hb);have zo:=Aside0.mk (hbox);have Bz:=Aside0.mk ((by rw [hg];exact (aM (by repeat (first|(with_reducible first|exact HB.out|apply av|apply ak|apply au)|exact HB.out))) : w.heap.size ≤ xU));have BA:=Aside0.mk ((by rw [hg];exact (aM (by repeat (first|(with_reducible first|exact HB.out|apply av|apply ak|apply au)|exact HB.out))) : w.heap.size ≤ xU));clear HB;have HB:=zn;have xS:=zo;have BD:=Bz;have yu:=BA;clear zn zo Bz BA;clear hb hbox hg;have zV : w3.cell? ⟨xU,0,none⟩ = some (.int .i64 xX):=(ah xS.out 0).trans rfl;have zW : w3.cell? ⟨xU,1,none⟩ = some (.bool yc):=(ah xS.out 1).trans rfl;have zX : w3.cell? ⟨xU,2,none⟩ = some (.int .i64 yg):=(ah xS.out 2).trans rfl;have zY : w3.cell? ⟨xU,3,none⟩ = some (.string yh):=(ah xS.out 3).trans rfl;have zZ : w3.cell? ⟨xU,4,none⟩ = some (.slice yG xV.length yE):=(ah xS.out 4).trans rfl;have z8 : w3.cell? ⟨xU,5,none⟩ = some (.slice yH xW.length yF):=(ah xS.out 5).trans rfl;have Ac:=aj xS.out 0;have Ad:=aj xS.out 1;have Ae:=aj xS.out 2;have Af:=aj xS.out 3;have Ag:=aj xS.out 4;have Ah:=aj xS.out 5))
  go_loopg [3,4] k (fun kq v3 v4 w'=>∃ (yI : Int) (xY : Int),v3 = .int .i64 yI ∧ v4 = .int .i64 xY ∧ Aside0 (aV.l0 kq yI xY xX yc yg yh xV xW = some r) ∧ Aside0 (kq ≤ k) ∧ Aside0 (w'.heap[xU]? = some (.cells #[.int .i64 xX,.bool yc,.int .i64 yg,.string yh,(.slice yG xV.length yE),(.slice yH xW.length yF)] 33 (0,0))) ∧ Aside0 (Below w.heap.size w w'))
  case atStart=>exact ⟨(0),(0),(by first|rfl|(simp;done)|(simp [*];done)),(by first|rfl|(simp;done)|(simp [*];done)),H',⟨Nat.le_refl _⟩,⟨by (with_reducible repeat (first|apply aA|apply aC|apply ay));exact xS.out⟩,⟨by repeat (first|(with_reducible first|exact HB.out|apply av|apply ak|apply au|refine aD ?_ yu.out)|exact HB.out)⟩⟩
  case round =>
   clear H'
   try clear c2
   try clear c2b0
   try clear c2b1
   try clear p2
   try clear zV
   try clear zW
   try clear zX
   try clear zY
   try clear zZ
   try clear z8
   try clear Ac
   try clear Ad
   try clear Ae
   try clear Af
   try clear Ag
   try clear Ah
   obtain ⟨yI,xY,rfl,rfl,HA,zQ,xS,HB⟩:=hrel
   cases gk with
   | zero=>exact absurd HA.out (by simp [aV.l0])
   | succ k1 =>
    have H:=HA.out
    clear HA
    simp only [aV.l0] at H
    by_cases c5 : xY < (xV.length : Int)
    ·rw [if_pos c5] at H
     have c5b0 : decide (xY < (xV.length : Int)) = true:=decide_eq_true c5
     clear c5
     by_cases c6 : 0 ≤ xY
     ·rw [if_pos c6] at H
      have c6b0 : decide (0 ≤ xY) = true:=decide_eq_true c6
      clear c6
      replace H:=Option.bind_eq_some_iff.mp H
      obtain ⟨t203,Dq,H⟩:=H
      replace H : (if t203 > yI then (aV.l0 k1 t203 (wrap64 (xY + 1)) xX yc yg yh xV xW) else (aV.l0 k1 yI (wrap64 (xY + 1)) xX yc yg yh xV xW)) = some r:=H
      have A7:=Aside0.mk Dq
      clear Dq
      by_cases c8 : t203 > yI
      ·rw [if_pos c8] at H
       have c8b0 : decide (yI < t203) = true:=decide_eq_true c8
       clear c8
       have H':=Aside0.mk H
       clear H
       have BF : wr.cell? ⟨xU,0,none⟩ = some (.int .i64 xX):=(ah xS.out 0).trans rfl
       have BG : wr.cell? ⟨xU,1,none⟩ = some (.bool yc):=(ah xS.out 1).trans rfl
       have BH : wr.cell? ⟨xU,2,none⟩ = some (.int .i64 yg):=(ah xS.out 2).trans rfl
       have BI : wr.cell? ⟨xU,3,none⟩ = some (.string yh):=(ah xS.out 3).trans rfl
       have BJ : wr.cell? ⟨xU,4,none⟩ = some (.slice yG xV.length yE):=(ah xS.out 4).trans rfl
       have BK : wr.cell? ⟨xU,5,none⟩ = some (.slice yH xW.length yF):=(ah xS.out 5).trans rfl
       have BL:=aj xS.out 0
       have BM:=aj xS.out 1
       have BN:=aj xS.out 2
       have BO:=aj xS.out 3
       have BP:=aj xS.out 4
       have BQ:=aj xS.out 5
       have zD : 0 ≤ (xY : Int):=of_decide_eq_true (by first|(with_reducible assumption)|assumption)
       have zF : xY < (xV.length : Int):=of_decide_eq_true (by first|(with_reducible assumption)|assumption)
       obtain ⟨Ai,zG,zH,zI,zJ,BR,yw,yx,yA,yB,yC,yD,yU,yV,yX,yY⟩:=jD Bv.out xY zD zF
       cases BR
       replace yw:=(HB.out.cell (World.block_lt_of_cell? w _ yw)).trans yw
       replace yx:=(HB.out.cell (World.block_lt_of_cell? w _ yx)).trans yx
       replace yA:=(HB.out.cell (World.block_lt_of_cell? w _ yA)).trans yA
       replace yB:=(HB.out.cell (World.block_lt_of_cell? w _ yB)).trans yB
       replace yC:=(HB.out.cell (World.block_lt_of_cell? w _ yC)).trans yC
       replace yD:=(HB.out.cell (World.block_lt_of_cell? w _ yD)).trans yD
       have zq:=Aside0.mk yV
       have zu:=Aside0.mk yU
       clear yV yU
       have zw:=Aside0.mk yY
       have zx:=Aside0.mk yX
       clear yY yX
       replace zD:=eq_true zD
       replace zF:=eq_true zF
       go_wp2_with (first|((with_reducible refine bW (f:=23) rfl ?_);refine dJ (some 23) rfl rfl Tryd.func23 (by kernel_rfl) rfl #[.agg #[.int .i64 ((bD xV xY).f0),.bool ((bD xV xY).f1),.int .i64 ((bD xV xY).f2),.string ((bD xV xY).f3),.slice zG ((bD xV xY).f4).length zH,.slice zI ((bD xV xY).f5).length zJ]] rfl (by (try simp only [List.map_toArray,List.map_cons,List.map_nil]);first|done|rfl|(simp only [List.length_drop,List.length_take];rfl)|(simp (disch:=first|omega|(simp at *;omega)) only [dF,dA,dV];rfl)) ?_;(with_reducible refine (ih k1 (by have:=zQ.out;omega) ((bD xV xY).f0) ((bD xV xY).f1) ((bD xV xY).f2) ((bD xV xY).f3) _ _ ((bD xV xY).f4) _ _ ((bD xV xY).f5) t203 _ ?zi ?zk ?zl ?zm A7.out).mono ?_);(case zi=>repeat (first|exact (Kd.bO zq.out HB.out)|(with_reducible refine Kd.bJ ?_ _)|(with_reducible refine Kd.bL ?_ _)|(with_reducible refine Kd.bS ?_)));(case zk=>exact zu.out);(case zl=>repeat (first|exact (Kd.bO zw.out HB.out)|(with_reducible refine Kd.bJ ?_ _)|(with_reducible refine Kd.bL ?_ _)|(with_reducible refine Kd.bS ?_)));(case zm=>exact zx.out);rintro e Du ⟨rfl,hb⟩;refine ⟨_,rfl,?_⟩;have zn:=Aside0.mk (aU (g:=xU) (o:=.cells #[.int .i64 xX,.bool yc,.int .i64 yg,.string yh,.slice (some Ai) xV.length yE,.slice yH xW.length yF] 33 (0,0)) (bk_ xS.out) hb);have zo:=Aside0.mk (aT (by repeat (first|(with_reducible first|exact HB.out|apply av|apply ak|apply au|refine aD ?_ yu.out)|exact HB.out)) hb);clear xS;clear HB;have xS:=zn;have HB:=zo;clear zn zo;(try clear hb);(try clear hb2);(try clear hk);(try clear hi)))
       go_roundg k1
       case measure=>have:=zQ.out;omega
       case rel=>exact ⟨(t203),(wrap64 (xY + 1)),(by first|rfl|(simp;done)|(simp [*];done)),(by first|rfl|(simp;done)|(simp [*];done)),H',⟨by have:=zQ.out;omega⟩,⟨by (with_reducible repeat (first|apply aA|apply aC|apply ay));exact xS.out⟩,⟨by repeat (first|(with_reducible first|exact HB.out|apply av|apply ak|apply au|refine aD ?_ yu.out)|exact HB.out)⟩⟩
      ·rw [if_neg c8] at H
       have c8b0 : decide (yI < t203) = false:=decide_eq_false c8
       clear c8
       have H':=Aside0.mk H
       clear H
       have Ak : wr.cell? ⟨xU,0,none⟩ = some (.int .i64 xX):=(ah xS.out 0).trans rfl
       have Al : wr.cell? ⟨xU,1,none⟩ = some (.bool yc):=(ah xS.out 1).trans rfl
       have Am : wr.cell? ⟨xU,2,none⟩ = some (.int .i64 yg):=(ah xS.out 2).trans rfl
       have Ao : wr.cell? ⟨xU,3,none⟩ = some (.string yh):=(ah xS.out 3).trans rfl
       have Ap : wr.cell? ⟨xU,4,none⟩ = some (.slice yG xV.length yE):=(ah xS.out 4).trans rfl
       have Aq : wr.cell? ⟨xU,5,none⟩ = some (.slice yH xW.length yF):=(ah xS.out 5).trans rfl
       have Ar:=aj xS.out 0
       have Au:=aj xS.out 1
       have Av:=aj xS.out 2
       have AA:=aj xS.out 3
       have AB:=aj xS.out 4
       have AJ:=aj xS.out 5
       have zD : 0 ≤ (xY : Int):=of_decide_eq_true (by first|(with_reducible assumption)|assumption)
       have zF : xY < (xV.length : Int):=of_decide_eq_true (by first|(with_reducible assumption)|assumption)
       obtain ⟨Ai,zG,zH,zI,zJ,BR,yw,yx,yA,yB,yC,yD,yU,yV,yX,yY⟩:=jD Bv.out xY zD zF
       cases BR
       replace yw:=(HB.out.cell (World.block_lt_of_cell? w _ yw)).trans yw
       replace yx:=(HB.out.cell (World.block_lt_of_cell? w _ yx)).trans yx
       replace yA:=(HB.out.cell (World.block_lt_of_cell? w _ yA)).trans yA
       replace yB:=(HB.out.cell (World.block_lt_of_cell? w _ yB)).trans yB
       replace yC:=(HB.out.cell (World.block_lt_of_cell? w _ yC)).trans yC
       replace yD:=(HB.out.cell (World.block_lt_of_cell? w _ yD)).trans yD
       have zq:=Aside0.mk yV
       have zu:=Aside0.mk yU
       clear yV yU
       have zw:=Aside0.mk yY
       have zx:=Aside0.mk yX
       clear yY yX
       replace zD:=eq_true zD
       replace zF:=eq_true zF
       go_wp2_with (first|((with_reducible refine bW (f:=23) rfl ?_);refine dJ (some 23) rfl rfl Tryd.func23 (by kernel_rfl) rfl #[.agg #[.int .i64 ((bD xV xY).f0),.bool ((bD xV xY).f1),.int .i64 ((bD xV xY).f2),.string ((bD xV xY).f3),.slice zG ((bD xV xY).f4).length zH,.slice zI ((bD xV xY).f5).length zJ]] rfl (by (try simp only [List.map_toArray,List.map_cons,List.map_nil]);first|done|rfl|(simp only [List.length_drop,List.length_take];rfl)|(simp (disch:=first|omega|(simp at *;omega)) only [dF,dA,dV];rfl)) ?_;(with_reducible refine (ih k1 (by have:=zQ.out;omega) ((bD xV xY).f0) ((bD xV xY).f1) ((bD xV xY).f2) ((bD xV xY).f3) _ _ ((bD xV xY).f4) _ _ ((bD xV xY).f5) t203 _ ?zi ?zk ?zl ?zm A7.out).mono ?_);(case zi=>repeat (first|exact (Kd.bO zq.out HB.out)|(with_reducible refine Kd.bJ ?_ _)|(with_reducible refine Kd.bL ?_ _)|(with_reducible refine Kd.bS ?_)));(case zk=>exact zu.out);(case zl=>repeat (first|exact (Kd.bO zw.out HB.out)|(with_reducible refine Kd.bJ ?_ _)|(with_reducible refine Kd.bL ?_ _)|(with_reducible refine Kd.bS ?_)));(case zm=>exact zx.out);rintro e Dv ⟨rfl,hb⟩;refine ⟨_,rfl,?_⟩;have zn:=Aside0.mk (aU (g:=xU) (o:=.cells #[.int .i64 xX,.bool yc,.int .i64 yg,.string yh,.slice (some Ai) xV.length yE,.slice yH xW.length yF] 33 (0,0)) (bk_ xS.out) hb);have zo:=Aside0.mk (aT (by repeat (first|(with_reducible first|exact HB.out|apply av|apply ak|apply au|refine aD ?_ yu.out)|exact HB.out)) hb);clear xS;clear HB;have xS:=zn;have HB:=zo;clear zn zo;(try clear hb);(try clear hb2);(try clear hk);(try clear hi)))
       go_roundg k1
       case measure=>have:=zQ.out;omega
       case rel=>exact ⟨(yI),(wrap64 (xY + 1)),(by first|rfl|(simp;done)|(simp [*];done)),(by first|rfl|(simp;done)|(simp [*];done)),H',⟨by have:=zQ.out;omega⟩,⟨by (with_reducible repeat (first|apply aA|apply aC|apply ay));exact xS.out⟩,⟨by repeat (first|(with_reducible first|exact HB.out|apply av|apply ak|apply au|refine aD ?_ yu.out)|exact HB.out)⟩⟩
     ·rw [if_neg c6] at H
      exact absurd H (by simp)
    ·rw [if_neg c5] at H
     have c5b0 : decide (xY < (xV.length : Int)) = false:=decide_eq_false c5
     clear c5
     obtain rfl:=Option.some.inj H
     have AL : wr.cell? ⟨xU,0,none⟩ = some (.int .i64 xX):=(ah xS.out 0).trans rfl
     have AO : wr.cell? ⟨xU,1,none⟩ = some (.bool yc):=(ah xS.out 1).trans rfl
     have AP : wr.cell? ⟨xU,2,none⟩ = some (.int .i64 yg):=(ah xS.out 2).trans rfl
     have AQ : wr.cell? ⟨xU,3,none⟩ = some (.string yh):=(ah xS.out 3).trans rfl
     have AU : wr.cell? ⟨xU,4,none⟩ = some (.slice yG xV.length yE):=(ah xS.out 4).trans rfl
     have AV : wr.cell? ⟨xU,5,none⟩ = some (.slice yH xW.length yF):=(ah xS.out 5).trans rfl
     have AX:=aj xS.out 0
     have AY:=aj xS.out 1
     have AZ:=aj xS.out 2
     have Ba:=aj xS.out 3
     have Bb:=aj xS.out 4
     have Bc:=aj xS.out 5
     go_wp2
     go_ret
     exact ⟨by first|rfl|(simp [bg,bn] <;> rfl)|(simp [*,bg,bn] <;> rfl),by repeat (first|(with_reducible first|exact HB.out|apply av|apply ak|apply au|refine aD ?_ yu.out)|exact HB.out)⟩
 ·rw [if_neg c2] at H
  have c2b0 : (xX == 4) = false:=beq_eq_false_iff_ne.mpr c2
  have c2b1 : (xX != 4) = true:=bne_iff_ne.mpr c2
  by_cases c14 : xX = 5
  ·rw [if_pos c14] at H
   have c14b0 : (xX == 5) = true:=beq_iff_eq.mpr c14
   have c14b1 : (xX != 5) = false:=bne_eq_false_iff_eq.mpr c14
   clear c14
   have H':=Aside0.mk H
   clear H
   go_enter Tryd.func23,Tryd.ntmps23
   go_wp2_with (first|((with_reducible refine bV (N:=1) rfl ?_);refine bT ?hg (N:=1) ?hd (cs:=#[.int .i64 xX,.bool yc,.int .i64 yg,.string yh,.slice yG xV.length yE,.slice yH xW.length yF]) (t:=33) ?hr ?_;(case hd=>rfl);(case hg=>rfl);(case hr=>first|(go_simp;done)|(go_simp;rfl));intro xU hg BS hbox hb;have zn:=Aside0.mk (aT (by repeat (first|(with_reducible first|exact HB.out|apply av|apply ak|apply au)|exact HB.out)) hb);have zo:=Aside0.mk (hbox);have Bz:=Aside0.mk ((by rw [hg];exact (aM (by repeat (first|(with_reducible first|exact HB.out|apply av|apply ak|apply au)|exact HB.out))) : w.heap.size ≤ xU));have BA:=Aside0.mk ((by rw [hg];exact (aM (by repeat (first|(with_reducible first|exact HB.out|apply av|apply ak|apply au)|exact HB.out))) : w.heap.size ≤ xU));clear HB;have HB:=zn;have xS:=zo;have BD:=Bz;have yu:=BA;clear zn zo Bz BA;clear hb hbox hg;have Bd : BS.cell? ⟨xU,0,none⟩ = some (.int .i64 xX):=(ah xS.out 0).trans rfl;have Bf : BS.cell? ⟨xU,1,none⟩ = some (.bool yc):=(ah xS.out 1).trans rfl;have Bg : BS.cell? ⟨xU,2,none⟩ = some (.int .i64 yg):=(ah xS.out 2).trans rfl;have Bh : BS.cell? ⟨xU,3,none⟩ = some (.string yh):=(ah xS.out 3).trans rfl;have Bj : BS.cell? ⟨xU,4,none⟩ = some (.slice yG xV.length yE):=(ah xS.out 4).trans rfl;have Bl : BS.cell? ⟨xU,5,none⟩ = some (.slice yH xW.length yF):=(ah xS.out 5).trans rfl;have Bn:=aj xS.out 0;have Bo:=aj xS.out 1;have Bp:=aj xS.out 2;have Bq:=aj xS.out 3;have Br:=aj xS.out 4;have Bt:=aj xS.out 5))
   go_loopg [3,6] k (fun kq v3 v6 w'=>∃ (yI : Int) (xZ : Int),v3 = .int .i64 yI ∧ v6 = .int .i64 xZ ∧ Aside0 (aV.l1 kq yI xZ xX yc yg yh xV xW = some r) ∧ Aside0 (kq ≤ k) ∧ Aside0 (w'.heap[xU]? = some (.cells #[.int .i64 xX,.bool yc,.int .i64 yg,.string yh,(.slice yG xV.length yE),(.slice yH xW.length yF)] 33 (0,0))) ∧ Aside0 (Below w.heap.size w w'))
   case atStart=>exact ⟨(0),(0),(by first|rfl|(simp;done)|(simp [*];done)),(by first|rfl|(simp;done)|(simp [*];done)),H',⟨Nat.le_refl _⟩,⟨by (with_reducible repeat (first|apply aA|apply aC|apply ay));exact xS.out⟩,⟨by repeat (first|(with_reducible first|exact HB.out|apply av|apply ak|apply au|refine aD ?_ yu.out)|exact HB.out)⟩⟩
   case round =>
    clear H'
    try clear c1
    try clear c2
    try clear c2b0
    try clear c2b1
    try clear p2
    try clear q2
    try clear hx2
    try clear c5
    try clear c5b0
    try clear c6
    try clear c6b0
    try clear p6
    try clear c8
    try clear c8b0
    try clear c14
    try clear c14b0
    try clear c14b1
    try clear Ak
    try clear Al
    try clear Am
    try clear Ao
    try clear Ap
    try clear Aq
    try clear AL
    try clear AO
    try clear AP
    try clear AQ
    try clear AU
    try clear AV
    try clear Bd
    try clear Bf
    try clear Bg
    try clear Bh
    try clear Bj
    try clear Bl
    try clear zV
    try clear zW
    try clear zX
    try clear zY
    try clear zZ
    try clear z8
    try clear BF
    try clear BG
    try clear BH
    try clear BI
    try clear BJ
    try clear BK
    try clear Ar
    try clear Au
    try clear Av
    try clear AA
    try clear AB
    try clear AJ
    try clear AX
    try clear AY
    try clear AZ
    try clear Ba
    try clear Bb
    try clear Bc
    try clear Bn
    try clear Bo
    try clear Bp
    try clear Bq
    try clear Br
    try clear Bt
    try clear Ac
    try clear Ad
    try clear Ae
    try clear Af
    try clear Ag
    try clear Ah
    try clear BL
    try clear BM
    try clear BN
    try clear BO
    try clear BP
    try clear BQ
    try clear yw
    try clear yx
    try clear yA
    try clear yB
    try clear yC
    try clear yD
    try clear p2
    try clear zD
    try clear zF
    obtain ⟨yI,xZ,rfl,rfl,HA,zQ,xS,HB⟩:=hrel
    cases gk with
    | zero=>exact absurd HA.out (by simp [aV.l1])
    | succ k1 =>
     have H:=HA.out
     clear HA
     simp only [aV.l1] at H
     by_cases c17 : xZ < (xW.length : Int)
     ·rw [if_pos c17] at H
      have c17b0 : decide (xZ < (xW.length : Int)) = true:=decide_eq_true c17
      clear c17
      by_cases c18 : 0 ≤ xZ
      ·rw [if_pos c18] at H
       have c18b0 : decide (0 ≤ xZ) = true:=decide_eq_true c18
       clear c18
       replace H:=Option.bind_eq_some_iff.mp H
       obtain ⟨zh,BZ,H⟩:=H
       replace H : (if zh > yI then (aV.l1 k1 zh (wrap64 (xZ + 1)) xX yc yg yh xV xW) else (aV.l1 k1 yI (wrap64 (xZ + 1)) xX yc yg yh xV xW)) = some r:=H
       have Dr:=Aside0.mk BZ
       clear BZ
       by_cases c20 : zh > yI
       ·rw [if_pos c20] at H
        have c20b0 : decide (yI < zh) = true:=decide_eq_true c20
        clear c20
        have H':=Aside0.mk H
        clear H
        have Ca : wr.cell? ⟨xU,0,none⟩ = some (.int .i64 xX):=(ah xS.out 0).trans rfl
        have Cb : wr.cell? ⟨xU,1,none⟩ = some (.bool yc):=(ah xS.out 1).trans rfl
        have Cc : wr.cell? ⟨xU,2,none⟩ = some (.int .i64 yg):=(ah xS.out 2).trans rfl
        have Ce : wr.cell? ⟨xU,3,none⟩ = some (.string yh):=(ah xS.out 3).trans rfl
        have Cg : wr.cell? ⟨xU,4,none⟩ = some (.slice yG xV.length yE):=(ah xS.out 4).trans rfl
        have Ch : wr.cell? ⟨xU,5,none⟩ = some (.slice yH xW.length yF):=(ah xS.out 5).trans rfl
        have Ci:=aj xS.out 0
        have Cj:=aj xS.out 1
        have Ck:=aj xS.out 2
        have Cm:=aj xS.out 3
        have Cn:=aj xS.out 4
        have Co:=aj xS.out 5
        have zK : 0 ≤ (xZ : Int):=of_decide_eq_true (by first|(with_reducible assumption)|assumption)
        have zL : xZ < (xW.length : Int):=of_decide_eq_true (by first|(with_reducible assumption)|assumption)
        obtain ⟨Aj,zM,zN,zO,zP,e204,yJ,yK,yL,yM,yN,yO,yP,yZ,za,ze,zf⟩:=fV Bw.out xZ zK zL
        cases e204
        replace yJ:=(HB.out.cell (World.block_lt_of_cell? w _ yJ)).trans yJ
        replace yK:=(HB.out.cell (World.block_lt_of_cell? w _ yK)).trans yK
        replace yL:=(HB.out.cell (World.block_lt_of_cell? w _ yL)).trans yL
        replace yM:=(HB.out.cell (World.block_lt_of_cell? w _ yM)).trans yM
        replace yN:=(HB.out.cell (World.block_lt_of_cell? w _ yN)).trans yN
        replace yO:=(HB.out.cell (World.block_lt_of_cell? w _ yO)).trans yO
        replace yP:=(HB.out.cell (World.block_lt_of_cell? w _ yP)).trans yP
        have zy:=Aside0.mk za
        have zA:=Aside0.mk yZ
        clear za yZ
        have zB:=Aside0.mk zf
        have zC:=Aside0.mk ze
        clear zf ze
        replace zK:=eq_true zK
        replace zL:=eq_true zL
        go_wp2_with (first|((with_reducible refine bW (f:=23) rfl ?_);refine dJ (some 46) rfl rfl Tryd.func23 (by kernel_rfl) rfl #[.agg #[.int .i64 ((aW xW xZ).f1.f0),.bool ((aW xW xZ).f1.f1),.int .i64 ((aW xW xZ).f1.f2),.string ((aW xW xZ).f1.f3),.slice zM ((aW xW xZ).f1.f4).length zN,.slice zO ((aW xW xZ).f1.f5).length zP]] rfl (by (try simp only [List.map_toArray,List.map_cons,List.map_nil]);first|done|rfl|(simp only [List.length_drop,List.length_take];rfl)|(simp (disch:=first|omega|(simp at *;omega)) only [dF,dA,dV];rfl)) ?_;(with_reducible refine (ih k1 (by have:=zQ.out;omega) ((aW xW xZ).f1.f0) ((aW xW xZ).f1.f1) ((aW xW xZ).f1.f2) ((aW xW xZ).f1.f3) _ _ ((aW xW xZ).f1.f4) _ _ ((aW xW xZ).f1.f5) zh _ ?zi ?zk ?zl ?zm Dr.out).mono ?_);(case zi=>repeat (first|exact (Kd.bO zy.out HB.out)|(with_reducible refine Kd.bJ ?_ _)|(with_reducible refine Kd.bL ?_ _)|(with_reducible refine Kd.bS ?_)));(case zk=>exact zA.out);(case zl=>repeat (first|exact (Kd.bO zB.out HB.out)|(with_reducible refine Kd.bJ ?_ _)|(with_reducible refine Kd.bL ?_ _)|(with_reducible refine Kd.bS ?_)));(case zm=>exact zC.out);rintro e Dw ⟨rfl,hb⟩;refine ⟨_,rfl,?_⟩;have zn:=Aside0.mk (aU (g:=xU) (o:=.cells #[.int .i64 xX,.bool yc,.int .i64 yg,.string yh,.slice yG xV.length yE,.slice (some Aj) xW.length yF] 33 (0,0)) (bk_ xS.out) hb);have zo:=Aside0.mk (aT (by repeat (first|(with_reducible first|exact HB.out|apply av|apply ak|apply au|refine aD ?_ yu.out)|exact HB.out)) hb);clear xS;clear HB;have xS:=zn;have HB:=zo;clear zn zo;(try clear hb);(try clear hb2);(try clear hk);(try clear hi)))
        go_roundg k1
        case measure=>have:=zQ.out;omega
        case rel=>exact ⟨(zh),(wrap64 (xZ + 1)),(by first|rfl|(simp;done)|(simp [*];done)),(by first|rfl|(simp;done)|(simp [*];done)),H',⟨by have:=zQ.out;omega⟩,⟨by (with_reducible repeat (first|apply aA|apply aC|apply ay));exact xS.out⟩,⟨by repeat (first|(with_reducible first|exact HB.out|apply av|apply ak|apply au|refine aD ?_ yu.out)|exact HB.out)⟩⟩
       ·rw [if_neg c20] at H
        have c20b0 : decide (yI < zh) = false:=decide_eq_false c20
        clear c20
        have H':=Aside0.mk H
        clear H
        have Cq : wr.cell? ⟨xU,0,none⟩ = some (.int .i64 xX):=(ah xS.out 0).trans rfl
        have Cr : wr.cell? ⟨xU,1,none⟩ = some (.bool yc):=(ah xS.out 1).trans rfl
        have Ct : wr.cell? ⟨xU,2,none⟩ = some (.int .i64 yg):=(ah xS.out 2).trans rfl
        have Cu : wr.cell? ⟨xU,3,none⟩ = some (.string yh):=(ah xS.out 3).trans rfl
        have Cv : wr.cell? ⟨xU,4,none⟩ = some (.slice yG xV.length yE):=(ah xS.out 4).trans rfl
        have Cw : wr.cell? ⟨xU,5,none⟩ = some (.slice yH xW.length yF):=(ah xS.out 5).trans rfl
        have Cx:=aj xS.out 0
        have Cy:=aj xS.out 1
        have Cz:=aj xS.out 2
        have CB:=aj xS.out 3
        have CF:=aj xS.out 4
        have CG:=aj xS.out 5
        have zK : 0 ≤ (xZ : Int):=of_decide_eq_true (by first|(with_reducible assumption)|assumption)
        have zL : xZ < (xW.length : Int):=of_decide_eq_true (by first|(with_reducible assumption)|assumption)
        obtain ⟨Aj,zM,zN,zO,zP,e204,yJ,yK,yL,yM,yN,yO,yP,yZ,za,ze,zf⟩:=fV Bw.out xZ zK zL
        cases e204
        replace yJ:=(HB.out.cell (World.block_lt_of_cell? w _ yJ)).trans yJ
        replace yK:=(HB.out.cell (World.block_lt_of_cell? w _ yK)).trans yK
        replace yL:=(HB.out.cell (World.block_lt_of_cell? w _ yL)).trans yL
        replace yM:=(HB.out.cell (World.block_lt_of_cell? w _ yM)).trans yM
        replace yN:=(HB.out.cell (World.block_lt_of_cell? w _ yN)).trans yN
        replace yO:=(HB.out.cell (World.block_lt_of_cell? w _ yO)).trans yO
        replace yP:=(HB.out.cell (World.block_lt_of_cell? w _ yP)).trans yP
        have zy:=Aside0.mk za
        have zA:=Aside0.mk yZ
        clear za yZ
        have zB:=Aside0.mk zf
        have zC:=Aside0.mk ze
        clear zf ze
        replace zK:=eq_true zK
        replace zL:=eq_true zL
        go_wp2_with (first|((with_reducible refine bW (f:=23) rfl ?_);refine dJ (some 46) rfl rfl Tryd.func23 (by kernel_rfl) rfl #[.agg #[.int .i64 ((aW xW xZ).f1.f0),.bool ((aW xW xZ).f1.f1),.int .i64 ((aW xW xZ).f1.f2),.string ((aW xW xZ).f1.f3),.slice zM ((aW xW xZ).f1.f4).length zN,.slice zO ((aW xW xZ).f1.f5).length zP]] rfl (by (try simp only [List.map_toArray,List.map_cons,List.map_nil]);first|done|rfl|(simp only [List.length_drop,List.length_take];rfl)|(simp (disch:=first|omega|(simp at *;omega)) only [dF,dA,dV];rfl)) ?_;(with_reducible refine (ih k1 (by have:=zQ.out;omega) ((aW xW xZ).f1.f0) ((aW xW xZ).f1.f1) ((aW xW xZ).f1.f2) ((aW xW xZ).f1.f3) _ _ ((aW xW xZ).f1.f4) _ _ ((aW xW xZ).f1.f5) zh _ ?zi ?zk ?zl ?zm Dr.out).mono ?_);(case zi=>repeat (first|exact (Kd.bO zy.out HB.out)|(with_reducible refine Kd.bJ ?_ _)|(with_reducible refine Kd.bL ?_ _)|(with_reducible refine Kd.bS ?_)));(case zk=>exact zA.out);(case zl=>repeat (first|exact (Kd.bO zB.out HB.out)|(with_reducible refine Kd.bJ ?_ _)|(with_reducible refine Kd.bL ?_ _)|(with_reducible refine Kd.bS ?_)));(case zm=>exact zC.out);rintro e Dx ⟨rfl,hb⟩;refine ⟨_,rfl,?_⟩;have zn:=Aside0.mk (aU (g:=xU) (o:=.cells #[.int .i64 xX,.bool yc,.int .i64 yg,.string yh,.slice yG xV.length yE,.slice (some Aj) xW.length yF] 33 (0,0)) (bk_ xS.out) hb);have zo:=Aside0.mk (aT (by repeat (first|(with_reducible first|exact HB.out|apply av|apply ak|apply au|refine aD ?_ yu.out)|exact HB.out)) hb);clear xS;clear HB;have xS:=zn;have HB:=zo;clear zn zo;(try clear hb);(try clear hb2);(try clear hk);(try clear hi)))
        go_roundg k1
        case measure=>have:=zQ.out;omega
        case rel=>exact ⟨(yI),(wrap64 (xZ + 1)),(by first|rfl|(simp;done)|(simp [*];done)),(by first|rfl|(simp;done)|(simp [*];done)),H',⟨by have:=zQ.out;omega⟩,⟨by (with_reducible repeat (first|apply aA|apply aC|apply ay));exact xS.out⟩,⟨by repeat (first|(with_reducible first|exact HB.out|apply av|apply ak|apply au|refine aD ?_ yu.out)|exact HB.out)⟩⟩
      ·rw [if_neg c18] at H
       exact absurd H (by simp)
     ·rw [if_neg c17] at H
      have c17b0 : decide (xZ < (xW.length : Int)) = false:=decide_eq_false c17
      clear c17
      obtain rfl:=Option.some.inj H
      have CJ : wr.cell? ⟨xU,0,none⟩ = some (.int .i64 xX):=(ah xS.out 0).trans rfl
      have CK : wr.cell? ⟨xU,1,none⟩ = some (.bool yc):=(ah xS.out 1).trans rfl
      have CO : wr.cell? ⟨xU,2,none⟩ = some (.int .i64 yg):=(ah xS.out 2).trans rfl
      have CP : wr.cell? ⟨xU,3,none⟩ = some (.string yh):=(ah xS.out 3).trans rfl
      have CQ : wr.cell? ⟨xU,4,none⟩ = some (.slice yG xV.length yE):=(ah xS.out 4).trans rfl
      have CS : wr.cell? ⟨xU,5,none⟩ = some (.slice yH xW.length yF):=(ah xS.out 5).trans rfl
      have CU:=aj xS.out 0
      have CV:=aj xS.out 1
      have CW:=aj xS.out 2
      have CX:=aj xS.out 3
      have CY:=aj xS.out 4
      have CZ:=aj xS.out 5
      go_wp2
      go_ret
      exact ⟨by first|rfl|(simp [bg,bn] <;> rfl)|(simp [*,bg,bn] <;> rfl),by repeat (first|(with_reducible first|exact HB.out|apply av|apply ak|apply au|refine aD ?_ yu.out)|exact HB.out)⟩
  ·rw [if_neg c14] at H
   have c14b0 : (xX == 5) = false:=beq_eq_false_iff_ne.mpr c14
   have c14b1 : (xX != 5) = true:=bne_iff_ne.mpr c14
   obtain rfl:=Option.some.inj H
   go_enter Tryd.func23,Tryd.ntmps23
   go_wp2_with (first|((with_reducible refine bV (N:=1) rfl ?_);refine bT ?hg (N:=1) ?hd (cs:=#[.int .i64 xX,.bool yc,.int .i64 yg,.string yh,.slice yG xV.length yE,.slice yH xW.length yF]) (t:=33) ?hr ?_;(case hd=>rfl);(case hg=>rfl);(case hr=>first|(go_simp;done)|(go_simp;rfl));intro xU hg BU hbox hb;have zn:=Aside0.mk (aT (by repeat (first|(with_reducible first|exact HB.out|apply av|apply ak|apply au)|exact HB.out)) hb);have zo:=Aside0.mk (hbox);have Bz:=Aside0.mk ((by rw [hg];exact (aM (by repeat (first|(with_reducible first|exact HB.out|apply av|apply ak|apply au)|exact HB.out))) : w.heap.size ≤ xU));have BA:=Aside0.mk ((by rw [hg];exact (aM (by repeat (first|(with_reducible first|exact HB.out|apply av|apply ak|apply au)|exact HB.out))) : w.heap.size ≤ xU));clear HB;have HB:=zn;have xS:=zo;have BD:=Bz;have yu:=BA;clear zn zo Bz BA;clear hb hbox hg;have C8 : BU.cell? ⟨xU,0,none⟩ = some (.int .i64 xX):=(ah xS.out 0).trans rfl;have C9 : BU.cell? ⟨xU,1,none⟩ = some (.bool yc):=(ah xS.out 1).trans rfl;have Da : BU.cell? ⟨xU,2,none⟩ = some (.int .i64 yg):=(ah xS.out 2).trans rfl;have Db : BU.cell? ⟨xU,3,none⟩ = some (.string yh):=(ah xS.out 3).trans rfl;have Dc : BU.cell? ⟨xU,4,none⟩ = some (.slice yG xV.length yE):=(ah xS.out 4).trans rfl;have Df : BU.cell? ⟨xU,5,none⟩ = some (.slice yH xW.length yF):=(ah xS.out 5).trans rfl;have Dh:=aj xS.out 0;have Di:=aj xS.out 1;have Dj:=aj xS.out 2;have Dk:=aj xS.out 3;have Dl:=aj xS.out 4;have Dm:=aj xS.out 5))
   go_ret
   exact ⟨by first|rfl|(simp [bg,bn] <;> rfl)|(simp [*,bg,bn] <;> rfl),by repeat (first|(with_reducible first|exact HB.out|apply av|apply ak|apply au|refine aD ?_ yu.out)|exact HB.out)⟩
end Go.Proofs.YtnkkbiabloodaaaDoor.GVa
