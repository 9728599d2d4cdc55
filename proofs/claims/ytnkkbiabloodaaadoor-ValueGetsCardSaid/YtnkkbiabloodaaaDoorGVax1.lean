/- Written by this session's own program (wip/gen.py) out of the translation: plain Lean functions of the Go functions, and proofs that the calls come to their answers. No conditions beside those in the statements. -/
import Derived.Test.YtnkkbiabloodaaaDoorGVax0
namespace Go.Proofs.YtnkkbiabloodaaaDoor.GVa
open Go.RowKit Go.Proofs.YtnkkbiabloodaaaDoorW.PrintWords Go.Proofs.YtnkkbiabloodaaaDoorW.PrintLast Go.Proofs.YtnkkbiabloodaaaDoorW.PrintMore
attribute [local go_sem] fG fH fV fZ eO eP fI fJ
set_option linter.unusedVariables false
set_option linter.unusedSimpArgs false
def bJ.l0 : Nat → List (S75) → Int → List (S75) → Int → Int → Option (Bool)
 | 0,_,_,_,_,_=>none
 | k + 1,x0,x3,x6,x7,x8=>if x8 < x7 then (if 0 ≤ x8 then (if x8 < (x6.length : Int) then (if (wrap64 (x3 + (wrap64 ((((fu x6 x8).f4).size : Int) * (1 + (mx 0 (mn ((fu x6 x8).f1) 80))))))) > 40000 then (some false) else (bJ.l0 k x0 (wrap64 (x3 + (wrap64 ((((fu x6 x8).f4).size : Int) * (1 + (mx 0 (mn ((fu x6 x8).f1) 80))))))) x6 x7 (wrap64 (x8 + 1)))) else (none)) else (none)) else (some (decide ((x0.length : Int) ≤ 80)))
def bJ.f (k : Nat) (l0 : List (S75)) : Option (Bool):=bJ.l0 k l0 0 l0 (l0.length : Int) 0
theorem bJ.eG : ∀ k,(∀ y0 y1 y2 y3 y4,LeO (bJ.l0 k y0 y1 y2 y3 y4) (bJ.l0 (k + 1) y0 y1 y2 y3 y4))
 | 0=>fun _ _ _ _ _ r h=>by simp [bJ.l0] at h
 | k + 1=>by
  have yZ:=bJ.eG k
  ·intro y0 y1 y2 y3 y4
   unfold bJ.l0
   repeat' first
   | (with_reducible exact yZ _ _ _ _ _)
   | (with_reducible exact LeO.refl _)
   | (with_reducible exact LeO.none _)
   | (with_reducible refine LeO.ite ?_ ?_)
   | (with_reducible refine LeO.bind ?_ (fun _=>?_))
   | exact yZ _ _ _ _ _
   | exact LeO.none _
   | refine LeO.ite ?_ ?_
   | refine LeO.bind ?_ (fun _=>?_)
theorem bJ.mono : ∀ a0 k,LeO (bJ.f k a0) (bJ.f (k + 1) a0):=by
 intro a0 k
 have yZ:=bJ.eG k
 unfold bJ.f
 repeat' first
   | (with_reducible exact yZ _ _ _ _ _)
   | (with_reducible exact LeO.refl _)
   | (with_reducible exact LeO.none _)
   | (with_reducible refine LeO.ite ?_ ?_)
   | (with_reducible refine LeO.bind ?_ (fun _=>?_))
   | exact yZ _ _ _ _ _
   | exact LeO.none _
   | refine LeO.ite ?_ ?_
   | refine LeO.bind ?_ (fun _=>?_)
set_option maxHeartbeats 8000000 in
set_option maxRecDepth 100000 in
theorem bJ.calls (k : Nat) (A0 : Option Addr) (c0 : Nat) (l0 : List (S75)) (r : Bool) (w : World) (hr0 : Kd.C k75 w A0 l0.length l0) (hc0 : l0.length ≤ c0) (h : bJ.f k l0 = some r) :
  Calls Tryd.prog 8 #[.slice A0 l0.length c0] w fun e w'=>e = .returned (.bool r) ∧ Below w.heap.size w w':=by
 have zS:=Tryd.underlying75
 have zM:=Aside0.mk hr0
 have zT:=Aside0.mk hc0
 clear hr0 hc0
 have HB:=Aside0.mk (Below.refl w.heap.size w)
 have H : (bJ.l0 k l0 0 l0 (l0.length : Int) 0) = some r:=h
 clear h
 have H':=Aside0.mk H
 clear H
 go_enter Tryd.func8,Tryd.ntmps8
 go_wp2
 go_loopg [3,8] k (fun kq v3 v8 w'=>∃ (yu : Int) (xU : Int),v3 = .int .i64 yu ∧ v8 = .int .i64 xU ∧ Aside0 (bJ.l0 kq l0 yu l0 (l0.length : Int) xU = some r) ∧ Aside0 (kq ≤ k) ∧ Aside0 (Below w.heap.size w w'))
 case atStart=>exact ⟨(0),(0),(by first|rfl|(simp;done)|(simp [*];done)),(by first|rfl|(simp;done)|(simp [*];done)),H',⟨Nat.le_refl _⟩,⟨by repeat (first|(with_reducible first|exact HB.out|apply av|apply ak|apply au)|exact HB.out)⟩⟩
 case round =>
  clear H'
  obtain ⟨yu,xU,rfl,rfl,HA,zN,HB⟩:=hrel
  cases gk with
  | zero=>exact absurd HA.out (by simp [bJ.l0])
  | succ k1 =>
   have H:=HA.out
   clear HA
   simp only [bJ.l0] at H
   by_cases c2 : xU < (l0.length : Int)
   ·rw [if_pos c2] at H
    have c2b0 : decide (xU < (l0.length : Int)) = true:=decide_eq_true c2
    clear c2
    by_cases c3 : 0 ≤ xU
    ·rw [if_pos c3] at H
     have c3b0 : decide (0 ≤ xU) = true:=decide_eq_true c3
     clear c3
     by_cases c4 : xU < (l0.length : Int)
     ·rw [if_pos c4] at H
      have c4b0 : decide (xU < (l0.length : Int)) = true:=decide_eq_true c4
      clear c4
      obtain ⟨yY,yG⟩ : ∃ j_ : Int,(mn ((fu l0 xU).f1) 80) = j_:=⟨_,rfl⟩
      replace H : (if (wrap64 (yu + (wrap64 ((((fu l0 xU).f4).size : Int) * (1 + (mx 0 (yY))))))) > 40000 then (some false) else (bJ.l0 k1 l0 (wrap64 (yu + (wrap64 ((((fu l0 xU).f4).size : Int) * (1 + (mx 0 (yY))))))) l0 (l0.length : Int) (wrap64 (xU + 1)))) = some r:=by first|(rw [yG] at H;exact H)|(simp only [yG] at H ⊢;exact H)
      have zO : (if 80 < ((fu l0 xU).f1) then 80 else ((fu l0 xU).f1)) = yY:=yG
      obtain ⟨yH,yA⟩ : ∃ j_ : Int,(mx 0 (yY)) = j_:=⟨_,rfl⟩
      replace H : (if (wrap64 (yu + (wrap64 ((((fu l0 xU).f4).size : Int) * (1 + (yH)))))) > 40000 then (some false) else (bJ.l0 k1 l0 (wrap64 (yu + (wrap64 ((((fu l0 xU).f4).size : Int) * (1 + (yH)))))) l0 (l0.length : Int) (wrap64 (xU + 1)))) = some r:=by first|(rw [yA] at H;exact H)|(simp only [yA] at H ⊢;exact H)
      have zP : (if 0 < (yY) then (yY) else 0) = yH:=yA
      by_cases c7 : (wrap64 (yu + (wrap64 ((((fu l0 xU).f4).size : Int) * (1 + (yH)))))) > 40000
      ·rw [if_pos c7] at H
       have c7b0 : decide (40000 < (wrap64 (yu + (wrap64 ((((fu l0 xU).f4).size : Int) * (1 + (yH))))))) = true:=decide_eq_true c7
       clear c7
       obtain rfl:=Option.some.inj H
       have yw : 0 ≤ (xU : Int):=of_decide_eq_true (by first|(with_reducible assumption)|assumption)
       have yx : xU < (l0.length : Int):=of_decide_eq_true (by first|(with_reducible assumption)|assumption)
       obtain ⟨za,yI,xY,xZ,yc,yg,yh⟩:=qc zM.out xU yw yx
       cases yI
       replace xY:=(HB.out.cell (World.block_lt_of_cell? w _ xY)).trans xY
       replace xZ:=(HB.out.cell (World.block_lt_of_cell? w _ xZ)).trans xZ
       replace yc:=(HB.out.cell (World.block_lt_of_cell? w _ yc)).trans yc
       replace yg:=(HB.out.cell (World.block_lt_of_cell? w _ yg)).trans yg
       replace yh:=(HB.out.cell (World.block_lt_of_cell? w _ yh)).trans yh
       replace yw:=eq_true yw
       replace yx:=eq_true yx
       go_wp2_with (first|((with_reducible refine bH (N:=5) rfl ?_);refine bF ?hg (N:=5) ?hd (cs:=#[.int .i64 0,.int .i64 0,.bool false,.int .i64 0,.string (⟨#[]⟩ : ByteArray)]) (t:=75) ?hr ?_;(case hd=>rfl);(case hg=>rfl);(case hr=>first|(go_simp;done)|(go_simp;rfl));intro xV hg w8 hbox hb;have yB:=Aside0.mk (aK (by repeat (first|(with_reducible first|exact HB.out|apply av|apply ak|apply au)|exact HB.out)) hb);have yC:=Aside0.mk (hbox);have yD:=Aside0.mk ((by rw [hg];exact (aM (by repeat (first|(with_reducible first|exact HB.out|apply av|apply ak|apply au)|exact HB.out))) : w.heap.size ≤ xV));have yE:=Aside0.mk ((by rw [hg];exact (aM (by repeat (first|(with_reducible first|exact HB.out|apply av|apply ak|apply au)|exact HB.out))) : w.heap.size ≤ xV));clear HB;have HB:=yB;have xS:=yC;have ze:=yD;have yF:=yE;clear yB yC yD yE;clear hb hbox hg;have zA : w8.cell? ⟨xV,0,none⟩ = some (.int .i64 0):=(ah xS.out 0).trans rfl;have zB : w8.cell? ⟨xV,1,none⟩ = some (.int .i64 0):=(ah xS.out 1).trans rfl;have zC : w8.cell? ⟨xV,2,none⟩ = some (.bool false):=(ah xS.out 2).trans rfl;have zD : w8.cell? ⟨xV,3,none⟩ = some (.int .i64 0):=(ah xS.out 3).trans rfl;have zF : w8.cell? ⟨xV,4,none⟩ = some (.string (⟨#[]⟩ : ByteArray)):=(ah xS.out 4).trans rfl;have zG:=aj xS.out 0;have zH:=aj xS.out 1;have zI:=aj xS.out 2;have zJ:=aj xS.out 3;have zK:=aj xS.out 4))
       go_ret
       exact ⟨by first|rfl|(simp [aX,aY] <;> rfl)|(simp only [← yG,← yA];first|rfl|(simp [aX,aY] <;> rfl))|(simp [*,aX,aY] <;> rfl),by repeat (first|(with_reducible first|exact HB.out|apply av|apply ak|apply au|refine aG ?_ yF.out)|exact HB.out)⟩
      ·rw [if_neg c7] at H
       have c7b0 : decide (40000 < (wrap64 (yu + (wrap64 ((((fu l0 xU).f4).size : Int) * (1 + (yH))))))) = false:=decide_eq_false c7
       clear c7
       have H':=Aside0.mk H
       clear H
       have yw : 0 ≤ (xU : Int):=of_decide_eq_true (by first|(with_reducible assumption)|assumption)
       have yx : xU < (l0.length : Int):=of_decide_eq_true (by first|(with_reducible assumption)|assumption)
       obtain ⟨za,yI,xY,xZ,yc,yg,yh⟩:=qc zM.out xU yw yx
       cases yI
       replace xY:=(HB.out.cell (World.block_lt_of_cell? w _ xY)).trans xY
       replace xZ:=(HB.out.cell (World.block_lt_of_cell? w _ xZ)).trans xZ
       replace yc:=(HB.out.cell (World.block_lt_of_cell? w _ yc)).trans yc
       replace yg:=(HB.out.cell (World.block_lt_of_cell? w _ yg)).trans yg
       replace yh:=(HB.out.cell (World.block_lt_of_cell? w _ yh)).trans yh
       replace yw:=eq_true yw
       replace yx:=eq_true yx
       go_wp2_with (first|((with_reducible refine bH (N:=5) rfl ?_);refine bF ?hg (N:=5) ?hd (cs:=#[.int .i64 0,.int .i64 0,.bool false,.int .i64 0,.string (⟨#[]⟩ : ByteArray)]) (t:=75) ?hr ?_;(case hd=>rfl);(case hg=>rfl);(case hr=>first|(go_simp;done)|(go_simp;rfl));intro xV hg zf hbox hb;have yB:=Aside0.mk (aK (by repeat (first|(with_reducible first|exact HB.out|apply av|apply ak|apply au)|exact HB.out)) hb);have yC:=Aside0.mk (hbox);have yD:=Aside0.mk ((by rw [hg];exact (aM (by repeat (first|(with_reducible first|exact HB.out|apply av|apply ak|apply au)|exact HB.out))) : w.heap.size ≤ xV));have yE:=Aside0.mk ((by rw [hg];exact (aM (by repeat (first|(with_reducible first|exact HB.out|apply av|apply ak|apply au)|exact HB.out))) : w.heap.size ≤ xV));clear HB;have HB:=yB;have xS:=yC;have ze:=yD;have yF:=yE;clear yB yC yD yE;clear hb hbox hg;have zk : zf.cell? ⟨xV,0,none⟩ = some (.int .i64 0):=(ah xS.out 0).trans rfl;have zl : zf.cell? ⟨xV,1,none⟩ = some (.int .i64 0):=(ah xS.out 1).trans rfl;have zm : zf.cell? ⟨xV,2,none⟩ = some (.bool false):=(ah xS.out 2).trans rfl;have zn : zf.cell? ⟨xV,3,none⟩ = some (.int .i64 0):=(ah xS.out 3).trans rfl;have zo : zf.cell? ⟨xV,4,none⟩ = some (.string (⟨#[]⟩ : ByteArray)):=(ah xS.out 4).trans rfl;have zq:=aj xS.out 0;have zu:=aj xS.out 1;have zw:=aj xS.out 2;have zx:=aj xS.out 3;have zy:=aj xS.out 4))
       go_roundg k1
       case measure=>have:=zN.out;omega
       case rel=>exact ⟨(wrap64 (yu + (wrap64 ((((fu l0 xU).f4).size : Int) * (1 + (yH)))))),(wrap64 (xU + 1)),(by first|rfl|(simp;done)|(simp only [← yA] <;> (first|rfl|simp))|(simp [*];done)),(by first|rfl|(simp;done)|(simp [*];done)),H',⟨by have:=zN.out;omega⟩,⟨by repeat (first|(with_reducible first|exact HB.out|apply av|apply ak|apply au|refine aG ?_ yF.out)|exact HB.out)⟩⟩
     ·rw [if_neg c4] at H
      exact absurd H (by simp)
    ·rw [if_neg c3] at H
     exact absurd H (by simp)
   ·rw [if_neg c2] at H
    have c2b0 : decide (xU < (l0.length : Int)) = false:=decide_eq_false c2
    clear c2
    obtain rfl:=Option.some.inj H
    go_wp2
    go_ret
    exact ⟨by first|rfl|(simp [aX,aY] <;> rfl)|(simp [*,aX,aY] <;> rfl),by repeat (first|(with_reducible first|exact HB.out|apply av|apply ak|apply au)|exact HB.out)⟩
def gQ.f (a0 : ByteArray) : Option (Int × Bool × Int × ByteArray × (List (S29)) × (List (S48))):=some (3,false,0,a0,([] : List (S29)),([] : List (S48)))
set_option maxHeartbeats 8000000 in
set_option maxRecDepth 100000 in
theorem gQ.calls (a0 : ByteArray) (r1 : Int) (r2 : Bool) (r3 : Int) (r4 : ByteArray) (r5 : List (S29)) (r6 : List (S48)) (w : World) (h : gQ.f a0 = some (r1,r2,r3,r4,r5,r6)) :
  Calls Tryd.prog 15 #[.string a0] w fun e w'=>∃ yJ yK : Value,e = .returned (.agg #[.int .i64 r1,.bool r2,.int .i64 r3,.string r4,yJ,yK]) ∧ Kd.R k29 29 w' w.heap.size (fun k_=>some k_ ≠ (yK : Value).ownBlock) yJ r5 ∧ Kd.R k48 48 w' w.heap.size (fun k_=>some k_ ≠ (yJ : Value).ownBlock) yK r6 ∧ Below w.heap.size w w':=by
 have zL:=Tryd.underlying29
 have HB:=Aside0.mk (Below.refl w.heap.size w)
 have H : (some (3,false,0,a0,([] : List (S29)),([] : List (S48)))) = some (r1,r2,r3,r4,r5,r6):=h
 clear h
 simp only [Option.some.injEq,Prod.mk.injEq] at H
 obtain ⟨rfl,rfl,rfl,rfl,rfl,rfl⟩:=H
 go_enter Tryd.func15,Tryd.ntmps15
 go_wp2_with (first|((with_reducible refine bH (N:=2) rfl ?_);refine bF ?hg (N:=2) ?hd (cs:=#[.int .i64 0,.bool false,.int .i64 0,.string (⟨#[]⟩ : ByteArray),.slice none 0 0,.slice none 0 0]) (t:=29) ?hr ?_;(case hd=>rfl);(case hg=>rfl);(case hr=>first|(go_simp;done)|(go_simp;rfl));intro yj hg w2 hbox hb;have yB:=Aside0.mk (aK (by repeat (first|(with_reducible first|exact HB.out|apply av|apply ak|apply au)|exact HB.out)) hb);have yC:=Aside0.mk (hbox);have yD:=Aside0.mk ((by rw [hg];exact (aM (by repeat (first|(with_reducible first|exact HB.out|apply av|apply ak|apply au)|exact HB.out))) : w.heap.size ≤ yj));have yE:=Aside0.mk ((by rw [hg];exact (aM (by repeat (first|(with_reducible first|exact HB.out|apply av|apply ak|apply au)|exact HB.out))) : w.heap.size ≤ yj));clear HB;have HB:=yB;have xW:=yC;have zQ:=yD;have zh:=yE;clear yB yC yD yE;clear hb hbox hg;have yL : w2.cell? ⟨yj,0,none⟩ = some (.int .i64 0):=(ah xW.out 0).trans rfl;have yM : w2.cell? ⟨yj,1,none⟩ = some (.bool false):=(ah xW.out 1).trans rfl;have yN : w2.cell? ⟨yj,2,none⟩ = some (.int .i64 0):=(ah xW.out 2).trans rfl;have yO : w2.cell? ⟨yj,3,none⟩ = some (.string (⟨#[]⟩ : ByteArray)):=(ah xW.out 3).trans rfl;have yP : w2.cell? ⟨yj,4,none⟩ = some (.slice none 0 0):=(ah xW.out 4).trans rfl;have yQ : w2.cell? ⟨yj,5,none⟩ = some (.slice none 0 0):=(ah xW.out 5).trans rfl;have yR:=aj xW.out 0;have yS:=aj xW.out 1;have yT:=aj xW.out 2;have yU:=aj xW.out 3;have yV:=aj xW.out 4;have yX:=aj xW.out 5))
 refine bodyPost_ret (results_cell_row rfl _ _ yj 29 #[.int .i64 3,.bool false,.int .i64 0,.string a0,.slice none 0 0,.slice none 0 0] (0,0) _ rfl (by (with_reducible repeat (first|apply aA|apply aD|apply ay));refine aQ (cs:=#[.int .i64 3,.bool false,.int .i64 0,.string a0,.slice none 0 0,.slice none 0 0]) ?_ 5 _ rfl;(with_reducible repeat (first|apply aA|apply aD|apply ay));refine aQ (cs:=#[.int .i64 3,.bool false,.int .i64 0,.string a0,.slice none 0 0,.slice none 0 0]) ?_ 4 _ rfl;(with_reducible repeat (first|apply aA|apply aD|apply ay));refine aQ (cs:=#[.int .i64 3,.bool false,.int .i64 0,.string (⟨#[]⟩ : ByteArray),.slice none 0 0,.slice none 0 0]) ?_ 3 _ rfl;(with_reducible repeat (first|apply aA|apply aD|apply ay));refine aQ (cs:=#[.int .i64 3,.bool false,.int .i64 0,.string (⟨#[]⟩ : ByteArray),.slice none 0 0,.slice none 0 0]) ?_ 2 _ rfl;(with_reducible repeat (first|apply aA|apply aD|apply ay));refine aQ (cs:=#[.int .i64 3,.bool false,.int .i64 0,.string (⟨#[]⟩ : ByteArray),.slice none 0 0,.slice none 0 0]) ?_ 1 _ rfl;(with_reducible repeat (first|apply aA|apply aD|apply ay));refine aQ (cs:=#[.int .i64 0,.bool false,.int .i64 0,.string (⟨#[]⟩ : ByteArray),.slice none 0 0,.slice none 0 0]) ?_ 0 _ rfl;(with_reducible repeat (first|apply aA|apply aD|apply ay));exact xW.out) Tryd.underlying29 rfl (by kernel_rfl)) rfl ?_
 exact ⟨_,_,by first|rfl|(simp [aX,aY] <;> rfl)|(simp [*,aX,aY] <;> rfl),by first|exact Kd.jf _ _ _ _ _|exact Kd.iZ _ _ _ _ _|exact Kd.eT _ _ _ _ _|exact Kd.jG _ _ _ _ _|exact Kd.jJ _ _ _ _ _,by first|exact Kd.jf _ _ _ _ _|exact Kd.iZ _ _ _ _ _|exact Kd.eT _ _ _ _ _|exact Kd.jG _ _ _ _ _|exact Kd.jJ _ _ _ _ _,by repeat (first|(with_reducible first|exact HB.out|apply av|apply ak|apply au|refine aG ?_ zh.out)|exact HB.out)⟩
def gT.f (a0 : Int) : Option (Int × Bool × Int × ByteArray × (List (S29)) × (List (S48))):=some (2,false,a0,(⟨#[]⟩ : ByteArray),([] : List (S29)),([] : List (S48)))
set_option maxHeartbeats 8000000 in
set_option maxRecDepth 100000 in
theorem gT.calls (a0 : Int) (r1 : Int) (r2 : Bool) (r3 : Int) (r4 : ByteArray) (r5 : List (S29)) (r6 : List (S48)) (w : World) (h : gT.f a0 = some (r1,r2,r3,r4,r5,r6)) :
  Calls Tryd.prog 16 #[.int .i64 a0] w fun e w'=>∃ yJ yK : Value,e = .returned (.agg #[.int .i64 r1,.bool r2,.int .i64 r3,.string r4,yJ,yK]) ∧ Kd.R k29 29 w' w.heap.size (fun k_=>some k_ ≠ (yK : Value).ownBlock) yJ r5 ∧ Kd.R k48 48 w' w.heap.size (fun k_=>some k_ ≠ (yJ : Value).ownBlock) yK r6 ∧ Below w.heap.size w w':=by
 have zL:=Tryd.underlying29
 have HB:=Aside0.mk (Below.refl w.heap.size w)
 have H : (some (2,false,a0,(⟨#[]⟩ : ByteArray),([] : List (S29)),([] : List (S48)))) = some (r1,r2,r3,r4,r5,r6):=h
 clear h
 simp only [Option.some.injEq,Prod.mk.injEq] at H
 obtain ⟨rfl,rfl,rfl,rfl,rfl,rfl⟩:=H
 go_enter Tryd.func16,Tryd.ntmps16
 go_wp2_with (first|((with_reducible refine bH (N:=2) rfl ?_);refine bF ?hg (N:=2) ?hd (cs:=#[.int .i64 0,.bool false,.int .i64 0,.string (⟨#[]⟩ : ByteArray),.slice none 0 0,.slice none 0 0]) (t:=29) ?hr ?_;(case hd=>rfl);(case hg=>rfl);(case hr=>first|(go_simp;done)|(go_simp;rfl));intro yt hg w2 hbox hb;have yB:=Aside0.mk (aK (by repeat (first|(with_reducible first|exact HB.out|apply av|apply ak|apply au)|exact HB.out)) hb);have yC:=Aside0.mk (hbox);have yD:=Aside0.mk ((by rw [hg];exact (aM (by repeat (first|(with_reducible first|exact HB.out|apply av|apply ak|apply au)|exact HB.out))) : w.heap.size ≤ yt));have yE:=Aside0.mk ((by rw [hg];exact (aM (by repeat (first|(with_reducible first|exact HB.out|apply av|apply ak|apply au)|exact HB.out))) : w.heap.size ≤ yt));clear HB;have HB:=yB;have xX:=yC;have zR:=yD;have zi:=yE;clear yB yC yD yE;clear hb hbox hg;have yL : w2.cell? ⟨yt,0,none⟩ = some (.int .i64 0):=(ah xX.out 0).trans rfl;have yM : w2.cell? ⟨yt,1,none⟩ = some (.bool false):=(ah xX.out 1).trans rfl;have yN : w2.cell? ⟨yt,2,none⟩ = some (.int .i64 0):=(ah xX.out 2).trans rfl;have yO : w2.cell? ⟨yt,3,none⟩ = some (.string (⟨#[]⟩ : ByteArray)):=(ah xX.out 3).trans rfl;have yP : w2.cell? ⟨yt,4,none⟩ = some (.slice none 0 0):=(ah xX.out 4).trans rfl;have yQ : w2.cell? ⟨yt,5,none⟩ = some (.slice none 0 0):=(ah xX.out 5).trans rfl;have yR:=aj xX.out 0;have yS:=aj xX.out 1;have yT:=aj xX.out 2;have yU:=aj xX.out 3;have yV:=aj xX.out 4;have yX:=aj xX.out 5))
 refine bodyPost_ret (results_cell_row rfl _ _ yt 29 #[.int .i64 2,.bool false,.int .i64 a0,.string (⟨#[]⟩ : ByteArray),.slice none 0 0,.slice none 0 0] (0,0) _ rfl (by (with_reducible repeat (first|apply aA|apply aD|apply ay));refine aQ (cs:=#[.int .i64 2,.bool false,.int .i64 a0,.string (⟨#[]⟩ : ByteArray),.slice none 0 0,.slice none 0 0]) ?_ 5 _ rfl;(with_reducible repeat (first|apply aA|apply aD|apply ay));refine aQ (cs:=#[.int .i64 2,.bool false,.int .i64 a0,.string (⟨#[]⟩ : ByteArray),.slice none 0 0,.slice none 0 0]) ?_ 4 _ rfl;(with_reducible repeat (first|apply aA|apply aD|apply ay));refine aQ (cs:=#[.int .i64 2,.bool false,.int .i64 a0,.string (⟨#[]⟩ : ByteArray),.slice none 0 0,.slice none 0 0]) ?_ 3 _ rfl;(with_reducible repeat (first|apply aA|apply aD|apply ay));refine aQ (cs:=#[.int .i64 2,.bool false,.int .i64 0,.string (⟨#[]⟩ : ByteArray),.slice none 0 0,.slice none 0 0]) ?_ 2 _ rfl;(with_reducible repeat (first|apply aA|apply aD|apply ay));refine aQ (cs:=#[.int .i64 2,.bool false,.int .i64 0,.string (⟨#[]⟩ : ByteArray),.slice none 0 0,.slice none 0 0]) ?_ 1 _ rfl;(with_reducible repeat (first|apply aA|apply aD|apply ay));refine aQ (cs:=#[.int .i64 0,.bool false,.int .i64 0,.string (⟨#[]⟩ : ByteArray),.slice none 0 0,.slice none 0 0]) ?_ 0 _ rfl;(with_reducible repeat (first|apply aA|apply aD|apply ay));exact xX.out) Tryd.underlying29 rfl (by kernel_rfl)) rfl ?_
 exact ⟨_,_,by first|rfl|(simp [aX,aY] <;> rfl)|(simp [*,aX,aY] <;> rfl),by first|exact Kd.jf _ _ _ _ _|exact Kd.iZ _ _ _ _ _|exact Kd.eT _ _ _ _ _|exact Kd.jG _ _ _ _ _|exact Kd.jJ _ _ _ _ _,by first|exact Kd.jf _ _ _ _ _|exact Kd.iZ _ _ _ _ _|exact Kd.eT _ _ _ _ _|exact Kd.jG _ _ _ _ _|exact Kd.jJ _ _ _ _ _,by repeat (first|(with_reducible first|exact HB.out|apply av|apply ak|apply au|refine aG ?_ zi.out)|exact HB.out)⟩
end Go.Proofs.YtnkkbiabloodaaaDoor.GVa
