/- Written by this session's own program (wip/gen.py) out of the translation: plain Lean functions of the Go functions, and proofs that the calls come to their answers. No conditions beside those in the statements. -/
import Derived.Test.YtpflenjhmeaeoaaGreatDoorCp
import Derived.Test.YtpflenjhmeaeoaaGreatDoorGUtx0
namespace Go.Proofs.YtpflenjhmeaeoaaGreatDoor.GUt
open Go.RowKit Go.Proofs.YtpflenjhmeaeoaaGreatDoorW.PrintWords Go.Proofs.YtpflenjhmeaeoaaGreatDoorW.PrintLast Go.Proofs.YtpflenjhmeaeoaaGreatDoorW.PrintMore
attribute [local go_sem] fJ fK gH gI eO eP fM fO
set_option linter.unusedVariables false
set_option linter.unusedSimpArgs false
mutual
def aT.l0 : Nat → Int → List (S69) → Int → Int → Option (Int)
 | 0,_,_,_,_=>none
 | k + 1,x3,x18,DT,x20=>if x20 < DT then (if 0 ≤ x20 then (if x20 < (x18.length : Int) then (aT.l1 k (wrap64 (x3 + (wrap64 ((wrap64 ((wrap64 (20 + (((aj x18 x20).f0).size : Int))) + (((aj x18 x20).f1).size : Int))) + (wrap64 (10 * (((aj x18 x20).f3).length : Int))))))) x18 DT x20 ((aj x18 x20).f2) (((aj x18 x20).f2).length : Int) 0 ((aj x18 x20).f0) ((aj x18 x20).f1) ((aj x18 x20).f2) ((aj x18 x20).f3) ((aj x18 x20).f4) ((aj x18 x20).f5) ((aj x18 x20).f6)) else (none)) else (none)) else (some x3)
def aT.l1 : Nat → Int → List (S69) → Int → Int → List ByteArray → Int → Int → ByteArray → ByteArray → List ByteArray → List (S88) → Int → Int → List (S71) → Option (Int)
 | 0,_,_,_,_,_,_,_,_,_,_,_,_,_,_=>none
 | k + 1,x3,x18,DT,x20,x40,x41,Eh,Dz,DC,DF,DI,DJ,DK,Cz=>if Eh < x41 then (if 0 ≤ Eh then (if Eh < (x40.length : Int) then (aT.l1 k (wrap64 (x3 + (wrap64 (10 + ((iO ByteArray.empty x40 Eh).size : Int))))) x18 DT x20 x40 x41 (wrap64 (Eh + 1)) Dz DC DF DI DJ DK Cz) else (none)) else (none)) else (aT.l2 k x3 x18 DT x20 Cz (Cz.length : Int) 0)
def aT.l2 : Nat → Int → List (S69) → Int → Int → List (S71) → Int → Int → Option (Int)
 | 0,_,_,_,_,_,_,_=>none
 | k + 1,x3,x18,DT,x20,Em,x54,x55=>if x55 < x54 then (if 0 ≤ x55 then (if x55 < (Em.length : Int) then (aT.l2 k (wrap64 (x3 + (wrap64 ((wrap64 (10 + (((gJ Em x55).f0).size : Int))) + (((gJ Em x55).f1).size : Int))))) x18 DT x20 Em x54 (wrap64 (x55 + 1))) else (none)) else (none)) else (if x3 > 20000 then (some 20001) else (aT.l0 k x3 x18 DT (wrap64 (x20 + 1))))
end
def aT.f (k : Nat) (Bv : ByteArray) (Ca : ByteArray) (Ce : Int) (Cg : Int) (Ch : Bool) (Bj : List (S69)) : Option (Int):=aT.l0 k (wrap64 ((Bv.size : Int) + (Ca.size : Int))) Bj (Bj.length : Int) 0
theorem aT.dQ : ∀ k,(∀ y0 y1 y2 y3,LeO (aT.l0 k y0 y1 y2 y3) (aT.l0 (k + 1) y0 y1 y2 y3)) ∧ (∀ y0 y1 y2 y3 y4 y5 y6 y7 y8 y9 FD FE FH y13,LeO (aT.l1 k y0 y1 y2 y3 y4 y5 y6 y7 y8 y9 FD FE FH y13) (aT.l1 (k + 1) y0 y1 y2 y3 y4 y5 y6 y7 y8 y9 FD FE FH y13)) ∧ (∀ y0 y1 y2 y3 y4 y5 y6,LeO (aT.l2 k y0 y1 y2 y3 y4 y5 y6) (aT.l2 (k + 1) y0 y1 y2 y3 y4 y5 y6))
 | 0=>⟨fun _ _ _ _ r h=>by simp [aT.l0] at h,fun _ _ _ _ _ _ _ _ _ _ _ _ _ _ r h=>by simp [aT.l1] at h,fun _ _ _ _ _ _ _ r h=>by simp [aT.l2] at h⟩
 | k + 1=>by
  obtain ⟨CZ,ih1,ih2⟩:=aT.dQ k
  refine ⟨?_,?_,?_⟩
  ·intro y0 y1 y2 y3
   unfold aT.l0
   repeat' first
   | (with_reducible exact CZ _ _ _ _)
   | (with_reducible exact ih1 _ _ _ _ _ _ _ _ _ _ _ _ _ _)
   | (with_reducible exact ih2 _ _ _ _ _ _ _)
   | (with_reducible exact LeO.refl _)
   | (with_reducible exact LeO.none _)
   | (with_reducible refine LeO.ite ?_ ?_)
   | (with_reducible refine LeO.bind ?_ (fun _=>?_))
   | exact CZ _ _ _ _
   | exact ih1 _ _ _ _ _ _ _ _ _ _ _ _ _ _
   | exact ih2 _ _ _ _ _ _ _
   | exact LeO.none _
   | refine LeO.ite ?_ ?_
   | refine LeO.bind ?_ (fun _=>?_)
  ·intro y0 y1 y2 y3 y4 y5 y6 y7 y8 y9 FD FE FH y13
   unfold aT.l1
   repeat' first
   | (with_reducible exact CZ _ _ _ _)
   | (with_reducible exact ih1 _ _ _ _ _ _ _ _ _ _ _ _ _ _)
   | (with_reducible exact ih2 _ _ _ _ _ _ _)
   | (with_reducible exact LeO.refl _)
   | (with_reducible exact LeO.none _)
   | (with_reducible refine LeO.ite ?_ ?_)
   | (with_reducible refine LeO.bind ?_ (fun _=>?_))
   | exact CZ _ _ _ _
   | exact ih1 _ _ _ _ _ _ _ _ _ _ _ _ _ _
   | exact ih2 _ _ _ _ _ _ _
   | exact LeO.none _
   | refine LeO.ite ?_ ?_
   | refine LeO.bind ?_ (fun _=>?_)
  ·intro y0 y1 y2 y3 y4 y5 y6
   unfold aT.l2
   repeat' first
   | (with_reducible exact CZ _ _ _ _)
   | (with_reducible exact ih1 _ _ _ _ _ _ _ _ _ _ _ _ _ _)
   | (with_reducible exact ih2 _ _ _ _ _ _ _)
   | (with_reducible exact LeO.refl _)
   | (with_reducible exact LeO.none _)
   | (with_reducible refine LeO.ite ?_ ?_)
   | (with_reducible refine LeO.bind ?_ (fun _=>?_))
   | exact CZ _ _ _ _
   | exact ih1 _ _ _ _ _ _ _ _ _ _ _ _ _ _
   | exact ih2 _ _ _ _ _ _ _
   | exact LeO.none _
   | refine LeO.ite ?_ ?_
   | refine LeO.bind ?_ (fun _=>?_)
theorem aT.mono : ∀ a0 a1 a2 a3 a4 a5 k,LeO (aT.f k a0 a1 a2 a3 a4 a5) (aT.f (k + 1) a0 a1 a2 a3 a4 a5):=by
 intro a0 a1 a2 a3 a4 a5 k
 obtain ⟨CZ,ih1,ih2⟩:=aT.dQ k
 unfold aT.f
 repeat' first
   | (with_reducible exact CZ _ _ _ _)
   | (with_reducible exact ih1 _ _ _ _ _ _ _ _ _ _ _ _ _ _)
   | (with_reducible exact ih2 _ _ _ _ _ _ _)
   | (with_reducible exact LeO.refl _)
   | (with_reducible exact LeO.none _)
   | (with_reducible refine LeO.ite ?_ ?_)
   | (with_reducible refine LeO.bind ?_ (fun _=>?_))
   | exact CZ _ _ _ _
   | exact ih1 _ _ _ _ _ _ _ _ _ _ _ _ _ _
   | exact ih2 _ _ _ _ _ _ _
   | exact LeO.none _
   | refine LeO.ite ?_ ?_
   | refine LeO.bind ?_ (fun _=>?_)
set_option maxHeartbeats 8000000 in
set_option maxRecDepth 100000 in
theorem aT.calls (k : Nat) (Bv : ByteArray) (Ca : ByteArray) (Ce : Int) (Cg : Int) (Ch : Bool) (Dn : Option Addr) (Cm : Nat) (Bj : List (S69)) (r : Int) (w : World) (DU : Kd.C k69 w Dn Bj.length Bj) (DV : Bj.length ≤ Cm) (h : aT.f k Bv Ca Ce Cg Ch Bj = some r) :
  Calls Tryz.prog 15 #[.agg #[.string Bv,.string Ca,.int .i64 Ce,.int .i64 Cg,.bool Ch,.slice Dn Bj.length Cm]] w fun e w'=>e = .returned (.int .i64 r) ∧ Below w.heap.size w w':=by
 have FI:=Tryz.underlying49
 have GN:=Tryz.underlying69
 have GQ:=Tryz.underlying71
 have Ei:=Aside0.mk DU
 have Gf:=Aside0.mk DV
 clear DU DV
 have HB:=Aside0.mk (Below.refl w.heap.size w)
 have H : (aT.l0 k (wrap64 ((Bv.size : Int) + (Ca.size : Int))) Bj (Bj.length : Int) 0) = some r:=h
 clear h
 have H':=Aside0.mk H
 clear H
 go_enter Tryz.func15,Tryz.ntmps15
 go_wp2_with (first|((with_reducible refine cZ (N:=1) rfl ?_);refine dA ?hg (N:=1) ?hd (cs:=#[.string Bv,.string Ca,.int .i64 Ce,.int .i64 Cg,.bool Ch,.slice Dn Bj.length Cm]) (t:=49) ?hr ?_;(case hd=>rfl);(case hg=>rfl);(case hr=>first|(go_simp;done)|(go_simp;rfl));intro Bz hg w2 hbox hb;have BU:=Aside0.mk (aK hb_ hb);have BX:=Aside0.mk (hbox);have BZ:=Aside0.mk ((by rw [hg];exact (aM hb_) : w.heap.size ≤ Bz));have CX:=Aside0.mk ((by rw [hg];exact (aM hb_) : w.heap.size ≤ Bz));clear HB;have HB:=BU;have Bq:=BX;have Gg:=BZ;have Gh:=CX;clear BU BX BZ CX;clear hb hbox hg;have DZ : w2.cell? ⟨Bz,0,none⟩ = some (.string Bv):=(ah Bq.out 0).trans rfl;have D5 : w2.cell? ⟨Bz,1,none⟩ = some (.string Ca):=(ah Bq.out 1).trans rfl;have FJ : w2.cell? ⟨Bz,2,none⟩ = some (.int .i64 Ce):=(ah Bq.out 2).trans rfl;have FL : w2.cell? ⟨Bz,3,none⟩ = some (.int .i64 Cg):=(ah Bq.out 3).trans rfl;have FM : w2.cell? ⟨Bz,4,none⟩ = some (.bool Ch):=(ah Bq.out 4).trans rfl;have FN : w2.cell? ⟨Bz,5,none⟩ = some (.slice Dn Bj.length Cm):=(ah Bq.out 5).trans rfl;have D6:=ak Bq.out 0;have D7:=ak Bq.out 1;have FP:=ak Bq.out 2;have FQ:=ak Bq.out 3;have FR:=ak Bq.out 4;have FT:=ak Bq.out 5))
 go_loopg [3,20] k (fun kq v3 v20 w'=>∃ (Ci : Int) (Bg : Int),v3 = .int .i64 Ci ∧ v20 = .int .i64 Bg ∧ Aside0 (aT.l0 kq Ci Bj (Bj.length : Int) Bg = some r) ∧ Aside0 (kq ≤ k) ∧ Aside0 (w'.heap[Bz]? = some (.cells #[.string Bv,.string Ca,.int .i64 Ce,.int .i64 Cg,.bool Ch,(.slice Dn Bj.length Cm)] 49 (0,0))) ∧ Aside0 (Below w.heap.size w w'))
 case atStart=>exact ⟨(wrap64 ((Bv.size : Int) + (Ca.size : Int))),(0),(by first|rfl|(simp;done)|(simp [*];done)),(by first|rfl|(simp;done)|(simp [*];done)),H',⟨Nat.le_refl _⟩,⟨by (with_reducible repeat (first|apply ay|apply aG|apply aD));exact Bq.out⟩,⟨hb_⟩⟩
 case round =>
  clear H'
  obtain ⟨Ci,Bg,rfl,rfl,HA,DL,Bq,HB⟩:=hrel
  cases gk with
  | zero=>exact absurd HA.out (by simp [aT.l0])
  | succ k1 =>
   have H:=HA.out
   clear HA
   simp only [aT.l0] at H
   by_cases c4 : Bg < (Bj.length : Int)
   ·rw [if_pos c4] at H
    have c4b0 : decide (Bg < (Bj.length : Int)) = true:=decide_eq_true c4
    clear c4
    by_cases c5 : 0 ≤ Bg
    ·rw [if_pos c5] at H
     have c5b0 : decide (0 ≤ Bg) = true:=decide_eq_true c5
     clear c5
     by_cases c6 : Bg < (Bj.length : Int)
     ·rw [if_pos c6] at H
      have c6b0 : decide (Bg < (Bj.length : Int)) = true:=decide_eq_true c6
      clear c6
      have H':=Aside0.mk H
      clear H
      have D8 : 0 ≤ (Bg : Int):=of_decide_eq_true (by first|(with_reducible assumption)|assumption)
      have D9 : Bg < (Bj.length : Int):=of_decide_eq_true (by first|(with_reducible assumption)|assumption)
      obtain ⟨Ct,BH,BI,BJ,BK,C8,Cn,FU,CB,CF,CG,CJ,CK,CO,CP,Db,Dc,Df,Dh,Di,Dj⟩:=lM Ei.out Bg D8 D9
      cases FU
      replace CB:=(HB.out.cell (World.block_lt_of_cell? w _ CB)).trans CB
      replace CF:=(HB.out.cell (World.block_lt_of_cell? w _ CF)).trans CF
      replace CG:=(HB.out.cell (World.block_lt_of_cell? w _ CG)).trans CG
      replace CJ:=(HB.out.cell (World.block_lt_of_cell? w _ CJ)).trans CJ
      replace CK:=(HB.out.cell (World.block_lt_of_cell? w _ CK)).trans CK
      replace CO:=(HB.out.cell (World.block_lt_of_cell? w _ CO)).trans CO
      replace CP:=(HB.out.cell (World.block_lt_of_cell? w _ CP)).trans CP
      have DN:=Aside0.mk Dc
      have En:=Aside0.mk Db
      clear Dc Db
      have Eo:=Aside0.mk Dh
      have Ep:=Aside0.mk Df
      clear Dh Df
      have DR:=Aside0.mk Dj
      have Er:=Aside0.mk Di
      clear Dj Di
      replace D8:=eq_true D8
      replace D9:=eq_true D9
      go_wp2_with (first|((with_reducible refine cZ (N:=5) rfl ?_);refine dA ?hg (N:=5) ?hd (cs:=#[.string (⟨#[]⟩ : ByteArray),.string (⟨#[]⟩ : ByteArray),.slice none 0 0,.slice none 0 0,.int .i64 0,.int .i64 0,.slice none 0 0]) (t:=69) ?hr ?_;(case hd=>rfl);(case hg=>rfl);(case hr=>first|(go_simp;done)|(go_simp;rfl));intro Br hg w7 hbox hb;have BU:=Aside0.mk (aN (g:=Bz) (o:=.cells #[.string Bv,.string Ca,.int .i64 Ce,.int .i64 Cg,.bool Ch,.slice (some Ct) Bj.length Cm] 49 (0,0)) (bk_ Bq.out) hb);have BX:=Aside0.mk (aK hb_ hb);have BZ:=Aside0.mk (hbox);have CX:=Aside0.mk ((by rw [hg];exact (aM hb_) : w.heap.size ≤ Br));have Dp:=Aside0.mk ((by rw [hg];exact (aM hb_) : w.heap.size ≤ Br));have Dq:=Aside0.mk ((by rw [hg];exact Nat.ne_of_lt (dh (g:=Bz) (o:=.cells #[.string Bv,.string Ca,.int .i64 Ce,.int .i64 Cg,.bool Ch,.slice (some Ct) Bj.length Cm] 49 (0,0)) (bk_ Bq.out)) : Bz ≠ Br));have Dr:=Aside0.mk ((by rw [hg];exact Nat.ne_of_gt (dh (g:=Bz) (o:=.cells #[.string Bv,.string Ca,.int .i64 Ce,.int .i64 Cg,.bool Ch,.slice (some Ct) Bj.length Cm] 49 (0,0)) (bk_ Bq.out)) : Br ≠ Bz));clear Bq;clear HB;have Bq:=BU;have HB:=BX;have Bo:=BZ;have Gi:=CX;have Gj:=Dp;have Bw:=Dq;have Cw:=Dr;clear BU BX BZ CX Dp Dq Dr;clear hb hbox hg;have GR:=Cw.out;have GU:=Bw.out;have FV : w7.cell? ⟨Br,0,none⟩ = some (.string (⟨#[]⟩ : ByteArray)):=(ah Bo.out 0).trans rfl;have FW : w7.cell? ⟨Br,1,none⟩ = some (.string (⟨#[]⟩ : ByteArray)):=(ah Bo.out 1).trans rfl;have FX : w7.cell? ⟨Br,2,none⟩ = some (.slice none 0 0):=(ah Bo.out 2).trans rfl;have FY : w7.cell? ⟨Br,3,none⟩ = some (.slice none 0 0):=(ah Bo.out 3).trans rfl;have FZ : w7.cell? ⟨Br,4,none⟩ = some (.int .i64 0):=(ah Bo.out 4).trans rfl;have F3 : w7.cell? ⟨Br,5,none⟩ = some (.int .i64 0):=(ah Bo.out 5).trans rfl;have F4 : w7.cell? ⟨Br,6,none⟩ = some (.slice none 0 0):=(ah Bo.out 6).trans rfl;have F5:=ak Bo.out 0;have F6:=ak Bo.out 1;have F7:=ak Bo.out 2;have F8:=ak Bo.out 3;have F9:=ak Bo.out 4;have Ga:=ak Bo.out 5;have Gb:=ak Bo.out 6))
      go_loopg [3,42] k1 (fun kq v3 v42 w'=>∃ (Dt : Int) (BG : Int),v3 = .int .i64 Dt ∧ v42 = .int .i64 BG ∧ Aside0 (aT.l1 kq Dt Bj (Bj.length : Int) Bg ((aj Bj Bg).f2) (((aj Bj Bg).f2).length : Int) BG ((aj Bj Bg).f0) ((aj Bj Bg).f1) ((aj Bj Bg).f2) ((aj Bj Bg).f3) ((aj Bj Bg).f4) ((aj Bj Bg).f5) ((aj Bj Bg).f6) = some r) ∧ Aside0 (kq ≤ k1) ∧ Aside0 (w'.heap[Bz]? = some (.cells #[.string Bv,.string Ca,.int .i64 Ce,.int .i64 Cg,.bool Ch,(.slice (some Ct) Bj.length Cm)] 49 (0,0))) ∧ Aside0 (w'.heap[Br]? = some (.cells #[.string ((aj Bj Bg).f0),.string ((aj Bj Bg).f1),(.slice BH ((aj Bj Bg).f2).length BI),(.slice BJ ((aj Bj Bg).f3).length BK),.int .i64 ((aj Bj Bg).f4),.int .i64 ((aj Bj Bg).f5),(.slice C8 ((aj Bj Bg).f6).length Cn)] 69 (0,0))) ∧ Aside0 (Below w.heap.size w w'))
      case atStart=>exact ⟨(wrap64 (Ci + (wrap64 ((wrap64 ((wrap64 (20 + (((aj Bj Bg).f0).size : Int))) + (((aj Bj Bg).f1).size : Int))) + (wrap64 (10 * (((aj Bj Bg).f3).length : Int))))))),(0),(by first|rfl|(simp;done)|(simp [*];done)),(by first|rfl|(simp;done)|(simp [*];done)),H',⟨Nat.le_refl _⟩,⟨by (with_reducible repeat (first|apply ay|apply aG|apply aD));refine bL ?_ Bw.out _;(with_reducible repeat (first|apply ay|apply aG|apply aD));refine bL ?_ Bw.out _;(with_reducible repeat (first|apply ay|apply aG|apply aD));refine bL ?_ Bw.out _;(with_reducible repeat (first|apply ay|apply aG|apply aD));refine bL ?_ Bw.out _;(with_reducible repeat (first|apply ay|apply aG|apply aD));refine bL ?_ Bw.out _;(with_reducible repeat (first|apply ay|apply aG|apply aD));refine bL ?_ Bw.out _;(with_reducible repeat (first|apply ay|apply aG|apply aD));refine bL ?_ Bw.out _;(with_reducible repeat (first|apply ay|apply aG|apply aD));exact Bq.out⟩,⟨by (with_reducible repeat (first|apply ay|apply aG|apply aD));refine bN (cs:=#[.string ((aj Bj Bg).f0),.string ((aj Bj Bg).f1),.slice BH ((aj Bj Bg).f2).length BI,.slice BJ ((aj Bj Bg).f3).length BK,.int .i64 ((aj Bj Bg).f4),.int .i64 ((aj Bj Bg).f5),.slice none 0 0]) ?_ 6 _ rfl;(with_reducible repeat (first|apply ay|apply aG|apply aD));refine bN (cs:=#[.string ((aj Bj Bg).f0),.string ((aj Bj Bg).f1),.slice BH ((aj Bj Bg).f2).length BI,.slice BJ ((aj Bj Bg).f3).length BK,.int .i64 ((aj Bj Bg).f4),.int .i64 0,.slice none 0 0]) ?_ 5 _ rfl;(with_reducible repeat (first|apply ay|apply aG|apply aD));refine bN (cs:=#[.string ((aj Bj Bg).f0),.string ((aj Bj Bg).f1),.slice BH ((aj Bj Bg).f2).length BI,.slice BJ ((aj Bj Bg).f3).length BK,.int .i64 0,.int .i64 0,.slice none 0 0]) ?_ 4 _ rfl;(with_reducible repeat (first|apply ay|apply aG|apply aD));refine bN (cs:=#[.string ((aj Bj Bg).f0),.string ((aj Bj Bg).f1),.slice BH ((aj Bj Bg).f2).length BI,.slice none 0 0,.int .i64 0,.int .i64 0,.slice none 0 0]) ?_ 3 _ rfl;(with_reducible repeat (first|apply ay|apply aG|apply aD));refine bN (cs:=#[.string ((aj Bj Bg).f0),.string ((aj Bj Bg).f1),.slice none 0 0,.slice none 0 0,.int .i64 0,.int .i64 0,.slice none 0 0]) ?_ 2 _ rfl;(with_reducible repeat (first|apply ay|apply aG|apply aD));refine bN (cs:=#[.string ((aj Bj Bg).f0),.string (⟨#[]⟩ : ByteArray),.slice none 0 0,.slice none 0 0,.int .i64 0,.int .i64 0,.slice none 0 0]) ?_ 1 _ rfl;(with_reducible repeat (first|apply ay|apply aG|apply aD));refine bN (cs:=#[.string (⟨#[]⟩ : ByteArray),.string (⟨#[]⟩ : ByteArray),.slice none 0 0,.slice none 0 0,.int .i64 0,.int .i64 0,.slice none 0 0]) ?_ 0 _ rfl;(with_reducible repeat (first|apply ay|apply aG|apply aD));exact Bo.out⟩,⟨hb_⟩⟩
      case round =>
       clear H'
       obtain ⟨Dt,BG,rfl,rfl,HA,Ee,Bq,Bo,HB⟩:=hrel
       cases gk with
       | zero=>exact absurd HA.out (by simp [aT.l1])
       | succ k2 =>
        have H:=HA.out
        clear HA
        simp only [aT.l1] at H
        by_cases c10 : BG < (((aj Bj Bg).f2).length : Int)
        ·rw [if_pos c10] at H
         have c10b0 : decide (BG < (((aj Bj Bg).f2).length : Int)) = true:=decide_eq_true c10
         clear c10
         by_cases c11 : 0 ≤ BG
         ·rw [if_pos c11] at H
          have c11b0 : decide (0 ≤ BG) = true:=decide_eq_true c11
          clear c11
          by_cases c12 : BG < (((aj Bj Bg).f2).length : Int)
          ·rw [if_pos c12] at H
           have c12b0 : decide (BG < (((aj Bj Bg).f2).length : Int)) = true:=decide_eq_true c12
           clear c12
           have H':=Aside0.mk H
           clear H
           have Ea : 0 ≤ (BG : Int):=of_decide_eq_true (by first|(with_reducible assumption)|assumption)
           have Eb : BG < (((aj Bj Bg).f2).length : Int):=of_decide_eq_true (by first|(with_reducible assumption)|assumption)
           obtain ⟨Gl,Gc,CQ⟩:=Kd.iN DN.out BG Ea Eb
           cases Gc
           replace CQ:=(HB.out.cell (World.block_lt_of_cell? w _ CQ)).trans CQ
           replace Ea:=eq_true Ea
           replace Eb:=eq_true Eb
           go_wp2
           go_roundg k2
           case measure=>have:=DL.out;have:=Ee.out;omega
           case rel=>exact ⟨(wrap64 (Dt + (wrap64 (10 + ((iO ByteArray.empty ((aj Bj Bg).f2) BG).size : Int))))),(wrap64 (BG + 1)),(by first|rfl|(simp;done)|(simp [*];done)),(by first|rfl|(simp;done)|(simp [*];done)),H',⟨by have:=DL.out;have:=Ee.out;omega⟩,⟨by (with_reducible repeat (first|apply ay|apply aG|apply aD));exact Bq.out⟩,⟨by (with_reducible repeat (first|apply ay|apply aG|apply aD));exact Bo.out⟩,⟨hb_⟩⟩
          ·rw [if_neg c12] at H
           exact absurd H (by simp)
         ·rw [if_neg c11] at H
          exact absurd H (by simp)
        ·rw [if_neg c10] at H
         have c10b0 : decide (BG < (((aj Bj Bg).f2).length : Int)) = false:=decide_eq_false c10
         clear c10
         have H':=Aside0.mk H
         clear H
         have Gm:=Cw.out
         have Gn:=Bw.out
         have Es : wr.cell? ⟨Br,0,none⟩ = some (.string ((aj Bj Bg).f0)):=(ah Bo.out 0).trans rfl
         have Et : wr.cell? ⟨Br,1,none⟩ = some (.string ((aj Bj Bg).f1)):=(ah Bo.out 1).trans rfl
         have Eu : wr.cell? ⟨Br,2,none⟩ = some (.slice BH ((aj Bj Bg).f2).length BI):=(ah Bo.out 2).trans rfl
         have Ew : wr.cell? ⟨Br,3,none⟩ = some (.slice BJ ((aj Bj Bg).f3).length BK):=(ah Bo.out 3).trans rfl
         have Ey : wr.cell? ⟨Br,4,none⟩ = some (.int .i64 ((aj Bj Bg).f4)):=(ah Bo.out 4).trans rfl
         have Ez : wr.cell? ⟨Br,5,none⟩ = some (.int .i64 ((aj Bj Bg).f5)):=(ah Bo.out 5).trans rfl
         have EA : wr.cell? ⟨Br,6,none⟩ = some (.slice C8 ((aj Bj Bg).f6).length Cn):=(ah Bo.out 6).trans rfl
         have EB:=ak Bo.out 0
         have EC:=ak Bo.out 1
         have ED:=ak Bo.out 2
         have EF:=ak Bo.out 3
         have EG:=ak Bo.out 4
         have EH:=ak Bo.out 5
         have EI:=ak Bo.out 6
         go_wp2
         go_loopg [3,55] k2 (fun kq v3 v55 w'=>∃ (CY : Int) (BF : Int),v3 = .int .i64 CY ∧ v55 = .int .i64 BF ∧ Aside0 (aT.l2 kq CY Bj (Bj.length : Int) Bg ((aj Bj Bg).f6) (((aj Bj Bg).f6).length : Int) BF = some r) ∧ Aside0 (kq ≤ k2) ∧ Aside0 (w'.heap[Bz]? = some (.cells #[.string Bv,.string Ca,.int .i64 Ce,.int .i64 Cg,.bool Ch,(.slice (some Ct) Bj.length Cm)] 49 (0,0))) ∧ Aside0 (w'.heap[Br]? = some (.cells #[.string ((aj Bj Bg).f0),.string ((aj Bj Bg).f1),(.slice BH ((aj Bj Bg).f2).length BI),(.slice BJ ((aj Bj Bg).f3).length BK),.int .i64 ((aj Bj Bg).f4),.int .i64 ((aj Bj Bg).f5),(.slice C8 ((aj Bj Bg).f6).length Cn)] 69 (0,0))) ∧ Aside0 (Below w.heap.size w w'))
         case atStart=>exact ⟨(Dt),(0),(by first|rfl|(simp;done)|(simp [*];done)),(by first|rfl|(simp;done)|(simp [*];done)),H',⟨Nat.le_refl _⟩,⟨by (with_reducible repeat (first|apply ay|apply aG|apply aD));exact Bq.out⟩,⟨by (with_reducible repeat (first|apply ay|apply aG|apply aD));exact Bo.out⟩,⟨hb_⟩⟩
         case round =>
          clear H'
          obtain ⟨CY,BF,rfl,rfl,HA,EJ,Bq,Bo,HB⟩:=hrel
          cases gk with
          | zero=>exact absurd HA.out (by simp [aT.l2])
          | succ k3 =>
           have H:=HA.out
           clear HA
           simp only [aT.l2] at H
           by_cases c15 : BF < (((aj Bj Bg).f6).length : Int)
           ·rw [if_pos c15] at H
            have c15b0 : decide (BF < (((aj Bj Bg).f6).length : Int)) = true:=decide_eq_true c15
            clear c15
            by_cases c16 : 0 ≤ BF
            ·rw [if_pos c16] at H
             have c16b0 : decide (0 ≤ BF) = true:=decide_eq_true c16
             clear c16
             by_cases c17 : BF < (((aj Bj Bg).f6).length : Int)
             ·rw [if_pos c17] at H
              have c17b0 : decide (BF < (((aj Bj Bg).f6).length : Int)) = true:=decide_eq_true c17
              clear c17
              have H':=Aside0.mk H
              clear H
              have Ec : 0 ≤ (BF : Int):=of_decide_eq_true (by first|(with_reducible assumption)|assumption)
              have Ed : BF < (((aj Bj Bg).f6).length : Int):=of_decide_eq_true (by first|(with_reducible assumption)|assumption)
              obtain ⟨Du,Gd,CS,CU⟩:=mQ DR.out BF Ec Ed
              cases Gd
              replace CS:=(HB.out.cell (World.block_lt_of_cell? w _ CS)).trans CS
              replace CU:=(HB.out.cell (World.block_lt_of_cell? w _ CU)).trans CU
              replace Ec:=eq_true Ec
              replace Ed:=eq_true Ed
              go_wp2_with (first|((with_reducible refine cZ (N:=9) rfl ?_);refine dA ?hg (N:=9) ?hd (cs:=#[.string (⟨#[]⟩ : ByteArray),.string (⟨#[]⟩ : ByteArray)]) (t:=71) ?hr ?_;(case hd=>rfl);(case hg=>rfl);(case hr=>first|(go_simp;done)|(go_simp;rfl));intro Cu hg EK hbox hb;have BU:=Aside0.mk (aN (g:=Bz) (o:=.cells #[.string Bv,.string Ca,.int .i64 Ce,.int .i64 Cg,.bool Ch,.slice (some Ct) Bj.length Cm] 49 (0,0)) (bk_ Bq.out) hb);have BX:=Aside0.mk (aN (g:=Br) (o:=.cells #[.string ((aj Bj Bg).f0),.string ((aj Bj Bg).f1),.slice BH ((aj Bj Bg).f2).length BI,.slice BJ ((aj Bj Bg).f3).length BK,.int .i64 ((aj Bj Bg).f4),.int .i64 ((aj Bj Bg).f5),.slice (some Du) ((aj Bj Bg).f6).length Cn] 69 (0,0)) (bk_ Bo.out) hb);have BZ:=Aside0.mk (aK hb_ hb);have CX:=Aside0.mk (hbox);have Dp:=Aside0.mk ((by rw [hg];exact (aM hb_) : w.heap.size ≤ Cu));have Dq:=Aside0.mk ((by rw [hg];exact (aM hb_) : w.heap.size ≤ Cu));have Dr:=Aside0.mk ((by rw [hg];exact Nat.ne_of_lt (dh (g:=Bz) (o:=.cells #[.string Bv,.string Ca,.int .i64 Ce,.int .i64 Cg,.bool Ch,.slice (some Ct) Bj.length Cm] 49 (0,0)) (bk_ Bq.out)) : Bz ≠ Cu));have Gp:=Aside0.mk ((by rw [hg];exact Nat.ne_of_gt (dh (g:=Bz) (o:=.cells #[.string Bv,.string Ca,.int .i64 Ce,.int .i64 Cg,.bool Ch,.slice (some Ct) Bj.length Cm] 49 (0,0)) (bk_ Bq.out)) : Cu ≠ Bz));have Gq:=Aside0.mk ((by rw [hg];exact Nat.ne_of_lt (dh (g:=Br) (o:=.cells #[.string ((aj Bj Bg).f0),.string ((aj Bj Bg).f1),.slice BH ((aj Bj Bg).f2).length BI,.slice BJ ((aj Bj Bg).f3).length BK,.int .i64 ((aj Bj Bg).f4),.int .i64 ((aj Bj Bg).f5),.slice (some Du) ((aj Bj Bg).f6).length Cn] 69 (0,0)) (bk_ Bo.out)) : Br ≠ Cu));have Gr:=Aside0.mk ((by rw [hg];exact Nat.ne_of_gt (dh (g:=Br) (o:=.cells #[.string ((aj Bj Bg).f0),.string ((aj Bj Bg).f1),.slice BH ((aj Bj Bg).f2).length BI,.slice BJ ((aj Bj Bg).f3).length BK,.int .i64 ((aj Bj Bg).f4),.int .i64 ((aj Bj Bg).f5),.slice (some Du) ((aj Bj Bg).f6).length Cn] 69 (0,0)) (bk_ Bo.out)) : Cu ≠ Br));clear Bq;clear Bo;clear HB;have Bq:=BU;have Bo:=BX;have HB:=BZ;have Dk:=CX;have Gs:=Dp;have Gt:=Dq;have Co:=Dr;have Dl:=Gp;have Cq:=Gq;have Dm:=Gr;clear BU BX BZ CX Dp Dq Dr Gp Gq Gr;clear hb hbox hg;have Gu:=Dl.out;have Gv:=Co.out;have Gw:=Dm.out;have Gx:=Cq.out;have EL : EK.cell? ⟨Cu,0,none⟩ = some (.string (⟨#[]⟩ : ByteArray)):=(ah Dk.out 0).trans rfl;have EM : EK.cell? ⟨Cu,1,none⟩ = some (.string (⟨#[]⟩ : ByteArray)):=(ah Dk.out 1).trans rfl;have EN:=ak Dk.out 0;have EO:=ak Dk.out 1))
              go_roundg k3
              case measure=>have:=DL.out;have:=Ee.out;have:=EJ.out;omega
              case rel=>exact ⟨(wrap64 (CY + (wrap64 ((wrap64 (10 + (((gJ ((aj Bj Bg).f6) BF).f0).size : Int))) + (((gJ ((aj Bj Bg).f6) BF).f1).size : Int))))),(wrap64 (BF + 1)),(by first|rfl|(simp;done)|(simp [*];done)),(by first|rfl|(simp;done)|(simp [*];done)),H',⟨by have:=DL.out;have:=Ee.out;have:=EJ.out;omega⟩,⟨by (with_reducible repeat (first|apply ay|apply aG|apply aD));refine bL ?_ Co.out _;(with_reducible repeat (first|apply ay|apply aG|apply aD));refine bL ?_ Co.out _;(with_reducible repeat (first|apply ay|apply aG|apply aD));exact Bq.out⟩,⟨by (with_reducible repeat (first|apply ay|apply aG|apply aD));refine bL ?_ Cq.out _;(with_reducible repeat (first|apply ay|apply aG|apply aD));refine bL ?_ Cq.out _;(with_reducible repeat (first|apply ay|apply aG|apply aD));exact Bo.out⟩,⟨hb_⟩⟩
             ·rw [if_neg c17] at H
              exact absurd H (by simp)
            ·rw [if_neg c16] at H
             exact absurd H (by simp)
           ·rw [if_neg c15] at H
            have c15b0 : decide (BF < (((aj Bj Bg).f6).length : Int)) = false:=decide_eq_false c15
            clear c15
            by_cases Ef : CY > 20000
            ·rw [if_pos Ef] at H
             have c22b0 : decide (20000 < CY) = true:=decide_eq_true Ef
             clear Ef
             obtain rfl:=Option.some.inj H
             go_wp2
             go_ret
             exact ⟨by first|rfl|(simp [aY,aZ] <;> rfl)|(simp [*,aY,aZ] <;> rfl),hb_⟩
            ·rw [if_neg Ef] at H
             have c22b0 : decide (20000 < CY) = false:=decide_eq_false Ef
             clear Ef
             have H':=Aside0.mk H
             clear H
             go_wp2
             go_roundg k3
             case measure=>have:=DL.out;have:=Ee.out;have:=EJ.out;omega
             case rel=>exact ⟨(CY),(wrap64 (Bg + 1)),(by first|rfl|(simp;done)|(simp [*];done)),(by first|rfl|(simp;done)|(simp [*];done)),H',⟨by have:=DL.out;have:=Ee.out;have:=EJ.out;omega⟩,⟨by (with_reducible repeat (first|apply ay|apply aG|apply aD));exact Bq.out⟩,⟨hb_⟩⟩
     ·rw [if_neg c6] at H
      exact absurd H (by simp)
    ·rw [if_neg c5] at H
     exact absurd H (by simp)
   ·rw [if_neg c4] at H
    have c4b0 : decide (Bg < (Bj.length : Int)) = false:=decide_eq_false c4
    clear c4
    obtain rfl:=Option.some.inj H
    go_wp2
    go_ret
    exact ⟨by first|rfl|(simp [aY,aZ] <;> rfl)|(simp [*,aY,aZ] <;> rfl),hb_⟩
def aU.l0 : Nat → Int → List (S51) → Int → Int → Option (Bool)
 | 0,_,_,_,_=>none
 | k + 1,x3,x7,x8,x9=>if x9 < x8 then (if 0 ≤ x9 then (if x9 < (x7.length : Int) then ((aT.f k ((aC x7 x9).f1.f0) ((aC x7 x9).f1.f1) ((aC x7 x9).f1.f2) ((aC x7 x9).f1.f3) ((aC x7 x9).f1.f4) ((aC x7 x9).f1.f5)).bind fun Cv=>(if (wrap64 (x3 + (wrap64 ((wrap64 (10 + (((aC x7 x9).f0).size : Int))) + Cv)))) > 40000 then (some false) else (aU.l0 k (wrap64 (x3 + (wrap64 ((wrap64 (10 + (((aC x7 x9).f0).size : Int))) + Cv)))) x7 x8 (wrap64 (x9 + 1))))) else (none)) else (none)) else (some true)
def aU.f (k : Nat) (Bv : Int) (AZ : List (S51)) : Option (Bool):=aU.l0 k 0 AZ (AZ.length : Int) 0
theorem aU.dQ : ∀ k,(∀ y0 y1 y2 y3,LeO (aU.l0 k y0 y1 y2 y3) (aU.l0 (k + 1) y0 y1 y2 y3))
 | 0=>fun _ _ _ _ r h=>by simp [aU.l0] at h
 | k + 1=>by
  have CZ:=aU.dQ k
  ·intro y0 y1 y2 y3
   unfold aU.l0
   repeat' first
   | (with_reducible exact CZ _ _ _ _)
   | (with_reducible exact aT.mono _ _ _ _ _ _ _)
   | (with_reducible exact LeO.refl _)
   | (with_reducible exact LeO.none _)
   | (with_reducible refine LeO.ite ?_ ?_)
   | (with_reducible refine LeO.bind ?_ (fun _=>?_))
   | exact CZ _ _ _ _
   | exact aT.mono _ _ _ _ _ _ _
   | exact LeO.none _
   | refine LeO.ite ?_ ?_
   | refine LeO.bind ?_ (fun _=>?_)
theorem aU.mono : ∀ a0 a1 k,LeO (aU.f k a0 a1) (aU.f (k + 1) a0 a1):=by
 intro a0 a1 k
 have CZ:=aU.dQ k
 unfold aU.f
 repeat' first
   | (with_reducible exact CZ _ _ _ _)
   | (with_reducible exact aT.mono _ _ _ _ _ _ _)
   | (with_reducible exact LeO.refl _)
   | (with_reducible exact LeO.none _)
   | (with_reducible refine LeO.ite ?_ ?_)
   | (with_reducible refine LeO.bind ?_ (fun _=>?_))
   | exact CZ _ _ _ _
   | exact aT.mono _ _ _ _ _ _ _
   | exact LeO.none _
   | refine LeO.ite ?_ ?_
   | refine LeO.bind ?_ (fun _=>?_)
def aU.T5 : Bool × List (List Nat × List Nat):=(true,[([],[]),([],[]),([1],[1]),([2],[2]),([3],[3]),([],[]),([5],[5]),([6],[6]),([4,7],[4,7]),([0,8],[0,8]),([9,7,0,1,2,3,4,5,6,7,8,9],[0,9])])
def aU.B5 : List Nat:=[0,0,2,6,14,0,32,96,254,511,1023]
theorem aU.qG : gV .any (opsOf Tryz.f4 5) = aU.T5:=by kernel_rfl
theorem aU.mE : fQ aU.T5.2 aU.B5 = true:=by kernel_rfl
set_option maxHeartbeats 8000000 in
set_option maxRecDepth 100000 in
theorem aU.calls (k : Nat) (Bv : Int) (Dv : Option Addr) (Cc : Nat) (AZ : List (S51)) (r : Bool) (w : World) (DW : Kd.C k51 w Dv AZ.length AZ) (DX : AZ.length ≤ Cc) (h : aU.f k Bv AZ = some r) :
  Calls Tryz.prog 4 #[.agg #[.int .u64 Bv,.slice Dv AZ.length Cc]] w fun e w'=>e = .returned (.bool r) ∧ Below w.heap.size w w':=by
 have GV:=Tryz.underlying25
 have GX:=Tryz.underlying51
 have FI:=Tryz.underlying49
 have DY:=Aside0.mk DW
 have Gy:=Aside0.mk DX
 clear DW DX
 have HB:=Aside0.mk (Below.refl w.heap.size w)
 have H : (aU.l0 k 0 AZ (AZ.length : Int) 0) = some r:=h
 clear h
 have H':=Aside0.mk H
 clear H
 go_enter Tryz.func4,Tryz.ntmps4
 go_wp2_with (first|((with_reducible refine cZ (N:=1) rfl ?_);refine dA ?hg (N:=1) ?hd (cs:=#[.int .u64 Bv,.slice Dv AZ.length Cc]) (t:=25) ?hr ?_;(case hd=>rfl);(case hg=>rfl);(case hr=>first|(go_simp;done)|(go_simp;rfl));intro BD hg w2 hbox hb;have BU:=Aside0.mk (aK hb_ hb);have BX:=Aside0.mk (hbox);have BZ:=Aside0.mk ((by rw [hg];exact (aM hb_) : w.heap.size ≤ BD));have CX:=Aside0.mk ((by rw [hg];exact (aM hb_) : w.heap.size ≤ BD));clear HB;have HB:=BU;have Bp:=BX;have Gz:=BZ;have GA:=CX;clear BU BX BZ CX;clear hb hbox hg;have DZ : w2.cell? ⟨BD,0,none⟩ = some (.int .u64 Bv):=(ah Bp.out 0).trans rfl;have D5 : w2.cell? ⟨BD,1,none⟩ = some (.slice Dv AZ.length Cc):=(ah Bp.out 1).trans rfl;have D6:=ak Bp.out 0;have D7:=ak Bp.out 1))
 go_loopg [3,9] k (fun kq v3 v9 w'=>∃ (Ci : Int) (Bf : Int),v3 = .int .i64 Ci ∧ v9 = .int .i64 Bf ∧ Aside0 (aU.l0 kq Ci AZ (AZ.length : Int) Bf = some r) ∧ Aside0 (kq ≤ k) ∧ Aside0 (w'.heap[BD]? = some (.cells #[.int .u64 Bv,(.slice Dv AZ.length Cc)] 25 (0,0))) ∧ Aside0 (Below w.heap.size w w'))
 case atStart=>exact ⟨(0),(0),(by first|rfl|(simp;done)|(simp [*];done)),(by first|rfl|(simp;done)|(simp [*];done)),H',⟨Nat.le_refl _⟩,⟨by (with_reducible repeat (first|apply ay|apply aG|apply aD));exact Bp.out⟩,⟨hb_⟩⟩
 case round =>
  clear H'
  obtain ⟨Ci,Bf,rfl,rfl,HA,DL,Bp,HB⟩:=hrel
  cases gk with
  | zero=>exact absurd HA.out (by simp [aU.l0])
  | succ k1 =>
   have H:=HA.out
   clear HA
   simp only [aU.l0] at H
   by_cases c4 : Bf < (AZ.length : Int)
   ·rw [if_pos c4] at H
    have c4b0 : decide (Bf < (AZ.length : Int)) = true:=decide_eq_true c4
    clear c4
    by_cases c5 : 0 ≤ Bf
    ·rw [if_pos c5] at H
     have c5b0 : decide (0 ≤ Bf) = true:=decide_eq_true c5
     clear c5
     by_cases c6 : Bf < (AZ.length : Int)
     ·rw [if_pos c6] at H
      have c6b0 : decide (Bf < (AZ.length : Int)) = true:=decide_eq_true c6
      clear c6
      replace H:=Option.bind_eq_some_iff.mp H
      obtain ⟨Cv,GD,H⟩:=H
      replace H : (if (wrap64 (Ci + (wrap64 ((wrap64 (10 + (((aC AZ Bf).f0).size : Int))) + Cv)))) > 40000 then (some false) else (aU.l0 k1 (wrap64 (Ci + (wrap64 ((wrap64 (10 + (((aC AZ Bf).f0).size : Int))) + Cv)))) AZ (AZ.length : Int) (wrap64 (Bf + 1)))) = some r:=H
      have A7:=Aside0.mk GD
      clear GD
      by_cases c8 : (wrap64 (Ci + (wrap64 ((wrap64 (10 + (((aC AZ Bf).f0).size : Int))) + Cv)))) > 40000
      ·rw [if_pos c8] at H
       have c8b0 : decide (40000 < (wrap64 (Ci + (wrap64 ((wrap64 (10 + (((aC AZ Bf).f0).size : Int))) + Cv))))) = true:=decide_eq_true c8
       clear c8
       obtain rfl:=Option.some.inj H
       have C9 : 0 ≤ (Bf : Int):=of_decide_eq_true (by first|(with_reducible assumption)|assumption)
       have Da : Bf < (AZ.length : Int):=of_decide_eq_true (by first|(with_reducible assumption)|assumption)
       obtain ⟨Cb,Bt,Bu,e108,BL,BN,BO,BP,BQ,BR,BS,Cj,Ck⟩:=iA DY.out Bf C9 Da
       cases e108
       replace BL:=(HB.out.cell (World.block_lt_of_cell? w _ BL)).trans BL
       replace BN:=(HB.out.cell (World.block_lt_of_cell? w _ BN)).trans BN
       replace BO:=(HB.out.cell (World.block_lt_of_cell? w _ BO)).trans BO
       replace BP:=(HB.out.cell (World.block_lt_of_cell? w _ BP)).trans BP
       replace BQ:=(HB.out.cell (World.block_lt_of_cell? w _ BQ)).trans BQ
       replace BR:=(HB.out.cell (World.block_lt_of_cell? w _ BR)).trans BR
       replace BS:=(HB.out.cell (World.block_lt_of_cell? w _ BS)).trans BS
       have CV:=Aside0.mk Ck
       have CW:=Aside0.mk Cj
       clear Ck Cj
       replace C9:=eq_true C9
       replace Da:=eq_true Da
       try go_wp2_with (first|((with_reducible refine cZ (N:=5) rfl ?_);refine dA ?hg (N:=5) ?hd (cs:=#[.string (⟨#[]⟩ : ByteArray),.string (⟨#[]⟩ : ByteArray),.string (⟨#[]⟩ : ByteArray),.int .i64 0,.int .i64 0,.bool false,.slice none 0 0]) (t:=51) ?hr ?_;(case hd=>rfl);(case hg=>rfl);(case hr=>first|(go_simp;done)|(go_simp;rfl));intro Bh hg w9 hbox hb;have BU:=Aside0.mk (aN (g:=BD) (o:=.cells #[.int .u64 Bv,.slice (some Cb) AZ.length Cc] 25 (0,0)) (bk_ Bp.out) hb);have BX:=Aside0.mk (aK hb_ hb);have BZ:=Aside0.mk (hbox);have CX:=Aside0.mk ((by rw [hg];exact (aM hb_) : w.heap.size ≤ Bh));have Dp:=Aside0.mk ((by rw [hg];exact (aM hb_) : w.heap.size ≤ Bh));have Dq:=Aside0.mk ((by rw [hg];exact Nat.ne_of_lt (dh (g:=BD) (o:=.cells #[.int .u64 Bv,.slice (some Cb) AZ.length Cc] 25 (0,0)) (bk_ Bp.out)) : BD ≠ Bh));have Dr:=Aside0.mk ((by rw [hg];exact Nat.ne_of_gt (dh (g:=BD) (o:=.cells #[.int .u64 Bv,.slice (some Cb) AZ.length Cc] 25 (0,0)) (bk_ Bp.out)) : Bh ≠ BD));clear Bp;clear HB;have Bp:=BU;have HB:=BX;have Bl:=BZ;have Ej:=CX;have El:=Dp;have Bn:=Dq;have Cr:=Dr;clear BU BX BZ CX Dp Dq Dr;clear hb hbox hg;have GI:=Cr.out;have GJ:=Bn.out;have EP : w9.cell? ⟨Bh,0,none⟩ = some (.string (⟨#[]⟩ : ByteArray)):=(ah Bl.out 0).trans rfl;have ER : w9.cell? ⟨Bh,1,none⟩ = some (.string (⟨#[]⟩ : ByteArray)):=(ah Bl.out 1).trans rfl;have ES : w9.cell? ⟨Bh,2,none⟩ = some (.string (⟨#[]⟩ : ByteArray)):=(ah Bl.out 2).trans rfl;have ET : w9.cell? ⟨Bh,3,none⟩ = some (.int .i64 0):=(ah Bl.out 3).trans rfl;have EU : w9.cell? ⟨Bh,4,none⟩ = some (.int .i64 0):=(ah Bl.out 4).trans rfl;have EW : w9.cell? ⟨Bh,5,none⟩ = some (.bool false):=(ah Bl.out 5).trans rfl;have EX : w9.cell? ⟨Bh,6,none⟩ = some (.slice none 0 0):=(ah Bl.out 6).trans rfl;have EY:=ak Bl.out 0;have EZ:=ak Bl.out 1;have E5:=ak Bl.out 2;have E8:=ak Bl.out 3;have E9:=ak Bl.out 4;have Fa:=ak Bl.out 5;have Fb:=ak Bl.out 6))
       have BU : Aside0 ((((((((w9.setCell ⟨Bh,0,none⟩ (.string ((aC AZ Bf).f0))).setCell ⟨Bh,1,none⟩ (.string ((aC AZ Bf).f1.f0))).setCell ⟨Bh,2,none⟩ (.string ((aC AZ Bf).f1.f1))).setCell ⟨Bh,3,none⟩ (.int .i64 ((aC AZ Bf).f1.f2))).setCell ⟨Bh,4,none⟩ (.int .i64 ((aC AZ Bf).f1.f3))).setCell ⟨Bh,5,none⟩ (.bool ((aC AZ Bf).f1.f4))).setCell ⟨Bh,6,none⟩ (.slice Bt ((aC AZ Bf).f1.f5).length Bu)).heap[BD]? = some (.cells #[.int .u64 Bv,.slice (some Cb) AZ.length Cc] 25 (0,0))):=⟨by (with_reducible repeat (first|apply ay|apply aG|apply aD));refine bL ?_ Bn.out _;(with_reducible repeat (first|apply ay|apply aG|apply aD));refine bL ?_ Bn.out _;(with_reducible repeat (first|apply ay|apply aG|apply aD));refine bL ?_ Bn.out _;(with_reducible repeat (first|apply ay|apply aG|apply aD));refine bL ?_ Bn.out _;(with_reducible repeat (first|apply ay|apply aG|apply aD));refine bL ?_ Bn.out _;(with_reducible repeat (first|apply ay|apply aG|apply aD));refine bL ?_ Bn.out _;(with_reducible repeat (first|apply ay|apply aG|apply aD));refine bL ?_ Bn.out _;(with_reducible repeat (first|apply ay|apply aG|apply aD));exact Bp.out⟩
       have BX : Aside0 ((((((((w9.setCell ⟨Bh,0,none⟩ (.string ((aC AZ Bf).f0))).setCell ⟨Bh,1,none⟩ (.string ((aC AZ Bf).f1.f0))).setCell ⟨Bh,2,none⟩ (.string ((aC AZ Bf).f1.f1))).setCell ⟨Bh,3,none⟩ (.int .i64 ((aC AZ Bf).f1.f2))).setCell ⟨Bh,4,none⟩ (.int .i64 ((aC AZ Bf).f1.f3))).setCell ⟨Bh,5,none⟩ (.bool ((aC AZ Bf).f1.f4))).setCell ⟨Bh,6,none⟩ (.slice Bt ((aC AZ Bf).f1.f5).length Bu)).heap[Bh]? = some (.cells #[.string ((aC AZ Bf).f0),.string ((aC AZ Bf).f1.f0),.string ((aC AZ Bf).f1.f1),.int .i64 ((aC AZ Bf).f1.f2),.int .i64 ((aC AZ Bf).f1.f3),.bool ((aC AZ Bf).f1.f4),.slice Bt ((aC AZ Bf).f1.f5).length Bu] 51 (0,0))):=⟨by (with_reducible repeat (first|apply ay|apply aG|apply aD));refine bN (cs:=#[.string ((aC AZ Bf).f0),.string ((aC AZ Bf).f1.f0),.string ((aC AZ Bf).f1.f1),.int .i64 ((aC AZ Bf).f1.f2),.int .i64 ((aC AZ Bf).f1.f3),.bool ((aC AZ Bf).f1.f4),.slice none 0 0]) ?_ 6 _ rfl;(with_reducible repeat (first|apply ay|apply aG|apply aD));refine bN (cs:=#[.string ((aC AZ Bf).f0),.string ((aC AZ Bf).f1.f0),.string ((aC AZ Bf).f1.f1),.int .i64 ((aC AZ Bf).f1.f2),.int .i64 ((aC AZ Bf).f1.f3),.bool false,.slice none 0 0]) ?_ 5 _ rfl;(with_reducible repeat (first|apply ay|apply aG|apply aD));refine bN (cs:=#[.string ((aC AZ Bf).f0),.string ((aC AZ Bf).f1.f0),.string ((aC AZ Bf).f1.f1),.int .i64 ((aC AZ Bf).f1.f2),.int .i64 0,.bool false,.slice none 0 0]) ?_ 4 _ rfl;(with_reducible repeat (first|apply ay|apply aG|apply aD));refine bN (cs:=#[.string ((aC AZ Bf).f0),.string ((aC AZ Bf).f1.f0),.string ((aC AZ Bf).f1.f1),.int .i64 0,.int .i64 0,.bool false,.slice none 0 0]) ?_ 3 _ rfl;(with_reducible repeat (first|apply ay|apply aG|apply aD));refine bN (cs:=#[.string ((aC AZ Bf).f0),.string ((aC AZ Bf).f1.f0),.string (⟨#[]⟩ : ByteArray),.int .i64 0,.int .i64 0,.bool false,.slice none 0 0]) ?_ 2 _ rfl;(with_reducible repeat (first|apply ay|apply aG|apply aD));refine bN (cs:=#[.string ((aC AZ Bf).f0),.string (⟨#[]⟩ : ByteArray),.string (⟨#[]⟩ : ByteArray),.int .i64 0,.int .i64 0,.bool false,.slice none 0 0]) ?_ 1 _ rfl;(with_reducible repeat (first|apply ay|apply aG|apply aD));refine bN (cs:=#[.string (⟨#[]⟩ : ByteArray),.string (⟨#[]⟩ : ByteArray),.string (⟨#[]⟩ : ByteArray),.int .i64 0,.int .i64 0,.bool false,.slice none 0 0]) ?_ 0 _ rfl;(with_reducible repeat (first|apply ay|apply aG|apply aD));exact Bl.out⟩
       have BZ : Aside0 (Below w.heap.size w (((((((w9.setCell ⟨Bh,0,none⟩ (.string ((aC AZ Bf).f0))).setCell ⟨Bh,1,none⟩ (.string ((aC AZ Bf).f1.f0))).setCell ⟨Bh,2,none⟩ (.string ((aC AZ Bf).f1.f1))).setCell ⟨Bh,3,none⟩ (.int .i64 ((aC AZ Bf).f1.f2))).setCell ⟨Bh,4,none⟩ (.int .i64 ((aC AZ Bf).f1.f3))).setCell ⟨Bh,5,none⟩ (.bool ((aC AZ Bf).f1.f4))).setCell ⟨Bh,6,none⟩ (.slice Bt ((aC AZ Bf).f1.f5).length Bu))):=⟨hb_⟩
       generalize (((((((w9.setCell ⟨Bh,0,none⟩ (.string ((aC AZ Bf).f0))).setCell ⟨Bh,1,none⟩ (.string ((aC AZ Bf).f1.f0))).setCell ⟨Bh,2,none⟩ (.string ((aC AZ Bf).f1.f1))).setCell ⟨Bh,3,none⟩ (.int .i64 ((aC AZ Bf).f1.f2))).setCell ⟨Bh,4,none⟩ (.int .i64 ((aC AZ Bf).f1.f3))).setCell ⟨Bh,5,none⟩ (.bool ((aC AZ Bf).f1.f4))).setCell ⟨Bh,6,none⟩ (.slice Bt ((aC AZ Bf).f1.f5).length Bu)) = GY at BU BX BZ ⊢
       have Bp:=BU
       have Bl:=BX
       have HB:=BZ
       clear BU BX BZ
       have BU:=Aside0.mk (aG Bp.out)
       have BX:=Aside0.mk (aG Bl.out)
       have BZ:=Aside0.mk (bB HB.out)
       clear Bp
       clear Bl
       clear HB
       have Bp:=BU
       have Bl:=BX
       have HB:=BZ
       clear BU BX BZ
       refine fU (n:=11) (S:=fun w'=>w'.cell? ⟨Bh,0,none⟩ = some (.string ((aC AZ Bf).f0)) ∧ w'.cell? ⟨Bh,1,none⟩ = some (.string ((aC AZ Bf).f1.f0)) ∧ w'.cell? ⟨Bh,2,none⟩ = some (.string ((aC AZ Bf).f1.f1)) ∧ w'.cell? ⟨Bh,3,none⟩ = some (.int .i64 ((aC AZ Bf).f1.f2)) ∧ w'.cell? ⟨Bh,4,none⟩ = some (.int .i64 ((aC AZ Bf).f1.f3)) ∧ w'.cell? ⟨Bh,5,none⟩ = some (.bool ((aC AZ Bf).f1.f4)) ∧ w'.cell? ⟨Bh,6,none⟩ = some (.slice Bt ((aC AZ Bf).f1.f5).length Bu)) (ds:=[]) #[O,O,O,O,O,O,O,O,O,O,O] (by kernel_rfl) rfl rfl ⟨(ah Bl.out 0).trans rfl,(ah Bl.out 1).trans rfl,(ah Bl.out 2).trans rfl,(ah Bl.out 3).trans rfl,(ah Bl.out 4).trans rfl,(ah Bl.out 5).trans rfl,(ah Bl.out 6).trans rfl⟩ (fun hHeld=>?_);refine dY aU.qG aU.mE (fun HT_ HW_=>?_)
       generalize GY.drew = GZ at Bp Bl HB hHeld ⊢
       refine pu_ 0 13 #[I,O,O,O,O,O,O,O,O,O,O] HT_.out ?_
       refine pu_ 1 14 #[I,I,O,O,O,O,O,O,O,O,O] HT_.out ?_
       refine pu_ 5 18 #[I,I,O,O,O,I,O,O,O,O,O] HT_.out ?_
       refine ta_ 2 15 #[I,I,I,O,O,I,O,O,O,O,O] HT_.out HW_.out hHeld ?_
       refine pu_ 3 16 #[I,I,I,I,O,I,O,O,O,O,O] HT_.out ?_
       refine pu_ 4 17 #[I,I,I,I,I,I,O,O,O,O,O] HT_.out ?_
       refine ta_ 6 19 #[I,I,I,I,I,I,I,O,O,O,O] HT_.out HW_.out hHeld ?_
       refine gq (i:=7) (N:=some 20) #[I,I,I,I,I,I,I,I,O,O,O] rfl rfl (dD HT_.out (by kernel_rfl)) (by decide) (fun K hK=>?_)
       refine eX Tryz.func15 (by kernel_rfl) rfl #[.agg #[.string ((aC AZ Bf).f1.f0),.string ((aC AZ Bf).f1.f1),.int .i64 ((aC AZ Bf).f1.f2),.int .i64 ((aC AZ Bf).f1.f3),.bool ((aC AZ Bf).f1.f4),.slice Bt ((aC AZ Bf).f1.f5).length Bu]] (by rfl) rfl rfl (by (try simp only [List.map_toArray,List.map_cons,List.map_nil]);first|done|rfl|(simp only [List.length_drop,List.length_take];rfl)) ?_
       with_reducible refine (aT.calls k1 ((aC AZ Bf).f1.f0) ((aC AZ Bf).f1.f1) ((aC AZ Bf).f1.f2) ((aC AZ Bf).f1.f3) ((aC AZ Bf).f1.f4) _ _ ((aC AZ Bf).f1.f5) Cv _ ?Dw ?Dx A7.out).mono ?_
       (case Dw=>repeat (first|exact (Kd.bO CV.out HB.out)|(with_reducible refine Kd.bD ?_ _)|(with_reducible refine Kd.bR ?_ _)|(with_reducible refine Kd.bZ ?_)))
       (case Dx=>exact CW.out)
       rintro e G6 ⟨rfl,hb⟩
       refine ⟨_,rfl,?_⟩
       have BU:=Aside0.mk (aN (g:=BD) (o:=.cells #[.int .u64 Bv,.slice (some Cb) AZ.length Cc] 25 (0,0)) (bk_ Bp.out) hb)
       have BX:=Aside0.mk (aN (g:=Bh) (o:=.cells #[.string ((aC AZ Bf).f0),.string ((aC AZ Bf).f1.f0),.string ((aC AZ Bf).f1.f1),.int .i64 ((aC AZ Bf).f1.f2),.int .i64 ((aC AZ Bf).f1.f3),.bool ((aC AZ Bf).f1.f4),.slice Bt ((aC AZ Bf).f1.f5).length Bu] 51 (0,0)) (bk_ Bl.out) hb)
       have BZ:=Aside0.mk (aK hb_ hb)
       clear Bp
       clear Bl
       clear HB
       have Bp:=BU
       have Bl:=BX
       have HB:=BZ
       clear BU BX BZ
       refine hK.out _ _ ⟨(ah Bl.out 0).trans rfl,(ah Bl.out 1).trans rfl,(ah Bl.out 2).trans rfl,(ah Bl.out 3).trans rfl,(ah Bl.out 4).trans rfl,(ah Bl.out 5).trans rfl,(ah Bl.out 6).trans rfl⟩ (fun hHeld=>?_)
       clear hK K
       refine dW (a':=?_) ?_ ?_
       rotate_left
       ·show Act.put _ (some 20) _ = _
        simp only [Act.put,List.setIfInBounds_toArray,List.set_cons_zero,List.set_cons_succ,bJ,bM]
        rfl
       refine pu_ 8 21 #[I,I,I,I,I,I,I,I,I,O,O] HT_.out ?_
       refine pu_ 9 22 #[I,I,I,I,I,I,I,I,I,I,O] HT_.out ?_
       refine pu_ 10 3 #[I,I,I,I,I,I,I,I,I,I,I] HT_.out ?_
       refine gP (fF HT_.out (by kernel_rfl)) ?_
       try go_wp2
       go_ret
       exact ⟨by first|rfl|(simp [aY,aZ] <;> rfl)|(simp [*,aY,aZ] <;> rfl),hb_⟩
      ·rw [if_neg c8] at H
       have c8b0 : decide (40000 < (wrap64 (Ci + (wrap64 ((wrap64 (10 + (((aC AZ Bf).f0).size : Int))) + Cv))))) = false:=decide_eq_false c8
       clear c8
       have H':=Aside0.mk H
       clear H
       have C9 : 0 ≤ (Bf : Int):=of_decide_eq_true (by first|(with_reducible assumption)|assumption)
       have Da : Bf < (AZ.length : Int):=of_decide_eq_true (by first|(with_reducible assumption)|assumption)
       obtain ⟨Cb,Bt,Bu,e108,BL,BN,BO,BP,BQ,BR,BS,Cj,Ck⟩:=iA DY.out Bf C9 Da
       cases e108
       replace BL:=(HB.out.cell (World.block_lt_of_cell? w _ BL)).trans BL
       replace BN:=(HB.out.cell (World.block_lt_of_cell? w _ BN)).trans BN
       replace BO:=(HB.out.cell (World.block_lt_of_cell? w _ BO)).trans BO
       replace BP:=(HB.out.cell (World.block_lt_of_cell? w _ BP)).trans BP
       replace BQ:=(HB.out.cell (World.block_lt_of_cell? w _ BQ)).trans BQ
       replace BR:=(HB.out.cell (World.block_lt_of_cell? w _ BR)).trans BR
       replace BS:=(HB.out.cell (World.block_lt_of_cell? w _ BS)).trans BS
       have CV:=Aside0.mk Ck
       have CW:=Aside0.mk Cj
       clear Ck Cj
       replace C9:=eq_true C9
       replace Da:=eq_true Da
       try go_wp2_with (first|((with_reducible refine cZ (N:=5) rfl ?_);refine dA ?hg (N:=5) ?hd (cs:=#[.string (⟨#[]⟩ : ByteArray),.string (⟨#[]⟩ : ByteArray),.string (⟨#[]⟩ : ByteArray),.int .i64 0,.int .i64 0,.bool false,.slice none 0 0]) (t:=51) ?hr ?_;(case hd=>rfl);(case hg=>rfl);(case hr=>first|(go_simp;done)|(go_simp;rfl));intro Bh hg Dy hbox hb;have BU:=Aside0.mk (aN (g:=BD) (o:=.cells #[.int .u64 Bv,.slice (some Cb) AZ.length Cc] 25 (0,0)) (bk_ Bp.out) hb);have BX:=Aside0.mk (aK hb_ hb);have BZ:=Aside0.mk (hbox);have CX:=Aside0.mk ((by rw [hg];exact (aM hb_) : w.heap.size ≤ Bh));have Dp:=Aside0.mk ((by rw [hg];exact (aM hb_) : w.heap.size ≤ Bh));have Dq:=Aside0.mk ((by rw [hg];exact Nat.ne_of_lt (dh (g:=BD) (o:=.cells #[.int .u64 Bv,.slice (some Cb) AZ.length Cc] 25 (0,0)) (bk_ Bp.out)) : BD ≠ Bh));have Dr:=Aside0.mk ((by rw [hg];exact Nat.ne_of_gt (dh (g:=BD) (o:=.cells #[.int .u64 Bv,.slice (some Cb) AZ.length Cc] 25 (0,0)) (bk_ Bp.out)) : Bh ≠ BD));clear Bp;clear HB;have Bp:=BU;have HB:=BX;have Bl:=BZ;have Ej:=CX;have El:=Dp;have Bn:=Dq;have Cr:=Dr;clear BU BX BZ CX Dp Dq Dr;clear hb hbox hg;have GK:=Cr.out;have GL:=Bn.out;have Fe : Dy.cell? ⟨Bh,0,none⟩ = some (.string (⟨#[]⟩ : ByteArray)):=(ah Bl.out 0).trans rfl;have Fg : Dy.cell? ⟨Bh,1,none⟩ = some (.string (⟨#[]⟩ : ByteArray)):=(ah Bl.out 1).trans rfl;have Fh : Dy.cell? ⟨Bh,2,none⟩ = some (.string (⟨#[]⟩ : ByteArray)):=(ah Bl.out 2).trans rfl;have Fj : Dy.cell? ⟨Bh,3,none⟩ = some (.int .i64 0):=(ah Bl.out 3).trans rfl;have Fp : Dy.cell? ⟨Bh,4,none⟩ = some (.int .i64 0):=(ah Bl.out 4).trans rfl;have Fq : Dy.cell? ⟨Bh,5,none⟩ = some (.bool false):=(ah Bl.out 5).trans rfl;have Fu : Dy.cell? ⟨Bh,6,none⟩ = some (.slice none 0 0):=(ah Bl.out 6).trans rfl;have Fv:=ak Bl.out 0;have Fw:=ak Bl.out 1;have Fx:=ak Bl.out 2;have Fy:=ak Bl.out 3;have Fz:=ak Bl.out 4;have FB:=ak Bl.out 5;have FC:=ak Bl.out 6))
       have BU : Aside0 ((((((((Dy.setCell ⟨Bh,0,none⟩ (.string ((aC AZ Bf).f0))).setCell ⟨Bh,1,none⟩ (.string ((aC AZ Bf).f1.f0))).setCell ⟨Bh,2,none⟩ (.string ((aC AZ Bf).f1.f1))).setCell ⟨Bh,3,none⟩ (.int .i64 ((aC AZ Bf).f1.f2))).setCell ⟨Bh,4,none⟩ (.int .i64 ((aC AZ Bf).f1.f3))).setCell ⟨Bh,5,none⟩ (.bool ((aC AZ Bf).f1.f4))).setCell ⟨Bh,6,none⟩ (.slice Bt ((aC AZ Bf).f1.f5).length Bu)).heap[BD]? = some (.cells #[.int .u64 Bv,.slice (some Cb) AZ.length Cc] 25 (0,0))):=⟨by (with_reducible repeat (first|apply ay|apply aG|apply aD));refine bL ?_ Bn.out _;(with_reducible repeat (first|apply ay|apply aG|apply aD));refine bL ?_ Bn.out _;(with_reducible repeat (first|apply ay|apply aG|apply aD));refine bL ?_ Bn.out _;(with_reducible repeat (first|apply ay|apply aG|apply aD));refine bL ?_ Bn.out _;(with_reducible repeat (first|apply ay|apply aG|apply aD));refine bL ?_ Bn.out _;(with_reducible repeat (first|apply ay|apply aG|apply aD));refine bL ?_ Bn.out _;(with_reducible repeat (first|apply ay|apply aG|apply aD));refine bL ?_ Bn.out _;(with_reducible repeat (first|apply ay|apply aG|apply aD));exact Bp.out⟩
       have BX : Aside0 ((((((((Dy.setCell ⟨Bh,0,none⟩ (.string ((aC AZ Bf).f0))).setCell ⟨Bh,1,none⟩ (.string ((aC AZ Bf).f1.f0))).setCell ⟨Bh,2,none⟩ (.string ((aC AZ Bf).f1.f1))).setCell ⟨Bh,3,none⟩ (.int .i64 ((aC AZ Bf).f1.f2))).setCell ⟨Bh,4,none⟩ (.int .i64 ((aC AZ Bf).f1.f3))).setCell ⟨Bh,5,none⟩ (.bool ((aC AZ Bf).f1.f4))).setCell ⟨Bh,6,none⟩ (.slice Bt ((aC AZ Bf).f1.f5).length Bu)).heap[Bh]? = some (.cells #[.string ((aC AZ Bf).f0),.string ((aC AZ Bf).f1.f0),.string ((aC AZ Bf).f1.f1),.int .i64 ((aC AZ Bf).f1.f2),.int .i64 ((aC AZ Bf).f1.f3),.bool ((aC AZ Bf).f1.f4),.slice Bt ((aC AZ Bf).f1.f5).length Bu] 51 (0,0))):=⟨by (with_reducible repeat (first|apply ay|apply aG|apply aD));refine bN (cs:=#[.string ((aC AZ Bf).f0),.string ((aC AZ Bf).f1.f0),.string ((aC AZ Bf).f1.f1),.int .i64 ((aC AZ Bf).f1.f2),.int .i64 ((aC AZ Bf).f1.f3),.bool ((aC AZ Bf).f1.f4),.slice none 0 0]) ?_ 6 _ rfl;(with_reducible repeat (first|apply ay|apply aG|apply aD));refine bN (cs:=#[.string ((aC AZ Bf).f0),.string ((aC AZ Bf).f1.f0),.string ((aC AZ Bf).f1.f1),.int .i64 ((aC AZ Bf).f1.f2),.int .i64 ((aC AZ Bf).f1.f3),.bool false,.slice none 0 0]) ?_ 5 _ rfl;(with_reducible repeat (first|apply ay|apply aG|apply aD));refine bN (cs:=#[.string ((aC AZ Bf).f0),.string ((aC AZ Bf).f1.f0),.string ((aC AZ Bf).f1.f1),.int .i64 ((aC AZ Bf).f1.f2),.int .i64 0,.bool false,.slice none 0 0]) ?_ 4 _ rfl;(with_reducible repeat (first|apply ay|apply aG|apply aD));refine bN (cs:=#[.string ((aC AZ Bf).f0),.string ((aC AZ Bf).f1.f0),.string ((aC AZ Bf).f1.f1),.int .i64 0,.int .i64 0,.bool false,.slice none 0 0]) ?_ 3 _ rfl;(with_reducible repeat (first|apply ay|apply aG|apply aD));refine bN (cs:=#[.string ((aC AZ Bf).f0),.string ((aC AZ Bf).f1.f0),.string (⟨#[]⟩ : ByteArray),.int .i64 0,.int .i64 0,.bool false,.slice none 0 0]) ?_ 2 _ rfl;(with_reducible repeat (first|apply ay|apply aG|apply aD));refine bN (cs:=#[.string ((aC AZ Bf).f0),.string (⟨#[]⟩ : ByteArray),.string (⟨#[]⟩ : ByteArray),.int .i64 0,.int .i64 0,.bool false,.slice none 0 0]) ?_ 1 _ rfl;(with_reducible repeat (first|apply ay|apply aG|apply aD));refine bN (cs:=#[.string (⟨#[]⟩ : ByteArray),.string (⟨#[]⟩ : ByteArray),.string (⟨#[]⟩ : ByteArray),.int .i64 0,.int .i64 0,.bool false,.slice none 0 0]) ?_ 0 _ rfl;(with_reducible repeat (first|apply ay|apply aG|apply aD));exact Bl.out⟩
       have BZ : Aside0 (Below w.heap.size w (((((((Dy.setCell ⟨Bh,0,none⟩ (.string ((aC AZ Bf).f0))).setCell ⟨Bh,1,none⟩ (.string ((aC AZ Bf).f1.f0))).setCell ⟨Bh,2,none⟩ (.string ((aC AZ Bf).f1.f1))).setCell ⟨Bh,3,none⟩ (.int .i64 ((aC AZ Bf).f1.f2))).setCell ⟨Bh,4,none⟩ (.int .i64 ((aC AZ Bf).f1.f3))).setCell ⟨Bh,5,none⟩ (.bool ((aC AZ Bf).f1.f4))).setCell ⟨Bh,6,none⟩ (.slice Bt ((aC AZ Bf).f1.f5).length Bu))):=⟨hb_⟩
       generalize (((((((Dy.setCell ⟨Bh,0,none⟩ (.string ((aC AZ Bf).f0))).setCell ⟨Bh,1,none⟩ (.string ((aC AZ Bf).f1.f0))).setCell ⟨Bh,2,none⟩ (.string ((aC AZ Bf).f1.f1))).setCell ⟨Bh,3,none⟩ (.int .i64 ((aC AZ Bf).f1.f2))).setCell ⟨Bh,4,none⟩ (.int .i64 ((aC AZ Bf).f1.f3))).setCell ⟨Bh,5,none⟩ (.bool ((aC AZ Bf).f1.f4))).setCell ⟨Bh,6,none⟩ (.slice Bt ((aC AZ Bf).f1.f5).length Bu)) = EK at BU BX BZ ⊢
       have Bp:=BU
       have Bl:=BX
       have HB:=BZ
       clear BU BX BZ
       have BU:=Aside0.mk (aG Bp.out)
       have BX:=Aside0.mk (aG Bl.out)
       have BZ:=Aside0.mk (bB HB.out)
       clear Bp
       clear Bl
       clear HB
       have Bp:=BU
       have Bl:=BX
       have HB:=BZ
       clear BU BX BZ
       refine fU (n:=11) (S:=fun w'=>w'.cell? ⟨Bh,0,none⟩ = some (.string ((aC AZ Bf).f0)) ∧ w'.cell? ⟨Bh,1,none⟩ = some (.string ((aC AZ Bf).f1.f0)) ∧ w'.cell? ⟨Bh,2,none⟩ = some (.string ((aC AZ Bf).f1.f1)) ∧ w'.cell? ⟨Bh,3,none⟩ = some (.int .i64 ((aC AZ Bf).f1.f2)) ∧ w'.cell? ⟨Bh,4,none⟩ = some (.int .i64 ((aC AZ Bf).f1.f3)) ∧ w'.cell? ⟨Bh,5,none⟩ = some (.bool ((aC AZ Bf).f1.f4)) ∧ w'.cell? ⟨Bh,6,none⟩ = some (.slice Bt ((aC AZ Bf).f1.f5).length Bu)) (ds:=[]) #[O,O,O,O,O,O,O,O,O,O,O] (by kernel_rfl) rfl rfl ⟨(ah Bl.out 0).trans rfl,(ah Bl.out 1).trans rfl,(ah Bl.out 2).trans rfl,(ah Bl.out 3).trans rfl,(ah Bl.out 4).trans rfl,(ah Bl.out 5).trans rfl,(ah Bl.out 6).trans rfl⟩ (fun hHeld=>?_);refine dY aU.qG aU.mE (fun HT_ HW_=>?_)
       generalize EK.drew = G7 at Bp Bl HB hHeld ⊢
       refine pu_ 0 13 #[I,O,O,O,O,O,O,O,O,O,O] HT_.out ?_
       refine pu_ 1 14 #[I,I,O,O,O,O,O,O,O,O,O] HT_.out ?_
       refine pu_ 5 18 #[I,I,O,O,O,I,O,O,O,O,O] HT_.out ?_
       refine ta_ 2 15 #[I,I,I,O,O,I,O,O,O,O,O] HT_.out HW_.out hHeld ?_
       refine pu_ 3 16 #[I,I,I,I,O,I,O,O,O,O,O] HT_.out ?_
       refine pu_ 4 17 #[I,I,I,I,I,I,O,O,O,O,O] HT_.out ?_
       refine ta_ 6 19 #[I,I,I,I,I,I,I,O,O,O,O] HT_.out HW_.out hHeld ?_
       refine gq (i:=7) (N:=some 20) #[I,I,I,I,I,I,I,I,O,O,O] rfl rfl (dD HT_.out (by kernel_rfl)) (by decide) (fun K hK=>?_)
       refine eX Tryz.func15 (by kernel_rfl) rfl #[.agg #[.string ((aC AZ Bf).f1.f0),.string ((aC AZ Bf).f1.f1),.int .i64 ((aC AZ Bf).f1.f2),.int .i64 ((aC AZ Bf).f1.f3),.bool ((aC AZ Bf).f1.f4),.slice Bt ((aC AZ Bf).f1.f5).length Bu]] (by rfl) rfl rfl (by (try simp only [List.map_toArray,List.map_cons,List.map_nil]);first|done|rfl|(simp only [List.length_drop,List.length_take];rfl)) ?_
       with_reducible refine (aT.calls k1 ((aC AZ Bf).f1.f0) ((aC AZ Bf).f1.f1) ((aC AZ Bf).f1.f2) ((aC AZ Bf).f1.f3) ((aC AZ Bf).f1.f4) _ _ ((aC AZ Bf).f1.f5) Cv _ ?Dw ?Dx A7.out).mono ?_
       (case Dw=>repeat (first|exact (Kd.bO CV.out HB.out)|(with_reducible refine Kd.bD ?_ _)|(with_reducible refine Kd.bR ?_ _)|(with_reducible refine Kd.bZ ?_)))
       (case Dx=>exact CW.out)
       rintro e G8 ⟨rfl,hb⟩
       refine ⟨_,rfl,?_⟩
       have BU:=Aside0.mk (aN (g:=BD) (o:=.cells #[.int .u64 Bv,.slice (some Cb) AZ.length Cc] 25 (0,0)) (bk_ Bp.out) hb)
       have BX:=Aside0.mk (aN (g:=Bh) (o:=.cells #[.string ((aC AZ Bf).f0),.string ((aC AZ Bf).f1.f0),.string ((aC AZ Bf).f1.f1),.int .i64 ((aC AZ Bf).f1.f2),.int .i64 ((aC AZ Bf).f1.f3),.bool ((aC AZ Bf).f1.f4),.slice Bt ((aC AZ Bf).f1.f5).length Bu] 51 (0,0)) (bk_ Bl.out) hb)
       have BZ:=Aside0.mk (aK hb_ hb)
       clear Bp
       clear Bl
       clear HB
       have Bp:=BU
       have Bl:=BX
       have HB:=BZ
       clear BU BX BZ
       refine hK.out _ _ ⟨(ah Bl.out 0).trans rfl,(ah Bl.out 1).trans rfl,(ah Bl.out 2).trans rfl,(ah Bl.out 3).trans rfl,(ah Bl.out 4).trans rfl,(ah Bl.out 5).trans rfl,(ah Bl.out 6).trans rfl⟩ (fun hHeld=>?_)
       clear hK K
       refine dW (a':=?_) ?_ ?_
       rotate_left
       ·show Act.put _ (some 20) _ = _
        simp only [Act.put,List.setIfInBounds_toArray,List.set_cons_zero,List.set_cons_succ,bJ,bM]
        rfl
       refine pu_ 8 21 #[I,I,I,I,I,I,I,I,I,O,O] HT_.out ?_
       refine pu_ 9 22 #[I,I,I,I,I,I,I,I,I,I,O] HT_.out ?_
       refine pu_ 10 3 #[I,I,I,I,I,I,I,I,I,I,I] HT_.out ?_
       refine gP (fF HT_.out (by kernel_rfl)) ?_
       try go_wp2
       go_roundg k1
       case measure=>have:=DL.out;omega
       case rel=>exact ⟨(wrap64 (Ci + (wrap64 ((wrap64 (10 + (((aC AZ Bf).f0).size : Int))) + Cv)))),(wrap64 (Bf + 1)),(by first|rfl|(simp;done)|(simp [*];done)),(by first|rfl|(simp;done)|(simp [*];done)),H',⟨by have:=DL.out;omega⟩,⟨by (with_reducible repeat (first|apply ay|apply aG|apply aD));exact Bp.out⟩,⟨hb_⟩⟩
     ·rw [if_neg c6] at H
      exact absurd H (by simp)
    ·rw [if_neg c5] at H
     exact absurd H (by simp)
   ·rw [if_neg c4] at H
    have c4b0 : decide (Bf < (AZ.length : Int)) = false:=decide_eq_false c4
    clear c4
    obtain rfl:=Option.some.inj H
    go_wp2
    go_ret
    exact ⟨by first|rfl|(simp [aY,aZ] <;> rfl)|(simp [*,aY,aZ] <;> rfl),hb_⟩
end Go.Proofs.YtpflenjhmeaeoaaGreatDoor.GUt
