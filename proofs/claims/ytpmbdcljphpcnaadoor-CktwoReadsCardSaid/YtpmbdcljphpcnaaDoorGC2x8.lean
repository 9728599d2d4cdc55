/- Written by this session's own program (wip/gen.py) out of the translation: plain Lean functions of the Go functions, and proofs that the calls come to their answers. No conditions beside those in the statements. -/
import Derived.Test.YtpmbdcljphpcnaaDoorGC2x0
import Derived.Test.YtpmbdcljphpcnaaDoorGC2x1
namespace Go.Proofs.YtpmbdcljphpcnaaDoor.GC2
open Go.RowKit Go.Proofs.YtpmbdcljphpcnaaDoorW.PrintWords Go.Proofs.YtpmbdcljphpcnaaDoorW.PrintLast Go.Proofs.YtpmbdcljphpcnaaDoorW.PrintMore
attribute [local go_sem] fO fP gI gJ fF fG fQ fT
set_option linter.unusedVariables false
set_option linter.unusedSimpArgs false
mutual
def bM.l0 : Nat → List (S98) → Int → Int → Int → List (S103) → Option (Int × (List (S103)))
 | 0,_,_,_,_,_=>none
 | k + 1,Dh,ET,CG,Bf,AP=>if CG < ET then (if 0 ≤ CG then (if CG < (Dh.length : Int) then (bM.l1 k Dh ET CG ((aH Dh CG).f5) (((aH Dh CG).f5).length : Int) 0 Bf AP ((aH Dh CG).f0) ((aH Dh CG).f1) ((aH Dh CG).f2) ((aH Dh CG).f3) ((aH Dh CG).f4) ([] : List (S104))) else (none)) else (none)) else (some (Bf,AP))
def bM.l1 : Nat → List (S98) → Int → Int → List (S100) → Int → Int → Int → List (S103) → ByteArray → ByteArray → ByteArray → Int → Int → List (S104) → Option (Int × (List (S103)))
 | 0,_,_,_,_,_,_,_,_,_,_,_,_,_,_=>none
 | k + 1,Dh,ET,CG,x31,x32,EO,Bf,AP,CJ,CK,CO,CP,CQ,Ca=>if EO < x32 then (if 0 ≤ EO then (if EO < (x31.length : Int) then (if Ca.length < 4398046511104 then (bM.l1 k Dh ET CG x31 x32 (wrap64 (EO + 1)) Bf AP CJ CK CO CP CQ (Ca ++ [(⟨(eU x31 EO).f0,(eU x31 EO).f1⟩ : S104)])) else (none)) else (none)) else (none)) else (if AP.length < 1759218604441 then (bM.l0 k Dh ET (wrap64 (CG + 1)) Bf (AP ++ [(⟨CJ,CK,CO,CP,CQ,Ca⟩ : S103)])) else (none))
end
def bM.f (k : Nat) (Aa : Int) (zM : List (S98)) : Option (Int × (List (S103))):=bM.l0 k zM (zM.length : Int) 0 Aa ([] : List (S103))
theorem bM.dX : ∀ k,(∀ y0 y1 y2 y3 y4,LeO (bM.l0 k y0 y1 y2 y3 y4) (bM.l0 (k + 1) y0 y1 y2 y3 y4)) ∧ (∀ y0 y1 y2 y3 y4 y5 y6 y7 y8 y9 GV GX GY y13,LeO (bM.l1 k y0 y1 y2 y3 y4 y5 y6 y7 y8 y9 GV GX GY y13) (bM.l1 (k + 1) y0 y1 y2 y3 y4 y5 y6 y7 y8 y9 GV GX GY y13))
 | 0=>⟨fun _ _ _ _ _ r h=>by simp [bM.l0] at h,fun _ _ _ _ _ _ _ _ _ _ _ _ _ _ r h=>by simp [bM.l1] at h⟩
 | k + 1=>by
  obtain ⟨Ce,ih1⟩:=bM.dX k
  refine ⟨?_,?_⟩
  ·intro y0 y1 y2 y3 y4
   unfold bM.l0
   repeat' first
   | (with_reducible exact Ce _ _ _ _ _)
   | (with_reducible exact ih1 _ _ _ _ _ _ _ _ _ _ _ _ _ _)
   | (with_reducible exact LeO.refl _)
   | (with_reducible exact LeO.none _)
   | (with_reducible refine LeO.ite ?_ ?_)
   | (with_reducible refine LeO.bind ?_ (fun _=>?_))
   | exact Ce _ _ _ _ _
   | exact ih1 _ _ _ _ _ _ _ _ _ _ _ _ _ _
   | exact LeO.none _
   | refine LeO.ite ?_ ?_
   | refine LeO.bind ?_ (fun _=>?_)
  ·intro y0 y1 y2 y3 y4 y5 y6 y7 y8 y9 GV GX GY y13
   unfold bM.l1
   repeat' first
   | (with_reducible exact Ce _ _ _ _ _)
   | (with_reducible exact ih1 _ _ _ _ _ _ _ _ _ _ _ _ _ _)
   | (with_reducible exact LeO.refl _)
   | (with_reducible exact LeO.none _)
   | (with_reducible refine LeO.ite ?_ ?_)
   | (with_reducible refine LeO.bind ?_ (fun _=>?_))
   | exact Ce _ _ _ _ _
   | exact ih1 _ _ _ _ _ _ _ _ _ _ _ _ _ _
   | exact LeO.none _
   | refine LeO.ite ?_ ?_
   | refine LeO.bind ?_ (fun _=>?_)
theorem bM.mono : ∀ a0 a1 k,LeO (bM.f k a0 a1) (bM.f (k + 1) a0 a1):=by
 intro a0 a1 k
 obtain ⟨Ce,ih1⟩:=bM.dX k
 unfold bM.f
 repeat' first
   | (with_reducible exact Ce _ _ _ _ _)
   | (with_reducible exact ih1 _ _ _ _ _ _ _ _ _ _ _ _ _ _)
   | (with_reducible exact LeO.refl _)
   | (with_reducible exact LeO.none _)
   | (with_reducible refine LeO.ite ?_ ?_)
   | (with_reducible refine LeO.bind ?_ (fun _=>?_))
   | exact Ce _ _ _ _ _
   | exact ih1 _ _ _ _ _ _ _ _ _ _ _ _ _ _
   | exact LeO.none _
   | refine LeO.ite ?_ ?_
   | refine LeO.bind ?_ (fun _=>?_)
set_option maxHeartbeats 8000000 in
set_option maxRecDepth 100000 in
theorem bM.calls (k : Nat) (Aa : Int) (BF : Option Addr) (Aw : Nat) (zM : List (S98)) (r1 : Int) (r2 : List (S103)) (w : World) (ED : Kd.C k98 w BF zM.length zM) (EF : zM.length ≤ Aw) (h : bM.f k Aa zM = some (r1,r2)) :
  Calls Tryd.prog 24 #[.agg #[.int .u64 Aa,.slice BF zM.length Aw]] w fun e w'=>∃ Hz : Value,e = .returned (.agg #[.int .u64 r1,Hz]) ∧ Kd.S iC 103 w' w.heap.size (fun _=>True) Hz r2 ∧ Below w.heap.size w w':=by
 have JB:=Tryd.underlying49
 have JC:=Tryd.underlying53
 have JD:=Tryd.underlying98
 have HY:=Tryd.underlying103
 have HZ:=Tryd.underlying100
 have EU:=Aside0.mk ED
 have H6:=Aside0.mk EF
 clear ED EF
 have HB:=Aside0.mk (Below.refl w.heap.size w)
 have H : (bM.l0 k zM (zM.length : Int) 0 Aa ([] : List (S103))) = some (r1,r2):=h
 clear h
 have H':=Aside0.mk H
 clear H
 go_enter Tryd.func24,Tryd.ntmps24
 go_wp2_with (first|((with_reducible refine dw (N:=1) rfl ?_);refine cB ?hg (N:=1) ?hd (cs:=#[.int .u64 Aa,.slice BF zM.length Aw]) (t:=49) ?hr ?_;(case hd=>rfl);(case hg=>rfl);(case hr=>first|(go_simp;done)|(go_simp;rfl));intro z8 hg w2 hbox hb;have Bg:=Aside0.mk (aU (by repeat (first|(with_reducible first|exact HB.out|apply aD|apply ak|apply aC)|exact HB.out)) hb);have Bh:=Aside0.mk (hbox);have Bj:=Aside0.mk ((by rw [hg];exact (aW (by repeat (first|(with_reducible first|exact HB.out|apply aD|apply ak|apply aC)|exact HB.out))) : w.heap.size ≤ z8));have BM:=Aside0.mk ((by rw [hg];exact (aW (by repeat (first|(with_reducible first|exact HB.out|apply aD|apply ak|apply aC)|exact HB.out))) : w.heap.size ≤ z8));clear HB;have HB:=Bg;have zR:=Bh;have Ia:=Bj;have Am:=BM;clear Bg Bh Bj BM;clear hb hbox hg)|((with_reducible refine dw (N:=2) rfl ?_);refine cB ?hg (N:=2) ?hd (cs:=#[.int .u64 0,.slice none 0 0]) (t:=53) ?hr ?_;(case hd=>rfl);(case hg=>rfl);(case hr=>first|(go_simp;done)|(go_simp;rfl));intro Ac hg w3 hbox hb;have Bg:=Aside0.mk (aQ (g:=z8) (o:=.cells #[.int .u64 Aa,.slice BF zM.length Aw] 49 (0,0)) (bk_ zR.out) hb);have Bh:=Aside0.mk (aU (by repeat (first|(with_reducible first|exact HB.out|apply aD|apply ak|apply aC|refine aA ?_ Am.out)|exact HB.out)) hb);have Bj:=Aside0.mk (hbox);have BM:=Aside0.mk ((by rw [hg];exact (aW (by repeat (first|(with_reducible first|exact HB.out|apply aD|apply ak|apply aC|refine aA ?_ Am.out)|exact HB.out))) : w.heap.size ≤ Ac));have BO:=Aside0.mk ((by rw [hg];exact (aW (by repeat (first|(with_reducible first|exact HB.out|apply aD|apply ak|apply aC|refine aA ?_ Am.out)|exact HB.out))) : w.heap.size ≤ Ac));have BP:=Aside0.mk ((by rw [hg];exact Nat.ne_of_lt (bV (g:=z8) (o:=.cells #[.int .u64 Aa,.slice BF zM.length Aw] 49 (0,0)) (bk_ zR.out)) : z8 ≠ Ac));have BQ:=Aside0.mk ((by rw [hg];exact Nat.ne_of_gt (bV (g:=z8) (o:=.cells #[.int .u64 Aa,.slice BF zM.length Aw] 49 (0,0)) (bk_ zR.out)) : Ac ≠ z8));clear zR;clear HB;have zR:=Bg;have HB:=Bh;have zW:=Bj;have Ib:=BM;have Aq:=BO;have BR:=BP;have BS:=BQ;clear Bg Bh Bj BM BO BP BQ;clear hb hbox hg;have JE:=BR.out;have JF:=BS.out;have Co : w3.cell? ⟨z8,0,none⟩ = some (.int .u64 Aa):=(ay zR.out 0).trans rfl;have Cq : w3.cell? ⟨z8,1,none⟩ = some (.slice BF zM.length Aw):=(ay zR.out 1).trans rfl;have Cr:=av zR.out 0;have Ct:=av zR.out 1)|((with_reducible refine dw (N:=3) rfl ?_);refine cB ?hg (N:=3) ?hd (cs:=#[.int .u64 0,.slice none 0 0]) (t:=53) ?hr ?_;(case hd=>rfl);(case hg=>rfl);(case hr=>first|(go_simp;done)|(go_simp;rfl));intro Ab hg w6 hbox hb;have Bg:=Aside0.mk (aQ (g:=z8) (o:=.cells #[.int .u64 Aa,.slice BF zM.length Aw] 49 (0,0)) (bk_ zR.out) hb);have Bh:=Aside0.mk (aQ (g:=Ac) (o:=.cells #[.int .u64 0,.slice none 0 0] 53 (0,0)) (bk_ zW.out) hb);have Bj:=Aside0.mk (aU (by repeat (first|(with_reducible first|exact HB.out|apply aD|apply ak|apply aC|refine aA ?_ Am.out|refine aA ?_ Aq.out)|exact HB.out)) hb);have BM:=Aside0.mk (hbox);have BO:=Aside0.mk ((by rw [hg];exact (aW (by repeat (first|(with_reducible first|exact HB.out|apply aD|apply ak|apply aC|refine aA ?_ Am.out|refine aA ?_ Aq.out)|exact HB.out))) : w.heap.size ≤ Ab));have BP:=Aside0.mk ((by rw [hg];exact (aW (by repeat (first|(with_reducible first|exact HB.out|apply aD|apply ak|apply aC|refine aA ?_ Am.out|refine aA ?_ Aq.out)|exact HB.out))) : w.heap.size ≤ Ab));have BQ:=Aside0.mk ((by rw [hg];exact Nat.ne_of_lt (bV (g:=z8) (o:=.cells #[.int .u64 Aa,.slice BF zM.length Aw] 49 (0,0)) (bk_ zR.out)) : z8 ≠ Ab));have CS:=Aside0.mk ((by rw [hg];exact Nat.ne_of_gt (bV (g:=z8) (o:=.cells #[.int .u64 Aa,.slice BF zM.length Aw] 49 (0,0)) (bk_ zR.out)) : Ab ≠ z8));have CU:=Aside0.mk ((by rw [hg];exact Nat.ne_of_lt (bV (g:=Ac) (o:=.cells #[.int .u64 0,.slice none 0 0] 53 (0,0)) (bk_ zW.out)) : Ac ≠ Ab));have Dj:=Aside0.mk ((by rw [hg];exact Nat.ne_of_gt (bV (g:=Ac) (o:=.cells #[.int .u64 0,.slice none 0 0] 53 (0,0)) (bk_ zW.out)) : Ab ≠ Ac));clear zR;clear zW;clear HB;have zR:=Bg;have zW:=Bh;have HB:=Bj;have zS:=BM;have Ic:=BO;have Av:=BP;have Ay:=BQ;have Bn:=CS;have Az:=CU;have Bo:=Dj;clear Bg Bh Bj BM BO BP BQ CS CU Dj;clear hb hbox hg;have JG:=Bn.out;have JH:=Ay.out;have JI:=Bo.out;have JJ:=Az.out;have Dk : w6.cell? ⟨Ab,0,none⟩ = some (.int .u64 0):=(ay zS.out 0).trans rfl;have Dl : w6.cell? ⟨Ab,1,none⟩ = some (.slice none 0 0):=(ay zS.out 1).trans rfl;have Dm:=av zS.out 0;have Dn:=av zS.out 1;have AQ : w6.cell? ⟨z8,0,none⟩ = some (.int .u64 Aa):=(ay zR.out 0).trans rfl;have AU : w6.cell? ⟨z8,1,none⟩ = some (.slice BF zM.length Aw):=(ay zR.out 1).trans rfl;have AV:=av zR.out 0;have AX:=av zR.out 1))
 go_loopg [15] k (fun kq v15 w'=>∃ (zL : Int) (Ag : List (S103)) (zX : Value),v15 = .int .i64 zL ∧ Aside0 (bM.l0 kq zM (zM.length : Int) zL Aa Ag = some (r1,r2)) ∧ Aside0 (kq ≤ k) ∧ Aside0 (Kd.S iC 103 w' w.heap.size (fun _=>True) zX Ag) ∧ Aside0 (w'.heap[z8]? = some (.cells #[.int .u64 Aa,(.slice BF zM.length Aw)] 49 (0,0))) ∧ Aside0 (w'.heap[Ac]? = some (.cells #[.int .u64 0,(.slice none 0 0)] 53 (0,0))) ∧ Aside0 (w'.heap[Ab]? = some (.cells #[.int .u64 Aa,zX] 53 (0,0))) ∧ Aside0 (Below w.heap.size w w'))
 case atStart=>exact ⟨(0),(([] : List (S103))),(.slice none 0 0),(by first|rfl|(simp;done)|(simp [*];done)),H',⟨Nat.le_refl _⟩,⟨by first|exact Kd.iU _ _ _ _ _|exact Kd.kV _ _ _ _ _|exact Kd.kW _ _ _ _ _|exact Kd.kR _ _ _ _ _|exact Kd.jl _ _ _ _ _⟩,⟨by (with_reducible repeat (first|apply aj|apply au|apply ah));refine aJ ?_ Ay.out _;(with_reducible repeat (first|apply aj|apply au|apply ah));refine aJ ?_ Ay.out _;(with_reducible repeat (first|apply aj|apply au|apply ah));exact zR.out⟩,⟨by (with_reducible repeat (first|apply aj|apply au|apply ah));refine aJ ?_ Az.out _;(with_reducible repeat (first|apply aj|apply au|apply ah));refine aJ ?_ Az.out _;(with_reducible repeat (first|apply aj|apply au|apply ah));exact zW.out⟩,⟨by (with_reducible repeat (first|apply aj|apply au|apply ah));refine aX (cs:=#[.int .u64 Aa,.slice none 0 0]) ?_ 1 _ rfl;(with_reducible repeat (first|apply aj|apply au|apply ah));refine aX (cs:=#[.int .u64 0,.slice none 0 0]) ?_ 0 _ rfl;(with_reducible repeat (first|apply aj|apply au|apply ah));exact zS.out⟩,⟨by repeat (first|(with_reducible first|exact HB.out|apply aD|apply ak|apply aC|refine aA ?_ Am.out|refine aA ?_ Aq.out|refine aA ?_ Av.out)|exact HB.out)⟩⟩
 case round =>
  clear H'
  try clear c2
  try clear p2
  try clear c4
  try clear c7
  try clear c8
  try clear AQ
  try clear AU
  try clear Co
  try clear Cq
  try clear Dk
  try clear Dl
  try clear AV
  try clear AX
  try clear Cr
  try clear Ct
  try clear Dm
  try clear Dn
  obtain ⟨zL,Ag,zX,rfl,HA,Fu,zO,zR,zW,zS,HB⟩:=hrel
  cases gk with
  | zero=>exact absurd HA.out (by simp [bM.l0])
  | succ k1 =>
   have H:=HA.out
   clear HA
   simp only [bM.l0] at H
   by_cases c11 : zL < (zM.length : Int)
   ·rw [if_pos c11] at H
    have c11b0 : decide (zL < (zM.length : Int)) = true:=decide_eq_true c11
    clear c11
    by_cases c12 : 0 ≤ zL
    ·rw [if_pos c12] at H
     have c12b0 : decide (0 ≤ zL) = true:=decide_eq_true c12
     clear c12
     by_cases c13 : zL < (zM.length : Int)
     ·rw [if_pos c13] at H
      have c13b0 : decide (zL < (zM.length : Int)) = true:=decide_eq_true c13
      clear c13
      have H':=Aside0.mk H
      clear H
      have DF : 0 ≤ (zL : Int):=of_decide_eq_true (by first|(with_reducible assumption)|assumption)
      have DI : zL < (zM.length : Int):=of_decide_eq_true (by first|(with_reducible assumption)|assumption)
      obtain ⟨AL,A9,AA,GZ,BG,BH,BI,BJ,BK,BL,CV,CW⟩:=oV EU.out zL DF DI
      cases GZ
      replace BG:=(HB.out.cell (World.block_lt_of_cell? w _ BG)).trans BG
      replace BH:=(HB.out.cell (World.block_lt_of_cell? w _ BH)).trans BH
      replace BI:=(HB.out.cell (World.block_lt_of_cell? w _ BI)).trans BI
      replace BJ:=(HB.out.cell (World.block_lt_of_cell? w _ BJ)).trans BJ
      replace BK:=(HB.out.cell (World.block_lt_of_cell? w _ BK)).trans BK
      replace BL:=(HB.out.cell (World.block_lt_of_cell? w _ BL)).trans BL
      have DJ:=Aside0.mk CW
      have Fv:=Aside0.mk CV
      clear CW CV
      replace DF:=eq_true DF
      replace DI:=eq_true DI
      go_wp2_with (first|((with_reducible refine dw (N:=5) rfl ?_);refine cB ?hg (N:=5) ?hd (cs:=#[.string (⟨#[]⟩ : ByteArray),.string (⟨#[]⟩ : ByteArray),.string (⟨#[]⟩ : ByteArray),.int .u8 0,.int .u16 0,.slice none 0 0]) (t:=98) ?hr ?_;(case hd=>rfl);(case hg=>rfl);(case hr=>first|(go_simp;done)|(go_simp;rfl));intro zY hg EP hbox hb;have Bg:=Aside0.mk (Kd.dJ (by (with_reducible repeat (first|apply Kd.cZ|apply Kd.dh|apply Kd.dA));exact zO.out) hb);have Bh:=Aside0.mk (aQ (g:=z8) (o:=.cells #[.int .u64 Aa,.slice (some AL) zM.length Aw] 49 (0,0)) (bk_ zR.out) hb);have Bj:=Aside0.mk (aQ (g:=Ac) (o:=.cells #[.int .u64 0,.slice none 0 0] 53 (0,0)) (bk_ zW.out) hb);have BM:=Aside0.mk (aQ (g:=Ab) (o:=.cells #[.int .u64 Aa,zX] 53 (0,0)) (bk_ zS.out) hb);have BO:=Aside0.mk (aU (by repeat (first|(with_reducible first|exact HB.out|apply aD|apply ak|apply aC|refine aA ?_ Am.out|refine aA ?_ Aq.out|refine aA ?_ Av.out)|exact HB.out)) hb);have BP:=Aside0.mk (hbox);have BQ:=Aside0.mk ((by rw [hg];exact (aW (by repeat (first|(with_reducible first|exact HB.out|apply aD|apply ak|apply aC|refine aA ?_ Am.out|refine aA ?_ Aq.out|refine aA ?_ Av.out)|exact HB.out))) : w.heap.size ≤ zY));have CS:=Aside0.mk ((by rw [hg];exact (aW (by repeat (first|(with_reducible first|exact HB.out|apply aD|apply ak|apply aC|refine aA ?_ Am.out|refine aA ?_ Aq.out|refine aA ?_ Av.out)|exact HB.out))) : w.heap.size ≤ zY));have CU:=Aside0.mk ((by rw [hg];exact Nat.ne_of_lt (bV (g:=z8) (o:=.cells #[.int .u64 Aa,.slice (some AL) zM.length Aw] 49 (0,0)) (bk_ zR.out)) : z8 ≠ zY));have Dj:=Aside0.mk ((by rw [hg];exact Nat.ne_of_gt (bV (g:=z8) (o:=.cells #[.int .u64 Aa,.slice (some AL) zM.length Aw] 49 (0,0)) (bk_ zR.out)) : zY ≠ z8));have Cg:=Aside0.mk ((by rw [hg];exact Nat.ne_of_lt (bV (g:=Ac) (o:=.cells #[.int .u64 0,.slice none 0 0] 53 (0,0)) (bk_ zW.out)) : Ac ≠ zY));have Ch:=Aside0.mk ((by rw [hg];exact Nat.ne_of_gt (bV (g:=Ac) (o:=.cells #[.int .u64 0,.slice none 0 0] 53 (0,0)) (bk_ zW.out)) : zY ≠ Ac));have Ci:=Aside0.mk ((by rw [hg];exact Nat.ne_of_lt (bV (g:=Ab) (o:=.cells #[.int .u64 Aa,zX] 53 (0,0)) (bk_ zS.out)) : Ab ≠ zY));have Cj:=Aside0.mk ((by rw [hg];exact Nat.ne_of_gt (bV (g:=Ab) (o:=.cells #[.int .u64 Aa,zX] 53 (0,0)) (bk_ zS.out)) : zY ≠ Ab));clear zO;clear zR;clear zW;clear zS;clear HB;have zO:=Bg;have zR:=Bh;have zW:=Bj;have zS:=BM;have HB:=BO;have zT:=BP;have Ie:=BQ;have AJ:=CS;have zU:=CU;have CZ:=Dj;have zV:=Cg;have C8:=Ch;have zQ:=Ci;have BU:=Cj;clear Bg Bh Bj BM BO BP BQ CS CU Dj Cg Ch Ci Cj;clear hb hbox hg;have Ig:=CZ.out;have Ih:=zU.out;have Ii:=C8.out;have Ij:=zV.out;have Ik:=BU.out;have Il:=zQ.out;have DK : EP.cell? ⟨zY,0,none⟩ = some (.string (⟨#[]⟩ : ByteArray)):=(ay zT.out 0).trans rfl;have DL : EP.cell? ⟨zY,1,none⟩ = some (.string (⟨#[]⟩ : ByteArray)):=(ay zT.out 1).trans rfl;have DN : EP.cell? ⟨zY,2,none⟩ = some (.string (⟨#[]⟩ : ByteArray)):=(ay zT.out 2).trans rfl;have DR : EP.cell? ⟨zY,3,none⟩ = some (.int .u8 0):=(ay zT.out 3).trans rfl;have DT : EP.cell? ⟨zY,4,none⟩ = some (.int .u16 0):=(ay zT.out 4).trans rfl;have DU : EP.cell? ⟨zY,5,none⟩ = some (.slice none 0 0):=(ay zT.out 5).trans rfl;have DV:=av zT.out 0;have DW:=av zT.out 1;have DX:=av zT.out 2;have DY:=av zT.out 3;have DZ:=av zT.out 4;have D5:=av zT.out 5)|((with_reducible refine dw (N:=6) rfl ?_);refine cB ?hg (N:=6) ?hd (cs:=#[.string (⟨#[]⟩ : ByteArray),.string (⟨#[]⟩ : ByteArray),.string (⟨#[]⟩ : ByteArray),.int .u8 0,.int .u16 0,.slice none 0 0]) (t:=103) ?hr ?_;(case hd=>rfl);(case hg=>rfl);(case hr=>first|(go_simp;done)|(go_simp;rfl));intro zP hg Di hbox hb;have Bg:=Aside0.mk (Kd.dJ (Kd.jP (by (with_reducible repeat (first|apply Kd.cZ|apply Kd.dh|apply Kd.dA));exact (Kd.dO (Kd.dQ (p:=⟨zY,5,none⟩) (Kd.dQ (p:=⟨zY,4,none⟩) (Kd.dQ (p:=⟨zY,3,none⟩) (Kd.dQ (p:=⟨zY,2,none⟩) (Kd.dQ (p:=⟨zY,1,none⟩) (Kd.dQ (p:=⟨zY,0,none⟩) (Kd.eO zO.out zT.out (by decide)) (fun _ hk=>hk.2) (.string ((aH zM zL).f0))) (fun _ hk=>hk.2) (.string ((aH zM zL).f1))) (fun _ hk=>hk.2) (.string ((aH zM zL).f2))) (fun _ hk=>hk.2) (.int .u8 ((aH zM zL).f3))) (fun _ hk=>hk.2) (.int .u16 ((aH zM zL).f4))) (fun _ hk=>hk.2) (.slice A9 ((aH zM zL).f5).length AA)) (fun _ h_=>h_.1))) zP (Nat.le_of_eq hg.symm)) hb);have Bh:=Aside0.mk (aQ (g:=z8) (o:=.cells #[.int .u64 Aa,.slice (some AL) zM.length Aw] 49 (0,0)) (by (with_reducible repeat (first|apply aj|apply au|apply ah));refine aJ ?_ zU.out _;(with_reducible repeat (first|apply aj|apply au|apply ah));refine aJ ?_ zU.out _;(with_reducible repeat (first|apply aj|apply au|apply ah));refine aJ ?_ zU.out _;(with_reducible repeat (first|apply aj|apply au|apply ah));refine aJ ?_ zU.out _;(with_reducible repeat (first|apply aj|apply au|apply ah));refine aJ ?_ zU.out _;(with_reducible repeat (first|apply aj|apply au|apply ah));refine aJ ?_ zU.out _;(with_reducible repeat (first|apply aj|apply au|apply ah));exact zR.out) hb);have Bj:=Aside0.mk (aQ (g:=Ac) (o:=.cells #[.int .u64 0,.slice none 0 0] 53 (0,0)) (by (with_reducible repeat (first|apply aj|apply au|apply ah));refine aJ ?_ zV.out _;(with_reducible repeat (first|apply aj|apply au|apply ah));refine aJ ?_ zV.out _;(with_reducible repeat (first|apply aj|apply au|apply ah));refine aJ ?_ zV.out _;(with_reducible repeat (first|apply aj|apply au|apply ah));refine aJ ?_ zV.out _;(with_reducible repeat (first|apply aj|apply au|apply ah));refine aJ ?_ zV.out _;(with_reducible repeat (first|apply aj|apply au|apply ah));refine aJ ?_ zV.out _;(with_reducible repeat (first|apply aj|apply au|apply ah));exact zW.out) hb);have BM:=Aside0.mk (aQ (g:=Ab) (o:=.cells #[.int .u64 Aa,zX] 53 (0,0)) (by (with_reducible repeat (first|apply aj|apply au|apply ah));refine aJ ?_ zQ.out _;(with_reducible repeat (first|apply aj|apply au|apply ah));refine aJ ?_ zQ.out _;(with_reducible repeat (first|apply aj|apply au|apply ah));refine aJ ?_ zQ.out _;(with_reducible repeat (first|apply aj|apply au|apply ah));refine aJ ?_ zQ.out _;(with_reducible repeat (first|apply aj|apply au|apply ah));refine aJ ?_ zQ.out _;(with_reducible repeat (first|apply aj|apply au|apply ah));refine aJ ?_ zQ.out _;(with_reducible repeat (first|apply aj|apply au|apply ah));exact zS.out) hb);have BO:=Aside0.mk (aQ (g:=zY) (o:=.cells #[.string ((aH zM zL).f0),.string ((aH zM zL).f1),.string ((aH zM zL).f2),.int .u8 ((aH zM zL).f3),.int .u16 ((aH zM zL).f4),.slice A9 ((aH zM zL).f5).length AA] 98 (0,0)) (by (with_reducible repeat (first|apply aj|apply au|apply ah));refine aX (cs:=#[.string ((aH zM zL).f0),.string ((aH zM zL).f1),.string ((aH zM zL).f2),.int .u8 ((aH zM zL).f3),.int .u16 ((aH zM zL).f4),.slice none 0 0]) ?_ 5 _ rfl;(with_reducible repeat (first|apply aj|apply au|apply ah));refine aX (cs:=#[.string ((aH zM zL).f0),.string ((aH zM zL).f1),.string ((aH zM zL).f2),.int .u8 ((aH zM zL).f3),.int .u16 0,.slice none 0 0]) ?_ 4 _ rfl;(with_reducible repeat (first|apply aj|apply au|apply ah));refine aX (cs:=#[.string ((aH zM zL).f0),.string ((aH zM zL).f1),.string ((aH zM zL).f2),.int .u8 0,.int .u16 0,.slice none 0 0]) ?_ 3 _ rfl;(with_reducible repeat (first|apply aj|apply au|apply ah));refine aX (cs:=#[.string ((aH zM zL).f0),.string ((aH zM zL).f1),.string (⟨#[]⟩ : ByteArray),.int .u8 0,.int .u16 0,.slice none 0 0]) ?_ 2 _ rfl;(with_reducible repeat (first|apply aj|apply au|apply ah));refine aX (cs:=#[.string ((aH zM zL).f0),.string (⟨#[]⟩ : ByteArray),.string (⟨#[]⟩ : ByteArray),.int .u8 0,.int .u16 0,.slice none 0 0]) ?_ 1 _ rfl;(with_reducible repeat (first|apply aj|apply au|apply ah));refine aX (cs:=#[.string (⟨#[]⟩ : ByteArray),.string (⟨#[]⟩ : ByteArray),.string (⟨#[]⟩ : ByteArray),.int .u8 0,.int .u16 0,.slice none 0 0]) ?_ 0 _ rfl;(with_reducible repeat (first|apply aj|apply au|apply ah));exact zT.out) hb);have BP:=Aside0.mk (aU (by repeat (first|(with_reducible first|exact HB.out|apply aD|apply ak|apply aC|refine aA ?_ Am.out|refine aA ?_ Aq.out|refine aA ?_ Av.out|refine aA ?_ AJ.out)|exact HB.out)) hb);have BQ:=Aside0.mk (hbox);have CS:=Aside0.mk ((by rw [hg];exact (aW (by repeat (first|(with_reducible first|exact HB.out|apply aD|apply ak|apply aC|refine aA ?_ Am.out|refine aA ?_ Aq.out|refine aA ?_ Av.out|refine aA ?_ AJ.out)|exact HB.out))) : w.heap.size ≤ zP));have CU:=Aside0.mk ((by rw [hg];exact (aW (by repeat (first|(with_reducible first|exact HB.out|apply aD|apply ak|apply aC|refine aA ?_ Am.out|refine aA ?_ Aq.out|refine aA ?_ Av.out|refine aA ?_ AJ.out)|exact HB.out))) : w.heap.size ≤ zP));have Dj:=Aside0.mk ((by rw [hg];exact Nat.ne_of_lt (bV (g:=z8) (o:=.cells #[.int .u64 Aa,.slice (some AL) zM.length Aw] 49 (0,0)) (by (with_reducible repeat (first|apply aj|apply au|apply ah));refine aJ ?_ zU.out _;(with_reducible repeat (first|apply aj|apply au|apply ah));refine aJ ?_ zU.out _;(with_reducible repeat (first|apply aj|apply au|apply ah));refine aJ ?_ zU.out _;(with_reducible repeat (first|apply aj|apply au|apply ah));refine aJ ?_ zU.out _;(with_reducible repeat (first|apply aj|apply au|apply ah));refine aJ ?_ zU.out _;(with_reducible repeat (first|apply aj|apply au|apply ah));refine aJ ?_ zU.out _;(with_reducible repeat (first|apply aj|apply au|apply ah));exact zR.out)) : z8 ≠ zP));have Cg:=Aside0.mk ((by rw [hg];exact Nat.ne_of_gt (bV (g:=z8) (o:=.cells #[.int .u64 Aa,.slice (some AL) zM.length Aw] 49 (0,0)) (by (with_reducible repeat (first|apply aj|apply au|apply ah));refine aJ ?_ zU.out _;(with_reducible repeat (first|apply aj|apply au|apply ah));refine aJ ?_ zU.out _;(with_reducible repeat (first|apply aj|apply au|apply ah));refine aJ ?_ zU.out _;(with_reducible repeat (first|apply aj|apply au|apply ah));refine aJ ?_ zU.out _;(with_reducible repeat (first|apply aj|apply au|apply ah));refine aJ ?_ zU.out _;(with_reducible repeat (first|apply aj|apply au|apply ah));refine aJ ?_ zU.out _;(with_reducible repeat (first|apply aj|apply au|apply ah));exact zR.out)) : zP ≠ z8));have Ch:=Aside0.mk ((by rw [hg];exact Nat.ne_of_lt (bV (g:=Ac) (o:=.cells #[.int .u64 0,.slice none 0 0] 53 (0,0)) (by (with_reducible repeat (first|apply aj|apply au|apply ah));refine aJ ?_ zV.out _;(with_reducible repeat (first|apply aj|apply au|apply ah));refine aJ ?_ zV.out _;(with_reducible repeat (first|apply aj|apply au|apply ah));refine aJ ?_ zV.out _;(with_reducible repeat (first|apply aj|apply au|apply ah));refine aJ ?_ zV.out _;(with_reducible repeat (first|apply aj|apply au|apply ah));refine aJ ?_ zV.out _;(with_reducible repeat (first|apply aj|apply au|apply ah));refine aJ ?_ zV.out _;(with_reducible repeat (first|apply aj|apply au|apply ah));exact zW.out)) : Ac ≠ zP));have Ci:=Aside0.mk ((by rw [hg];exact Nat.ne_of_gt (bV (g:=Ac) (o:=.cells #[.int .u64 0,.slice none 0 0] 53 (0,0)) (by (with_reducible repeat (first|apply aj|apply au|apply ah));refine aJ ?_ zV.out _;(with_reducible repeat (first|apply aj|apply au|apply ah));refine aJ ?_ zV.out _;(with_reducible repeat (first|apply aj|apply au|apply ah));refine aJ ?_ zV.out _;(with_reducible repeat (first|apply aj|apply au|apply ah));refine aJ ?_ zV.out _;(with_reducible repeat (first|apply aj|apply au|apply ah));refine aJ ?_ zV.out _;(with_reducible repeat (first|apply aj|apply au|apply ah));refine aJ ?_ zV.out _;(with_reducible repeat (first|apply aj|apply au|apply ah));exact zW.out)) : zP ≠ Ac));have Cj:=Aside0.mk ((by rw [hg];exact Nat.ne_of_lt (bV (g:=Ab) (o:=.cells #[.int .u64 Aa,zX] 53 (0,0)) (by (with_reducible repeat (first|apply aj|apply au|apply ah));refine aJ ?_ zQ.out _;(with_reducible repeat (first|apply aj|apply au|apply ah));refine aJ ?_ zQ.out _;(with_reducible repeat (first|apply aj|apply au|apply ah));refine aJ ?_ zQ.out _;(with_reducible repeat (first|apply aj|apply au|apply ah));refine aJ ?_ zQ.out _;(with_reducible repeat (first|apply aj|apply au|apply ah));refine aJ ?_ zQ.out _;(with_reducible repeat (first|apply aj|apply au|apply ah));refine aJ ?_ zQ.out _;(with_reducible repeat (first|apply aj|apply au|apply ah));exact zS.out)) : Ab ≠ zP));have Dp:=Aside0.mk ((by rw [hg];exact Nat.ne_of_gt (bV (g:=Ab) (o:=.cells #[.int .u64 Aa,zX] 53 (0,0)) (by (with_reducible repeat (first|apply aj|apply au|apply ah));refine aJ ?_ zQ.out _;(with_reducible repeat (first|apply aj|apply au|apply ah));refine aJ ?_ zQ.out _;(with_reducible repeat (first|apply aj|apply au|apply ah));refine aJ ?_ zQ.out _;(with_reducible repeat (first|apply aj|apply au|apply ah));refine aJ ?_ zQ.out _;(with_reducible repeat (first|apply aj|apply au|apply ah));refine aJ ?_ zQ.out _;(with_reducible repeat (first|apply aj|apply au|apply ah));refine aJ ?_ zQ.out _;(with_reducible repeat (first|apply aj|apply au|apply ah));exact zS.out)) : zP ≠ Ab));have Dq:=Aside0.mk ((by rw [hg];exact Nat.ne_of_lt (bV (g:=zY) (o:=.cells #[.string ((aH zM zL).f0),.string ((aH zM zL).f1),.string ((aH zM zL).f2),.int .u8 ((aH zM zL).f3),.int .u16 ((aH zM zL).f4),.slice A9 ((aH zM zL).f5).length AA] 98 (0,0)) (by (with_reducible repeat (first|apply aj|apply au|apply ah));refine aX (cs:=#[.string ((aH zM zL).f0),.string ((aH zM zL).f1),.string ((aH zM zL).f2),.int .u8 ((aH zM zL).f3),.int .u16 ((aH zM zL).f4),.slice none 0 0]) ?_ 5 _ rfl;(with_reducible repeat (first|apply aj|apply au|apply ah));refine aX (cs:=#[.string ((aH zM zL).f0),.string ((aH zM zL).f1),.string ((aH zM zL).f2),.int .u8 ((aH zM zL).f3),.int .u16 0,.slice none 0 0]) ?_ 4 _ rfl;(with_reducible repeat (first|apply aj|apply au|apply ah));refine aX (cs:=#[.string ((aH zM zL).f0),.string ((aH zM zL).f1),.string ((aH zM zL).f2),.int .u8 0,.int .u16 0,.slice none 0 0]) ?_ 3 _ rfl;(with_reducible repeat (first|apply aj|apply au|apply ah));refine aX (cs:=#[.string ((aH zM zL).f0),.string ((aH zM zL).f1),.string (⟨#[]⟩ : ByteArray),.int .u8 0,.int .u16 0,.slice none 0 0]) ?_ 2 _ rfl;(with_reducible repeat (first|apply aj|apply au|apply ah));refine aX (cs:=#[.string ((aH zM zL).f0),.string (⟨#[]⟩ : ByteArray),.string (⟨#[]⟩ : ByteArray),.int .u8 0,.int .u16 0,.slice none 0 0]) ?_ 1 _ rfl;(with_reducible repeat (first|apply aj|apply au|apply ah));refine aX (cs:=#[.string (⟨#[]⟩ : ByteArray),.string (⟨#[]⟩ : ByteArray),.string (⟨#[]⟩ : ByteArray),.int .u8 0,.int .u16 0,.slice none 0 0]) ?_ 0 _ rfl;(with_reducible repeat (first|apply aj|apply au|apply ah));exact zT.out)) : zY ≠ zP));have Dr:=Aside0.mk ((by rw [hg];exact Nat.ne_of_gt (bV (g:=zY) (o:=.cells #[.string ((aH zM zL).f0),.string ((aH zM zL).f1),.string ((aH zM zL).f2),.int .u8 ((aH zM zL).f3),.int .u16 ((aH zM zL).f4),.slice A9 ((aH zM zL).f5).length AA] 98 (0,0)) (by (with_reducible repeat (first|apply aj|apply au|apply ah));refine aX (cs:=#[.string ((aH zM zL).f0),.string ((aH zM zL).f1),.string ((aH zM zL).f2),.int .u8 ((aH zM zL).f3),.int .u16 ((aH zM zL).f4),.slice none 0 0]) ?_ 5 _ rfl;(with_reducible repeat (first|apply aj|apply au|apply ah));refine aX (cs:=#[.string ((aH zM zL).f0),.string ((aH zM zL).f1),.string ((aH zM zL).f2),.int .u8 ((aH zM zL).f3),.int .u16 0,.slice none 0 0]) ?_ 4 _ rfl;(with_reducible repeat (first|apply aj|apply au|apply ah));refine aX (cs:=#[.string ((aH zM zL).f0),.string ((aH zM zL).f1),.string ((aH zM zL).f2),.int .u8 0,.int .u16 0,.slice none 0 0]) ?_ 3 _ rfl;(with_reducible repeat (first|apply aj|apply au|apply ah));refine aX (cs:=#[.string ((aH zM zL).f0),.string ((aH zM zL).f1),.string (⟨#[]⟩ : ByteArray),.int .u8 0,.int .u16 0,.slice none 0 0]) ?_ 2 _ rfl;(with_reducible repeat (first|apply aj|apply au|apply ah));refine aX (cs:=#[.string ((aH zM zL).f0),.string (⟨#[]⟩ : ByteArray),.string (⟨#[]⟩ : ByteArray),.int .u8 0,.int .u16 0,.slice none 0 0]) ?_ 1 _ rfl;(with_reducible repeat (first|apply aj|apply au|apply ah));refine aX (cs:=#[.string (⟨#[]⟩ : ByteArray),.string (⟨#[]⟩ : ByteArray),.string (⟨#[]⟩ : ByteArray),.int .u8 0,.int .u16 0,.slice none 0 0]) ?_ 0 _ rfl;(with_reducible repeat (first|apply aj|apply au|apply ah));exact zT.out)) : zP ≠ zY));clear zO;clear zR;clear zW;clear zS;clear zT;clear HB;have zO:=Bg;have zR:=Bh;have zW:=Bj;have zS:=BM;have zT:=BO;have HB:=BP;have zN:=BQ;have Im:=CS;have AY:=CU;have Ai:=Dj;have Bp:=Cg;have Aj:=Ch;have Bq:=Ci;have Ak:=Cj;have Br:=Dp;have Al:=Dq;have Bt:=Dr;clear Bg Bh Bj BM BO BP BQ CS CU Dj Cg Ch Ci Cj Dp Dq Dr;clear hb hbox hg;have Io:=Bp.out;have Ip:=Ai.out;have Iq:=Bq.out;have Ir:=Aj.out;have Iu:=Br.out;have Iw:=Ak.out;have Iy:=Bt.out;have Iz:=Al.out;have D6 : Di.cell? ⟨zP,0,none⟩ = some (.string (⟨#[]⟩ : ByteArray)):=(ay zN.out 0).trans rfl;have D7 : Di.cell? ⟨zP,1,none⟩ = some (.string (⟨#[]⟩ : ByteArray)):=(ay zN.out 1).trans rfl;have D8 : Di.cell? ⟨zP,2,none⟩ = some (.string (⟨#[]⟩ : ByteArray)):=(ay zN.out 2).trans rfl;have D9 : Di.cell? ⟨zP,3,none⟩ = some (.int .u8 0):=(ay zN.out 3).trans rfl;have Ea : Di.cell? ⟨zP,4,none⟩ = some (.int .u16 0):=(ay zN.out 4).trans rfl;have Eb : Di.cell? ⟨zP,5,none⟩ = some (.slice none 0 0):=(ay zN.out 5).trans rfl;have Ec:=av zN.out 0;have Ed:=av zN.out 1;have Ee:=av zN.out 2;have Ef:=av zN.out 3;have Eh:=av zN.out 4;have Ei:=av zN.out 5;have Ej : Di.cell? ⟨zY,0,none⟩ = some (.string ((aH zM zL).f0)):=(ay zT.out 0).trans rfl;have El : Di.cell? ⟨zY,1,none⟩ = some (.string ((aH zM zL).f1)):=(ay zT.out 1).trans rfl;have Em : Di.cell? ⟨zY,2,none⟩ = some (.string ((aH zM zL).f2)):=(ay zT.out 2).trans rfl;have En : Di.cell? ⟨zY,3,none⟩ = some (.int .u8 ((aH zM zL).f3)):=(ay zT.out 3).trans rfl;have Eo : Di.cell? ⟨zY,4,none⟩ = some (.int .u16 ((aH zM zL).f4)):=(ay zT.out 4).trans rfl;have Ep : Di.cell? ⟨zY,5,none⟩ = some (.slice A9 ((aH zM zL).f5).length AA):=(ay zT.out 5).trans rfl;have Er:=av zT.out 0;have Es:=av zT.out 1;have Et:=av zT.out 2;have Eu:=av zT.out 3;have Ew:=av zT.out 4;have Ey:=av zT.out 5))
      go_loopg [33] k1 (fun kq v33 w'=>∃ (Ae : Int) (Ad : List (S104)) (Ap : Value),v33 = .int .i64 Ae ∧ Aside0 (bM.l1 kq zM (zM.length : Int) zL ((aH zM zL).f5) (((aH zM zL).f5).length : Int) Ae Aa Ag ((aH zM zL).f0) ((aH zM zL).f1) ((aH zM zL).f2) ((aH zM zL).f3) ((aH zM zL).f4) Ad = some (r1,r2)) ∧ Aside0 (kq ≤ k1) ∧ Aside0 (Kd.S iC 103 w' w.heap.size (fun k_=>some k_ ≠ (Ap : Value).ownBlock ∧ k_ ≠ zP) zX Ag) ∧ Aside0 (Kd.R jK 104 w' w.heap.size (fun _=>True) Ap Ad) ∧ Aside0 (w'.heap[z8]? = some (.cells #[.int .u64 Aa,(.slice (some AL) zM.length Aw)] 49 (0,0))) ∧ Aside0 (w'.heap[Ac]? = some (.cells #[.int .u64 0,(.slice none 0 0)] 53 (0,0))) ∧ Aside0 (w'.heap[Ab]? = some (.cells #[.int .u64 Aa,zX] 53 (0,0))) ∧ Aside0 (w'.heap[zY]? = some (.cells #[.string ((aH zM zL).f0),.string ((aH zM zL).f1),.string ((aH zM zL).f2),.int .u8 ((aH zM zL).f3),.int .u16 ((aH zM zL).f4),(.slice A9 ((aH zM zL).f5).length AA)] 98 (0,0))) ∧ Aside0 (w'.heap[zP]? = some (.cells #[.string ((aH zM zL).f0),.string ((aH zM zL).f1),.string ((aH zM zL).f2),.int .u8 ((aH zM zL).f3),.int .u16 ((aH zM zL).f4),Ap] 103 (0,0))) ∧ Aside0 (Below w.heap.size w w'))
      case atStart=>exact ⟨(0),(([] : List (S104))),(.slice none 0 0),(by first|rfl|(simp;done)|(simp [*];done)),H',⟨Nat.le_refl _⟩,⟨by (with_reducible repeat (first|apply Kd.cZ|apply Kd.dh|apply Kd.dA));exact Kd.dO (Kd.dQ (p:=⟨zP,5,none⟩) (Kd.dQ (p:=⟨zP,4,none⟩) (Kd.dQ (p:=⟨zP,3,none⟩) (Kd.dQ (p:=⟨zP,2,none⟩) (Kd.dQ (p:=⟨zP,1,none⟩) (Kd.dQ (p:=⟨zP,0,none⟩) (Kd.dO zO.out (fun k_ hk=>(⟨hk,hk.2⟩ : _ ∧ k_ ≠ zP))) (fun _ hk=>hk.2) (.string ((aH zM zL).f0))) (fun _ hk=>hk.2) (.string ((aH zM zL).f1))) (fun _ hk=>hk.2) (.string ((aH zM zL).f2))) (fun _ hk=>hk.2) (.int .u8 ((aH zM zL).f3))) (fun _ hk=>hk.2) (.int .u16 ((aH zM zL).f4))) (fun _ hk=>hk.2) (.slice none 0 0)) (fun _ hk=>⟨(by simp [Value.ownBlock]),hk.1.2⟩)⟩,⟨by first|exact Kd.jl _ _ _ _ _|exact Kd.kV _ _ _ _ _|exact Kd.kW _ _ _ _ _|exact Kd.kR _ _ _ _ _|exact Kd.iU _ _ _ _ _⟩,⟨by (with_reducible repeat (first|apply aj|apply au|apply ah));refine aJ ?_ Ai.out _;(with_reducible repeat (first|apply aj|apply au|apply ah));refine aJ ?_ Ai.out _;(with_reducible repeat (first|apply aj|apply au|apply ah));refine aJ ?_ Ai.out _;(with_reducible repeat (first|apply aj|apply au|apply ah));refine aJ ?_ Ai.out _;(with_reducible repeat (first|apply aj|apply au|apply ah));refine aJ ?_ Ai.out _;(with_reducible repeat (first|apply aj|apply au|apply ah));refine aJ ?_ Ai.out _;(with_reducible repeat (first|apply aj|apply au|apply ah));exact zR.out⟩,⟨by (with_reducible repeat (first|apply aj|apply au|apply ah));refine aJ ?_ Aj.out _;(with_reducible repeat (first|apply aj|apply au|apply ah));refine aJ ?_ Aj.out _;(with_reducible repeat (first|apply aj|apply au|apply ah));refine aJ ?_ Aj.out _;(with_reducible repeat (first|apply aj|apply au|apply ah));refine aJ ?_ Aj.out _;(with_reducible repeat (first|apply aj|apply au|apply ah));refine aJ ?_ Aj.out _;(with_reducible repeat (first|apply aj|apply au|apply ah));refine aJ ?_ Aj.out _;(with_reducible repeat (first|apply aj|apply au|apply ah));exact zW.out⟩,⟨by (with_reducible repeat (first|apply aj|apply au|apply ah));refine aJ ?_ Ak.out _;(with_reducible repeat (first|apply aj|apply au|apply ah));refine aJ ?_ Ak.out _;(with_reducible repeat (first|apply aj|apply au|apply ah));refine aJ ?_ Ak.out _;(with_reducible repeat (first|apply aj|apply au|apply ah));refine aJ ?_ Ak.out _;(with_reducible repeat (first|apply aj|apply au|apply ah));refine aJ ?_ Ak.out _;(with_reducible repeat (first|apply aj|apply au|apply ah));refine aJ ?_ Ak.out _;(with_reducible repeat (first|apply aj|apply au|apply ah));exact zS.out⟩,⟨by (with_reducible repeat (first|apply aj|apply au|apply ah));refine aJ ?_ Al.out _;(with_reducible repeat (first|apply aj|apply au|apply ah));refine aJ ?_ Al.out _;(with_reducible repeat (first|apply aj|apply au|apply ah));refine aJ ?_ Al.out _;(with_reducible repeat (first|apply aj|apply au|apply ah));refine aJ ?_ Al.out _;(with_reducible repeat (first|apply aj|apply au|apply ah));refine aJ ?_ Al.out _;(with_reducible repeat (first|apply aj|apply au|apply ah));refine aJ ?_ Al.out _;(with_reducible repeat (first|apply aj|apply au|apply ah));exact zT.out⟩,⟨by (with_reducible repeat (first|apply aj|apply au|apply ah));refine aX (cs:=#[.string ((aH zM zL).f0),.string ((aH zM zL).f1),.string ((aH zM zL).f2),.int .u8 ((aH zM zL).f3),.int .u16 ((aH zM zL).f4),.slice none 0 0]) ?_ 5 _ rfl;(with_reducible repeat (first|apply aj|apply au|apply ah));refine aX (cs:=#[.string ((aH zM zL).f0),.string ((aH zM zL).f1),.string ((aH zM zL).f2),.int .u8 ((aH zM zL).f3),.int .u16 0,.slice none 0 0]) ?_ 4 _ rfl;(with_reducible repeat (first|apply aj|apply au|apply ah));refine aX (cs:=#[.string ((aH zM zL).f0),.string ((aH zM zL).f1),.string ((aH zM zL).f2),.int .u8 0,.int .u16 0,.slice none 0 0]) ?_ 3 _ rfl;(with_reducible repeat (first|apply aj|apply au|apply ah));refine aX (cs:=#[.string ((aH zM zL).f0),.string ((aH zM zL).f1),.string (⟨#[]⟩ : ByteArray),.int .u8 0,.int .u16 0,.slice none 0 0]) ?_ 2 _ rfl;(with_reducible repeat (first|apply aj|apply au|apply ah));refine aX (cs:=#[.string ((aH zM zL).f0),.string (⟨#[]⟩ : ByteArray),.string (⟨#[]⟩ : ByteArray),.int .u8 0,.int .u16 0,.slice none 0 0]) ?_ 1 _ rfl;(with_reducible repeat (first|apply aj|apply au|apply ah));refine aX (cs:=#[.string (⟨#[]⟩ : ByteArray),.string (⟨#[]⟩ : ByteArray),.string (⟨#[]⟩ : ByteArray),.int .u8 0,.int .u16 0,.slice none 0 0]) ?_ 0 _ rfl;(with_reducible repeat (first|apply aj|apply au|apply ah));exact zN.out⟩,⟨by repeat (first|(with_reducible first|exact HB.out|apply aD|apply ak|apply aC|refine aA ?_ Am.out|refine aA ?_ Aq.out|refine aA ?_ Av.out|refine aA ?_ AJ.out|refine aA ?_ AY.out)|exact HB.out)⟩⟩
      case round =>
       clear H'
       try clear c1
       try clear p1
       try clear q1
       try clear hx1
       try clear c2
       try clear p2
       try clear c4
       try clear c7
       try clear c8
       try clear c11
       try clear c11b0
       try clear c12
       try clear c12b0
       try clear c13
       try clear c13b0
       try clear c14
       try clear JM
       try clear JN
       try clear JK
       try clear c15
       try clear c16
       try clear c17
       try clear c20
       try clear c21
       try clear JO
       try clear c23
       try clear c24
       try clear AQ
       try clear AU
       try clear DK
       try clear DL
       try clear DN
       try clear DR
       try clear DT
       try clear DU
       try clear D6
       try clear D7
       try clear D8
       try clear D9
       try clear Ea
       try clear Eb
       try clear Ej
       try clear El
       try clear Em
       try clear En
       try clear Eo
       try clear Ep
       try clear Co
       try clear Cq
       try clear Dk
       try clear Dl
       try clear AV
       try clear AX
       try clear DV
       try clear DW
       try clear DX
       try clear DY
       try clear DZ
       try clear D5
       try clear Ec
       try clear Ed
       try clear Ee
       try clear Ef
       try clear Eh
       try clear Ei
       try clear Er
       try clear Es
       try clear Et
       try clear Eu
       try clear Ew
       try clear Ey
       try clear Cr
       try clear Ct
       try clear Dm
       try clear Dn
       try clear BG
       try clear BH
       try clear BI
       try clear BJ
       try clear BK
       try clear BL
       try clear DF
       try clear p2
       try clear DI
       obtain ⟨Ae,Ad,Ap,rfl,HA,Fw,zO,zZ,zR,zW,zS,zT,zN,HB⟩:=hrel
       cases gk with
       | zero=>exact absurd HA.out (by simp [bM.l1])
       | succ k2 =>
        have H:=HA.out
        clear HA
        simp only [bM.l1] at H
        by_cases ER : Ae < (((aH zM zL).f5).length : Int)
        ·rw [if_pos ER] at H
         have c26b0 : decide (Ae < (((aH zM zL).f5).length : Int)) = true:=decide_eq_true ER
         clear ER
         by_cases Fx : 0 ≤ Ae
         ·rw [if_pos Fx] at H
          have c27b0 : decide (0 ≤ Ae) = true:=decide_eq_true Fx
          clear Fx
          by_cases c28 : Ae < (((aH zM zL).f5).length : Int)
          ·rw [if_pos c28] at H
           have c28b0 : decide (Ae < (((aH zM zL).f5).length : Int)) = true:=decide_eq_true c28
           clear c28
           by_cases Fy : Ad.length < 4398046511104
           ·rw [if_pos Fy] at H
            have EW:=Aside0.mk Fy
            clear Fy
            obtain ⟨y153,hy153⟩ : ∃ y_ : List (S104),y_ = (Ad ++ [(⟨(eU ((aH zM zL).f5) Ae).f0,(eU ((aH zM zL).f5) Ae).f1⟩ : S104)]):=⟨_,rfl⟩
            replace H : (bM.l1 k2 zM (zM.length : Int) zL ((aH zM zL).f5) (((aH zM zL).f5).length : Int) (wrap64 (Ae + 1)) Aa Ag ((aH zM zL).f0) ((aH zM zL).f1) ((aH zM zL).f2) ((aH zM zL).f3) ((aH zM zL).f4) y153) = some (r1,r2):=by first|(rw [hy153];with_reducible exact H)|(have EJ:=(Option.bind_some _ _).symm.trans H;rw [hy153];with_reducible exact EJ)|(have EJ:=(Option.bind_some _ _).symm.trans H;with_reducible exact EJ)|with_reducible exact H|(rw [hy153];exact H)|exact H
            have EX:=Aside0.mk hy153
            clear hy153
            have H':=Aside0.mk H
            clear H
            have EK : 0 ≤ (Ae : Int):=of_decide_eq_true (by first|(with_reducible assumption)|assumption)
            have EL : Ae < (((aH zM zL).f5).length : Int):=of_decide_eq_true (by first|(with_reducible assumption)|assumption)
            obtain ⟨CX,G5,Cb,Cc⟩:=oQ DJ.out Ae EK EL
            cases G5
            replace Cb:=(HB.out.cell (World.block_lt_of_cell? w _ Cb)).trans Cb
            replace Cc:=(HB.out.cell (World.block_lt_of_cell? w _ Cc)).trans Cc
            replace EK:=eq_true EK
            replace EL:=eq_true EL
            go_wp2_with (first|((with_reducible refine dw (N:=8) rfl ?_);refine cB ?hg (N:=8) ?hd (cs:=#[.string (⟨#[]⟩ : ByteArray),.string (⟨#[]⟩ : ByteArray)]) (t:=100) ?hr ?_;(case hd=>rfl);(case hg=>rfl);(case hr=>first|(go_simp;done)|(go_simp;rfl));intro Ar hg EG hbox hb;have Bg:=Aside0.mk (Kd.dJ (by (with_reducible repeat (first|apply Kd.cZ|apply Kd.dh|apply Kd.dA));exact zO.out) hb);have Bh:=Aside0.mk (Kd.jA (by (with_reducible repeat (first|apply Kd.fH|apply Kd.fI|apply Kd.gy));exact zZ.out) hb);have Bj:=Aside0.mk (aQ (g:=z8) (o:=.cells #[.int .u64 Aa,.slice (some AL) zM.length Aw] 49 (0,0)) (bk_ zR.out) hb);have BM:=Aside0.mk (aQ (g:=Ac) (o:=.cells #[.int .u64 0,.slice none 0 0] 53 (0,0)) (bk_ zW.out) hb);have BO:=Aside0.mk (aQ (g:=Ab) (o:=.cells #[.int .u64 Aa,zX] 53 (0,0)) (bk_ zS.out) hb);have BP:=Aside0.mk (aQ (g:=zY) (o:=.cells #[.string ((aH zM zL).f0),.string ((aH zM zL).f1),.string ((aH zM zL).f2),.int .u8 ((aH zM zL).f3),.int .u16 ((aH zM zL).f4),.slice (some CX) ((aH zM zL).f5).length AA] 98 (0,0)) (bk_ zT.out) hb);have BQ:=Aside0.mk (aQ (g:=zP) (o:=.cells #[.string ((aH zM zL).f0),.string ((aH zM zL).f1),.string ((aH zM zL).f2),.int .u8 ((aH zM zL).f3),.int .u16 ((aH zM zL).f4),Ap] 103 (0,0)) (bk_ zN.out) hb);have CS:=Aside0.mk (aU (by repeat (first|(with_reducible first|exact HB.out|apply aD|apply ak|apply aC|refine aA ?_ Am.out|refine aA ?_ Aq.out|refine aA ?_ Av.out|refine aA ?_ AJ.out|refine aA ?_ AY.out)|exact HB.out)) hb);have CU:=Aside0.mk (hbox);have Dj:=Aside0.mk ((by rw [hg];exact (aW (by repeat (first|(with_reducible first|exact HB.out|apply aD|apply ak|apply aC|refine aA ?_ Am.out|refine aA ?_ Aq.out|refine aA ?_ Av.out|refine aA ?_ AJ.out|refine aA ?_ AY.out)|exact HB.out))) : w.heap.size ≤ Ar));have Cg:=Aside0.mk ((by rw [hg];exact (aW (by repeat (first|(with_reducible first|exact HB.out|apply aD|apply ak|apply aC|refine aA ?_ Am.out|refine aA ?_ Aq.out|refine aA ?_ Av.out|refine aA ?_ AJ.out|refine aA ?_ AY.out)|exact HB.out))) : w.heap.size ≤ Ar));have Ch:=Aside0.mk ((by rw [hg];exact Nat.ne_of_lt (bV (g:=z8) (o:=.cells #[.int .u64 Aa,.slice (some AL) zM.length Aw] 49 (0,0)) (bk_ zR.out)) : z8 ≠ Ar));have Ci:=Aside0.mk ((by rw [hg];exact Nat.ne_of_gt (bV (g:=z8) (o:=.cells #[.int .u64 Aa,.slice (some AL) zM.length Aw] 49 (0,0)) (bk_ zR.out)) : Ar ≠ z8));have Cj:=Aside0.mk ((by rw [hg];exact Nat.ne_of_lt (bV (g:=Ac) (o:=.cells #[.int .u64 0,.slice none 0 0] 53 (0,0)) (bk_ zW.out)) : Ac ≠ Ar));have Dp:=Aside0.mk ((by rw [hg];exact Nat.ne_of_gt (bV (g:=Ac) (o:=.cells #[.int .u64 0,.slice none 0 0] 53 (0,0)) (bk_ zW.out)) : Ar ≠ Ac));have Dq:=Aside0.mk ((by rw [hg];exact Nat.ne_of_lt (bV (g:=Ab) (o:=.cells #[.int .u64 Aa,zX] 53 (0,0)) (bk_ zS.out)) : Ab ≠ Ar));have Dr:=Aside0.mk ((by rw [hg];exact Nat.ne_of_gt (bV (g:=Ab) (o:=.cells #[.int .u64 Aa,zX] 53 (0,0)) (bk_ zS.out)) : Ar ≠ Ab));have EY:=Aside0.mk ((by rw [hg];exact Nat.ne_of_lt (bV (g:=zY) (o:=.cells #[.string ((aH zM zL).f0),.string ((aH zM zL).f1),.string ((aH zM zL).f2),.int .u8 ((aH zM zL).f3),.int .u16 ((aH zM zL).f4),.slice (some CX) ((aH zM zL).f5).length AA] 98 (0,0)) (bk_ zT.out)) : zY ≠ Ar));have EZ:=Aside0.mk ((by rw [hg];exact Nat.ne_of_gt (bV (g:=zY) (o:=.cells #[.string ((aH zM zL).f0),.string ((aH zM zL).f1),.string ((aH zM zL).f2),.int .u8 ((aH zM zL).f3),.int .u16 ((aH zM zL).f4),.slice (some CX) ((aH zM zL).f5).length AA] 98 (0,0)) (bk_ zT.out)) : Ar ≠ zY));have E5:=Aside0.mk ((by rw [hg];exact Nat.ne_of_lt (bV (g:=zP) (o:=.cells #[.string ((aH zM zL).f0),.string ((aH zM zL).f1),.string ((aH zM zL).f2),.int .u8 ((aH zM zL).f3),.int .u16 ((aH zM zL).f4),Ap] 103 (0,0)) (bk_ zN.out)) : zP ≠ Ar));have E8:=Aside0.mk ((by rw [hg];exact Nat.ne_of_gt (bV (g:=zP) (o:=.cells #[.string ((aH zM zL).f0),.string ((aH zM zL).f1),.string ((aH zM zL).f2),.int .u8 ((aH zM zL).f3),.int .u16 ((aH zM zL).f4),Ap] 103 (0,0)) (bk_ zN.out)) : Ar ≠ zP));clear zO;clear zZ;clear zR;clear zW;clear zS;clear zT;clear zN;clear HB;have zO:=Bg;have zZ:=Bh;have zR:=Bj;have zW:=BM;have zS:=BO;have zT:=BP;have zN:=BQ;have HB:=CS;have AZ:=CU;have IB:=Dj;have Dt:=Cg;have Bu:=Ch;have C9:=Ci;have Bv:=Cj;have Da:=Dp;have Bw:=Dq;have Db:=Dr;have Bz:=EY;have Dc:=EZ;have BA:=E5;have Df:=E8;clear Bg Bh Bj BM BO BP BQ CS CU Dj Cg Ch Ci Cj Dp Dq Dr EY EZ E5 E8;clear hb hbox hg;have IC:=C9.out;have IE:=Bu.out;have IG:=Da.out;have II:=Bv.out;have IJ:=Db.out;have IK:=Bw.out;have IL:=Dc.out;have IQ:=Bz.out;have IU:=Df.out;have IV:=BA.out;have Fz : EG.cell? ⟨Ar,0,none⟩ = some (.string (⟨#[]⟩ : ByteArray)):=(ay AZ.out 0).trans rfl;have FB : EG.cell? ⟨Ar,1,none⟩ = some (.string (⟨#[]⟩ : ByteArray)):=(ay AZ.out 1).trans rfl;have FC:=av AZ.out 0;have FD:=av AZ.out 1;have IW:=Bp.out;have IX:=Ai.out;have IY:=Bq.out;have IZ:=Aj.out;have I4:=Br.out;have I5:=Ak.out;have I6:=Bt.out;have I7:=Al.out;have FE : EG.cell? ⟨zP,0,none⟩ = some (.string ((aH zM zL).f0)):=(ay zN.out 0).trans rfl;have FH : EG.cell? ⟨zP,1,none⟩ = some (.string ((aH zM zL).f1)):=(ay zN.out 1).trans rfl;have FI : EG.cell? ⟨zP,2,none⟩ = some (.string ((aH zM zL).f2)):=(ay zN.out 2).trans rfl;have FJ : EG.cell? ⟨zP,3,none⟩ = some (.int .u8 ((aH zM zL).f3)):=(ay zN.out 3).trans rfl;have FL : EG.cell? ⟨zP,4,none⟩ = some (.int .u16 ((aH zM zL).f4)):=(ay zN.out 4).trans rfl;have FM : EG.cell? ⟨zP,5,none⟩ = some (Ap):=(ay zN.out 5).trans rfl;have FN:=av zN.out 0;have FP:=av zN.out 1;have FQ:=av zN.out 2;have FR:=av zN.out 3;have FT:=av zN.out 4;have FU:=av zN.out 5)|((with_reducible refine gU (b:=.append) (xs:=#[.tmp 38,.tmp 40]) rfl ?_);at_builtin;refine Kd.jN jK (w0:=w) w.heap.size rfl (.tmp 38) (.tmp 40) 101 104 (.agg #[(.string ⟨#[]⟩),(.string ⟨#[]⟩)]) 32 rfl Tryd.underlying101 ru rfl (by decide) (by omega) Ap Ad (⟨(eU ((aH zM zL).f5) Ae).f0,(eU ((aH zM zL).f5) Ae).f1⟩ : S104) [.string ((eU ((aH zM zL).f5) Ae).f0),.string ((eU ((aH zM zL).f5) Ae).f1)] (fun _=>True) (fun _=>False) rfl (by first|(go_simp;done)|(go_simp;rfl)) ?aP (fun _ hk=>hk.elim) ?aF ?aO ?aB ?aS ?aL ?_;(case aP=>exact pO _ _ _ (⟨(eU ((aH zM zL).f5) Ae).f0,(eU ((aH zM zL).f5) Ae).f1⟩ : S104));(case aB=>exact (by repeat (first|(with_reducible first|exact HB.out|apply aD|apply ak|apply aC|refine aA ?_ Am.out|refine aA ?_ Aq.out|refine aA ?_ Av.out|refine aA ?_ AJ.out|refine aA ?_ AY.out|refine aA ?_ Dt.out)|exact HB.out)));(case aF=>exact (fun _ _=>trivial));(case aO=>exact (by (with_reducible repeat (first|apply Kd.fH|apply Kd.fI|apply Kd.gy));exact Kd.fE (Kd.jG (p:=⟨Ar,1,none⟩) (Kd.jG (p:=⟨Ar,0,none⟩) (Kd.gP zZ.out AZ.out (by decide)) (fun _ hk=>hk.2) (.string ((eU ((aH zM zL).f5) Ae).f0))) (fun _ hk=>hk.2) (.string ((eU ((aH zM zL).f5) Ae).f1))) (fun _ hk=>trivial)));(case aS=>exact (aW (by repeat (first|(with_reducible first|exact HB.out|apply aD|apply ak|apply aC|refine aA ?_ Am.out|refine aA ?_ Aq.out|refine aA ?_ Av.out|refine aA ?_ AJ.out|refine aA ?_ AY.out|refine aA ?_ Dt.out)|exact HB.out))));(case aL=>have:=EW.out;omega);intro v154 ES ho hb hg hat;rw [← EX.out] at ho;have Bg:=Aside0.mk (Kd.oO (ok:=(fun k_=>k_ ≠ zP)) (by (with_reducible repeat (first|apply Kd.cZ|apply Kd.dh|apply Kd.dA));exact Kd.dO (Kd.dQ (p:=⟨Ar,1,none⟩) (Kd.dQ (p:=⟨Ar,0,none⟩) (Kd.eO zO.out AZ.out (by decide)) (fun _ hk=>hk.2) (.string ((eU ((aH zM zL).f5) Ae).f0))) (fun _ hk=>hk.2) (.string ((eU ((aH zM zL).f5) Ae).f1))) (fun _ hk=>⟨hk.1.2,hk.1.1⟩)) hg hat);have Bh:=Aside0.mk (dS (g:=z8) (o:=.cells #[.int .u64 Aa,.slice (some AL) zM.length Aw] 49 (0,0)) (by (with_reducible repeat (first|apply aj|apply au|apply ah));refine aJ ?_ Bu.out _;(with_reducible repeat (first|apply aj|apply au|apply ah));refine aJ ?_ Bu.out _;(with_reducible repeat (first|apply aj|apply au|apply ah));exact zR.out) hg (Kd.jI zZ.out zR.out (by decide)));have Bj:=Aside0.mk (dS (g:=Ac) (o:=.cells #[.int .u64 0,.slice none 0 0] 53 (0,0)) (by (with_reducible repeat (first|apply aj|apply au|apply ah));refine aJ ?_ Bv.out _;(with_reducible repeat (first|apply aj|apply au|apply ah));refine aJ ?_ Bv.out _;(with_reducible repeat (first|apply aj|apply au|apply ah));exact zW.out) hg (Kd.jI zZ.out zW.out (by decide)));have BM:=Aside0.mk (dS (g:=Ab) (o:=.cells #[.int .u64 Aa,zX] 53 (0,0)) (by (with_reducible repeat (first|apply aj|apply au|apply ah));refine aJ ?_ Bw.out _;(with_reducible repeat (first|apply aj|apply au|apply ah));refine aJ ?_ Bw.out _;(with_reducible repeat (first|apply aj|apply au|apply ah));exact zS.out) hg (Kd.jI zZ.out zS.out (by decide)));have BO:=Aside0.mk (dS (g:=zY) (o:=.cells #[.string ((aH zM zL).f0),.string ((aH zM zL).f1),.string ((aH zM zL).f2),.int .u8 ((aH zM zL).f3),.int .u16 ((aH zM zL).f4),.slice (some CX) ((aH zM zL).f5).length AA] 98 (0,0)) (by (with_reducible repeat (first|apply aj|apply au|apply ah));refine aJ ?_ Bz.out _;(with_reducible repeat (first|apply aj|apply au|apply ah));refine aJ ?_ Bz.out _;(with_reducible repeat (first|apply aj|apply au|apply ah));exact zT.out) hg (Kd.jI zZ.out zT.out (by decide)));have BP:=Aside0.mk (dS (g:=zP) (o:=.cells #[.string ((aH zM zL).f0),.string ((aH zM zL).f1),.string ((aH zM zL).f2),.int .u8 ((aH zM zL).f3),.int .u16 ((aH zM zL).f4),Ap] 103 (0,0)) (by (with_reducible repeat (first|apply aj|apply au|apply ah));refine aJ ?_ BA.out _;(with_reducible repeat (first|apply aj|apply au|apply ah));refine aJ ?_ BA.out _;(with_reducible repeat (first|apply aj|apply au|apply ah));exact zN.out) hg (Kd.jI zZ.out zN.out (by decide)));have BQ:=Aside0.mk (dS (g:=Ar) (o:=.cells #[.string ((eU ((aH zM zL).f5) Ae).f0),.string ((eU ((aH zM zL).f5) Ae).f1)] 100 (0,0)) (by (with_reducible repeat (first|apply aj|apply au|apply ah));refine aX (cs:=#[.string ((eU ((aH zM zL).f5) Ae).f0),.string (⟨#[]⟩ : ByteArray)]) ?_ 1 _ rfl;(with_reducible repeat (first|apply aj|apply au|apply ah));refine aX (cs:=#[.string (⟨#[]⟩ : ByteArray),.string (⟨#[]⟩ : ByteArray)]) ?_ 0 _ rfl;(with_reducible repeat (first|apply aj|apply au|apply ah));exact AZ.out) hg (Kd.jI zZ.out AZ.out (by decide)));have CS:=Aside0.mk (hb);have CU:=Aside0.mk (ho);clear zO;clear zR;clear zW;clear zS;clear zT;clear zN;clear AZ;clear HB;clear zZ;have zO:=Bg;have zR:=Bh;have zW:=Bj;have zS:=BM;have zT:=BO;have zN:=BP;have AZ:=BQ;have HB:=CS;have EH:=CU;clear Bg Bh Bj BM BO BP BQ CS CU;clear ho hb hg hat;obtain ⟨EM,EN,G6⟩:=Kd.iH EH.out;subst G6;have FV : ES.cell? ⟨zP,0,none⟩ = some (.string ((aH zM zL).f0)):=(ay zN.out 0).trans rfl;have FW : ES.cell? ⟨zP,1,none⟩ = some (.string ((aH zM zL).f1)):=(ay zN.out 1).trans rfl;have FX : ES.cell? ⟨zP,2,none⟩ = some (.string ((aH zM zL).f2)):=(ay zN.out 2).trans rfl;have FY : ES.cell? ⟨zP,3,none⟩ = some (.int .u8 ((aH zM zL).f3)):=(ay zN.out 3).trans rfl;have FZ : ES.cell? ⟨zP,4,none⟩ = some (.int .u16 ((aH zM zL).f4)):=(ay zN.out 4).trans rfl;have F3 : ES.cell? ⟨zP,5,none⟩ = some (Ap):=(ay zN.out 5).trans rfl;have F4:=av zN.out 0;have F5:=av zN.out 1;have F6:=av zN.out 2;have F7:=av zN.out 3;have F8:=av zN.out 4;have F9:=av zN.out 5))
            go_roundg k2
            case measure=>have:=Fu.out;have:=Fw.out;omega
            case rel=>exact ⟨(wrap64 (Ae + 1)),(y153),(.slice EM y153.length EN),(by first|rfl|(simp;done)|(simp [*];done)),H',⟨by have:=Fu.out;have:=Fw.out;omega⟩,⟨by (with_reducible repeat (first|apply Kd.cZ|apply Kd.dh|apply Kd.dA));exact Kd.dO (Kd.dQ (p:=⟨zP,5,none⟩) (Kd.dO zO.out (fun k_ hk=>(⟨hk,hk.1⟩ : _ ∧ k_ ≠ zP))) (fun _ hk=>hk.2) (.slice EM y153.length EN)) (fun _ hk=>⟨hk.1.2,hk.1.1⟩)⟩,⟨by (with_reducible repeat (first|apply Kd.fH|apply Kd.fI|apply Kd.gy));exact Kd.fE (Kd.jG (p:=⟨zP,5,none⟩) (Kd.gP EH.out zN.out (by decide)) (fun _ hk=>hk.2) (.slice EM y153.length EN)) (fun _ hk=>trivial)⟩,⟨by (with_reducible repeat (first|apply aj|apply au|apply ah));refine aJ ?_ Ai.out _;(with_reducible repeat (first|apply aj|apply au|apply ah));exact zR.out⟩,⟨by (with_reducible repeat (first|apply aj|apply au|apply ah));refine aJ ?_ Aj.out _;(with_reducible repeat (first|apply aj|apply au|apply ah));exact zW.out⟩,⟨by (with_reducible repeat (first|apply aj|apply au|apply ah));refine aJ ?_ Ak.out _;(with_reducible repeat (first|apply aj|apply au|apply ah));exact zS.out⟩,⟨by (with_reducible repeat (first|apply aj|apply au|apply ah));refine aJ ?_ Al.out _;(with_reducible repeat (first|apply aj|apply au|apply ah));exact zT.out⟩,⟨by (with_reducible repeat (first|apply aj|apply au|apply ah));refine aX (cs:=#[.string ((aH zM zL).f0),.string ((aH zM zL).f1),.string ((aH zM zL).f2),.int .u8 ((aH zM zL).f3),.int .u16 ((aH zM zL).f4),Ap]) ?_ 5 _ rfl;(with_reducible repeat (first|apply aj|apply au|apply ah));exact zN.out⟩,⟨by repeat (first|(with_reducible first|exact HB.out|apply aD|apply ak|apply aC|refine aA ?_ Am.out|refine aA ?_ Aq.out|refine aA ?_ Av.out|refine aA ?_ AJ.out|refine aA ?_ AY.out|refine aA ?_ Dt.out)|exact HB.out)⟩⟩
           ·rw [if_neg Fy] at H
            exact absurd H (by simp)
          ·rw [if_neg c28] at H
           exact absurd H (by simp)
         ·rw [if_neg Fx] at H
          exact absurd H (by simp)
        ·rw [if_neg ER] at H
         have c26b0 : decide (Ae < (((aH zM zL).f5).length : Int)) = false:=decide_eq_false ER
         clear ER
         by_cases Ga : Ag.length < 1759218604441
         ·rw [if_pos Ga] at H
          have E9:=Aside0.mk Ga
          clear Ga
          obtain ⟨Ez,Ck⟩ : ∃ y_ : List (S103),y_ = (Ag ++ [(⟨((aH zM zL).f0),((aH zM zL).f1),((aH zM zL).f2),((aH zM zL).f3),((aH zM zL).f4),Ad⟩ : S103)]):=⟨_,rfl⟩
          replace H : (bM.l0 k2 zM (zM.length : Int) (wrap64 (zL + 1)) Aa Ez) = some (r1,r2):=by first|(rw [Ck];with_reducible exact H)|(have EJ:=(Option.bind_some _ _).symm.trans H;rw [Ck];with_reducible exact EJ)|(have EJ:=(Option.bind_some _ _).symm.trans H;with_reducible exact EJ)|with_reducible exact H|(rw [Ck];exact H)|exact H
          have Fa:=Aside0.mk Ck
          clear Ck
          have H':=Aside0.mk H
          clear H
          have I8:=Bn.out
          have I9:=Ay.out
          have Ja:=Bo.out
          have Jb:=Az.out
          have Jc:=zQ.out
          have Jd:=BU.out
          have Je:=Ak.out
          have Jf:=Br.out
          have Gb : wr.cell? ⟨Ab,0,none⟩ = some (.int .u64 Aa):=(ay zS.out 0).trans rfl
          have Gc : wr.cell? ⟨Ab,1,none⟩ = some (zX):=(ay zS.out 1).trans rfl
          have Gd:=av zS.out 0
          have Gf:=av zS.out 1
          have Jg:=Bp.out
          have Jh:=Ai.out
          have Ji:=Bq.out
          have Jj:=Aj.out
          have Jk:=Bt.out
          have Jl:=Al.out
          have Gg : wr.cell? ⟨zP,0,none⟩ = some (.string ((aH zM zL).f0)):=(ay zN.out 0).trans rfl
          have Gh : wr.cell? ⟨zP,1,none⟩ = some (.string ((aH zM zL).f1)):=(ay zN.out 1).trans rfl
          have Gi : wr.cell? ⟨zP,2,none⟩ = some (.string ((aH zM zL).f2)):=(ay zN.out 2).trans rfl
          have Gj : wr.cell? ⟨zP,3,none⟩ = some (.int .u8 ((aH zM zL).f3)):=(ay zN.out 3).trans rfl
          have Gl : wr.cell? ⟨zP,4,none⟩ = some (.int .u16 ((aH zM zL).f4)):=(ay zN.out 4).trans rfl
          have Gm : wr.cell? ⟨zP,5,none⟩ = some (Ap):=(ay zN.out 5).trans rfl
          have Gn:=av zN.out 0
          have Gp:=av zN.out 1
          have Gq:=av zN.out 2
          have Gr:=av zN.out 3
          have Gs:=av zN.out 4
          have Gt:=av zN.out 5
          obtain ⟨EA,EB,G7⟩:=Kd.iH zZ.out
          subst G7
          go_wp2_with (first|((with_reducible refine gU (b:=.append) (xs:=#[.tmp 45,.tmp 47]) rfl ?_);at_builtin;refine Kd.mX iC (w0:=w) w.heap.size rfl (.tmp 45) (.tmp 47) 51 103 (.agg #[(.string ⟨#[]⟩),(.string ⟨#[]⟩),(.string ⟨#[]⟩),(.int .u8 0),(.int .u16 0),(.slice none 0 0)]) 80 rfl Tryd.underlying51 q8 rfl (by decide) (by omega) zX Ag (⟨((aH zM zL).f0),((aH zM zL).f1),((aH zM zL).f2),((aH zM zL).f3),((aH zM zL).f4),Ad⟩ : S103) [.string ((aH zM zL).f0),.string ((aH zM zL).f1),.string ((aH zM zL).f2),.int .u8 ((aH zM zL).f3),.int .u16 ((aH zM zL).f4),.slice EA Ad.length EB] (fun k_=>k_ ≠ zP) (fun k_=>some k_ = (.slice EA Ad.length EB : Value).ownBlock) rfl rfl ?aP (fun k_ hk_=>((Kd.fE (ok':=fun k_=>((fun k_=>k_ ≠ zP)) k_ ∧ some k_ ≠ (zX : Value).ownBlock) (Kd.gP (Kd.kS (zZ.out) (Kd.mF zO.out) (by decide)) zN.out (by decide)) (fun k_ hk=>⟨hk.2,hk.1.2⟩))).1 k_ hk_.symm) ?aF ?aO ?aB ?aS ?aL ?_;(case aP=>exact pQ _ _ _ (⟨((aH zM zL).f0),((aH zM zL).f1),((aH zM zL).f2),((aH zM zL).f3),((aH zM zL).f4),Ad⟩ : S103) (Kd.fE (Kd.oN rfl (Kd.fE (ok':=fun k_=>((fun k_=>k_ ≠ zP)) k_ ∧ some k_ ≠ (zX : Value).ownBlock) (Kd.gP (Kd.kS (zZ.out) (Kd.mF zO.out) (by decide)) zN.out (by decide)) (fun k_ hk=>⟨hk.2,hk.1.2⟩))) (fun _ h_=>h_)));(case aB=>exact (by repeat (first|(with_reducible first|exact HB.out|apply aD|apply ak|apply aC|refine aA ?_ Am.out|refine aA ?_ Aq.out|refine aA ?_ Av.out|refine aA ?_ AJ.out|refine aA ?_ AY.out)|exact HB.out)));(case aF=>exact (fun k_ hk=>Kd.oK (g:=zP) (o:=.cells #[.string ((aH zM zL).f0),.string ((aH zM zL).f1),.string ((aH zM zL).f2),.int .u8 ((aH zM zL).f3),.int .u16 ((aH zM zL).f4),.slice EA Ad.length EB] 103 (0,0)) (bk_ zN.out) k_ hk));(case aO=>exact (by (with_reducible repeat (first|apply Kd.cZ|apply Kd.dh|apply Kd.dA));exact Kd.dO zO.out (fun k_ hk=>⟨hk.2,fun e_=>hk.1 e_⟩)));(case aS=>exact (aW (by repeat (first|(with_reducible first|exact HB.out|apply aD|apply ak|apply aC|refine aA ?_ Am.out|refine aA ?_ Aq.out|refine aA ?_ Av.out|refine aA ?_ AJ.out|refine aA ?_ AY.out)|exact HB.out))));(case aL=>have:=E9.out;omega);intro v157 Jm ho hb hg hat;rw [← Fa.out] at ho;have Bg:=Aside0.mk (dS (g:=z8) (o:=.cells #[.int .u64 Aa,.slice (some AL) zM.length Aw] 49 (0,0)) (bk_ zR.out) hg (Kd.lH zO.out zR.out (by decide)));have Bh:=Aside0.mk (dS (g:=Ac) (o:=.cells #[.int .u64 0,.slice none 0 0] 53 (0,0)) (bk_ zW.out) hg (Kd.lH zO.out zW.out (by decide)));have Bj:=Aside0.mk (dS (g:=Ab) (o:=.cells #[.int .u64 Aa,zX] 53 (0,0)) (bk_ zS.out) hg (Kd.lH zO.out zS.out (by decide)));have BM:=Aside0.mk (dS (g:=zY) (o:=.cells #[.string ((aH zM zL).f0),.string ((aH zM zL).f1),.string ((aH zM zL).f2),.int .u8 ((aH zM zL).f3),.int .u16 ((aH zM zL).f4),.slice A9 ((aH zM zL).f5).length AA] 98 (0,0)) (bk_ zT.out) hg (Kd.lH zO.out zT.out (by decide)));have BO:=Aside0.mk (dS (g:=zP) (o:=.cells #[.string ((aH zM zL).f0),.string ((aH zM zL).f1),.string ((aH zM zL).f2),.int .u8 ((aH zM zL).f3),.int .u16 ((aH zM zL).f4),.slice EA Ad.length EB] 103 (0,0)) (bk_ zN.out) hg (Kd.tJ zO.out (fun _ hk=>hk.2)));have BP:=Aside0.mk (hb);have BQ:=Aside0.mk (ho);clear zR;clear zW;clear zS;clear zT;clear zN;clear HB;clear zO;clear zZ;have zR:=Bg;have zW:=Bh;have zS:=Bj;have zT:=BM;have zN:=BO;have HB:=BP;have EI:=BQ;clear Bg Bh Bj BM BO BP BQ;clear ho hb hg hat;obtain ⟨Fb,Fe,G8⟩:=Kd.gq EI.out;subst G8;have Gu : Jm.cell? ⟨Ab,0,none⟩ = some (.int .u64 Aa):=(ay zS.out 0).trans rfl;have Gv : Jm.cell? ⟨Ab,1,none⟩ = some (zX):=(ay zS.out 1).trans rfl;have Gw:=av zS.out 0;have Gx:=av zS.out 1))
          go_roundg k2
          case measure=>have:=Fu.out;have:=Fw.out;omega
          case rel=>exact ⟨(wrap64 (zL + 1)),(Ez),(.slice Fb Ez.length Fe),(by first|rfl|(simp;done)|(simp [*];done)),H',⟨by have:=Fu.out;have:=Fw.out;omega⟩,⟨by (with_reducible repeat (first|apply Kd.cZ|apply Kd.dh|apply Kd.dA));exact Kd.dO (Kd.dQ (p:=⟨Ab,1,none⟩) (Kd.eO EI.out zS.out (by decide)) (fun _ hk=>hk.2) (.slice Fb Ez.length Fe)) (fun _ hk=>trivial)⟩,⟨by (with_reducible repeat (first|apply aj|apply au|apply ah));refine aJ ?_ Ay.out _;(with_reducible repeat (first|apply aj|apply au|apply ah));exact zR.out⟩,⟨by (with_reducible repeat (first|apply aj|apply au|apply ah));refine aJ ?_ Az.out _;(with_reducible repeat (first|apply aj|apply au|apply ah));exact zW.out⟩,⟨by (with_reducible repeat (first|apply aj|apply au|apply ah));refine aX (cs:=#[.int .u64 Aa,zX]) ?_ 1 _ rfl;(with_reducible repeat (first|apply aj|apply au|apply ah));exact zS.out⟩,⟨by repeat (first|(with_reducible first|exact HB.out|apply aD|apply ak|apply aC|refine aA ?_ Am.out|refine aA ?_ Aq.out|refine aA ?_ Av.out|refine aA ?_ AJ.out|refine aA ?_ AY.out)|exact HB.out)⟩⟩
         ·rw [if_neg Ga] at H
          exact absurd H (by simp)
     ·rw [if_neg c13] at H
      exact absurd H (by simp)
    ·rw [if_neg c12] at H
     exact absurd H (by simp)
   ·rw [if_neg c11] at H
    have c11b0 : decide (zL < (zM.length : Int)) = false:=decide_eq_false c11
    clear c11
    simp only [Option.some.injEq,Prod.mk.injEq] at H
    obtain ⟨rfl,rfl⟩:=H
    have Jo:=Bn.out
    have Jp:=Ay.out
    have Jq:=Bo.out
    have Jr:=Az.out
    have Gy : wr.cell? ⟨Ab,0,none⟩ = some (.int .u64 Aa):=(ay zS.out 0).trans rfl
    have Gz : wr.cell? ⟨Ab,1,none⟩ = some (zX):=(ay zS.out 1).trans rfl
    have GA:=av zS.out 0
    have GD:=av zS.out 1
    have Js:=BS.out
    have Jt:=BR.out
    have GH : wr.cell? ⟨Ac,0,none⟩ = some (.int .u64 0):=(ay zW.out 0).trans rfl
    have GI : wr.cell? ⟨Ac,1,none⟩ = some (.slice none 0 0):=(ay zW.out 1).trans rfl
    have GJ:=av zW.out 0
    have GK:=av zW.out 1
    obtain ⟨Fg,Fh,G9⟩:=Kd.gq zO.out
    subst G9
    go_wp2
    refine bodyPost_ret (results_cell_row rfl _ _ Ac 53 #[.int .u64 Aa,.slice Fg Ag.length Fh] (0,0) _ rfl (by (with_reducible repeat (first|apply aj|apply au|apply ah));refine aX (cs:=#[.int .u64 Aa,.slice none 0 0]) ?_ 1 _ rfl;(with_reducible repeat (first|apply aj|apply au|apply ah));refine aX (cs:=#[.int .u64 0,.slice none 0 0]) ?_ 0 _ rfl;(with_reducible repeat (first|apply aj|apply au|apply ah));exact zW.out) Tryd.underlying53 rfl (by kernel_rfl)) rfl ?_
    exact ⟨_,by first|rfl|(simp [aY,aZ] <;> rfl)|(simp [*,aY,aZ] <;> rfl),by (with_reducible repeat (first|apply Kd.cZ|apply Kd.dh|apply Kd.dA));exact Kd.dO (Kd.dQ (p:=⟨Ac,1,none⟩) (Kd.dQ (p:=⟨Ac,0,none⟩) (Kd.eO zO.out zW.out (by decide)) (fun _ hk=>hk.2) (.int .u64 Aa)) (fun _ hk=>hk.2) (.slice Fg Ag.length Fh)) (fun _ hk=>trivial),by repeat (first|(with_reducible first|exact HB.out|apply aD|apply ak|apply aC|refine aA ?_ Am.out|refine aA ?_ Aq.out|refine aA ?_ Av.out)|exact HB.out)⟩
def bC (w0 W : World) (g : Nat) (f0 : ByteArray) (f1 : Int) : Prop:=W.heap[g]? = some (.cells #[.string f0,.int .i64 f1] 86 (0,0)) ∧ w0.heap.size ≤ g
theorem bC.grown {w0 W : World} {g : Nat} {f0 : ByteArray} {f1 : Int} {W1 : World} {row : Option Nat} (h : bC w0 W g f0 f1) (hw : W.grownBy W1 row) (hne : some g ≠ row) : bC w0 W1 g f0 f1:=by
 obtain ⟨hb,hg⟩:=h
 exact ⟨dS hb hw hne,hg⟩
theorem bC.yR {w0 W : World} {g : Nat} {f0 : ByteArray} {f1 : Int} {α : Type} {d : Kd α} {e : Nat} {base : Nat} {ok : Nat → Prop} {v : Value} {xs : List α} (h : bC w0 W g f0 f1) (ho : Kd.N d e W base ok v xs) (ht : e ≠ 86) : some g ≠ v.ownBlock:=by
 obtain ⟨hb,hg⟩:=h
 exact Kd.za ho hb ht
theorem bC.fresh {w0 W : World} {g : Nat} {f0 : ByteArray} {f1 : Int} (h : bC w0 W g f0 f1) : ∀ k,W.heap.size ≤ k → k ≠ g:=by
 obtain ⟨hb,hg⟩:=h
 exact Kd.oK hb
theorem bC.kept {w0 W : World} {g : Nat} {f0 : ByteArray} {f1 : Int} {W1 : World} {S : Nat → Prop} (h : bC w0 W g f0 f1) (hk : Kept W W1 S) (hne : ¬ S g) : bC w0 W1 g f0 f1:=by
 obtain ⟨hb,hg⟩:=h
 exact ⟨tL hb hk hne,hg⟩
theorem bC.below {w0 W : World} {g : Nat} {f0 : ByteArray} {f1 : Int} {W1 : World} (h : bC w0 W g f0 f1) (hw : Below W.heap.size W W1) : bC w0 W1 g f0 f1:=h.grown (jM hw none) (by simp)
theorem bC.alloc {w0 W : World} {g : Nat} {f0 : ByteArray} {f1 : Int} (h : bC w0 W g f0 f1) (o : Obj) : bC w0 (W.alloc o) g f0 f1:=h.below (aD (Below.refl _ _) o)
theorem bC.drewN {w0 W : World} {g : Nat} {f0 : ByteArray} {f1 : Int} (h : bC w0 W g f0 f1) (m : Nat) : bC w0 (W.drewN m) g f0 f1:=h
theorem bC.drew {w0 W : World} {g : Nat} {f0 : ByteArray} {f1 : Int} (h : bC w0 W g f0 f1) : bC w0 W.drew g f0 f1:=h
theorem bC.at_ {w0 W : World} {g : Nat} {f0 : ByteArray} {f1 : Int} {w' : World} {m : Nat} (hq : W.drewN m = w') (h : bC w0 W g f0 f1) : bC w0 w' g f0 f1:=by subst hq;exact bC.drewN h m
theorem bC.apart {w0 W : World} {g : Nat} {f0 : ByteArray} {f1 : Int} {α : Type} {d : Kd α} {e : Nat} {base : Nat} {ok : Nat → Prop} {v : Value} {xs : List α} (h : bC w0 W g f0 f1) (ho : d.R e W base ok v xs) (ht : ∀ q,q ∈ e :: d.E → q ≠ 86) : d.R e W base (fun k=>ok k ∧ k ≠ g) v xs:=by
 obtain ⟨hb,hg⟩:=h
 exact Kd.gP ho hb ht
theorem bC.own_ne {w0 W : World} {g : Nat} {f0 : ByteArray} {f1 : Int} {α : Type} {d : Kd α} {e : Nat} {base : Nat} {ok : Nat → Prop} {v : Value} {xs : List α} (h : bC w0 W g f0 f1) (ho : d.R e W base ok v xs) (ht : e ≠ 86) : some g ≠ v.ownBlock:=by
 obtain ⟨hb,hg⟩:=h
 exact Kd.jI ho hb ht
theorem bC.zA {w0 W : World} {g : Nat} {f0 : ByteArray} {f1 : Int} {α : Type} {d : Kd α} {e : Nat} {base : Nat} {ok : Nat → Prop} {v : Value} {xs : List α} (h : bC w0 W g f0 f1) (ho : d.Q e W base ok v xs) (ht : ∀ q,q ∈ e :: d.E → q ≠ 86) : d.Q e W base (fun k=>ok k ∧ k ≠ g) v xs:=by
 obtain ⟨hb,hg⟩:=h
 exact Kd.uY ho hb ht
theorem bC.yS {w0 W : World} {g : Nat} {f0 : ByteArray} {f1 : Int} {α : Type} {d : Kd α} {e : Nat} {base : Nat} {ok : Nat → Prop} {v : Value} {xs : List α} (h : bC w0 W g f0 f1) (ho : d.Q e W base ok v xs) (ht : e ≠ 86) : some g ≠ v.ownBlock:=by
 obtain ⟨hb,hg⟩:=h
 exact Kd.yY ho hb ht
theorem bC.wW {w0 W : World} {g : Nat} {f0 : ByteArray} {f1 : Int} {α : Type} {d : Kd α} {e : Nat} {base : Nat} {ok : Nat → Prop} {v : Value} {xs : List α} (h : bC w0 W g f0 f1) (ho : d.S e W base ok v xs) (ht : ∀ q,q ∈ e :: d.E → q ≠ 86) : d.S e W base (fun k=>ok k ∧ k ≠ g) v xs:=by
 obtain ⟨hb,hg⟩:=h
 exact Kd.eO ho hb ht
theorem bC.vE {w0 W : World} {g : Nat} {f0 : ByteArray} {f1 : Int} {α : Type} {d : Kd α} {e : Nat} {base : Nat} {ok : Nat → Prop} {v : Value} {xs : List α} (h : bC w0 W g f0 f1) (ho : d.S e W base ok v xs) (ht : e ≠ 86) : some g ≠ v.ownBlock:=by
 obtain ⟨hb,hg⟩:=h
 exact Kd.lH ho hb ht
theorem bC.lt {w0 W : World} {g : Nat} {f0 : ByteArray} {f1 : Int} (h : bC w0 W g f0 f1) : g < W.heap.size:=by
 obtain ⟨hb,hg⟩:=h
 exact bV hb
theorem bC.ge {w0 W : World} {g : Nat} {f0 : ByteArray} {f1 : Int} (h : bC w0 W g f0 f1) : w0.heap.size ≤ g:=by
 obtain ⟨hb,hg⟩:=h
 exact hg
theorem bC.fK {w0 W : World} {g : Nat} {f0 : ByteArray} {f1 : Int} {a : Nat} {cs : Array Value} {t : TypeId} {fr : Nat × Nat} (h : bC w0 W g f0 f1) (hb2 : W.heap[a]? = some (.cells cs t fr)) (ht : t ≠ 86) : g ≠ a:=by
 obtain ⟨hb,hg⟩:=h
 rintro rfl
 rw [hb] at hb2
 injection hb2 with hb2
 injection hb2 with _ ht2
 exact ht ht2.symm
theorem bC.far {w0 W : World} {g : Nat} {f0 : ByteArray} {f1 : Int} {p : Addr} (h : bC w0 W g f0 f1) (hne : g ≠ p.block) (u : Value) : bC w0 (W.setCell p u) g f0 f1:=by
 obtain ⟨hb,hg⟩:=h
 exact ⟨aJ hb hne u,hg⟩
theorem fB {W : World} {g : Nat} {f0 : ByteArray} {f1 : Int} (h : W.heap[g]? = some (.cells #[.string f0,.int .i64 f1] 86 (0,0))) : W.cell? ⟨g,0,none⟩ = some (.string f0):=(ay h 0).trans rfl
theorem bC.fU {w0 W : World} {g : Nat} {f0 : ByteArray} {f1 : Int} (h : bC w0 W g f0 f1) (x : ByteArray) : bC w0 (W.setCell ⟨g,0,none⟩ (.string x)) g x f1:=by
 obtain ⟨hb,hg⟩:=h
 exact ⟨by simpa using oG hb 0 (.string x),hg⟩
theorem fC {W : World} {g : Nat} {f0 : ByteArray} {f1 : Int} (h : W.heap[g]? = some (.cells #[.string f0,.int .i64 f1] 86 (0,0))) : W.cell? ⟨g,1,none⟩ = some (.int .i64 f1):=(ay h 1).trans rfl
theorem bC.fV {w0 W : World} {g : Nat} {f0 : ByteArray} {f1 : Int} (h : bC w0 W g f0 f1) (x : Int) : bC w0 (W.setCell ⟨g,1,none⟩ (.int .i64 x)) g f0 x:=by
 obtain ⟨hb,hg⟩:=h
 exact ⟨by simpa using oG hb 1 (.int .i64 x),hg⟩
theorem bC.new (w0 W : World) (f0 : ByteArray) (f1 : Int) (hB : Below w0.heap.size w0 W) : bC w0 (W.alloc (.cells #[.string f0,.int .i64 f1] 86)) W.heap.size f0 f1:=⟨by simpa using heap_alloc_new W _,hB.size⟩
def bX.f (Af : ByteArray) (Ah : Int) (a1 : Int) : Option (ByteArray × Bool × ByteArray × Int):=if Ah = 0 then (if a1 > (Af.size : Int) then (some ((⟨#[]⟩ : ByteArray),false,Af,1)) else (if 0 ≤ a1 then (if a1 ≤ (Af.size : Int) then (some (Af.extract 0 (a1 : Int).toNat,true,Af.extract (a1 : Int).toNat Af.size,Ah)) else (none)) else (none))) else (some ((⟨#[]⟩ : ByteArray),false,Af,Ah))
set_option maxHeartbeats 8000000 in
set_option maxRecDepth 100000 in
theorem bX.calls (g : Nat) (Af : ByteArray) (Ah : Int) (a1 : Int) (r1 : ByteArray) (r2 : Bool) (r3 : ByteArray) (r4 : Int) (w0 w : World) (hI : bC w0 w g Af Ah) (hB : Below w0.heap.size w0 w) (h : bX.f Af Ah a1 = some (r1,r2,r3,r4)) :
  Calls Tryd.prog 77 #[.pointer (some ⟨g,0,none⟩),.int .i64 a1] w fun e w'=>e = .returned (.tuple #[.string r1,.bool r2]) ∧ bC w0 w' g r3 r4 ∧ Below w0.heap.size w0 w' ∧ bO w w' g none:=by
 have HI0:=Aside0.mk hI
 have HK:=Aside0.mk (bO.refl w g none)
 have HL:=Aside0.mk hB.size
 clear hI
 have HW0:=Aside0.mk hB.size
 have HB:=Aside0.mk hB
 clear hB
 have H : (if Ah = 0 then (if a1 > (Af.size : Int) then (some ((⟨#[]⟩ : ByteArray),false,Af,1)) else (if 0 ≤ a1 then (if a1 ≤ (Af.size : Int) then (some (Af.extract 0 (a1 : Int).toNat,true,Af.extract (a1 : Int).toNat Af.size,Ah)) else (none)) else (none))) else (some ((⟨#[]⟩ : ByteArray),false,Af,Ah))) = some (r1,r2,r3,r4):=h
 clear h
 by_cases c3 : Ah = 0
 ·rw [if_pos c3] at H
  have c3b0 : (Ah == 0) = true:=beq_iff_eq.mpr c3
  have c3b1 : (Ah != 0) = false:=bne_eq_false_iff_eq.mpr c3
  clear c3
  by_cases c4 : a1 > (Af.size : Int)
  ·rw [if_pos c4] at H
   have c4b0 : decide ((Af.size : Int) < a1) = true:=decide_eq_true c4
   clear c4
   simp only [Option.some.injEq,Prod.mk.injEq] at H
   obtain ⟨rfl,rfl,rfl,rfl⟩:=H
   obtain ⟨Du,He⟩:=HI0.out
   have Co:=fB Du
   have Cq:=fC Du
   have Cr:=av Du 0
   have Ct:=av Du 1
   clear Du He
   go_enter Tryd.func77,Tryd.ntmps77
   go_wp2
   go_ret2
   exact ⟨by first|rfl|(simp [aY,aZ] <;> rfl)|(simp [*,aY,aZ] <;> rfl),by repeat (first|(with_reducible first|exact HI0.out|apply bC.alloc|apply bC.drewN|apply bC.drew|apply bC.fU|apply bC.fV)|exact HI0.out),by repeat (first|(with_reducible first|exact HB.out|apply aD|apply ak|apply aC|refine aA ?_ (bC.ge HI0.out))|exact HB.out),by repeat (first|(with_reducible first|exact HK.out|apply bO.gX|apply dL|apply dU|apply dM)|exact HK.out)⟩
  ·rw [if_neg c4] at H
   have c4b0 : decide ((Af.size : Int) < a1) = false:=decide_eq_false c4
   clear c4
   by_cases c6 : 0 ≤ a1
   ·rw [if_pos c6] at H
    have c6b0:=eq_true c6
    have c6b1 : decide (0 ≤ a1) = true:=decide_eq_true c6
    clear c6
    by_cases c7 : a1 ≤ (Af.size : Int)
    ·rw [if_pos c7] at H
     have c7b0:=eq_true c7
     have c7b1 : decide (a1 ≤ (Af.size : Int)) = true:=decide_eq_true c7
     clear c7
     have c8b0:=eq_true (of_decide_eq_true (by first|(with_reducible assumption)|assumption) : 0 ≤ a1)
     have c9b0:=eq_true (of_decide_eq_true (by first|(with_reducible assumption)|assumption) : a1 ≤ (Af.size : Int))
     simp only [Option.some.injEq,Prod.mk.injEq] at H
     obtain ⟨rfl,rfl,rfl,rfl⟩:=H
     obtain ⟨AO,Dv⟩:=HI0.out
     have AQ:=fB AO
     have AU:=fC AO
     have AV:=av AO 0
     have AX:=av AO 1
     clear AO Dv
     go_enter Tryd.func77,Tryd.ntmps77
     go_wp2
     go_ret2
     exact ⟨by first|rfl|(simp [aY,aZ] <;> rfl)|(simp [*,aY,aZ] <;> rfl),by repeat (first|(with_reducible first|exact HI0.out|apply bC.alloc|apply bC.drewN|apply bC.drew|apply bC.fU|apply bC.fV)|exact HI0.out),by repeat (first|(with_reducible first|exact HB.out|apply aD|apply ak|apply aC|refine aA ?_ (bC.ge HI0.out))|exact HB.out),by repeat (first|(with_reducible first|exact HK.out|apply bO.gX|apply dL|apply dU|apply dM)|exact HK.out)⟩
    ·rw [if_neg c7] at H
     exact absurd H (by simp)
   ·rw [if_neg c6] at H
    exact absurd H (by simp)
 ·rw [if_neg c3] at H
  have c3b0 : (Ah == 0) = false:=beq_eq_false_iff_ne.mpr c3
  have c3b1 : (Ah != 0) = true:=bne_iff_ne.mpr c3
  simp only [Option.some.injEq,Prod.mk.injEq] at H
  obtain ⟨rfl,rfl,rfl,rfl⟩:=H
  obtain ⟨Cm,Fj⟩:=HI0.out
  have GL:=fB Cm
  have GN:=fC Cm
  have GQ:=av Cm 0
  have GR:=av Cm 1
  clear Cm Fj
  go_enter Tryd.func77,Tryd.ntmps77
  go_wp2
  go_ret2
  exact ⟨by first|rfl|(simp [aY,aZ] <;> rfl)|(simp [*,aY,aZ] <;> rfl),by repeat (first|(with_reducible first|exact HI0.out|apply bC.alloc|apply bC.drewN|apply bC.drew|apply bC.fU|apply bC.fV)|exact HI0.out),by repeat (first|(with_reducible first|exact HB.out|apply aD|apply ak|apply aC|refine aA ?_ (bC.ge HI0.out))|exact HB.out),by repeat (first|(with_reducible first|exact HK.out|apply bO.gX|apply dL|apply dU|apply dM)|exact HK.out)⟩
mutual
def aR.j0 : Nat → Int → Bool → ByteArray → Int → Option (Int × ByteArray × Int)
 | 0,_,_,_,_=>none
 | k + 1,x1,x18,x1000,BZ=>if x18 = true then (aR.j1 k x1 x1000 7) else (aR.j1 k x1 x1000 BZ)
def aR.j1 : Nat → Int → ByteArray → Int → Option (Int × ByteArray × Int)
 | 0,_,_,_=>none
 | k + 1,x1,x1000,BZ=>(bX.f x1000 BZ x1).bind fun BN=>(if BN.2.1 = true then (aR.l0 k BN.1 0 (BN.1.size : Int) 0 BN.2.2.1 BN.2.2.2) else (some (0,BN.2.2.1,BN.2.2.2)))
def aR.l0 : Nat → ByteArray → Int → Int → Int → ByteArray → Int → Option (Int × ByteArray × Int)
 | 0,_,_,_,_,_,_=>none
 | k + 1,x5,x7,x31,x32,x1000,BZ=>if x32 < x31 then (if 0 ≤ x32 then (if x32 < (x5.size : Int) then (aR.l0 k x5 (Go.bits .or .u64 (IntKind.u64.wrap (x7 * 256)) (IntKind.u64.wrap (bt x5 x32))) x31 (wrap64 (x32 + 1)) x1000 BZ) else (none)) else (none)) else (some (x7,x1000,BZ))
end
def aR.f (k : Nat) (Af : ByteArray) (Ah : Int) (a1 : Int) : Option (Int × ByteArray × Int):=if Ah = 0 then ((fJ.f a1).bind fun t159=>(aR.j0 k a1 (!t159) Af Ah)) else (aR.j0 k a1 false Af Ah)
theorem aR.dX : ∀ k,(∀ y0 y1 y2 y3,LeO (aR.j0 k y0 y1 y2 y3) (aR.j0 (k + 1) y0 y1 y2 y3)) ∧ (∀ y0 y1 y2,LeO (aR.j1 k y0 y1 y2) (aR.j1 (k + 1) y0 y1 y2)) ∧ (∀ y0 y1 y2 y3 y4 y5,LeO (aR.l0 k y0 y1 y2 y3 y4 y5) (aR.l0 (k + 1) y0 y1 y2 y3 y4 y5))
 | 0=>⟨fun _ _ _ _ r h=>by simp [aR.j0] at h,fun _ _ _ r h=>by simp [aR.j1] at h,fun _ _ _ _ _ _ r h=>by simp [aR.l0] at h⟩
 | k + 1=>by
  obtain ⟨Ce,ih1,ih2⟩:=aR.dX k
  refine ⟨?_,?_,?_⟩
  ·intro y0 y1 y2 y3
   unfold aR.j0
   repeat' first
   | (with_reducible exact Ce _ _ _ _)
   | (with_reducible exact ih1 _ _ _)
   | (with_reducible exact ih2 _ _ _ _ _ _)
   | (with_reducible exact LeO.refl _)
   | (with_reducible exact LeO.none _)
   | (with_reducible refine LeO.ite ?_ ?_)
   | (with_reducible refine LeO.bind ?_ (fun _=>?_))
   | exact Ce _ _ _ _
   | exact ih1 _ _ _
   | exact ih2 _ _ _ _ _ _
   | exact LeO.none _
   | refine LeO.ite ?_ ?_
   | refine LeO.bind ?_ (fun _=>?_)
  ·intro y0 y1 y2
   unfold aR.j1
   repeat' first
   | (with_reducible exact Ce _ _ _ _)
   | (with_reducible exact ih1 _ _ _)
   | (with_reducible exact ih2 _ _ _ _ _ _)
   | (with_reducible exact LeO.refl _)
   | (with_reducible exact LeO.none _)
   | (with_reducible refine LeO.ite ?_ ?_)
   | (with_reducible refine LeO.bind ?_ (fun _=>?_))
   | exact Ce _ _ _ _
   | exact ih1 _ _ _
   | exact ih2 _ _ _ _ _ _
   | exact LeO.none _
   | refine LeO.ite ?_ ?_
   | refine LeO.bind ?_ (fun _=>?_)
  ·intro y0 y1 y2 y3 y4 y5
   unfold aR.l0
   repeat' first
   | (with_reducible exact Ce _ _ _ _)
   | (with_reducible exact ih1 _ _ _)
   | (with_reducible exact ih2 _ _ _ _ _ _)
   | (with_reducible exact LeO.refl _)
   | (with_reducible exact LeO.none _)
   | (with_reducible refine LeO.ite ?_ ?_)
   | (with_reducible refine LeO.bind ?_ (fun _=>?_))
   | exact Ce _ _ _ _
   | exact ih1 _ _ _
   | exact ih2 _ _ _ _ _ _
   | exact LeO.none _
   | refine LeO.ite ?_ ?_
   | refine LeO.bind ?_ (fun _=>?_)
theorem aR.mono : ∀ a0 a1 a2 k,LeO (aR.f k a0 a1 a2) (aR.f (k + 1) a0 a1 a2):=by
 intro a0 a1 a2 k
 obtain ⟨Ce,ih1,ih2⟩:=aR.dX k
 unfold aR.f
 repeat' first
   | (with_reducible exact Ce _ _ _ _)
   | (with_reducible exact ih1 _ _ _)
   | (with_reducible exact ih2 _ _ _ _ _ _)
   | (with_reducible exact LeO.refl _)
   | (with_reducible exact LeO.none _)
   | (with_reducible refine LeO.ite ?_ ?_)
   | (with_reducible refine LeO.bind ?_ (fun _=>?_))
   | exact Ce _ _ _ _
   | exact ih1 _ _ _
   | exact ih2 _ _ _ _ _ _
   | exact LeO.none _
   | refine LeO.ite ?_ ?_
   | refine LeO.bind ?_ (fun _=>?_)
set_option maxHeartbeats 8000000 in
set_option maxRecDepth 100000 in
theorem aR.calls (k : Nat) (g : Nat) (Af : ByteArray) (Ah : Int) (a1 : Int) (r1 : Int) (r2 : ByteArray) (r3 : Int) (w0 w : World) (hI : bC w0 w g Af Ah) (hB : Below w0.heap.size w0 w) (h : aR.f k Af Ah a1 = some (r1,r2,r3)) :
  Calls Tryd.prog 48 #[.pointer (some ⟨g,0,none⟩),.int .i64 a1] w fun e w'=>e = .returned (.int .u64 r1) ∧ bC w0 w' g r2 r3 ∧ Below w0.heap.size w0 w' ∧ bO w w' g none:=by
 have HI0:=Aside0.mk hI
 have HK:=Aside0.mk (bO.refl w g none)
 have HL:=Aside0.mk hB.size
 clear hI
 have HW0:=Aside0.mk hB.size
 have HB:=Aside0.mk hB
 clear hB
 have H : (if Ah = 0 then ((fJ.f a1).bind fun t159=>(aR.j0 k a1 (!t159) Af Ah)) else (aR.j0 k a1 false Af Ah)) = some (r1,r2,r3):=h
 clear h
 have Hf:=Aside0.mk H
 clear H
 go_enter Tryd.func48,Tryd.ntmps48
 go_upto_region 1 with (fail)
 go_cut [18] (fun v18 wc=>∃ (kq : Nat) (CY : Bool),v18 = .bool CY ∧ Aside0 (aR.j0 kq a1 CY Af Ah = some (r1,r2,r3)) ∧ Aside0 (kq ≤ k) ∧ Aside0 (bC w0 wc g Af Ah) ∧ Aside0 (bO w wc g none) ∧ Aside0 (Below w0.heap.size w0 wc))
 case first =>
  have H:=Hf.out
  clear Hf
  by_cases c4 : Ah = 0
  ·rw [if_pos c4] at H
   have c4b0 : (Ah == 0) = true:=beq_iff_eq.mpr c4
   have c4b1 : (Ah != 0) = false:=bne_eq_false_iff_eq.mpr c4
   clear c4
   (first|rw [c4b0]|(simp only [bI,bN];rw [c4b0])|skip)
   replace H:=Option.bind_eq_some_iff.mp H
   obtain ⟨t159,Ju,H⟩:=H
   replace H : (aR.j0 k a1 (!t159) Af Ah) = some (r1,r2,r3):=H
   have A5:=Aside0.mk Ju
   clear Ju
   have H':=Aside0.mk H
   clear H
   obtain ⟨Dw,Hg⟩:=HI0.out
   have Cu:=fB Dw
   have Cv:=fC Dw
   have Cw:=av Dw 0
   have Cx:=av Dw 1
   clear Dw Hg
   go_wp2_with (first|(go_at_call 71;(with_reducible refine (fJ.calls a1 t159 _ A5.out).mono ?_);rintro e w' ⟨rfl,⟨nd,rfl⟩⟩))
   go_meet
   case rel=>exact ⟨_,(!t159),(by first|rfl|(simp;done)|(simp [*];done)),H',⟨by first|omega|exact Nat.le_refl _⟩,⟨by repeat (first|(with_reducible first|exact HI0.out|apply bC.alloc|apply bC.drewN|apply bC.drew|apply bC.fU|apply bC.fV)|exact HI0.out)⟩,⟨by repeat (first|(with_reducible first|exact HK.out|apply bO.gX|apply dL|apply dU|apply dM)|exact HK.out)⟩,⟨by repeat (first|(with_reducible first|exact HB.out|apply aD|apply ak|apply aC|refine aA ?_ (bC.ge HI0.out))|exact HB.out)⟩⟩
  ·rw [if_neg c4] at H
   have c4b0 : (Ah == 0) = false:=beq_eq_false_iff_ne.mpr c4
   have c4b1 : (Ah != 0) = true:=bne_iff_ne.mpr c4
   (first|rw [c4b0]|(simp only [bI,bN];rw [c4b0])|skip)
   have H':=Aside0.mk H
   clear H
   obtain ⟨Dx,Hl⟩:=HI0.out
   have Cy:=fB Dx
   have Cz:=fC Dx
   have CB:=av Dx 0
   have CF:=av Dx 1
   clear Dx Hl
   go_wp2
   go_meet
   case rel=>exact ⟨_,(false),(by first|rfl|(simp;done)|(simp [*];done)),H',⟨by first|omega|exact Nat.le_refl _⟩,⟨by repeat (first|(with_reducible first|exact HI0.out|apply bC.alloc|apply bC.drewN|apply bC.drew|apply bC.fU|apply bC.fV)|exact HI0.out)⟩,⟨by repeat (first|(with_reducible first|exact HK.out|apply bO.gX|apply dL|apply dU|apply dM)|exact HK.out)⟩,⟨by repeat (first|(with_reducible first|exact HB.out|apply aD|apply ak|apply aC|refine aA ?_ (bC.ge HI0.out))|exact HB.out)⟩⟩
 case rest =>
  clear Hf
  try clear p2
  try clear c4
  try clear c4b0
  try clear c4b1
  try clear Cu
  try clear Cv
  try clear Cy
  try clear Cz
  try clear Cw
  try clear Cx
  try clear CB
  try clear CF
  obtain ⟨kq,CY,rfl,HA,HJ2,HI0,HK,HB⟩:=hcut
  cases kq with
  | zero=>exact absurd HA.out (by simp [aR.j0])
  | succ Ho =>
   have H:=HA.out
   clear HA
   simp only [aR.j0] at H
   have Hq:=Aside0.mk H
   clear H
   go_upto_if 18 with (fail)
   go_cut [] (fun wc=>∃ (kq : Nat) (Bl : Int),Aside0 (aR.j1 kq a1 Af Bl = some (r1,r2,r3)) ∧ Aside0 (kq ≤ Ho) ∧ Aside0 (bC w0 wc g Af Bl) ∧ Aside0 (bO w wc g none) ∧ Aside0 (Below w0.heap.size w0 wc))
   case first =>
    have H:=Hq.out
    clear Hq
    by_cases c9 : CY = true
    ·subst c9
     have H1 : (aR.j1 Ho a1 Af 7) = some (r1,r2,r3):=by rw [if_pos rfl] at H;exact H
     clear H
     have H:=H1
     clear H1
     have H':=Aside0.mk H
     clear H
     obtain ⟨AO,Dv⟩:=HI0.out
     have AQ:=fB AO
     have AU:=fC AO
     have AV:=av AO 0
     have AX:=av AO 1
     clear AO Dv
     go_wp2
     go_meet
     case rel=>exact ⟨_,(7),H',⟨by have:=HJ2.out;first|omega|exact Nat.le_refl _⟩,⟨by repeat (first|(with_reducible first|exact HI0.out|apply bC.alloc|apply bC.drewN|apply bC.drew|apply bC.fU|apply bC.fV)|exact HI0.out)⟩,⟨by repeat (first|(with_reducible first|exact HK.out|apply bO.gX|apply dL|apply dU|apply dM)|exact HK.out)⟩,⟨by repeat (first|(with_reducible first|exact HB.out|apply aD|apply ak|apply aC|refine aA ?_ (bC.ge HI0.out))|exact HB.out)⟩⟩
    ·replace c9:=Bool.eq_false_iff.mpr c9
     subst c9
     have H1 : (aR.j1 Ho a1 Af Ah) = some (r1,r2,r3):=by rw [if_neg (show ¬ (false = true) by decide)] at H;exact H
     clear H
     have H:=H1
     clear H1
     have H':=Aside0.mk H
     clear H
     go_wp2
     go_meet
     case rel=>exact ⟨_,(Ah),H',⟨by have:=HJ2.out;first|omega|exact Nat.le_refl _⟩,⟨by repeat (first|(with_reducible first|exact HI0.out|apply bC.alloc|apply bC.drewN|apply bC.drew|apply bC.fU|apply bC.fV)|exact HI0.out)⟩,⟨by repeat (first|(with_reducible first|exact HK.out|apply bO.gX|apply dL|apply dU|apply dM)|exact HK.out)⟩,⟨by repeat (first|(with_reducible first|exact HB.out|apply aD|apply ak|apply aC|refine aA ?_ (bC.ge HI0.out))|exact HB.out)⟩⟩
   case rest =>
    clear Hq
    try clear p2
    try clear c4
    try clear c4b0
    try clear c4b1
    try clear c9
    try clear AQ
    try clear AU
    try clear Cu
    try clear Cv
    try clear Cy
    try clear Cz
    try clear AV
    try clear AX
    try clear Cw
    try clear Cx
    try clear CB
    try clear CF
    try clear p2
    obtain ⟨kq,Bl,HA,Jv,HI0,HK,HB⟩:=hcut
    cases kq with
    | zero=>exact absurd HA.out (by simp [aR.j1])
    | succ GU =>
     have H:=HA.out
     clear HA
     simp only [aR.j1] at H
     replace H:=Option.bind_eq_some_iff.mp H
     obtain ⟨⟨t160,Fp,t162,Cn⟩,Fq,H⟩:=H
     replace H : (if Fp = true then (aR.l0 GU t160 0 (t160.size : Int) 0 t162 Cn) else (some (0,t162,Cn))) = some (r1,r2,r3):=H
     have Jw:=Aside0.mk Fq
     clear Fq
     by_cases c12 : Fp = true
     ·subst c12
      have H1 : (aR.l0 GU t160 0 (t160.size : Int) 0 t162 Cn) = some (r1,r2,r3):=by rw [if_pos rfl] at H;exact H
      clear H
      have H:=H1
      clear H1
      have H':=Aside0.mk H
      clear H
      go_wp2_with (first|((with_reducible refine bA (f:=77) rfl ?_);refine cO (some 25) rfl rfl Tryd.func77 (by kernel_rfl) rfl #[.pointer (some ⟨g,0,none⟩),.int .i64 a1] rfl (by (try simp only [List.map_toArray,List.map_cons,List.map_nil]);first|done|rfl|(simp only [List.length_drop,List.length_take];rfl)|(simp (disch:=first|omega|(simp at *;omega)) only [bY,bJ,dF];rfl)) ?_;(with_reducible refine (bX.calls g Af Bl a1 t160 true t162 Cn w0 _ ?Dy ?Dz Jw.out).mono ?_);(case Dy=>repeat (first|(with_reducible first|exact HI0.out|apply bC.alloc|apply bC.drewN|apply bC.drew|apply bC.fU|apply bC.fV)|exact HI0.out));(case Dz=>repeat (first|(with_reducible first|exact HB.out|apply aD|apply ak|apply aC|refine aA ?_ (bC.ge HI0.out))|exact HB.out));rintro e JQ ⟨rfl,hi,hb,hk⟩;refine ⟨_,rfl,?_⟩;have Bg:=Aside0.mk (bO.trans (by repeat (first|(with_reducible first|exact HK.out|apply bO.gX|apply dL|apply dU|apply dM)|exact HK.out)) hk (.inl rfl));have Bh:=Aside0.mk (hb);have Bj:=Aside0.mk (hi);clear HK;clear HB;clear HI0;have HK:=Bg;have HB:=Bh;have HI0:=Bj;clear Bg Bh Bj;(try clear hb);(try clear hb2);(try clear hk);(try clear hi)))
      go_loopg [7,32] GU (fun kq v7 v32 w'=>∃ (EC : Int) (AB : Int),v7 = .int .u64 EC ∧ v32 = .int .i64 AB ∧ Aside0 (aR.l0 kq t160 EC (t160.size : Int) AB t162 Cn = some (r1,r2,r3)) ∧ Aside0 (kq ≤ GU) ∧ Aside0 (bC w0 w' g t162 Cn) ∧ Aside0 (bO w w' g none) ∧ Aside0 (Below w0.heap.size w0 w'))
      case atStart=>exact ⟨(0),(0),(by first|rfl|(simp;done)|(simp [*];done)),(by first|rfl|(simp;done)|(simp [*];done)),H',⟨Nat.le_refl _⟩,⟨by repeat (first|(with_reducible first|exact HI0.out|apply bC.alloc|apply bC.drewN|apply bC.drew|apply bC.fU|apply bC.fV)|exact HI0.out)⟩,⟨by repeat (first|(with_reducible first|exact HK.out|apply bO.gX|apply dL|apply dU|apply dM)|exact HK.out)⟩,⟨by repeat (first|(with_reducible first|exact HB.out|apply aD|apply ak|apply aC|refine aA ?_ (bC.ge HI0.out))|exact HB.out)⟩⟩
      case round =>
       clear H'
       try clear c1
       try clear p2
       try clear c4
       try clear c4b0
       try clear c4b1
       try clear c7
       try clear c9
       try clear c12
       try clear AQ
       try clear AU
       try clear Cu
       try clear Cv
       try clear Cy
       try clear Cz
       try clear AV
       try clear AX
       try clear Cw
       try clear Cx
       try clear CB
       try clear CF
       try clear p2
       obtain ⟨EC,AB,rfl,rfl,HA,Jy,HI0,HK,HB⟩:=hrel
       cases gk with
       | zero=>exact absurd HA.out (by simp [aR.l0])
       | succ k3 =>
        have H:=HA.out
        clear HA
        simp only [aR.l0] at H
        by_cases c14 : AB < (t160.size : Int)
        ·rw [if_pos c14] at H
         have c14b0 : decide (AB < (t160.size : Int)) = true:=decide_eq_true c14
         clear c14
         by_cases c15 : 0 ≤ AB
         ·rw [if_pos c15] at H
          have c15b0 : decide (0 ≤ AB) = true:=decide_eq_true c15
          clear c15
          by_cases c16 : AB < (t160.size : Int)
          ·rw [if_pos c16] at H
           have c16b0 : decide (AB < (t160.size : Int)) = true:=decide_eq_true c16
           clear c16
           have H':=Aside0.mk H
           clear H
           have Jz : 0 ≤ (AB : Int):=of_decide_eq_true (by first|(with_reducible assumption)|assumption)
           have JA : AB < (t160.size : Int):=of_decide_eq_true (by first|(with_reducible assumption)|assumption)
           have JL:=dG t160 AB
           replace Jz:=eq_true Jz
           replace JA:=eq_true JA
           go_wp2
           go_roundg k3
           case measure=>have:=HJ2.out;have:=Jv.out;have:=Jy.out;omega
           case rel=>exact ⟨(Go.bits .or .u64 (IntKind.u64.wrap (EC * 256)) (IntKind.u64.wrap (bt t160 AB))),(wrap64 (AB + 1)),(by first|rfl|(simp;done)|(simp [*];done)),(by first|rfl|(simp;done)|(simp [*];done)),H',⟨by have:=HJ2.out;have:=Jv.out;have:=Jy.out;omega⟩,⟨by repeat (first|(with_reducible first|exact HI0.out|apply bC.alloc|apply bC.drewN|apply bC.drew|apply bC.fU|apply bC.fV)|exact HI0.out)⟩,⟨by repeat (first|(with_reducible first|exact HK.out|apply bO.gX|apply dL|apply dU|apply dM)|exact HK.out)⟩,⟨by repeat (first|(with_reducible first|exact HB.out|apply aD|apply ak|apply aC|refine aA ?_ (bC.ge HI0.out))|exact HB.out)⟩⟩
          ·rw [if_neg c16] at H
           exact absurd H (by simp)
         ·rw [if_neg c15] at H
          exact absurd H (by simp)
        ·rw [if_neg c14] at H
         have c14b0 : decide (AB < (t160.size : Int)) = false:=decide_eq_false c14
         clear c14
         simp only [Option.some.injEq,Prod.mk.injEq] at H
         obtain ⟨rfl,rfl,rfl⟩:=H
         go_wp2
         go_ret
         exact ⟨by first|rfl|(simp [aY,aZ] <;> rfl)|(simp [*,aY,aZ] <;> rfl),by repeat (first|(with_reducible first|exact HI0.out|apply bC.alloc|apply bC.drewN|apply bC.drew|apply bC.fU|apply bC.fV)|exact HI0.out),by repeat (first|(with_reducible first|exact HB.out|apply aD|apply ak|apply aC|refine aA ?_ (bC.ge HI0.out))|exact HB.out),by repeat (first|(with_reducible first|exact HK.out|apply bO.gX|apply dL|apply dU|apply dM)|exact HK.out)⟩
     ·replace c12:=Bool.eq_false_iff.mpr c12
      subst c12
      have H1 : (some (0,t162,Cn)) = some (r1,r2,r3):=by rw [if_neg (show ¬ (false = true) by decide)] at H;exact H
      clear H
      have H:=H1
      clear H1
      simp only [Option.some.injEq,Prod.mk.injEq] at H
      obtain ⟨rfl,rfl,rfl⟩:=H
      go_wp2_with (first|((with_reducible refine bA (f:=77) rfl ?_);refine cO (some 25) rfl rfl Tryd.func77 (by kernel_rfl) rfl #[.pointer (some ⟨g,0,none⟩),.int .i64 a1] rfl (by (try simp only [List.map_toArray,List.map_cons,List.map_nil]);first|done|rfl|(simp only [List.length_drop,List.length_take];rfl)|(simp (disch:=first|omega|(simp at *;omega)) only [bY,bJ,dF];rfl)) ?_;(with_reducible refine (bX.calls g Af Bl a1 t160 false t162 Cn w0 _ ?Dy ?Dz Jw.out).mono ?_);(case Dy=>repeat (first|(with_reducible first|exact HI0.out|apply bC.alloc|apply bC.drewN|apply bC.drew|apply bC.fU|apply bC.fV)|exact HI0.out));(case Dz=>repeat (first|(with_reducible first|exact HB.out|apply aD|apply ak|apply aC|refine aA ?_ (bC.ge HI0.out))|exact HB.out));rintro e JR ⟨rfl,hi,hb,hk⟩;refine ⟨_,rfl,?_⟩;have Bg:=Aside0.mk (bO.trans (by repeat (first|(with_reducible first|exact HK.out|apply bO.gX|apply dL|apply dU|apply dM)|exact HK.out)) hk (.inl rfl));have Bh:=Aside0.mk (hb);have Bj:=Aside0.mk (hi);clear HK;clear HB;clear HI0;have HK:=Bg;have HB:=Bh;have HI0:=Bj;clear Bg Bh Bj;(try clear hb);(try clear hb2);(try clear hk);(try clear hi)))
      go_ret
      exact ⟨by first|rfl|(simp [aY,aZ] <;> rfl)|(simp [*,aY,aZ] <;> rfl),by repeat (first|(with_reducible first|exact HI0.out|apply bC.alloc|apply bC.drewN|apply bC.drew|apply bC.fU|apply bC.fV)|exact HI0.out),by repeat (first|(with_reducible first|exact HB.out|apply aD|apply ak|apply aC|refine aA ?_ (bC.ge HI0.out))|exact HB.out),by repeat (first|(with_reducible first|exact HK.out|apply bO.gX|apply dL|apply dU|apply dM)|exact HK.out)⟩
def eT.f (Af : ByteArray) (Ah : Int) (a1 : ByteArray) (a2 : Int) : Option (ByteArray × Int):=some (a1,a2)
set_option maxHeartbeats 8000000 in
set_option maxRecDepth 100000 in
theorem eT.calls (g : Nat) (Af : ByteArray) (Ah : Int) (a1 : ByteArray) (a2 : Int) (r1 : ByteArray) (r2 : Int) (w0 w : World) (hI : bC w0 w g Af Ah) (hB : Below w0.heap.size w0 w) (h : eT.f Af Ah a1 a2 = some (r1,r2)) :
  Calls Tryd.prog 78 #[.pointer (some ⟨g,0,none⟩),.string a1,.int .i64 a2] w fun e w'=>e = .returned (.tuple #[]) ∧ bC w0 w' g r1 r2 ∧ Below w0.heap.size w0 w' ∧ bO w w' g none:=by
 have HI0:=Aside0.mk hI
 have HK:=Aside0.mk (bO.refl w g none)
 have HL:=Aside0.mk hB.size
 clear hI
 have HW0:=Aside0.mk hB.size
 have HB:=Aside0.mk hB
 clear hB
 have H : (some (a1,a2)) = some (r1,r2):=h
 clear h
 simp only [Option.some.injEq,Prod.mk.injEq] at H
 obtain ⟨rfl,rfl⟩:=H
 obtain ⟨DC,Hr⟩:=HI0.out
 have Ht:=fB DC
 have Hu:=fC DC
 have Hw:=av DC 0
 have Hy:=av DC 1
 clear DC Hr
 go_enter Tryd.func78,Tryd.ntmps78
 go_wp2
 first|go_end0|((try simp only [Exit.inBlock,Exit.then]);refine bodyPost_ret (results_none rfl _ _ _) rfl ?_)
 exact ⟨by first|rfl|(simp [aY,aZ] <;> rfl)|(simp [*,aY,aZ] <;> rfl),by repeat (first|(with_reducible first|exact HI0.out|apply bC.alloc|apply bC.drewN|apply bC.drew|apply bC.fU|apply bC.fV)|exact HI0.out),by repeat (first|(with_reducible first|exact HB.out|apply aD|apply ak|apply aC|refine aA ?_ (bC.ge HI0.out))|exact HB.out),by repeat (first|(with_reducible first|exact HK.out|apply bO.gX|apply dL|apply dU|apply dM)|exact HK.out)⟩
end Go.Proofs.YtpmbdcljphpcnaaDoor.GC2
