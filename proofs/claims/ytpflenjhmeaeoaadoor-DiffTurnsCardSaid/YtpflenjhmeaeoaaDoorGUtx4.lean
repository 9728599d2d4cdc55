/- Written by this session's own program (wip/gen.py) out of the translation: plain Lean functions of the Go functions, and proofs that the calls come to their answers. No conditions beside those in the statements. -/
import Derived.Test.YtpflenjhmeaeoaaDoorCp
import Derived.Test.YtpflenjhmeaeoaaDoorGUtx0
import Derived.Test.YtpflenjhmeaeoaaDoorGUtx3
namespace Go.Proofs.YtpflenjhmeaeoaaDoor.GUt
open Go.RowKit Go.Proofs.YtpflenjhmeaeoaaDoorW.PrintWords Go.Proofs.YtpflenjhmeaeoaaDoorW.PrintLast Go.Proofs.YtpflenjhmeaeoaaDoorW.PrintMore
attribute [local go_sem] fC fD gu gD eP eT fE fF
set_option linter.unusedVariables false
set_option linter.unusedSimpArgs false
def aR.l0 : Nat → Int → List (S102) → Int → Int → Option (Bool)
 | 0,_,_,_,_=>none
 | k + 1,x3,x7,x8,x9=>if x9 < x8 then (if 0 ≤ x9 then (if x9 < (x7.length : Int) then ((aQ.f k ((ay x7 x9).f1.f0) ((ay x7 x9).f1.f1) ((ay x7 x9).f1.f2) ((ay x7 x9).f1.f3) ((ay x7 x9).f1.f4) ((ay x7 x9).f1.f5)).bind fun BS=>(if (wrap64 (x3 + (wrap64 ((wrap64 (10 + (((ay x7 x9).f0).size : Int))) + BS)))) > 40000 then (some false) else (aR.l0 k (wrap64 (x3 + (wrap64 ((wrap64 (10 + (((ay x7 x9).f0).size : Int))) + BS)))) x7 x8 (wrap64 (x9 + 1))))) else (none)) else (none)) else (some true)
def aR.f (k : Nat) (AB : Int) (Al : List (S102)) : Option (Bool):=aR.l0 k 0 Al (Al.length : Int) 0
theorem aR.dV : ∀ k,(∀ y0 y1 y2 y3,LeO (aR.l0 k y0 y1 y2 y3) (aR.l0 (k + 1) y0 y1 y2 y3))
 | 0=>fun _ _ _ _ r h=>by simp [aR.l0] at h
 | k + 1=>by
  have Ca:=aR.dV k
  ·intro y0 y1 y2 y3
   unfold aR.l0
   repeat' first
   | (with_reducible exact Ca _ _ _ _)
   | (with_reducible exact aQ.mono _ _ _ _ _ _ _)
   | (with_reducible exact LeO.refl _)
   | (with_reducible exact LeO.none _)
   | (with_reducible refine LeO.ite ?_ ?_)
   | (with_reducible refine LeO.bind ?_ (fun _=>?_))
   | exact Ca _ _ _ _
   | exact aQ.mono _ _ _ _ _ _ _
   | exact LeO.none _
   | refine LeO.ite ?_ ?_
   | refine LeO.bind ?_ (fun _=>?_)
theorem aR.mono : ∀ a0 a1 k,LeO (aR.f k a0 a1) (aR.f (k + 1) a0 a1):=by
 intro a0 a1 k
 have Ca:=aR.dV k
 unfold aR.f
 repeat' first
   | (with_reducible exact Ca _ _ _ _)
   | (with_reducible exact aQ.mono _ _ _ _ _ _ _)
   | (with_reducible exact LeO.refl _)
   | (with_reducible exact LeO.none _)
   | (with_reducible refine LeO.ite ?_ ?_)
   | (with_reducible refine LeO.bind ?_ (fun _=>?_))
   | exact Ca _ _ _ _
   | exact aQ.mono _ _ _ _ _ _ _
   | exact LeO.none _
   | refine LeO.ite ?_ ?_
   | refine LeO.bind ?_ (fun _=>?_)
def aR.T5 : Bool × List (List Nat × List Nat):=(true,[([],[]),([],[]),([1],[1]),([2],[2]),([3],[3]),([],[]),([5],[5]),([6],[6]),([4,7],[4,7]),([0,8],[0,8]),([9,7,0,1,2,3,4,5,6,7,8,9],[0,9])])
def aR.B5 : List Nat:=[0,0,2,6,14,0,32,96,254,511,1023]
theorem aR.qy : gM .any (opsOf Tryd.f24 5) = aR.T5:=by kernel_rfl
theorem aR.l8 : eY aR.T5.2 aR.B5 = true:=by kernel_rfl
set_option maxHeartbeats 8000000 in
set_option maxRecDepth 100000 in
theorem aR.calls (k : Nat) (AB : Int) (BI : Option Addr) (AO : Nat) (Al : List (S102)) (r : Bool) (w : World) (Cb : Kd.C fP w BI Al.length Al) (Cc : Al.length ≤ AO) (h : aR.f k AB Al = some r) :
  Calls Tryd.prog 24 #[.agg #[.int .u64 AB,.slice BI Al.length AO]] w fun e w'=>e = .returned (.bool r) ∧ Below w.heap.size w w':=by
 have Ef:=Tryd.underlying59
 have Em:=Tryd.underlying102
 have Ez:=Tryd.underlying25
 have BU:=Aside0.mk Cb
 have Dn:=Aside0.mk Cc
 clear Cb Cc
 have HB:=Aside0.mk (Below.refl w.heap.size w)
 have H : (aR.l0 k 0 Al (Al.length : Int) 0) = some r:=h
 clear h
 have H':=Aside0.mk H
 clear H
 go_enter Tryd.func24,Tryd.ntmps24
 go_wp2_with (first|((with_reducible refine dA (N:=1) rfl ?_);refine dG ?hg (N:=1) ?hd (cs:=#[.int .u64 AB,.slice BI Al.length AO]) (t:=59) ?hr ?_;(case hd=>rfl);(case hg=>rfl);(case hr=>first|(go_simp;done)|(go_simp;rfl));intro AJ hg w2 hbox hb;have BD:=Aside0.mk (aJ hb_ hb);have BF:=Aside0.mk (hbox);have BG:=Aside0.mk ((by rw [hg];exact (aY hb_) : w.heap.size ≤ AJ));have Ce:=Aside0.mk ((by rw [hg];exact (aY hb_) : w.heap.size ≤ AJ));clear HB;have HB:=BD;have Au:=BF;have En:=BG;have Eo:=Ce;clear BD BF BG Ce;clear hb hbox hg;have C9 : w2.cell? ⟨AJ,0,none⟩ = some (.int .u64 AB):=(ah Au.out 0).trans rfl;have Da : w2.cell? ⟨AJ,1,none⟩ = some (.slice BI Al.length AO):=(ah Au.out 1).trans rfl;have Db:=au Au.out 0;have Dc:=au Au.out 1))
 go_loopg [3,9] k (fun kq v3 v9 w'=>∃ (AA : Int) (Am : Int),v3 = .int .i64 AA ∧ v9 = .int .i64 Am ∧ Aside0 (aR.l0 kq AA Al (Al.length : Int) Am = some r) ∧ Aside0 (kq ≤ k) ∧ Aside0 (w'.heap[AJ]? = some (.cells #[.int .u64 AB,(.slice BI Al.length AO)] 59 (0,0))) ∧ Aside0 (Below w.heap.size w w'))
 case atStart=>exact ⟨(0),(0),(by first|rfl|(simp;done)|(simp [*];done)),(by first|rfl|(simp;done)|(simp [*];done)),H',⟨Nat.le_refl _⟩,⟨by (with_reducible repeat (first|apply aC|apply aG|apply aH));exact Au.out⟩,⟨hb_⟩⟩
 case round =>
  clear H'
  try clear c2
  try clear p2
  try clear C9
  try clear Da
  try clear Db
  try clear Dc
  obtain ⟨AA,Am,rfl,rfl,HA,CY,Au,HB⟩:=hrel
  cases gk with
  | zero=>exact absurd HA.out (by simp [aR.l0])
  | succ k1 =>
   have H:=HA.out
   clear HA
   simp only [aR.l0] at H
   by_cases c4 : Am < (Al.length : Int)
   ·rw [if_pos c4] at H
    have c4b0 : decide (Am < (Al.length : Int)) = true:=decide_eq_true c4
    clear c4
    by_cases c5 : 0 ≤ Am
    ·rw [if_pos c5] at H
     have c5b0 : decide (0 ≤ Am) = true:=decide_eq_true c5
     clear c5
     by_cases c6 : Am < (Al.length : Int)
     ·rw [if_pos c6] at H
      have c6b0 : decide (Am < (Al.length : Int)) = true:=decide_eq_true c6
      clear c6
      replace H:=Option.bind_eq_some_iff.mp H
      obtain ⟨BS,Ep,H⟩:=H
      replace H : (if (wrap64 (AA + (wrap64 ((wrap64 (10 + (((ay Al Am).f0).size : Int))) + BS)))) > 40000 then (some false) else (aR.l0 k1 (wrap64 (AA + (wrap64 ((wrap64 (10 + (((ay Al Am).f0).size : Int))) + BS)))) Al (Al.length : Int) (wrap64 (Am + 1)))) = some r:=H
      have A7:=Aside0.mk Ep
      clear Ep
      by_cases c8 : (wrap64 (AA + (wrap64 ((wrap64 (10 + (((ay Al Am).f0).size : Int))) + BS)))) > 40000
      ·rw [if_pos c8] at H
       have c8b0 : decide (40000 < (wrap64 (AA + (wrap64 ((wrap64 (10 + (((ay Al Am).f0).size : Int))) + BS))))) = true:=decide_eq_true c8
       clear c8
       obtain rfl:=Option.some.inj H
       have Ch : 0 ≤ (Am : Int):=of_decide_eq_true (by first|(with_reducible assumption)|assumption)
       have Ci : Am < (Al.length : Int):=of_decide_eq_true (by first|(with_reducible assumption)|assumption)
       obtain ⟨BH,Ay,Az,Df,AQ,AU,AV,AX,AY,AZ,Bf,BJ,BK⟩:=gF BU.out Am Ch Ci
       cases Df
       replace AQ:=(HB.out.cell (World.block_lt_of_cell? w _ AQ)).trans AQ
       replace AU:=(HB.out.cell (World.block_lt_of_cell? w _ AU)).trans AU
       replace AV:=(HB.out.cell (World.block_lt_of_cell? w _ AV)).trans AV
       replace AX:=(HB.out.cell (World.block_lt_of_cell? w _ AX)).trans AX
       replace AY:=(HB.out.cell (World.block_lt_of_cell? w _ AY)).trans AY
       replace AZ:=(HB.out.cell (World.block_lt_of_cell? w _ AZ)).trans AZ
       replace Bf:=(HB.out.cell (World.block_lt_of_cell? w _ Bf)).trans Bf
       have BX:=Aside0.mk BK
       have BZ:=Aside0.mk BJ
       clear BK BJ
       replace Ch:=eq_true Ch
       replace Ci:=eq_true Ci
       try go_wp2_with (first|((with_reducible refine dA (N:=5) rfl ?_);refine dG ?hg (N:=5) ?hd (cs:=#[.string (⟨#[]⟩ : ByteArray),.string (⟨#[]⟩ : ByteArray),.string (⟨#[]⟩ : ByteArray),.int .i64 0,.int .i64 0,.bool false,.slice none 0 0]) (t:=102) ?hr ?_;(case hd=>rfl);(case hg=>rfl);(case hr=>first|(go_simp;done)|(go_simp;rfl));intro Ao hg w9 hbox hb;have BD:=Aside0.mk (aM (g:=AJ) (o:=.cells #[.int .u64 AB,.slice (some BH) Al.length AO] 59 (0,0)) (bk_ Au.out) hb);have BF:=Aside0.mk (aJ hb_ hb);have BG:=Aside0.mk (hbox);have Ce:=Aside0.mk ((by rw [hg];exact (aY hb_) : w.heap.size ≤ Ao));have Dp:=Aside0.mk ((by rw [hg];exact (aY hb_) : w.heap.size ≤ Ao));have Dq:=Aside0.mk ((by rw [hg];exact Nat.ne_of_lt (dn (g:=AJ) (o:=.cells #[.int .u64 AB,.slice (some BH) Al.length AO] 59 (0,0)) (bk_ Au.out)) : AJ ≠ Ao));have Dr:=Aside0.mk ((by rw [hg];exact Nat.ne_of_gt (dn (g:=AJ) (o:=.cells #[.int .u64 AB,.slice (some BH) Al.length AO] 59 (0,0)) (bk_ Au.out)) : Ao ≠ AJ));clear Au;clear HB;have Au:=BD;have HB:=BF;have Ap:=BG;have Dt:=Ce;have Du:=Dp;have Aq:=Dq;have BR:=Dr;clear BD BF BG Ce Dp Dq Dr;clear hb hbox hg;have Er:=BR.out;have Es:=Aq.out;have CF : w9.cell? ⟨Ao,0,none⟩ = some (.string (⟨#[]⟩ : ByteArray)):=(ah Ap.out 0).trans rfl;have CG : w9.cell? ⟨Ao,1,none⟩ = some (.string (⟨#[]⟩ : ByteArray)):=(ah Ap.out 1).trans rfl;have Dx : w9.cell? ⟨Ao,2,none⟩ = some (.string (⟨#[]⟩ : ByteArray)):=(ah Ap.out 2).trans rfl;have Dy : w9.cell? ⟨Ao,3,none⟩ = some (.int .i64 0):=(ah Ap.out 3).trans rfl;have Dz : w9.cell? ⟨Ao,4,none⟩ = some (.int .i64 0):=(ah Ap.out 4).trans rfl;have DC : w9.cell? ⟨Ao,5,none⟩ = some (.bool false):=(ah Ap.out 5).trans rfl;have DF : w9.cell? ⟨Ao,6,none⟩ = some (.slice none 0 0):=(ah Ap.out 6).trans rfl;have CJ:=au Ap.out 0;have CK:=au Ap.out 1;have DI:=au Ap.out 2;have DJ:=au Ap.out 3;have DK:=au Ap.out 4;have DL:=au Ap.out 5;have DN:=au Ap.out 6))
       have BD : Aside0 ((((((((w9.setCell ⟨Ao,0,none⟩ (.string ((ay Al Am).f0))).setCell ⟨Ao,1,none⟩ (.string ((ay Al Am).f1.f0))).setCell ⟨Ao,2,none⟩ (.string ((ay Al Am).f1.f1))).setCell ⟨Ao,3,none⟩ (.int .i64 ((ay Al Am).f1.f2))).setCell ⟨Ao,4,none⟩ (.int .i64 ((ay Al Am).f1.f3))).setCell ⟨Ao,5,none⟩ (.bool ((ay Al Am).f1.f4))).setCell ⟨Ao,6,none⟩ (.slice Ay ((ay Al Am).f1.f5).length Az)).heap[AJ]? = some (.cells #[.int .u64 AB,.slice (some BH) Al.length AO] 59 (0,0))):=⟨by (with_reducible repeat (first|apply aC|apply aG|apply aH));refine cB ?_ Aq.out _;(with_reducible repeat (first|apply aC|apply aG|apply aH));refine cB ?_ Aq.out _;(with_reducible repeat (first|apply aC|apply aG|apply aH));refine cB ?_ Aq.out _;(with_reducible repeat (first|apply aC|apply aG|apply aH));refine cB ?_ Aq.out _;(with_reducible repeat (first|apply aC|apply aG|apply aH));refine cB ?_ Aq.out _;(with_reducible repeat (first|apply aC|apply aG|apply aH));refine cB ?_ Aq.out _;(with_reducible repeat (first|apply aC|apply aG|apply aH));refine cB ?_ Aq.out _;(with_reducible repeat (first|apply aC|apply aG|apply aH));exact Au.out⟩
       have BF : Aside0 ((((((((w9.setCell ⟨Ao,0,none⟩ (.string ((ay Al Am).f0))).setCell ⟨Ao,1,none⟩ (.string ((ay Al Am).f1.f0))).setCell ⟨Ao,2,none⟩ (.string ((ay Al Am).f1.f1))).setCell ⟨Ao,3,none⟩ (.int .i64 ((ay Al Am).f1.f2))).setCell ⟨Ao,4,none⟩ (.int .i64 ((ay Al Am).f1.f3))).setCell ⟨Ao,5,none⟩ (.bool ((ay Al Am).f1.f4))).setCell ⟨Ao,6,none⟩ (.slice Ay ((ay Al Am).f1.f5).length Az)).heap[Ao]? = some (.cells #[.string ((ay Al Am).f0),.string ((ay Al Am).f1.f0),.string ((ay Al Am).f1.f1),.int .i64 ((ay Al Am).f1.f2),.int .i64 ((ay Al Am).f1.f3),.bool ((ay Al Am).f1.f4),.slice Ay ((ay Al Am).f1.f5).length Az] 102 (0,0))):=⟨by (with_reducible repeat (first|apply aC|apply aG|apply aH));refine bR (cs:=#[.string ((ay Al Am).f0),.string ((ay Al Am).f1.f0),.string ((ay Al Am).f1.f1),.int .i64 ((ay Al Am).f1.f2),.int .i64 ((ay Al Am).f1.f3),.bool ((ay Al Am).f1.f4),.slice none 0 0]) ?_ 6 _ rfl;(with_reducible repeat (first|apply aC|apply aG|apply aH));refine bR (cs:=#[.string ((ay Al Am).f0),.string ((ay Al Am).f1.f0),.string ((ay Al Am).f1.f1),.int .i64 ((ay Al Am).f1.f2),.int .i64 ((ay Al Am).f1.f3),.bool false,.slice none 0 0]) ?_ 5 _ rfl;(with_reducible repeat (first|apply aC|apply aG|apply aH));refine bR (cs:=#[.string ((ay Al Am).f0),.string ((ay Al Am).f1.f0),.string ((ay Al Am).f1.f1),.int .i64 ((ay Al Am).f1.f2),.int .i64 0,.bool false,.slice none 0 0]) ?_ 4 _ rfl;(with_reducible repeat (first|apply aC|apply aG|apply aH));refine bR (cs:=#[.string ((ay Al Am).f0),.string ((ay Al Am).f1.f0),.string ((ay Al Am).f1.f1),.int .i64 0,.int .i64 0,.bool false,.slice none 0 0]) ?_ 3 _ rfl;(with_reducible repeat (first|apply aC|apply aG|apply aH));refine bR (cs:=#[.string ((ay Al Am).f0),.string ((ay Al Am).f1.f0),.string (⟨#[]⟩ : ByteArray),.int .i64 0,.int .i64 0,.bool false,.slice none 0 0]) ?_ 2 _ rfl;(with_reducible repeat (first|apply aC|apply aG|apply aH));refine bR (cs:=#[.string ((ay Al Am).f0),.string (⟨#[]⟩ : ByteArray),.string (⟨#[]⟩ : ByteArray),.int .i64 0,.int .i64 0,.bool false,.slice none 0 0]) ?_ 1 _ rfl;(with_reducible repeat (first|apply aC|apply aG|apply aH));refine bR (cs:=#[.string (⟨#[]⟩ : ByteArray),.string (⟨#[]⟩ : ByteArray),.string (⟨#[]⟩ : ByteArray),.int .i64 0,.int .i64 0,.bool false,.slice none 0 0]) ?_ 0 _ rfl;(with_reducible repeat (first|apply aC|apply aG|apply aH));exact Ap.out⟩
       have BG : Aside0 (Below w.heap.size w (((((((w9.setCell ⟨Ao,0,none⟩ (.string ((ay Al Am).f0))).setCell ⟨Ao,1,none⟩ (.string ((ay Al Am).f1.f0))).setCell ⟨Ao,2,none⟩ (.string ((ay Al Am).f1.f1))).setCell ⟨Ao,3,none⟩ (.int .i64 ((ay Al Am).f1.f2))).setCell ⟨Ao,4,none⟩ (.int .i64 ((ay Al Am).f1.f3))).setCell ⟨Ao,5,none⟩ (.bool ((ay Al Am).f1.f4))).setCell ⟨Ao,6,none⟩ (.slice Ay ((ay Al Am).f1.f5).length Az))):=⟨hb_⟩
       (try clear Au)
       (try clear Ap)
       (try clear HB)
       generalize (((((((w9.setCell ⟨Ao,0,none⟩ (.string ((ay Al Am).f0))).setCell ⟨Ao,1,none⟩ (.string ((ay Al Am).f1.f0))).setCell ⟨Ao,2,none⟩ (.string ((ay Al Am).f1.f1))).setCell ⟨Ao,3,none⟩ (.int .i64 ((ay Al Am).f1.f2))).setCell ⟨Ao,4,none⟩ (.int .i64 ((ay Al Am).f1.f3))).setCell ⟨Ao,5,none⟩ (.bool ((ay Al Am).f1.f4))).setCell ⟨Ao,6,none⟩ (.slice Ay ((ay Al Am).f1.f5).length Az)) = EA at BD BF BG ⊢
       have Au:=BD
       have Ap:=BF
       have HB:=BG
       clear BD BF BG
       have BD:=Aside0.mk (aG Au.out)
       have BF:=Aside0.mk (aG Ap.out)
       have BG:=Aside0.mk (aZ HB.out)
       clear Au
       clear Ap
       clear HB
       have Au:=BD
       have Ap:=BF
       have HB:=BG
       clear BD BF BG
       refine fu (n:=11) (S:=fun w'=>w'.cell? ⟨Ao,0,none⟩ = some (.string ((ay Al Am).f0)) ∧ w'.cell? ⟨Ao,1,none⟩ = some (.string ((ay Al Am).f1.f0)) ∧ w'.cell? ⟨Ao,2,none⟩ = some (.string ((ay Al Am).f1.f1)) ∧ w'.cell? ⟨Ao,3,none⟩ = some (.int .i64 ((ay Al Am).f1.f2)) ∧ w'.cell? ⟨Ao,4,none⟩ = some (.int .i64 ((ay Al Am).f1.f3)) ∧ w'.cell? ⟨Ao,5,none⟩ = some (.bool ((ay Al Am).f1.f4)) ∧ w'.cell? ⟨Ao,6,none⟩ = some (.slice Ay ((ay Al Am).f1.f5).length Az)) (ds:=[]) #[O,O,O,O,O,O,O,O,O,O,O] (by kernel_rfl) rfl rfl ⟨(ah Ap.out 0).trans rfl,(ah Ap.out 1).trans rfl,(ah Ap.out 2).trans rfl,(ah Ap.out 3).trans rfl,(ah Ap.out 4).trans rfl,(ah Ap.out 5).trans rfl,(ah Ap.out 6).trans rfl⟩ (fun hHeld=>?_);refine dR aR.qy aR.l8 (fun HT_ HW_=>?_)
       generalize EA.drew = EC at Au Ap HB hHeld ⊢
       refine pu_ 0 13 #[I,O,O,O,O,O,O,O,O,O,O] HT_.out ?_
       refine pu_ 1 14 #[I,I,O,O,O,O,O,O,O,O,O] HT_.out ?_
       refine pu_ 5 18 #[I,I,O,O,O,I,O,O,O,O,O] HT_.out ?_
       refine ta_ 2 15 #[I,I,I,O,O,I,O,O,O,O,O] HT_.out HW_.out hHeld ?_
       refine pu_ 3 16 #[I,I,I,I,O,I,O,O,O,O,O] HT_.out ?_
       refine pu_ 4 17 #[I,I,I,I,I,I,O,O,O,O,O] HT_.out ?_
       refine ta_ 6 19 #[I,I,I,I,I,I,I,O,O,O,O] HT_.out HW_.out hHeld ?_
       refine gG (i:=7) (N:=some 20) #[I,I,I,I,I,I,I,I,O,O,O] rfl rfl (dw HT_.out (by kernel_rfl)) (by decide) (fun K hK=>?_)
       refine eZ Tryd.func30 (by kernel_rfl) rfl #[.agg #[.string ((ay Al Am).f1.f0),.string ((ay Al Am).f1.f1),.int .i64 ((ay Al Am).f1.f2),.int .i64 ((ay Al Am).f1.f3),.bool ((ay Al Am).f1.f4),.slice Ay ((ay Al Am).f1.f5).length Az]] (by rfl) rfl rfl (by (try simp only [List.map_toArray,List.map_cons,List.map_nil]);first|done|rfl|(simp only [List.length_drop,List.length_take];rfl)) ?_
       with_reducible refine (aQ.calls k1 ((ay Al Am).f1.f0) ((ay Al Am).f1.f1) ((ay Al Am).f1.f2) ((ay Al Am).f1.f3) ((ay Al Am).f1.f4) _ _ ((ay Al Am).f1.f5) BS _ ?Cu ?Cv A7.out).mono ?_
       (case Cu=>repeat (first|exact (Kd.bN BX.out HB.out)|(with_reducible refine Kd.bC ?_ _)|(with_reducible refine Kd.bO ?_ _)|(with_reducible refine Kd.bW ?_)))
       (case Cv=>exact BZ.out)
       rintro e ED ⟨rfl,hb⟩
       refine ⟨_,rfl,?_⟩
       have BD:=Aside0.mk (aM (g:=AJ) (o:=.cells #[.int .u64 AB,.slice (some BH) Al.length AO] 59 (0,0)) (bk_ Au.out) hb)
       have BF:=Aside0.mk (aM (g:=Ao) (o:=.cells #[.string ((ay Al Am).f0),.string ((ay Al Am).f1.f0),.string ((ay Al Am).f1.f1),.int .i64 ((ay Al Am).f1.f2),.int .i64 ((ay Al Am).f1.f3),.bool ((ay Al Am).f1.f4),.slice Ay ((ay Al Am).f1.f5).length Az] 102 (0,0)) (bk_ Ap.out) hb)
       have BG:=Aside0.mk (aJ hb_ hb)
       clear Au
       clear Ap
       clear HB
       have Au:=BD
       have Ap:=BF
       have HB:=BG
       clear BD BF BG
       (try clear hb)
       (try clear hb2)
       (try clear hk)
       (try clear hi)
       refine hK.out _ _ ⟨(ah Ap.out 0).trans rfl,(ah Ap.out 1).trans rfl,(ah Ap.out 2).trans rfl,(ah Ap.out 3).trans rfl,(ah Ap.out 4).trans rfl,(ah Ap.out 5).trans rfl,(ah Ap.out 6).trans rfl⟩ (fun hHeld=>?_)
       clear hK K
       refine dU (a':=?_) ?_ ?_
       rotate_left
       ·show Act.put _ (some 20) _ = _
        simp only [Act.put,List.setIfInBounds_toArray,List.set_cons_zero,List.set_cons_succ,bH,bI]
        rfl
       refine pu_ 8 21 #[I,I,I,I,I,I,I,I,I,O,O] HT_.out ?_
       refine pu_ 9 22 #[I,I,I,I,I,I,I,I,I,I,O] HT_.out ?_
       refine pu_ 10 3 #[I,I,I,I,I,I,I,I,I,I,I] HT_.out ?_
       refine gJ (eH HT_.out (by kernel_rfl)) ?_
       try go_wp2
       go_ret
       exact ⟨by first|rfl|(simp [aV,aW] <;> rfl)|(simp [*,aV,aW] <;> rfl),hb_⟩
      ·rw [if_neg c8] at H
       have c8b0 : decide (40000 < (wrap64 (AA + (wrap64 ((wrap64 (10 + (((ay Al Am).f0).size : Int))) + BS))))) = false:=decide_eq_false c8
       clear c8
       have H':=Aside0.mk H
       clear H
       have Ch : 0 ≤ (Am : Int):=of_decide_eq_true (by first|(with_reducible assumption)|assumption)
       have Ci : Am < (Al.length : Int):=of_decide_eq_true (by first|(with_reducible assumption)|assumption)
       obtain ⟨BH,Ay,Az,Df,AQ,AU,AV,AX,AY,AZ,Bf,BJ,BK⟩:=gF BU.out Am Ch Ci
       cases Df
       replace AQ:=(HB.out.cell (World.block_lt_of_cell? w _ AQ)).trans AQ
       replace AU:=(HB.out.cell (World.block_lt_of_cell? w _ AU)).trans AU
       replace AV:=(HB.out.cell (World.block_lt_of_cell? w _ AV)).trans AV
       replace AX:=(HB.out.cell (World.block_lt_of_cell? w _ AX)).trans AX
       replace AY:=(HB.out.cell (World.block_lt_of_cell? w _ AY)).trans AY
       replace AZ:=(HB.out.cell (World.block_lt_of_cell? w _ AZ)).trans AZ
       replace Bf:=(HB.out.cell (World.block_lt_of_cell? w _ Bf)).trans Bf
       have BX:=Aside0.mk BK
       have BZ:=Aside0.mk BJ
       clear BK BJ
       replace Ch:=eq_true Ch
       replace Ci:=eq_true Ci
       try go_wp2_with (first|((with_reducible refine dA (N:=5) rfl ?_);refine dG ?hg (N:=5) ?hd (cs:=#[.string (⟨#[]⟩ : ByteArray),.string (⟨#[]⟩ : ByteArray),.string (⟨#[]⟩ : ByteArray),.int .i64 0,.int .i64 0,.bool false,.slice none 0 0]) (t:=102) ?hr ?_;(case hd=>rfl);(case hg=>rfl);(case hr=>first|(go_simp;done)|(go_simp;rfl));intro Ao hg Cw hbox hb;have BD:=Aside0.mk (aM (g:=AJ) (o:=.cells #[.int .u64 AB,.slice (some BH) Al.length AO] 59 (0,0)) (bk_ Au.out) hb);have BF:=Aside0.mk (aJ hb_ hb);have BG:=Aside0.mk (hbox);have Ce:=Aside0.mk ((by rw [hg];exact (aY hb_) : w.heap.size ≤ Ao));have Dp:=Aside0.mk ((by rw [hg];exact (aY hb_) : w.heap.size ≤ Ao));have Dq:=Aside0.mk ((by rw [hg];exact Nat.ne_of_lt (dn (g:=AJ) (o:=.cells #[.int .u64 AB,.slice (some BH) Al.length AO] 59 (0,0)) (bk_ Au.out)) : AJ ≠ Ao));have Dr:=Aside0.mk ((by rw [hg];exact Nat.ne_of_gt (dn (g:=AJ) (o:=.cells #[.int .u64 AB,.slice (some BH) Al.length AO] 59 (0,0)) (bk_ Au.out)) : Ao ≠ AJ));clear Au;clear HB;have Au:=BD;have HB:=BF;have Ap:=BG;have Dt:=Ce;have Du:=Dp;have Aq:=Dq;have BR:=Dr;clear BD BF BG Ce Dp Dq Dr;clear hb hbox hg;have Et:=BR.out;have Eu:=Aq.out;have DR : Cw.cell? ⟨Ao,0,none⟩ = some (.string (⟨#[]⟩ : ByteArray)):=(ah Ap.out 0).trans rfl;have DT : Cw.cell? ⟨Ao,1,none⟩ = some (.string (⟨#[]⟩ : ByteArray)):=(ah Ap.out 1).trans rfl;have DU : Cw.cell? ⟨Ao,2,none⟩ = some (.string (⟨#[]⟩ : ByteArray)):=(ah Ap.out 2).trans rfl;have DV : Cw.cell? ⟨Ao,3,none⟩ = some (.int .i64 0):=(ah Ap.out 3).trans rfl;have DW : Cw.cell? ⟨Ao,4,none⟩ = some (.int .i64 0):=(ah Ap.out 4).trans rfl;have DX : Cw.cell? ⟨Ao,5,none⟩ = some (.bool false):=(ah Ap.out 5).trans rfl;have DY : Cw.cell? ⟨Ao,6,none⟩ = some (.slice none 0 0):=(ah Ap.out 6).trans rfl;have DZ:=au Ap.out 0;have D5:=au Ap.out 1;have D6:=au Ap.out 2;have D7:=au Ap.out 3;have D8:=au Ap.out 4;have D9:=au Ap.out 5;have Ea:=au Ap.out 6))
       have BD : Aside0 ((((((((Cw.setCell ⟨Ao,0,none⟩ (.string ((ay Al Am).f0))).setCell ⟨Ao,1,none⟩ (.string ((ay Al Am).f1.f0))).setCell ⟨Ao,2,none⟩ (.string ((ay Al Am).f1.f1))).setCell ⟨Ao,3,none⟩ (.int .i64 ((ay Al Am).f1.f2))).setCell ⟨Ao,4,none⟩ (.int .i64 ((ay Al Am).f1.f3))).setCell ⟨Ao,5,none⟩ (.bool ((ay Al Am).f1.f4))).setCell ⟨Ao,6,none⟩ (.slice Ay ((ay Al Am).f1.f5).length Az)).heap[AJ]? = some (.cells #[.int .u64 AB,.slice (some BH) Al.length AO] 59 (0,0))):=⟨by (with_reducible repeat (first|apply aC|apply aG|apply aH));refine cB ?_ Aq.out _;(with_reducible repeat (first|apply aC|apply aG|apply aH));refine cB ?_ Aq.out _;(with_reducible repeat (first|apply aC|apply aG|apply aH));refine cB ?_ Aq.out _;(with_reducible repeat (first|apply aC|apply aG|apply aH));refine cB ?_ Aq.out _;(with_reducible repeat (first|apply aC|apply aG|apply aH));refine cB ?_ Aq.out _;(with_reducible repeat (first|apply aC|apply aG|apply aH));refine cB ?_ Aq.out _;(with_reducible repeat (first|apply aC|apply aG|apply aH));refine cB ?_ Aq.out _;(with_reducible repeat (first|apply aC|apply aG|apply aH));exact Au.out⟩
       have BF : Aside0 ((((((((Cw.setCell ⟨Ao,0,none⟩ (.string ((ay Al Am).f0))).setCell ⟨Ao,1,none⟩ (.string ((ay Al Am).f1.f0))).setCell ⟨Ao,2,none⟩ (.string ((ay Al Am).f1.f1))).setCell ⟨Ao,3,none⟩ (.int .i64 ((ay Al Am).f1.f2))).setCell ⟨Ao,4,none⟩ (.int .i64 ((ay Al Am).f1.f3))).setCell ⟨Ao,5,none⟩ (.bool ((ay Al Am).f1.f4))).setCell ⟨Ao,6,none⟩ (.slice Ay ((ay Al Am).f1.f5).length Az)).heap[Ao]? = some (.cells #[.string ((ay Al Am).f0),.string ((ay Al Am).f1.f0),.string ((ay Al Am).f1.f1),.int .i64 ((ay Al Am).f1.f2),.int .i64 ((ay Al Am).f1.f3),.bool ((ay Al Am).f1.f4),.slice Ay ((ay Al Am).f1.f5).length Az] 102 (0,0))):=⟨by (with_reducible repeat (first|apply aC|apply aG|apply aH));refine bR (cs:=#[.string ((ay Al Am).f0),.string ((ay Al Am).f1.f0),.string ((ay Al Am).f1.f1),.int .i64 ((ay Al Am).f1.f2),.int .i64 ((ay Al Am).f1.f3),.bool ((ay Al Am).f1.f4),.slice none 0 0]) ?_ 6 _ rfl;(with_reducible repeat (first|apply aC|apply aG|apply aH));refine bR (cs:=#[.string ((ay Al Am).f0),.string ((ay Al Am).f1.f0),.string ((ay Al Am).f1.f1),.int .i64 ((ay Al Am).f1.f2),.int .i64 ((ay Al Am).f1.f3),.bool false,.slice none 0 0]) ?_ 5 _ rfl;(with_reducible repeat (first|apply aC|apply aG|apply aH));refine bR (cs:=#[.string ((ay Al Am).f0),.string ((ay Al Am).f1.f0),.string ((ay Al Am).f1.f1),.int .i64 ((ay Al Am).f1.f2),.int .i64 0,.bool false,.slice none 0 0]) ?_ 4 _ rfl;(with_reducible repeat (first|apply aC|apply aG|apply aH));refine bR (cs:=#[.string ((ay Al Am).f0),.string ((ay Al Am).f1.f0),.string ((ay Al Am).f1.f1),.int .i64 0,.int .i64 0,.bool false,.slice none 0 0]) ?_ 3 _ rfl;(with_reducible repeat (first|apply aC|apply aG|apply aH));refine bR (cs:=#[.string ((ay Al Am).f0),.string ((ay Al Am).f1.f0),.string (⟨#[]⟩ : ByteArray),.int .i64 0,.int .i64 0,.bool false,.slice none 0 0]) ?_ 2 _ rfl;(with_reducible repeat (first|apply aC|apply aG|apply aH));refine bR (cs:=#[.string ((ay Al Am).f0),.string (⟨#[]⟩ : ByteArray),.string (⟨#[]⟩ : ByteArray),.int .i64 0,.int .i64 0,.bool false,.slice none 0 0]) ?_ 1 _ rfl;(with_reducible repeat (first|apply aC|apply aG|apply aH));refine bR (cs:=#[.string (⟨#[]⟩ : ByteArray),.string (⟨#[]⟩ : ByteArray),.string (⟨#[]⟩ : ByteArray),.int .i64 0,.int .i64 0,.bool false,.slice none 0 0]) ?_ 0 _ rfl;(with_reducible repeat (first|apply aC|apply aG|apply aH));exact Ap.out⟩
       have BG : Aside0 (Below w.heap.size w (((((((Cw.setCell ⟨Ao,0,none⟩ (.string ((ay Al Am).f0))).setCell ⟨Ao,1,none⟩ (.string ((ay Al Am).f1.f0))).setCell ⟨Ao,2,none⟩ (.string ((ay Al Am).f1.f1))).setCell ⟨Ao,3,none⟩ (.int .i64 ((ay Al Am).f1.f2))).setCell ⟨Ao,4,none⟩ (.int .i64 ((ay Al Am).f1.f3))).setCell ⟨Ao,5,none⟩ (.bool ((ay Al Am).f1.f4))).setCell ⟨Ao,6,none⟩ (.slice Ay ((ay Al Am).f1.f5).length Az))):=⟨hb_⟩
       (try clear Au)
       (try clear Ap)
       (try clear HB)
       generalize (((((((Cw.setCell ⟨Ao,0,none⟩ (.string ((ay Al Am).f0))).setCell ⟨Ao,1,none⟩ (.string ((ay Al Am).f1.f0))).setCell ⟨Ao,2,none⟩ (.string ((ay Al Am).f1.f1))).setCell ⟨Ao,3,none⟩ (.int .i64 ((ay Al Am).f1.f2))).setCell ⟨Ao,4,none⟩ (.int .i64 ((ay Al Am).f1.f3))).setCell ⟨Ao,5,none⟩ (.bool ((ay Al Am).f1.f4))).setCell ⟨Ao,6,none⟩ (.slice Ay ((ay Al Am).f1.f5).length Az)) = EB at BD BF BG ⊢
       have Au:=BD
       have Ap:=BF
       have HB:=BG
       clear BD BF BG
       have BD:=Aside0.mk (aG Au.out)
       have BF:=Aside0.mk (aG Ap.out)
       have BG:=Aside0.mk (aZ HB.out)
       clear Au
       clear Ap
       clear HB
       have Au:=BD
       have Ap:=BF
       have HB:=BG
       clear BD BF BG
       refine fu (n:=11) (S:=fun w'=>w'.cell? ⟨Ao,0,none⟩ = some (.string ((ay Al Am).f0)) ∧ w'.cell? ⟨Ao,1,none⟩ = some (.string ((ay Al Am).f1.f0)) ∧ w'.cell? ⟨Ao,2,none⟩ = some (.string ((ay Al Am).f1.f1)) ∧ w'.cell? ⟨Ao,3,none⟩ = some (.int .i64 ((ay Al Am).f1.f2)) ∧ w'.cell? ⟨Ao,4,none⟩ = some (.int .i64 ((ay Al Am).f1.f3)) ∧ w'.cell? ⟨Ao,5,none⟩ = some (.bool ((ay Al Am).f1.f4)) ∧ w'.cell? ⟨Ao,6,none⟩ = some (.slice Ay ((ay Al Am).f1.f5).length Az)) (ds:=[]) #[O,O,O,O,O,O,O,O,O,O,O] (by kernel_rfl) rfl rfl ⟨(ah Ap.out 0).trans rfl,(ah Ap.out 1).trans rfl,(ah Ap.out 2).trans rfl,(ah Ap.out 3).trans rfl,(ah Ap.out 4).trans rfl,(ah Ap.out 5).trans rfl,(ah Ap.out 6).trans rfl⟩ (fun hHeld=>?_);refine dR aR.qy aR.l8 (fun HT_ HW_=>?_)
       generalize EB.drew = EF at Au Ap HB hHeld ⊢
       refine pu_ 0 13 #[I,O,O,O,O,O,O,O,O,O,O] HT_.out ?_
       refine pu_ 1 14 #[I,I,O,O,O,O,O,O,O,O,O] HT_.out ?_
       refine pu_ 5 18 #[I,I,O,O,O,I,O,O,O,O,O] HT_.out ?_
       refine ta_ 2 15 #[I,I,I,O,O,I,O,O,O,O,O] HT_.out HW_.out hHeld ?_
       refine pu_ 3 16 #[I,I,I,I,O,I,O,O,O,O,O] HT_.out ?_
       refine pu_ 4 17 #[I,I,I,I,I,I,O,O,O,O,O] HT_.out ?_
       refine ta_ 6 19 #[I,I,I,I,I,I,I,O,O,O,O] HT_.out HW_.out hHeld ?_
       refine gG (i:=7) (N:=some 20) #[I,I,I,I,I,I,I,I,O,O,O] rfl rfl (dw HT_.out (by kernel_rfl)) (by decide) (fun K hK=>?_)
       refine eZ Tryd.func30 (by kernel_rfl) rfl #[.agg #[.string ((ay Al Am).f1.f0),.string ((ay Al Am).f1.f1),.int .i64 ((ay Al Am).f1.f2),.int .i64 ((ay Al Am).f1.f3),.bool ((ay Al Am).f1.f4),.slice Ay ((ay Al Am).f1.f5).length Az]] (by rfl) rfl rfl (by (try simp only [List.map_toArray,List.map_cons,List.map_nil]);first|done|rfl|(simp only [List.length_drop,List.length_take];rfl)) ?_
       with_reducible refine (aQ.calls k1 ((ay Al Am).f1.f0) ((ay Al Am).f1.f1) ((ay Al Am).f1.f2) ((ay Al Am).f1.f3) ((ay Al Am).f1.f4) _ _ ((ay Al Am).f1.f5) BS _ ?Cu ?Cv A7.out).mono ?_
       (case Cu=>repeat (first|exact (Kd.bN BX.out HB.out)|(with_reducible refine Kd.bC ?_ _)|(with_reducible refine Kd.bO ?_ _)|(with_reducible refine Kd.bW ?_)))
       (case Cv=>exact BZ.out)
       rintro e EG ⟨rfl,hb⟩
       refine ⟨_,rfl,?_⟩
       have BD:=Aside0.mk (aM (g:=AJ) (o:=.cells #[.int .u64 AB,.slice (some BH) Al.length AO] 59 (0,0)) (bk_ Au.out) hb)
       have BF:=Aside0.mk (aM (g:=Ao) (o:=.cells #[.string ((ay Al Am).f0),.string ((ay Al Am).f1.f0),.string ((ay Al Am).f1.f1),.int .i64 ((ay Al Am).f1.f2),.int .i64 ((ay Al Am).f1.f3),.bool ((ay Al Am).f1.f4),.slice Ay ((ay Al Am).f1.f5).length Az] 102 (0,0)) (bk_ Ap.out) hb)
       have BG:=Aside0.mk (aJ hb_ hb)
       clear Au
       clear Ap
       clear HB
       have Au:=BD
       have Ap:=BF
       have HB:=BG
       clear BD BF BG
       (try clear hb)
       (try clear hb2)
       (try clear hk)
       (try clear hi)
       refine hK.out _ _ ⟨(ah Ap.out 0).trans rfl,(ah Ap.out 1).trans rfl,(ah Ap.out 2).trans rfl,(ah Ap.out 3).trans rfl,(ah Ap.out 4).trans rfl,(ah Ap.out 5).trans rfl,(ah Ap.out 6).trans rfl⟩ (fun hHeld=>?_)
       clear hK K
       refine dU (a':=?_) ?_ ?_
       rotate_left
       ·show Act.put _ (some 20) _ = _
        simp only [Act.put,List.setIfInBounds_toArray,List.set_cons_zero,List.set_cons_succ,bH,bI]
        rfl
       refine pu_ 8 21 #[I,I,I,I,I,I,I,I,I,O,O] HT_.out ?_
       refine pu_ 9 22 #[I,I,I,I,I,I,I,I,I,I,O] HT_.out ?_
       refine pu_ 10 3 #[I,I,I,I,I,I,I,I,I,I,I] HT_.out ?_
       refine gJ (eH HT_.out (by kernel_rfl)) ?_
       try go_wp2
       go_roundg k1
       case measure=>have:=CY.out;omega
       case rel=>exact ⟨(wrap64 (AA + (wrap64 ((wrap64 (10 + (((ay Al Am).f0).size : Int))) + BS)))),(wrap64 (Am + 1)),(by first|rfl|(simp;done)|(simp [*];done)),(by first|rfl|(simp;done)|(simp [*];done)),H',⟨by have:=CY.out;omega⟩,⟨by (with_reducible repeat (first|apply aC|apply aG|apply aH));exact Au.out⟩,⟨hb_⟩⟩
     ·rw [if_neg c6] at H
      exact absurd H (by simp)
    ·rw [if_neg c5] at H
     exact absurd H (by simp)
   ·rw [if_neg c4] at H
    have c4b0 : decide (Am < (Al.length : Int)) = false:=decide_eq_false c4
    clear c4
    obtain rfl:=Option.some.inj H
    go_wp2
    go_ret
    exact ⟨by first|rfl|(simp [aV,aW] <;> rfl)|(simp [*,aV,aW] <;> rfl),hb_⟩
def aX.l0 : Nat → Int → Int → List (S102) → Option (Bool)
 | 0,_,_,_=>none
 | k + 1,x3,CO,BL=>if x3 < (BL.length : Int) then (if 0 ≤ x3 then (if 0 ≤ (wrap64 (x3 - 1)) then (if (wrap64 (x3 - 1)) < (BL.length : Int) then (if ((Op.bytesLess (((ay BL (wrap64 (x3 - 1))).f0).toList) (((ay BL x3).f0).toList)) = true) then (aX.l0 k (wrap64 (x3 + 1)) CO BL) else (some false)) else (none)) else (none)) else (none)) else (some true)
def aX.f (k : Nat) (AB : Int) (Al : List (S102)) : Option (Bool):=aX.l0 k 1 AB Al
theorem aX.dV : ∀ k,(∀ y0 y1 y2,LeO (aX.l0 k y0 y1 y2) (aX.l0 (k + 1) y0 y1 y2))
 | 0=>fun _ _ _ r h=>by simp [aX.l0] at h
 | k + 1=>by
  have Ca:=aX.dV k
  ·intro y0 y1 y2
   unfold aX.l0
   repeat' first
   | (with_reducible exact Ca _ _ _)
   | (with_reducible exact LeO.refl _)
   | (with_reducible exact LeO.none _)
   | (with_reducible refine LeO.ite ?_ ?_)
   | (with_reducible refine LeO.bind ?_ (fun _=>?_))
   | exact Ca _ _ _
   | exact LeO.none _
   | refine LeO.ite ?_ ?_
   | refine LeO.bind ?_ (fun _=>?_)
theorem aX.mono : ∀ a0 a1 k,LeO (aX.f k a0 a1) (aX.f (k + 1) a0 a1):=by
 intro a0 a1 k
 have Ca:=aX.dV k
 unfold aX.f
 repeat' first
   | (with_reducible exact Ca _ _ _)
   | (with_reducible exact LeO.refl _)
   | (with_reducible exact LeO.none _)
   | (with_reducible refine LeO.ite ?_ ?_)
   | (with_reducible refine LeO.bind ?_ (fun _=>?_))
   | exact Ca _ _ _
   | exact LeO.none _
   | refine LeO.ite ?_ ?_
   | refine LeO.bind ?_ (fun _=>?_)
set_option maxHeartbeats 8000000 in
set_option maxRecDepth 100000 in
theorem aX.calls (k : Nat) (AB : Int) (BI : Option Addr) (AO : Nat) (Al : List (S102)) (r : Bool) (w : World) (Cb : Kd.C fP w BI Al.length Al) (Cc : Al.length ≤ AO) (h : aX.f k AB Al = some r) :
  Calls Tryd.prog 25 #[.agg #[.int .u64 AB,.slice BI Al.length AO]] w fun e w'=>e = .returned (.bool r) ∧ Below w.heap.size w w':=by
 have Ef:=Tryd.underlying59
 have BU:=Aside0.mk Cb
 have Dn:=Aside0.mk Cc
 clear Cb Cc
 have HB:=Aside0.mk (Below.refl w.heap.size w)
 have H : (aX.l0 k 1 AB Al) = some r:=h
 clear h
 have H':=Aside0.mk H
 clear H
 go_enter Tryd.func25,Tryd.ntmps25
 go_wp2_with (first|((with_reducible refine dA (N:=1) rfl ?_);refine dG ?hg (N:=1) ?hd (cs:=#[.int .u64 AB,.slice BI Al.length AO]) (t:=59) ?hr ?_;(case hd=>rfl);(case hg=>rfl);(case hr=>first|(go_simp;done)|(go_simp;rfl));intro AP hg w2 hbox hb;have BD:=Aside0.mk (aJ hb_ hb);have BF:=Aside0.mk (hbox);have BG:=Aside0.mk ((by rw [hg];exact (aY hb_) : w.heap.size ≤ AP));have Ce:=Aside0.mk ((by rw [hg];exact (aY hb_) : w.heap.size ≤ AP));clear HB;have HB:=BD;have AL:=BF;have CZ:=BG;have C8:=Ce;clear BD BF BG Ce;clear hb hbox hg))
 repeat (go_quiet (first|((with_reducible refine dA (N:=1) rfl ?_);refine dG ?hg (N:=1) ?hd (cs:=#[.int .u64 AB,.slice BI Al.length AO]) (t:=59) ?hr ?_;(case hd=>rfl);(case hg=>rfl);(case hr=>first|(go_simp;done)|(go_simp;rfl));intro AP hg w2 hbox hb;have BD:=Aside0.mk (aJ hb_ hb);have BF:=Aside0.mk (hbox);have BG:=Aside0.mk ((by rw [hg];exact (aY hb_) : w.heap.size ≤ AP));have Ce:=Aside0.mk ((by rw [hg];exact (aY hb_) : w.heap.size ≤ AP));clear HB;have HB:=BD;have AL:=BF;have CZ:=BG;have C8:=Ce;clear BD BF BG Ce;clear hb hbox hg));try go_wp2_with (first|((with_reducible refine dA (N:=1) rfl ?_);refine dG ?hg (N:=1) ?hd (cs:=#[.int .u64 AB,.slice BI Al.length AO]) (t:=59) ?hr ?_;(case hd=>rfl);(case hg=>rfl);(case hr=>first|(go_simp;done)|(go_simp;rfl));intro AP hg w2 hbox hb;have BD:=Aside0.mk (aJ hb_ hb);have BF:=Aside0.mk (hbox);have BG:=Aside0.mk ((by rw [hg];exact (aY hb_) : w.heap.size ≤ AP));have Ce:=Aside0.mk ((by rw [hg];exact (aY hb_) : w.heap.size ≤ AP));clear HB;have HB:=BD;have AL:=BF;have CZ:=BG;have C8:=Ce;clear BD BF BG Ce;clear hb hbox hg)))
 go_loopg [3] k (fun kq v3 w'=>∃ (AA : Int),v3 = .int .i64 AA ∧ Aside0 (aX.l0 kq AA AB Al = some r) ∧ Aside0 (kq ≤ k) ∧ Aside0 (w'.heap[AP]? = some (.cells #[.int .u64 AB,(.slice BI Al.length AO)] 59 (0,0))) ∧ Aside0 (Below w.heap.size w w'))
 case atStart=>exact ⟨(1),(by first|rfl|(simp;done)|(simp [*];done)),H',⟨Nat.le_refl _⟩,⟨by (with_reducible repeat (first|apply aC|apply aG|apply aH));exact AL.out⟩,⟨hb_⟩⟩
 case round =>
  clear H'
  try clear c2
  try clear p2
  obtain ⟨AA,rfl,HA,CY,AL,HB⟩:=hrel
  cases gk with
  | zero=>exact absurd HA.out (by simp [aX.l0])
  | succ k1 =>
   have H:=HA.out
   clear HA
   simp only [aX.l0] at H
   by_cases c3 : AA < (Al.length : Int)
   ·rw [if_pos c3] at H
    have c3b0 : decide (AA < (Al.length : Int)) = true:=decide_eq_true c3
    clear c3
    by_cases c4 : 0 ≤ AA
    ·rw [if_pos c4] at H
     have c4b0 : decide (0 ≤ AA) = true:=decide_eq_true c4
     clear c4
     obtain ⟨Cg,CP⟩ : ∃ j_ : Int,(wrap64 (AA - 1)) = j_:=⟨_,rfl⟩
     replace H : (if 0 ≤ (Cg) then (if (Cg) < (Al.length : Int) then (if ((Op.bytesLess (((ay Al (Cg)).f0).toList) (((ay Al AA).f0).toList)) = true) then (aX.l0 k1 (wrap64 (AA + 1)) AB Al) else (some false)) else (none)) else (none)) = some r:=by first|(rw [CP] at H;exact H)|(simp only [CP] at H ⊢;exact H)
     have hji5w : (IntKind.i64.wrap (AA - 1)) = Cg:=(bH _).trans CP
     by_cases c6 : 0 ≤ (Cg)
     ·rw [if_pos c6] at H
      have c6b0 : decide (0 ≤ (Cg)) = true:=decide_eq_true c6
      clear c6
      by_cases c7 : (Cg) < (Al.length : Int)
      ·rw [if_pos c7] at H
       have c7b0 : decide ((Cg) < (Al.length : Int)) = true:=decide_eq_true c7
       clear c7
       by_cases c8 : ((Op.bytesLess (((ay Al (Cg)).f0).toList) (((ay Al AA).f0).toList)) = true)
       ·rw [if_pos c8] at H
        have c8b0 : (Op.bytesLess (((ay Al (Cg)).f0).toList) (((ay Al AA).f0).toList)) = true:=c8
        clear c8
        have H':=Aside0.mk H
        clear H
        have Eh : wr.cell? ⟨AP,0,none⟩ = some (.int .u64 AB):=(ah AL.out 0).trans rfl
        have Ei : wr.cell? ⟨AP,1,none⟩ = some (.slice BI Al.length AO):=(ah AL.out 1).trans rfl
        have Ej:=au AL.out 0
        have El:=au AL.out 1
        have Cj : 0 ≤ (AA : Int):=of_decide_eq_true (by first|(with_reducible assumption)|assumption)
        have Ck : AA < (Al.length : Int):=of_decide_eq_true (by first|(with_reducible assumption)|assumption)
        obtain ⟨Cz,Dh,Di,Dj,Bg,Bh,Bj,Bl,Bn,Bo,Bp,BN,BO⟩:=gF BU.out AA Cj Ck
        cases Dj
        replace Bg:=(HB.out.cell (World.block_lt_of_cell? w _ Bg)).trans Bg
        replace Bh:=(HB.out.cell (World.block_lt_of_cell? w _ Bh)).trans Bh
        replace Bj:=(HB.out.cell (World.block_lt_of_cell? w _ Bj)).trans Bj
        replace Bl:=(HB.out.cell (World.block_lt_of_cell? w _ Bl)).trans Bl
        replace Bn:=(HB.out.cell (World.block_lt_of_cell? w _ Bn)).trans Bn
        replace Bo:=(HB.out.cell (World.block_lt_of_cell? w _ Bo)).trans Bo
        replace Bp:=(HB.out.cell (World.block_lt_of_cell? w _ Bp)).trans Bp
        have CQ:=Aside0.mk BO
        have CS:=Aside0.mk BN
        clear BO BN
        replace Cj:=eq_true Cj
        replace Ck:=eq_true Ck
        have Cm : 0 ≤ ((Cg) : Int):=of_decide_eq_true (by first|(with_reducible assumption)|assumption)
        have Cn : (Cg) < (Al.length : Int):=of_decide_eq_true (by first|(with_reducible assumption)|assumption)
        obtain ⟨CB,Dk,Dl,e115,Bq,Br,Bt,Bu,Bv,Bw,Bz,BP,BQ⟩:=gF BU.out (Cg) Cm Cn
        obtain rfl : Cz = CB:=(by injection e115)
        replace Bq:=(HB.out.cell (World.block_lt_of_cell? w _ Bq)).trans Bq
        replace Br:=(HB.out.cell (World.block_lt_of_cell? w _ Br)).trans Br
        replace Bt:=(HB.out.cell (World.block_lt_of_cell? w _ Bt)).trans Bt
        replace Bu:=(HB.out.cell (World.block_lt_of_cell? w _ Bu)).trans Bu
        replace Bv:=(HB.out.cell (World.block_lt_of_cell? w _ Bv)).trans Bv
        replace Bw:=(HB.out.cell (World.block_lt_of_cell? w _ Bw)).trans Bw
        replace Bz:=(HB.out.cell (World.block_lt_of_cell? w _ Bz)).trans Bz
        have CU:=Aside0.mk BQ
        have CV:=Aside0.mk BP
        clear BQ BP
        replace Cm:=eq_true Cm
        replace Cn:=eq_true Cn
        go_wp2
        repeat (go_quiet (fail);try go_wp2)
        go_roundg k1
        case measure=>have:=CY.out;omega
        case rel=>exact ⟨(wrap64 (AA + 1)),(by first|rfl|(simp;done)|(simp [*];done)),H',⟨by have:=CY.out;omega⟩,⟨by (with_reducible repeat (first|apply aC|apply aG|apply aH));exact AL.out⟩,⟨hb_⟩⟩
       ·rw [if_neg c8] at H
        have c8b0 : (Op.bytesLess (((ay Al (Cg)).f0).toList) (((ay Al AA).f0).toList)) = false:=by simpa using c8
        clear c8
        obtain rfl:=Option.some.inj H
        have Eb : wr.cell? ⟨AP,0,none⟩ = some (.int .u64 AB):=(ah AL.out 0).trans rfl
        have Ec : wr.cell? ⟨AP,1,none⟩ = some (.slice BI Al.length AO):=(ah AL.out 1).trans rfl
        have Ed:=au AL.out 0
        have Ee:=au AL.out 1
        have Cj : 0 ≤ (AA : Int):=of_decide_eq_true (by first|(with_reducible assumption)|assumption)
        have Ck : AA < (Al.length : Int):=of_decide_eq_true (by first|(with_reducible assumption)|assumption)
        obtain ⟨Cz,Dh,Di,Dj,Bg,Bh,Bj,Bl,Bn,Bo,Bp,BN,BO⟩:=gF BU.out AA Cj Ck
        cases Dj
        replace Bg:=(HB.out.cell (World.block_lt_of_cell? w _ Bg)).trans Bg
        replace Bh:=(HB.out.cell (World.block_lt_of_cell? w _ Bh)).trans Bh
        replace Bj:=(HB.out.cell (World.block_lt_of_cell? w _ Bj)).trans Bj
        replace Bl:=(HB.out.cell (World.block_lt_of_cell? w _ Bl)).trans Bl
        replace Bn:=(HB.out.cell (World.block_lt_of_cell? w _ Bn)).trans Bn
        replace Bo:=(HB.out.cell (World.block_lt_of_cell? w _ Bo)).trans Bo
        replace Bp:=(HB.out.cell (World.block_lt_of_cell? w _ Bp)).trans Bp
        have CQ:=Aside0.mk BO
        have CS:=Aside0.mk BN
        clear BO BN
        replace Cj:=eq_true Cj
        replace Ck:=eq_true Ck
        have Cm : 0 ≤ ((Cg) : Int):=of_decide_eq_true (by first|(with_reducible assumption)|assumption)
        have Cn : (Cg) < (Al.length : Int):=of_decide_eq_true (by first|(with_reducible assumption)|assumption)
        obtain ⟨CB,Dk,Dl,e115,Bq,Br,Bt,Bu,Bv,Bw,Bz,BP,BQ⟩:=gF BU.out (Cg) Cm Cn
        obtain rfl : Cz = CB:=(by injection e115)
        replace Bq:=(HB.out.cell (World.block_lt_of_cell? w _ Bq)).trans Bq
        replace Br:=(HB.out.cell (World.block_lt_of_cell? w _ Br)).trans Br
        replace Bt:=(HB.out.cell (World.block_lt_of_cell? w _ Bt)).trans Bt
        replace Bu:=(HB.out.cell (World.block_lt_of_cell? w _ Bu)).trans Bu
        replace Bv:=(HB.out.cell (World.block_lt_of_cell? w _ Bv)).trans Bv
        replace Bw:=(HB.out.cell (World.block_lt_of_cell? w _ Bw)).trans Bw
        replace Bz:=(HB.out.cell (World.block_lt_of_cell? w _ Bz)).trans Bz
        have CU:=Aside0.mk BQ
        have CV:=Aside0.mk BP
        clear BQ BP
        replace Cm:=eq_true Cm
        replace Cn:=eq_true Cn
        go_wp2
        repeat (go_quiet (fail);try go_wp2)
        go_ret
        exact ⟨by first|rfl|(simp [aV,aW] <;> rfl)|(simp only [← CP];first|rfl|(simp [aV,aW] <;> rfl))|(simp [*,aV,aW] <;> rfl),hb_⟩
      ·rw [if_neg c7] at H
       exact absurd H (by simp)
     ·rw [if_neg c6] at H
      exact absurd H (by simp)
    ·rw [if_neg c4] at H
     exact absurd H (by simp)
   ·rw [if_neg c3] at H
    have c3b0 : decide (AA < (Al.length : Int)) = false:=decide_eq_false c3
    clear c3
    obtain rfl:=Option.some.inj H
    have CF : wr.cell? ⟨AP,0,none⟩ = some (.int .u64 AB):=(ah AL.out 0).trans rfl
    have CG : wr.cell? ⟨AP,1,none⟩ = some (.slice BI Al.length AO):=(ah AL.out 1).trans rfl
    have CJ:=au AL.out 0
    have CK:=au AL.out 1
    go_wp2
    repeat (go_quiet (fail);try go_wp2)
    go_ret
    exact ⟨by first|rfl|(simp [aV,aW] <;> rfl)|(simp [*,aV,aW] <;> rfl),hb_⟩
def aU.l0 : Nat → List ByteArray → List ByteArray → Int → Int → Option (Bool)
 | 0,_,_,_,_=>none
 | k + 1,x0,x1,Ew,Dm=>if Dm < Ew then (if 0 ≤ Dm then (if Dm < (x0.length : Int) then (if Dm < (x1.length : Int) then (if (iH ByteArray.empty x0 Dm).toList = (iH ByteArray.empty x1 Dm).toList then (aU.l0 k x0 x1 Ew (wrap64 (Dm + 1))) else (some false)) else (none)) else (none)) else (none)) else (some true)
def aU.f (k : Nat) (l0 : List ByteArray) (l1 : List ByteArray) : Option (Bool):=if (l0.length : Int) = (l1.length : Int) then (aU.l0 k l0 l1 (l0.length : Int) 0) else (some false)
theorem aU.dV : ∀ k,(∀ y0 y1 y2 y3,LeO (aU.l0 k y0 y1 y2 y3) (aU.l0 (k + 1) y0 y1 y2 y3))
 | 0=>fun _ _ _ _ r h=>by simp [aU.l0] at h
 | k + 1=>by
  have Ca:=aU.dV k
  ·intro y0 y1 y2 y3
   unfold aU.l0
   repeat' first
   | (with_reducible exact Ca _ _ _ _)
   | (with_reducible exact LeO.refl _)
   | (with_reducible exact LeO.none _)
   | (with_reducible refine LeO.ite ?_ ?_)
   | (with_reducible refine LeO.bind ?_ (fun _=>?_))
   | exact Ca _ _ _ _
   | exact LeO.none _
   | refine LeO.ite ?_ ?_
   | refine LeO.bind ?_ (fun _=>?_)
theorem aU.mono : ∀ a0 a1 k,LeO (aU.f k a0 a1) (aU.f (k + 1) a0 a1):=by
 intro a0 a1 k
 have Ca:=aU.dV k
 unfold aU.f
 repeat' first
   | (with_reducible exact Ca _ _ _ _)
   | (with_reducible exact LeO.refl _)
   | (with_reducible exact LeO.none _)
   | (with_reducible refine LeO.ite ?_ ?_)
   | (with_reducible refine LeO.bind ?_ (fun _=>?_))
   | exact Ca _ _ _ _
   | exact LeO.none _
   | refine LeO.ite ?_ ?_
   | refine LeO.bind ?_ (fun _=>?_)
set_option maxHeartbeats 8000000 in
set_option maxRecDepth 100000 in
theorem aU.calls (k : Nat) (A0 : Option Addr) (c0 : Nat) (l0 : List ByteArray) (A1 : Option Addr) (c1 : Nat) (l1 : List ByteArray) (r : Bool) (w : World) (hr0 : Kd.C Kd.string w A0 l0.length l0) (hc0 : l0.length ≤ c0) (hr1 : Kd.C Kd.string w A1 l1.length l1) (hc1 : l1.length ≤ c1) (h : aU.f k l0 l1 = some r) :
  Calls Tryd.prog 75 #[.slice A0 l0.length c0,.slice A1 l1.length c1] w fun e w'=>e = .returned (.bool r) ∧ Drawn0 w w':=by
 have Ey:=Aside0.mk hr0
 have EH:=Aside0.mk hc0
 clear hr0 hc0
 have HR1:=Aside0.mk hr1
 have EI:=Aside0.mk hc1
 clear hr1 hc1
 have H : (if (l0.length : Int) = (l1.length : Int) then (aU.l0 k l0 l1 (l0.length : Int) 0) else (some false)) = some r:=h
 clear h
 by_cases c3 : (l0.length : Int) = (l1.length : Int)
 ·rw [if_pos c3] at H
  have c3b0 : ((l0.length : Int) == (l1.length : Int)) = true:=beq_iff_eq.mpr c3
  have c3b1 : ((l0.length : Int) != (l1.length : Int)) = false:=bne_eq_false_iff_eq.mpr c3
  have c3b2 : (l0.length == l1.length) = true:=by first|simpa using c3|(simp at c3 ⊢;omega)
  clear c3
  have H':=Aside0.mk H
  clear H
  go_enter Tryd.func75,Tryd.ntmps75
  go_wp2
  repeat (go_quiet (fail);try go_wp2)
  go_loopg [13] k (fun kq v13 w'=>∃ (Aw : Int),v13 = .int .i64 Aw ∧ Aside0 (aU.l0 kq l0 l1 (l0.length : Int) Aw = some r) ∧ Aside0 (kq ≤ k) ∧ Drawn0 w w')
  case atStart=>exact ⟨(0),(by first|rfl|(simp;done)|(simp [*];done)),H',⟨Nat.le_refl _⟩,by repeat (first|exact Drawn0.refl _|apply Drawn0.step)⟩
  case round =>
   clear H'
   try clear c1
   try clear p2
   try clear c3
   try clear c3b0
   try clear c3b1
   try clear c3b2
   obtain ⟨Aw,rfl,HA,CY,⟨m1,rfl⟩⟩:=hrel
   cases gk with
   | zero=>exact absurd HA.out (by simp [aU.l0])
   | succ k1 =>
    have H:=HA.out
    clear HA
    simp only [aU.l0] at H
    by_cases c4 : Aw < (l0.length : Int)
    ·rw [if_pos c4] at H
     have c4b0 : decide (Aw < (l0.length : Int)) = true:=decide_eq_true c4
     clear c4
     by_cases c5 : 0 ≤ Aw
     ·rw [if_pos c5] at H
      have c5b0 : decide (0 ≤ Aw) = true:=decide_eq_true c5
      clear c5
      by_cases c6 : Aw < (l0.length : Int)
      ·rw [if_pos c6] at H
       have c6b0 : decide (Aw < (l0.length : Int)) = true:=decide_eq_true c6
       clear c6
       by_cases c7 : Aw < (l1.length : Int)
       ·rw [if_pos c7] at H
        have c7b0 : decide (Aw < (l1.length : Int)) = true:=decide_eq_true c7
        clear c7
        by_cases c8 : (iH ByteArray.empty l0 Aw).toList = (iH ByteArray.empty l1 Aw).toList
        ·rw [if_pos c8] at H
         have c8b0 : ((iH ByteArray.empty l0 Aw).toList == (iH ByteArray.empty l1 Aw).toList) = true:=beq_iff_eq.mpr c8
         have c8b1 : ((iH ByteArray.empty l0 Aw).toList != (iH ByteArray.empty l1 Aw).toList) = false:=bne_eq_false_iff_eq.mpr c8
         clear c8
         have H':=Aside0.mk H
         clear H
         have Co : 0 ≤ (Aw : Int):=of_decide_eq_true (by first|(with_reducible assumption)|assumption)
         have Cq : Aw < (l0.length : Int):=of_decide_eq_true (by first|(with_reducible assumption)|assumption)
         obtain ⟨Dv,e116,CW⟩:=Kd.iJ Ey.out Aw Co Cq
         cases e116
         replace Co:=eq_true Co
         replace Cq:=eq_true Cq
         have Cr : 0 ≤ (Aw : Int):=of_decide_eq_true (by first|(with_reducible assumption)|assumption)
         have Ct : Aw < (l1.length : Int):=of_decide_eq_true (by first|(with_reducible assumption)|assumption)
         obtain ⟨Dw,e117,CX⟩:=Kd.iJ HR1.out Aw Cr Ct
         cases e117
         replace Cr:=eq_true Cr
         replace Ct:=eq_true Ct
         go_wp2
         repeat (go_quiet (fail);try go_wp2)
         go_roundg k1
         case measure=>have:=CY.out;omega
         case rel=>exact ⟨(wrap64 (Aw + 1)),(by first|rfl|(simp;done)|(simp [*];done)),H',⟨by have:=CY.out;omega⟩,by repeat (first|exact Drawn0.refl _|apply Drawn0.step)⟩
        ·rw [if_neg c8] at H
         have c8b0 : ((iH ByteArray.empty l0 Aw).toList == (iH ByteArray.empty l1 Aw).toList) = false:=beq_eq_false_iff_ne.mpr c8
         have c8b1 : ((iH ByteArray.empty l0 Aw).toList != (iH ByteArray.empty l1 Aw).toList) = true:=bne_iff_ne.mpr c8
         obtain rfl:=Option.some.inj H
         have Co : 0 ≤ (Aw : Int):=of_decide_eq_true (by first|(with_reducible assumption)|assumption)
         have Cq : Aw < (l0.length : Int):=of_decide_eq_true (by first|(with_reducible assumption)|assumption)
         obtain ⟨Dv,e116,CW⟩:=Kd.iJ Ey.out Aw Co Cq
         cases e116
         replace Co:=eq_true Co
         replace Cq:=eq_true Cq
         have Cr : 0 ≤ (Aw : Int):=of_decide_eq_true (by first|(with_reducible assumption)|assumption)
         have Ct : Aw < (l1.length : Int):=of_decide_eq_true (by first|(with_reducible assumption)|assumption)
         obtain ⟨Dw,e117,CX⟩:=Kd.iJ HR1.out Aw Cr Ct
         cases e117
         replace Cr:=eq_true Cr
         replace Ct:=eq_true Ct
         go_wp2
         repeat (go_quiet (fail);try go_wp2)
         go_ret
         exact ⟨by first|rfl|(simp;done)|(simp [*];done),by repeat (first|exact Drawn0.refl _|apply Drawn0.step)⟩
       ·rw [if_neg c7] at H
        exact absurd H (by simp)
      ·rw [if_neg c6] at H
       exact absurd H (by simp)
     ·rw [if_neg c5] at H
      exact absurd H (by simp)
    ·rw [if_neg c4] at H
     have c4b0 : decide (Aw < (l0.length : Int)) = false:=decide_eq_false c4
     clear c4
     obtain rfl:=Option.some.inj H
     go_wp2
     repeat (go_quiet (fail);try go_wp2)
     go_ret
     exact ⟨by first|rfl|(simp;done)|(simp [*];done),by repeat (first|exact Drawn0.refl _|apply Drawn0.step)⟩
 ·rw [if_neg c3] at H
  have c3b0 : ((l0.length : Int) == (l1.length : Int)) = false:=beq_eq_false_iff_ne.mpr c3
  have c3b1 : ((l0.length : Int) != (l1.length : Int)) = true:=bne_iff_ne.mpr c3
  have c3b2 : (l0.length == l1.length) = false:=by first|simpa using c3|(simp at c3 ⊢;omega)
  obtain rfl:=Option.some.inj H
  go_enter Tryd.func75,Tryd.ntmps75
  go_wp2
  repeat (go_quiet (fail);try go_wp2)
  go_ret
  exact ⟨by first|rfl|(simp;done)|(simp [*];done),by repeat (first|exact Drawn0.refl _|apply Drawn0.step)⟩
end Go.Proofs.YtpflenjhmeaeoaaDoor.GUt
