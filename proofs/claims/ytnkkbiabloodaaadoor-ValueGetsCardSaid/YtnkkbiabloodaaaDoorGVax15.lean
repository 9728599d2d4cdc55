/- Written by this session's own program (wip/gen.py) out of the translation: plain Lean functions of the Go functions, and proofs that the calls come to their answers. No conditions beside those in the statements. -/
import Derived.Test.YtnkkbiabloodaaaDoorGVax0
namespace Go.Proofs.YtnkkbiabloodaaaDoor.GVa
open Go.RowKit Go.Proofs.YtnkkbiabloodaaaDoorW.PrintWords Go.Proofs.YtnkkbiabloodaaaDoorW.PrintLast Go.Proofs.YtnkkbiabloodaaaDoorW.PrintMore
attribute [local go_sem] fG fH fV fZ eO eP fI fJ
set_option linter.unusedVariables false
set_option linter.unusedSimpArgs false
mutual
def aW.l0 : Nat → List (S29) → Int → Int → Int → Bool → Int → ByteArray → List (S29) → List (S48) → Int → Bool → Int → ByteArray → List (S33) → Option (Int × Bool × Int × ByteArray × (List (S33)) × (List (S50)))
 | 0,_,_,_,_,_,_,_,_,_,_,_,_,_,_=>none
 | k + 1,x18,GH,x20,CS,CU,CV,CW,CX,zZ,zC,zD,zF,zG,zA=>if x20 < GH then (if 0 ≤ x20 then (if x20 < (x18.length : Int) then ((aW.f k ((aH x18 x20).f0) ((aH x18 x20).f1) ((aH x18 x20).f2) ((aH x18 x20).f3) ((aH x18 x20).f4) ((aH x18 x20).f5)).bind fun zT=>(if zA.length < 1599289640401 then (aW.l0 k x18 GH (wrap64 (x20 + 1)) CS CU CV CW CX zZ zC zD zF zG (zA ++ [(⟨zT.1,zT.2.1,zT.2.2.1,zT.2.2.2.1,zT.2.2.2.2.1,zT.2.2.2.2.2⟩ : S33)])) else (none))) else (none)) else (none)) else (aW.l1 k zZ (zZ.length : Int) 0 zC zD zF zG zA ([] : List (S50)))
def aW.l1 : Nat → List (S48) → Int → Int → Int → Bool → Int → ByteArray → List (S33) → List (S50) → Option (Int × Bool × Int × ByteArray × (List (S33)) × (List (S50)))
 | 0,_,_,_,_,_,_,_,_,_=>none
 | k + 1,CY,x34,BD,zC,zD,zF,zG,zA,z8=>if BD < x34 then (if 0 ≤ BD then (if BD < (CY.length : Int) then ((aW.f k ((aC CY BD).f1.f0) ((aC CY BD).f1.f1) ((aC CY BD).f1.f2) ((aC CY BD).f1.f3) ((aC CY BD).f1.f4) ((aC CY BD).f1.f5)).bind fun zU=>(if z8.length < 1353245080339 then (aW.l1 k CY x34 (wrap64 (BD + 1)) zC zD zF zG zA (z8 ++ [(⟨(aC CY BD).f0,(⟨zU.1,zU.2.1,zU.2.2.1,zU.2.2.2.1,zU.2.2.2.2.1,zU.2.2.2.2.2⟩ : S33)⟩ : S50)])) else (none))) else (none)) else (none)) else (some (zC,zD,zF,zG,zA,z8))
def aW.f : Nat → Int → Bool → Int → ByteArray → List (S29) → List (S48) → Option (Int × Bool × Int × ByteArray × (List (S33)) × (List (S50)))
 | 0,_,_,_,_,_,_=>none
 | k + 1,yA,yB,yD,yE,xY,xV=>aW.l0 k xY (xY.length : Int) 0 yA yB yD yE xY xV yA yB yD yE ([] : List (S33))
end
theorem aW.eG : ∀ k,(∀ y0 y1 y2 y3 y4 y5,LeO (aW.f k y0 y1 y2 y3 y4 y5) (aW.f (k + 1) y0 y1 y2 y3 y4 y5)) ∧ (∀ y0 y1 y2 y3 y4 y5 y6 y7 y8 y9 Gb Gc Gd y13,LeO (aW.l0 k y0 y1 y2 y3 y4 y5 y6 y7 y8 y9 Gb Gc Gd y13) (aW.l0 (k + 1) y0 y1 y2 y3 y4 y5 y6 y7 y8 y9 Gb Gc Gd y13)) ∧ (∀ y0 y1 y2 y3 y4 y5 y6 y7 y8,LeO (aW.l1 k y0 y1 y2 y3 y4 y5 y6 y7 y8) (aW.l1 (k + 1) y0 y1 y2 y3 y4 y5 y6 y7 y8))
 | 0=>⟨fun _ _ _ _ _ _ r h=>by simp [aW.f] at h,fun _ _ _ _ _ _ _ _ _ _ _ _ _ _ r h=>by simp [aW.l0] at h,fun _ _ _ _ _ _ _ _ _ r h=>by simp [aW.l1] at h⟩
 | k + 1=>by
  obtain ⟨DY,ih1,ih2⟩:=aW.eG k
  refine ⟨?_,?_,?_⟩
  ·intro y0 y1 y2 y3 y4 y5
   unfold aW.f
   repeat' first
   | (with_reducible exact DY _ _ _ _ _ _)
   | (with_reducible exact ih1 _ _ _ _ _ _ _ _ _ _ _ _ _ _)
   | (with_reducible exact ih2 _ _ _ _ _ _ _ _ _)
   | (with_reducible exact LeO.refl _)
   | (with_reducible exact LeO.none _)
   | (with_reducible refine LeO.ite ?_ ?_)
   | (with_reducible refine LeO.bind ?_ (fun _=>?_))
   | exact DY _ _ _ _ _ _
   | exact ih1 _ _ _ _ _ _ _ _ _ _ _ _ _ _
   | exact ih2 _ _ _ _ _ _ _ _ _
   | exact LeO.none _
   | refine LeO.ite ?_ ?_
   | refine LeO.bind ?_ (fun _=>?_)
  ·intro y0 y1 y2 y3 y4 y5 y6 y7 y8 y9 Gb Gc Gd y13
   unfold aW.l0
   repeat' first
   | (with_reducible exact DY _ _ _ _ _ _)
   | (with_reducible exact ih1 _ _ _ _ _ _ _ _ _ _ _ _ _ _)
   | (with_reducible exact ih2 _ _ _ _ _ _ _ _ _)
   | (with_reducible exact LeO.refl _)
   | (with_reducible exact LeO.none _)
   | (with_reducible refine LeO.ite ?_ ?_)
   | (with_reducible refine LeO.bind ?_ (fun _=>?_))
   | exact DY _ _ _ _ _ _
   | exact ih1 _ _ _ _ _ _ _ _ _ _ _ _ _ _
   | exact ih2 _ _ _ _ _ _ _ _ _
   | exact LeO.none _
   | refine LeO.ite ?_ ?_
   | refine LeO.bind ?_ (fun _=>?_)
  ·intro y0 y1 y2 y3 y4 y5 y6 y7 y8
   unfold aW.l1
   repeat' first
   | (with_reducible exact DY _ _ _ _ _ _)
   | (with_reducible exact ih1 _ _ _ _ _ _ _ _ _ _ _ _ _ _)
   | (with_reducible exact ih2 _ _ _ _ _ _ _ _ _)
   | (with_reducible exact LeO.refl _)
   | (with_reducible exact LeO.none _)
   | (with_reducible refine LeO.ite ?_ ?_)
   | (with_reducible refine LeO.bind ?_ (fun _=>?_))
   | exact DY _ _ _ _ _ _
   | exact ih1 _ _ _ _ _ _ _ _ _ _ _ _ _ _
   | exact ih2 _ _ _ _ _ _ _ _ _
   | exact LeO.none _
   | refine LeO.ite ?_ ?_
   | refine LeO.bind ?_ (fun _=>?_)
theorem aW.mono : ∀ a0 a1 a2 a3 a4 a5 k,LeO (aW.f k a0 a1 a2 a3 a4 a5) (aW.f (k + 1) a0 a1 a2 a3 a4 a5):=by
 intro a0 a1 a2 a3 a4 a5 k
 obtain ⟨DY,ih1,ih2⟩:=aW.eG k
 exact DY a0 a1 a2 a3 a4 a5
def aW.T5 : Bool × List (List Nat × List Nat):=(true,[([],[]),([0],[0]),([],[]),([2],[2]),([3],[3]),([1,4,3],[1,4]),([0,1,2,3,4,5],[]),([6,5,5,0,1,2,3,4,5],[5,6])])
def aW.B5 : List Nat:=[0,1,0,4,12,31,63,127]
theorem aW.xO : gW .any (opsOf Tryd.f14 5) = aW.T5:=by kernel_rfl
theorem aW.wT : gF aW.T5.2 aW.B5 = true:=by kernel_rfl
def aW.T10 : Bool × List (List Nat × List Nat):=(true,[([],[]),([0],[0]),([],[]),([2],[2]),([],[]),([4],[4]),([5],[5]),([3,6],[3,6]),([7],[7]),([1,8,6],[1,8]),([0,1,2,3,4,5,6,7,8,9],[]),([10,9,9,0,1,2,3,4,5,6,7,8,9],[9,10])])
def aW.B10 : List Nat:=[0,1,0,4,0,16,48,124,252,511,1023,2047]
theorem aW.tN : gW .any (opsOf Tryd.f14 10) = aW.T10:=by kernel_rfl
theorem aW.qj : gF aW.T10.2 aW.B10 = true:=by kernel_rfl
set_option maxHeartbeats 8000000 in
set_option maxRecDepth 100000 in
theorem aW.calls (k : Nat) : ∀ (yA : Int) (yB : Bool) (yD : Int) (yE : ByteArray) (zk : Option Addr) (yZ : Nat) (xY : List (S29)) (zl : Option Addr) (za : Nat) (xV : List (S48)) (r1 : Int) (r2 : Bool) (r3 : Int) (r4 : ByteArray) (r5 : List (S33)) (r6 : List (S50)) (w : World) (BF : Kd.C k29 w zk xY.length xY) (BG : xY.length ≤ yZ) (BH : Kd.C k48 w zl xV.length xV) (BI : xV.length ≤ za) (h : aW.f k yA yB yD yE xY xV = some (r1,r2,r3,r4,r5,r6)),
  Calls Tryd.prog 14 #[.agg #[.int .i64 yA,.bool yB,.int .i64 yD,.string yE,.slice zk xY.length yZ,.slice zl xV.length za]] w fun e w'=>∃ D8 D9 : Value,e = .returned (.agg #[.int .i64 r1,.bool r2,.int .i64 r3,.string r4,D8,D9]) ∧ Kd.R k33 33 w' w.heap.size (fun k_=>some k_ ≠ (D9 : Value).ownBlock) D8 r5 ∧ Kd.R k50 50 w' w.heap.size (fun k_=>some k_ ≠ (D8 : Value).ownBlock) D9 r6 ∧ Below w.heap.size w w':=by
 induction k using Nat.strongRecOn with
 | _ k ih =>
 intro yA yB yD yE zk yZ xY zl za xV r1 r2 r3 r4 r5 r6 w BF BG BH BI h
 cases k with
 | zero=>exact absurd h (by simp [aW.f])
 | succ k =>
 simp only [aW.f] at h
 have Gf:=Tryd.underlying29
 have Ib:=Tryd.underlying33
 have Ic:=Tryd.underlying48
 have Ie:=Tryd.underlying50
 have Ej:=Aside0.mk BF
 have GI:=Aside0.mk BG
 clear BF BG
 have El:=Aside0.mk BH
 have GJ:=Aside0.mk BI
 clear BH BI
 have HB:=Aside0.mk (Below.refl w.heap.size w)
 have H : (aW.l0 k xY (xY.length : Int) 0 yA yB yD yE xY xV yA yB yD yE ([] : List (S33))) = some (r1,r2,r3,r4,r5,r6):=h
 clear h
 have H':=Aside0.mk H
 clear H
 go_enter Tryd.func14,Tryd.ntmps14
 go_wp2_with (first|((with_reducible refine bH (N:=1) rfl ?_);refine bF ?hg (N:=1) ?hd (cs:=#[.int .i64 yA,.bool yB,.int .i64 yD,.string yE,.slice zk xY.length yZ,.slice zl xV.length za]) (t:=29) ?hr ?_;(case hd=>rfl);(case hg=>rfl);(case hr=>first|(go_simp;done)|(go_simp;rfl));intro yF hg w2 hbox hb;have zm:=Aside0.mk (aK (by repeat (first|(with_reducible first|exact HB.out|apply av|apply ak|apply au)|exact HB.out)) hb);have zn:=Aside0.mk (hbox);have zo:=Aside0.mk ((by rw [hg];exact (aM (by repeat (first|(with_reducible first|exact HB.out|apply av|apply ak|apply au)|exact HB.out))) : w.heap.size ≤ yF));have zq:=Aside0.mk ((by rw [hg];exact (aM (by repeat (first|(with_reducible first|exact HB.out|apply av|apply ak|apply au)|exact HB.out))) : w.heap.size ≤ yF));clear HB;have HB:=zm;have yc:=zn;have GK:=zo;have yL:=zq;clear zm zn zo zq;clear hb hbox hg)|((with_reducible refine bH (N:=2) rfl ?_);refine bF ?hg (N:=2) ?hd (cs:=#[.int .i64 0,.bool false,.int .i64 0,.string (⟨#[]⟩ : ByteArray),.slice none 0 0,.slice none 0 0]) (t:=33) ?hr ?_;(case hd=>rfl);(case hg=>rfl);(case hr=>first|(go_simp;done)|(go_simp;rfl));intro yt hg w3 hbox hb;have zm:=Aside0.mk (aI (g:=yF) (o:=.cells #[.int .i64 yA,.bool yB,.int .i64 yD,.string yE,.slice zk xY.length yZ,.slice zl xV.length za] 29 (0,0)) (bk_ yc.out) hb);have zn:=Aside0.mk (aK (by repeat (first|(with_reducible first|exact HB.out|apply av|apply ak|apply au|refine aG ?_ yL.out)|exact HB.out)) hb);have zo:=Aside0.mk (hbox);have zq:=Aside0.mk ((by rw [hg];exact (aM (by repeat (first|(with_reducible first|exact HB.out|apply av|apply ak|apply au|refine aG ?_ yL.out)|exact HB.out))) : w.heap.size ≤ yt));have zx:=Aside0.mk ((by rw [hg];exact (aM (by repeat (first|(with_reducible first|exact HB.out|apply av|apply ak|apply au|refine aG ?_ yL.out)|exact HB.out))) : w.heap.size ≤ yt));have zy:=Aside0.mk ((by rw [hg];exact Nat.ne_of_lt (bO (g:=yF) (o:=.cells #[.int .i64 yA,.bool yB,.int .i64 yD,.string yE,.slice zk xY.length yZ,.slice zl xV.length za] 29 (0,0)) (bk_ yc.out)) : yF ≠ yt));have zI:=Aside0.mk ((by rw [hg];exact Nat.ne_of_gt (bO (g:=yF) (o:=.cells #[.int .i64 yA,.bool yB,.int .i64 yD,.string yE,.slice zk xY.length yZ,.slice zl xV.length za] 29 (0,0)) (bk_ yc.out)) : yt ≠ yF));clear yc;clear HB;have yc:=zm;have HB:=zn;have yj:=zo;have GL:=zq;have yM:=zx;have zJ:=zy;have zK:=zI;clear zm zn zo zq zx zy zI;clear hb hbox hg;have Ig:=zJ.out;have Ih:=zK.out;have BJ : w3.cell? ⟨yF,0,none⟩ = some (.int .i64 yA):=(ah yc.out 0).trans rfl;have BK : w3.cell? ⟨yF,1,none⟩ = some (.bool yB):=(ah yc.out 1).trans rfl;have BL : w3.cell? ⟨yF,2,none⟩ = some (.int .i64 yD):=(ah yc.out 2).trans rfl;have BM : w3.cell? ⟨yF,3,none⟩ = some (.string yE):=(ah yc.out 3).trans rfl;have BN : w3.cell? ⟨yF,4,none⟩ = some (.slice zk xY.length yZ):=(ah yc.out 4).trans rfl;have BO : w3.cell? ⟨yF,5,none⟩ = some (.slice zl xV.length za):=(ah yc.out 5).trans rfl;have BP:=aj yc.out 0;have BQ:=aj yc.out 1;have BR:=aj yc.out 2;have BS:=aj yc.out 3;have BU:=aj yc.out 4;have BZ:=aj yc.out 5)|((with_reducible refine bH (N:=3) rfl ?_);refine bF ?hg (N:=3) ?hd (cs:=#[.int .i64 0,.bool false,.int .i64 0,.string (⟨#[]⟩ : ByteArray),.slice none 0 0,.slice none 0 0]) (t:=33) ?hr ?_;(case hd=>rfl);(case hg=>rfl);(case hr=>first|(go_simp;done)|(go_simp;rfl));intro yg hg w6 hbox hb;have zm:=Aside0.mk (aI (g:=yF) (o:=.cells #[.int .i64 yA,.bool yB,.int .i64 yD,.string yE,.slice zk xY.length yZ,.slice zl xV.length za] 29 (0,0)) (bk_ yc.out) hb);have zn:=Aside0.mk (aI (g:=yt) (o:=.cells #[.int .i64 0,.bool false,.int .i64 0,.string (⟨#[]⟩ : ByteArray),.slice none 0 0,.slice none 0 0] 33 (0,0)) (bk_ yj.out) hb);have zo:=Aside0.mk (aK (by repeat (first|(with_reducible first|exact HB.out|apply av|apply ak|apply au|refine aG ?_ yL.out|refine aG ?_ yM.out)|exact HB.out)) hb);have zq:=Aside0.mk (hbox);have zx:=Aside0.mk ((by rw [hg];exact (aM (by repeat (first|(with_reducible first|exact HB.out|apply av|apply ak|apply au|refine aG ?_ yL.out|refine aG ?_ yM.out)|exact HB.out))) : w.heap.size ≤ yg));have zy:=Aside0.mk ((by rw [hg];exact (aM (by repeat (first|(with_reducible first|exact HB.out|apply av|apply ak|apply au|refine aG ?_ yL.out|refine aG ?_ yM.out)|exact HB.out))) : w.heap.size ≤ yg));have zI:=Aside0.mk ((by rw [hg];exact Nat.ne_of_lt (bO (g:=yF) (o:=.cells #[.int .i64 yA,.bool yB,.int .i64 yD,.string yE,.slice zk xY.length yZ,.slice zl xV.length za] 29 (0,0)) (bk_ yc.out)) : yF ≠ yg));have Ar:=Aside0.mk ((by rw [hg];exact Nat.ne_of_gt (bO (g:=yF) (o:=.cells #[.int .i64 yA,.bool yB,.int .i64 yD,.string yE,.slice zk xY.length yZ,.slice zl xV.length za] 29 (0,0)) (bk_ yc.out)) : yg ≠ yF));have Ca:=Aside0.mk ((by rw [hg];exact Nat.ne_of_lt (bO (g:=yt) (o:=.cells #[.int .i64 0,.bool false,.int .i64 0,.string (⟨#[]⟩ : ByteArray),.slice none 0 0,.slice none 0 0] 33 (0,0)) (bk_ yj.out)) : yt ≠ yg));have DZ:=Aside0.mk ((by rw [hg];exact Nat.ne_of_gt (bO (g:=yt) (o:=.cells #[.int .i64 0,.bool false,.int .i64 0,.string (⟨#[]⟩ : ByteArray),.slice none 0 0,.slice none 0 0] 33 (0,0)) (bk_ yj.out)) : yg ≠ yt));clear yc;clear yj;clear HB;have yc:=zm;have yj:=zn;have HB:=zo;have xU:=zq;have GN:=zx;have yN:=zy;have yI:=zI;have zu:=Ar;have yJ:=Ca;have zB:=DZ;clear zm zn zo zq zx zy zI Ar Ca DZ;clear hb hbox hg;have Ii:=zu.out;have Ij:=yI.out;have Ik:=zB.out;have Il:=yJ.out;have Cb : w6.cell? ⟨yg,0,none⟩ = some (.int .i64 0):=(ah xU.out 0).trans rfl;have Cc : w6.cell? ⟨yg,1,none⟩ = some (.bool false):=(ah xU.out 1).trans rfl;have Ce : w6.cell? ⟨yg,2,none⟩ = some (.int .i64 0):=(ah xU.out 2).trans rfl;have Cg : w6.cell? ⟨yg,3,none⟩ = some (.string (⟨#[]⟩ : ByteArray)):=(ah xU.out 3).trans rfl;have Ch : w6.cell? ⟨yg,4,none⟩ = some (.slice none 0 0):=(ah xU.out 4).trans rfl;have Ci : w6.cell? ⟨yg,5,none⟩ = some (.slice none 0 0):=(ah xU.out 5).trans rfl;have Cj:=aj xU.out 0;have Ck:=aj xU.out 1;have Cm:=aj xU.out 2;have Cn:=aj xU.out 3;have Co:=aj xU.out 4;have Cq:=aj xU.out 5;have Au : w6.cell? ⟨yF,0,none⟩ = some (.int .i64 yA):=(ah yc.out 0).trans rfl;have Av : w6.cell? ⟨yF,1,none⟩ = some (.bool yB):=(ah yc.out 1).trans rfl;have AA : w6.cell? ⟨yF,2,none⟩ = some (.int .i64 yD):=(ah yc.out 2).trans rfl;have AB : w6.cell? ⟨yF,3,none⟩ = some (.string yE):=(ah yc.out 3).trans rfl;have AJ : w6.cell? ⟨yF,4,none⟩ = some (.slice zk xY.length yZ):=(ah yc.out 4).trans rfl;have AL : w6.cell? ⟨yF,5,none⟩ = some (.slice zl xV.length za):=(ah yc.out 5).trans rfl;have AO:=aj yc.out 0;have AP:=aj yc.out 1;have AQ:=aj yc.out 2;have AU:=aj yc.out 3;have AV:=aj yc.out 4;have AX:=aj yc.out 5))
 go_loopg [20] k (fun kq v20 w'=>∃ (xW : Int) (yG : List (S33)) (yu : Value),v20 = .int .i64 xW ∧ Aside0 (aW.l0 kq xY (xY.length : Int) xW yA yB yD yE xY xV yA yB yD yE yG = some (r1,r2,r3,r4,r5,r6)) ∧ Aside0 (kq ≤ k) ∧ Aside0 (Kd.R k33 33 w' w.heap.size (fun k_=>k_ ≠ yt ∧ k_ ≠ yg) yu yG) ∧ Aside0 (w'.heap[yF]? = some (.cells #[.int .i64 yA,.bool yB,.int .i64 yD,.string yE,(.slice zk xY.length yZ),(.slice zl xV.length za)] 29 (0,0))) ∧ Aside0 (w'.heap[yt]? = some (.cells #[.int .i64 0,.bool false,.int .i64 0,.string (⟨#[]⟩ : ByteArray),(.slice none 0 0),(.slice none 0 0)] 33 (0,0))) ∧ Aside0 (w'.heap[yg]? = some (.cells #[.int .i64 yA,.bool yB,.int .i64 yD,.string yE,yu,(.slice none 0 0)] 33 (0,0))) ∧ Aside0 (Below w.heap.size w w'))
 case atStart=>exact ⟨(0),(([] : List (S33))),(.slice none 0 0),(by first|rfl|(simp;done)|(simp [*];done)),H',⟨Nat.le_refl _⟩,⟨by first|exact Kd.jf _ _ _ _ _|exact Kd.iZ _ _ _ _ _|exact Kd.eT _ _ _ _ _|exact Kd.jG _ _ _ _ _|exact Kd.jJ _ _ _ _ _⟩,⟨by (with_reducible repeat (first|apply aA|apply aD|apply ay));refine bq ?_ yI.out _;(with_reducible repeat (first|apply aA|apply aD|apply ay));refine bq ?_ yI.out _;(with_reducible repeat (first|apply aA|apply aD|apply ay));refine bq ?_ yI.out _;(with_reducible repeat (first|apply aA|apply aD|apply ay));refine bq ?_ yI.out _;(with_reducible repeat (first|apply aA|apply aD|apply ay));refine bq ?_ yI.out _;(with_reducible repeat (first|apply aA|apply aD|apply ay));refine bq ?_ yI.out _;(with_reducible repeat (first|apply aA|apply aD|apply ay));exact yc.out⟩,⟨by (with_reducible repeat (first|apply aA|apply aD|apply ay));refine bq ?_ yJ.out _;(with_reducible repeat (first|apply aA|apply aD|apply ay));refine bq ?_ yJ.out _;(with_reducible repeat (first|apply aA|apply aD|apply ay));refine bq ?_ yJ.out _;(with_reducible repeat (first|apply aA|apply aD|apply ay));refine bq ?_ yJ.out _;(with_reducible repeat (first|apply aA|apply aD|apply ay));refine bq ?_ yJ.out _;(with_reducible repeat (first|apply aA|apply aD|apply ay));refine bq ?_ yJ.out _;(with_reducible repeat (first|apply aA|apply aD|apply ay));exact yj.out⟩,⟨by (with_reducible repeat (first|apply aA|apply aD|apply ay));refine aQ (cs:=#[.int .i64 yA,.bool yB,.int .i64 yD,.string yE,.slice none 0 0,.slice none 0 0]) ?_ 5 _ rfl;(with_reducible repeat (first|apply aA|apply aD|apply ay));refine aQ (cs:=#[.int .i64 yA,.bool yB,.int .i64 yD,.string yE,.slice none 0 0,.slice none 0 0]) ?_ 4 _ rfl;(with_reducible repeat (first|apply aA|apply aD|apply ay));refine aQ (cs:=#[.int .i64 yA,.bool yB,.int .i64 yD,.string (⟨#[]⟩ : ByteArray),.slice none 0 0,.slice none 0 0]) ?_ 3 _ rfl;(with_reducible repeat (first|apply aA|apply aD|apply ay));refine aQ (cs:=#[.int .i64 yA,.bool yB,.int .i64 0,.string (⟨#[]⟩ : ByteArray),.slice none 0 0,.slice none 0 0]) ?_ 2 _ rfl;(with_reducible repeat (first|apply aA|apply aD|apply ay));refine aQ (cs:=#[.int .i64 yA,.bool false,.int .i64 0,.string (⟨#[]⟩ : ByteArray),.slice none 0 0,.slice none 0 0]) ?_ 1 _ rfl;(with_reducible repeat (first|apply aA|apply aD|apply ay));refine aQ (cs:=#[.int .i64 0,.bool false,.int .i64 0,.string (⟨#[]⟩ : ByteArray),.slice none 0 0,.slice none 0 0]) ?_ 0 _ rfl;(with_reducible repeat (first|apply aA|apply aD|apply ay));exact xU.out⟩,⟨by repeat (first|(with_reducible first|exact HB.out|apply av|apply ak|apply au|refine aG ?_ yL.out|refine aG ?_ yM.out|refine aG ?_ yN.out)|exact HB.out)⟩⟩
 case round =>
  clear H'
  try clear c1
  try clear p2
  try clear c4
  try clear c7
  try clear c8
  try clear Au
  try clear Av
  try clear AA
  try clear AB
  try clear AJ
  try clear AL
  try clear BJ
  try clear BK
  try clear BL
  try clear BM
  try clear BN
  try clear BO
  try clear Cb
  try clear Cc
  try clear Ce
  try clear Cg
  try clear Ch
  try clear Ci
  try clear AO
  try clear AP
  try clear AQ
  try clear AU
  try clear AV
  try clear AX
  try clear BP
  try clear BQ
  try clear BR
  try clear BS
  try clear BU
  try clear BZ
  try clear Cj
  try clear Ck
  try clear Cm
  try clear Cn
  try clear Co
  try clear Cq
  obtain ⟨xW,yG,yu,rfl,HA,Ei,xX,yc,yj,xU,HB⟩:=hrel
  cases gk with
  | zero=>exact absurd HA.out (by simp [aW.l0])
  | succ k1 =>
   have H:=HA.out
   clear HA
   simp only [aW.l0] at H
   by_cases c11 : xW < (xY.length : Int)
   ·rw [if_pos c11] at H
    have c11b0 : decide (xW < (xY.length : Int)) = true:=decide_eq_true c11
    clear c11
    by_cases c12 : 0 ≤ xW
    ·rw [if_pos c12] at H
     have c12b0 : decide (0 ≤ xW) = true:=decide_eq_true c12
     clear c12
     by_cases c13 : xW < (xY.length : Int)
     ·rw [if_pos c13] at H
      have c13b0 : decide (xW < (xY.length : Int)) = true:=decide_eq_true c13
      clear c13
      replace H:=Option.bind_eq_some_iff.mp H
      obtain ⟨⟨Bh,Bj,Bl,Bn,Bo,Bp⟩,Em,H⟩:=H
      replace H : (if yG.length < 1599289640401 then (aW.l0 k1 xY (xY.length : Int) (wrap64 (xW + 1)) yA yB yD yE xY xV yA yB yD yE (yG ++ [(⟨Bh,Bj,Bl,Bn,Bo,Bp⟩ : S33)])) else (none)) = some (r1,r2,r3,r4,r5,r6):=H
      have Im:=Aside0.mk Em
      clear Em
      by_cases c15 : yG.length < 1599289640401
      ·rw [if_pos c15] at H
       have En:=Aside0.mk c15
       clear c15
       obtain ⟨CZ,Aj⟩ : ∃ y_ : List (S33),y_ = (yG ++ [(⟨Bh,Bj,Bl,Bn,Bo,Bp⟩ : S33)]):=⟨_,rfl⟩
       replace H : (aW.l0 k1 xY (xY.length : Int) (wrap64 (xW + 1)) yA yB yD yE xY xV yA yB yD yE CZ) = some (r1,r2,r3,r4,r5,r6):=by first|(rw [Aj];with_reducible exact H)|(have Ea:=(Option.bind_some _ _).symm.trans H;rw [Aj];with_reducible exact Ea)|(have Ea:=(Option.bind_some _ _).symm.trans H;with_reducible exact Ea)|with_reducible exact H|(rw [Aj];exact H)|exact H
       have Eo:=Aside0.mk Aj
       clear Aj
       have H':=Aside0.mk H
       clear H
       have C8 : 0 ≤ (xW : Int):=of_decide_eq_true (by first|(with_reducible assumption)|assumption)
       have C9 : xW < (xY.length : Int):=of_decide_eq_true (by first|(with_reducible assumption)|assumption)
       obtain ⟨zV,yX,yY,ze,zf,Gg,zL,zM,zN,zO,zP,zQ,AY,AZ,Ba,Bb⟩:=jR Ej.out xW C8 C9
       cases Gg
       replace zL:=(HB.out.cell (World.block_lt_of_cell? w _ zL)).trans zL
       replace zM:=(HB.out.cell (World.block_lt_of_cell? w _ zM)).trans zM
       replace zN:=(HB.out.cell (World.block_lt_of_cell? w _ zN)).trans zN
       replace zO:=(HB.out.cell (World.block_lt_of_cell? w _ zO)).trans zO
       replace zP:=(HB.out.cell (World.block_lt_of_cell? w _ zP)).trans zP
       replace zQ:=(HB.out.cell (World.block_lt_of_cell? w _ zQ)).trans zQ
       have Da:=Aside0.mk AZ
       have Db:=Aside0.mk AY
       clear AZ AY
       have Dc:=Aside0.mk Bb
       have Df:=Aside0.mk Ba
       clear Bb Ba
       replace C8:=eq_true C8
       replace C9:=eq_true C9
       try go_wp2_with (first|((with_reducible refine bH (N:=5) rfl ?_);refine bF ?hg (N:=5) ?hd (cs:=#[.int .i64 0,.bool false,.int .i64 0,.string (⟨#[]⟩ : ByteArray),.slice none 0 0,.slice none 0 0]) (t:=29) ?hr ?_;(case hd=>rfl);(case hg=>rfl);(case hr=>first|(go_simp;done)|(go_simp;rfl));intro yh hg w16 hbox hb;have zm:=Aside0.mk (Kd.jA (by (with_reducible repeat (first|apply Kd.dZ|apply Kd.d9|apply Kd.eU));exact xX.out) hb);have zn:=Aside0.mk (aI (g:=yF) (o:=.cells #[.int .i64 yA,.bool yB,.int .i64 yD,.string yE,.slice (some zV) xY.length yZ,.slice zl xV.length za] 29 (0,0)) (bk_ yc.out) hb);have zo:=Aside0.mk (aI (g:=yt) (o:=.cells #[.int .i64 0,.bool false,.int .i64 0,.string (⟨#[]⟩ : ByteArray),.slice none 0 0,.slice none 0 0] 33 (0,0)) (bk_ yj.out) hb);have zq:=Aside0.mk (aI (g:=yg) (o:=.cells #[.int .i64 yA,.bool yB,.int .i64 yD,.string yE,yu,.slice none 0 0] 33 (0,0)) (bk_ xU.out) hb);have zx:=Aside0.mk (aK (by repeat (first|(with_reducible first|exact HB.out|apply av|apply ak|apply au|refine aG ?_ yL.out|refine aG ?_ yM.out|refine aG ?_ yN.out)|exact HB.out)) hb);have zy:=Aside0.mk (hbox);have zI:=Aside0.mk ((by rw [hg];exact (aM (by repeat (first|(with_reducible first|exact HB.out|apply av|apply ak|apply au|refine aG ?_ yL.out|refine aG ?_ yM.out|refine aG ?_ yN.out)|exact HB.out))) : w.heap.size ≤ yh));have Ar:=Aside0.mk ((by rw [hg];exact (aM (by repeat (first|(with_reducible first|exact HB.out|apply av|apply ak|apply au|refine aG ?_ yL.out|refine aG ?_ yM.out|refine aG ?_ yN.out)|exact HB.out))) : w.heap.size ≤ yh));have Ca:=Aside0.mk ((by rw [hg];exact Nat.ne_of_lt (bO (g:=yF) (o:=.cells #[.int .i64 yA,.bool yB,.int .i64 yD,.string yE,.slice (some zV) xY.length yZ,.slice zl xV.length za] 29 (0,0)) (bk_ yc.out)) : yF ≠ yh));have DZ:=Aside0.mk ((by rw [hg];exact Nat.ne_of_gt (bO (g:=yF) (o:=.cells #[.int .i64 yA,.bool yB,.int .i64 yD,.string yE,.slice (some zV) xY.length yZ,.slice zl xV.length za] 29 (0,0)) (bk_ yc.out)) : yh ≠ yF));have Cr:=Aside0.mk ((by rw [hg];exact Nat.ne_of_lt (bO (g:=yt) (o:=.cells #[.int .i64 0,.bool false,.int .i64 0,.string (⟨#[]⟩ : ByteArray),.slice none 0 0,.slice none 0 0] 33 (0,0)) (bk_ yj.out)) : yt ≠ yh));have Ct:=Aside0.mk ((by rw [hg];exact Nat.ne_of_gt (bO (g:=yt) (o:=.cells #[.int .i64 0,.bool false,.int .i64 0,.string (⟨#[]⟩ : ByteArray),.slice none 0 0,.slice none 0 0] 33 (0,0)) (bk_ yj.out)) : yh ≠ yt));have Cu:=Aside0.mk ((by rw [hg];exact Nat.ne_of_lt (bO (g:=yg) (o:=.cells #[.int .i64 yA,.bool yB,.int .i64 yD,.string yE,yu,.slice none 0 0] 33 (0,0)) (bk_ xU.out)) : yg ≠ yh));have Cv:=Aside0.mk ((by rw [hg];exact Nat.ne_of_gt (bO (g:=yg) (o:=.cells #[.int .i64 yA,.bool yB,.int .i64 yD,.string yE,yu,.slice none 0 0] 33 (0,0)) (bk_ xU.out)) : yh ≠ yg));clear xX;clear yc;clear yj;clear xU;clear HB;have xX:=zm;have yc:=zn;have yj:=zo;have xU:=zq;have HB:=zx;have yC:=zy;have GQ:=zI;have zR:=Ar;have zh:=Ca;have Bq:=DZ;have zi:=Cr;have Br:=Ct;have yT:=Cu;have zW:=Cv;clear zm zn zo zq zx zy zI Ar Ca DZ Cr Ct Cu Cv;clear hb hbox hg;have GR:=Bq.out;have GU:=zh.out;have GV:=Br.out;have GY:=zi.out;have GZ:=zW.out;have G5:=yT.out;have Dh : w16.cell? ⟨yh,0,none⟩ = some (.int .i64 0):=(ah yC.out 0).trans rfl;have Di : w16.cell? ⟨yh,1,none⟩ = some (.bool false):=(ah yC.out 1).trans rfl;have Dj : w16.cell? ⟨yh,2,none⟩ = some (.int .i64 0):=(ah yC.out 2).trans rfl;have Dk : w16.cell? ⟨yh,3,none⟩ = some (.string (⟨#[]⟩ : ByteArray)):=(ah yC.out 3).trans rfl;have Dl : w16.cell? ⟨yh,4,none⟩ = some (.slice none 0 0):=(ah yC.out 4).trans rfl;have Dm : w16.cell? ⟨yh,5,none⟩ = some (.slice none 0 0):=(ah yC.out 5).trans rfl;have Dn:=aj yC.out 0;have Dp:=aj yC.out 1;have Dq:=aj yC.out 2;have Dr:=aj yC.out 3;have Dt:=aj yC.out 4;have Du:=aj yC.out 5))
       have zm : Aside0 (Kd.R k33 33 ((((((w16.setCell ⟨yh,0,none⟩ (.int .i64 ((aH xY xW).f0))).setCell ⟨yh,1,none⟩ (.bool ((aH xY xW).f1))).setCell ⟨yh,2,none⟩ (.int .i64 ((aH xY xW).f2))).setCell ⟨yh,3,none⟩ (.string ((aH xY xW).f3))).setCell ⟨yh,4,none⟩ (.slice yX ((aH xY xW).f4).length yY)).setCell ⟨yh,5,none⟩ (.slice ze ((aH xY xW).f5).length zf)) w.heap.size (fun k_=>k_ ≠ yt ∧ k_ ≠ yg) yu yG):=⟨by (with_reducible repeat (first|apply Kd.dZ|apply Kd.d9|apply Kd.eU));exact Kd.dR (Kd.fq (p:=⟨yh,5,none⟩) (Kd.fq (p:=⟨yh,4,none⟩) (Kd.fq (p:=⟨yh,3,none⟩) (Kd.fq (p:=⟨yh,2,none⟩) (Kd.fq (p:=⟨yh,1,none⟩) (Kd.fq (p:=⟨yh,0,none⟩) (Kd.nU xX.out yC.out (by decide)) (fun _ hk=>hk.2) (.int .i64 ((aH xY xW).f0))) (fun _ hk=>hk.2) (.bool ((aH xY xW).f1))) (fun _ hk=>hk.2) (.int .i64 ((aH xY xW).f2))) (fun _ hk=>hk.2) (.string ((aH xY xW).f3))) (fun _ hk=>hk.2) (.slice yX ((aH xY xW).f4).length yY)) (fun _ hk=>hk.2) (.slice ze ((aH xY xW).f5).length zf)) (fun _ hk=>⟨hk.1.1,hk.1.2⟩)⟩
       have zn : Aside0 (((((((w16.setCell ⟨yh,0,none⟩ (.int .i64 ((aH xY xW).f0))).setCell ⟨yh,1,none⟩ (.bool ((aH xY xW).f1))).setCell ⟨yh,2,none⟩ (.int .i64 ((aH xY xW).f2))).setCell ⟨yh,3,none⟩ (.string ((aH xY xW).f3))).setCell ⟨yh,4,none⟩ (.slice yX ((aH xY xW).f4).length yY)).setCell ⟨yh,5,none⟩ (.slice ze ((aH xY xW).f5).length zf)).heap[yF]? = some (.cells #[.int .i64 yA,.bool yB,.int .i64 yD,.string yE,.slice (some zV) xY.length yZ,.slice zl xV.length za] 29 (0,0))):=⟨by (with_reducible repeat (first|apply aA|apply aD|apply ay));refine bq ?_ zh.out _;(with_reducible repeat (first|apply aA|apply aD|apply ay));refine bq ?_ zh.out _;(with_reducible repeat (first|apply aA|apply aD|apply ay));refine bq ?_ zh.out _;(with_reducible repeat (first|apply aA|apply aD|apply ay));refine bq ?_ zh.out _;(with_reducible repeat (first|apply aA|apply aD|apply ay));refine bq ?_ zh.out _;(with_reducible repeat (first|apply aA|apply aD|apply ay));refine bq ?_ zh.out _;(with_reducible repeat (first|apply aA|apply aD|apply ay));exact yc.out⟩
       have zo : Aside0 (((((((w16.setCell ⟨yh,0,none⟩ (.int .i64 ((aH xY xW).f0))).setCell ⟨yh,1,none⟩ (.bool ((aH xY xW).f1))).setCell ⟨yh,2,none⟩ (.int .i64 ((aH xY xW).f2))).setCell ⟨yh,3,none⟩ (.string ((aH xY xW).f3))).setCell ⟨yh,4,none⟩ (.slice yX ((aH xY xW).f4).length yY)).setCell ⟨yh,5,none⟩ (.slice ze ((aH xY xW).f5).length zf)).heap[yt]? = some (.cells #[.int .i64 0,.bool false,.int .i64 0,.string (⟨#[]⟩ : ByteArray),.slice none 0 0,.slice none 0 0] 33 (0,0))):=⟨by (with_reducible repeat (first|apply aA|apply aD|apply ay));refine bq ?_ zi.out _;(with_reducible repeat (first|apply aA|apply aD|apply ay));refine bq ?_ zi.out _;(with_reducible repeat (first|apply aA|apply aD|apply ay));refine bq ?_ zi.out _;(with_reducible repeat (first|apply aA|apply aD|apply ay));refine bq ?_ zi.out _;(with_reducible repeat (first|apply aA|apply aD|apply ay));refine bq ?_ zi.out _;(with_reducible repeat (first|apply aA|apply aD|apply ay));refine bq ?_ zi.out _;(with_reducible repeat (first|apply aA|apply aD|apply ay));exact yj.out⟩
       have zq : Aside0 (((((((w16.setCell ⟨yh,0,none⟩ (.int .i64 ((aH xY xW).f0))).setCell ⟨yh,1,none⟩ (.bool ((aH xY xW).f1))).setCell ⟨yh,2,none⟩ (.int .i64 ((aH xY xW).f2))).setCell ⟨yh,3,none⟩ (.string ((aH xY xW).f3))).setCell ⟨yh,4,none⟩ (.slice yX ((aH xY xW).f4).length yY)).setCell ⟨yh,5,none⟩ (.slice ze ((aH xY xW).f5).length zf)).heap[yg]? = some (.cells #[.int .i64 yA,.bool yB,.int .i64 yD,.string yE,yu,.slice none 0 0] 33 (0,0))):=⟨by (with_reducible repeat (first|apply aA|apply aD|apply ay));refine bq ?_ yT.out _;(with_reducible repeat (first|apply aA|apply aD|apply ay));refine bq ?_ yT.out _;(with_reducible repeat (first|apply aA|apply aD|apply ay));refine bq ?_ yT.out _;(with_reducible repeat (first|apply aA|apply aD|apply ay));refine bq ?_ yT.out _;(with_reducible repeat (first|apply aA|apply aD|apply ay));refine bq ?_ yT.out _;(with_reducible repeat (first|apply aA|apply aD|apply ay));refine bq ?_ yT.out _;(with_reducible repeat (first|apply aA|apply aD|apply ay));exact xU.out⟩
       have zx : Aside0 (((((((w16.setCell ⟨yh,0,none⟩ (.int .i64 ((aH xY xW).f0))).setCell ⟨yh,1,none⟩ (.bool ((aH xY xW).f1))).setCell ⟨yh,2,none⟩ (.int .i64 ((aH xY xW).f2))).setCell ⟨yh,3,none⟩ (.string ((aH xY xW).f3))).setCell ⟨yh,4,none⟩ (.slice yX ((aH xY xW).f4).length yY)).setCell ⟨yh,5,none⟩ (.slice ze ((aH xY xW).f5).length zf)).heap[yh]? = some (.cells #[.int .i64 ((aH xY xW).f0),.bool ((aH xY xW).f1),.int .i64 ((aH xY xW).f2),.string ((aH xY xW).f3),.slice yX ((aH xY xW).f4).length yY,.slice ze ((aH xY xW).f5).length zf] 29 (0,0))):=⟨by (with_reducible repeat (first|apply aA|apply aD|apply ay));refine aQ (cs:=#[.int .i64 ((aH xY xW).f0),.bool ((aH xY xW).f1),.int .i64 ((aH xY xW).f2),.string ((aH xY xW).f3),.slice yX ((aH xY xW).f4).length yY,.slice none 0 0]) ?_ 5 _ rfl;(with_reducible repeat (first|apply aA|apply aD|apply ay));refine aQ (cs:=#[.int .i64 ((aH xY xW).f0),.bool ((aH xY xW).f1),.int .i64 ((aH xY xW).f2),.string ((aH xY xW).f3),.slice none 0 0,.slice none 0 0]) ?_ 4 _ rfl;(with_reducible repeat (first|apply aA|apply aD|apply ay));refine aQ (cs:=#[.int .i64 ((aH xY xW).f0),.bool ((aH xY xW).f1),.int .i64 ((aH xY xW).f2),.string (⟨#[]⟩ : ByteArray),.slice none 0 0,.slice none 0 0]) ?_ 3 _ rfl;(with_reducible repeat (first|apply aA|apply aD|apply ay));refine aQ (cs:=#[.int .i64 ((aH xY xW).f0),.bool ((aH xY xW).f1),.int .i64 0,.string (⟨#[]⟩ : ByteArray),.slice none 0 0,.slice none 0 0]) ?_ 2 _ rfl;(with_reducible repeat (first|apply aA|apply aD|apply ay));refine aQ (cs:=#[.int .i64 ((aH xY xW).f0),.bool false,.int .i64 0,.string (⟨#[]⟩ : ByteArray),.slice none 0 0,.slice none 0 0]) ?_ 1 _ rfl;(with_reducible repeat (first|apply aA|apply aD|apply ay));refine aQ (cs:=#[.int .i64 0,.bool false,.int .i64 0,.string (⟨#[]⟩ : ByteArray),.slice none 0 0,.slice none 0 0]) ?_ 0 _ rfl;(with_reducible repeat (first|apply aA|apply aD|apply ay));exact yC.out⟩
       have zy : Aside0 (Below w.heap.size w ((((((w16.setCell ⟨yh,0,none⟩ (.int .i64 ((aH xY xW).f0))).setCell ⟨yh,1,none⟩ (.bool ((aH xY xW).f1))).setCell ⟨yh,2,none⟩ (.int .i64 ((aH xY xW).f2))).setCell ⟨yh,3,none⟩ (.string ((aH xY xW).f3))).setCell ⟨yh,4,none⟩ (.slice yX ((aH xY xW).f4).length yY)).setCell ⟨yh,5,none⟩ (.slice ze ((aH xY xW).f5).length zf))):=⟨by repeat (first|(with_reducible first|exact HB.out|apply av|apply ak|apply au|refine aG ?_ yL.out|refine aG ?_ yM.out|refine aG ?_ yN.out|refine aG ?_ zR.out)|exact HB.out)⟩
       (try clear xX)
       (try clear yc)
       (try clear yj)
       (try clear xU)
       (try clear yC)
       (try clear HB)
       generalize ((((((w16.setCell ⟨yh,0,none⟩ (.int .i64 ((aH xY xW).f0))).setCell ⟨yh,1,none⟩ (.bool ((aH xY xW).f1))).setCell ⟨yh,2,none⟩ (.int .i64 ((aH xY xW).f2))).setCell ⟨yh,3,none⟩ (.string ((aH xY xW).f3))).setCell ⟨yh,4,none⟩ (.slice yX ((aH xY xW).f4).length yY)).setCell ⟨yh,5,none⟩ (.slice ze ((aH xY xW).f5).length zf)) = Io at zm zn zo zq zx zy ⊢
       have xX:=zm
       have yc:=zn
       have yj:=zo
       have xU:=zq
       have yC:=zx
       have HB:=zy
       clear zm zn zo zq zx zy
       have zm:=Aside0.mk (Kd.eU xX.out)
       have zn:=Aside0.mk (aD yc.out)
       have zo:=Aside0.mk (aD yj.out)
       have zq:=Aside0.mk (aD xU.out)
       have zx:=Aside0.mk (aD yC.out)
       have zy:=Aside0.mk (au HB.out)
       clear xX
       clear yc
       clear yj
       clear xU
       clear yC
       clear HB
       have xX:=zm
       have yc:=zn
       have yj:=zo
       have xU:=zq
       have yC:=zx
       have HB:=zy
       clear zm zn zo zq zx zy
       refine iE (n:=8) (S:=fun w'=>w'.cell? ⟨yg,0,none⟩ = some (.int .i64 yA) ∧ w'.cell? ⟨yg,1,none⟩ = some (.bool yB) ∧ w'.cell? ⟨yg,2,none⟩ = some (.int .i64 yD) ∧ w'.cell? ⟨yg,3,none⟩ = some (.string yE) ∧ w'.cell? ⟨yg,4,none⟩ = some (yu) ∧ w'.cell? ⟨yg,5,none⟩ = some (.slice none 0 0) ∧ w'.cell? ⟨yh,0,none⟩ = some (.int .i64 ((aH xY xW).f0)) ∧ w'.cell? ⟨yh,1,none⟩ = some (.bool ((aH xY xW).f1)) ∧ w'.cell? ⟨yh,2,none⟩ = some (.int .i64 ((aH xY xW).f2)) ∧ w'.cell? ⟨yh,3,none⟩ = some (.string ((aH xY xW).f3)) ∧ w'.cell? ⟨yh,4,none⟩ = some (.slice yX ((aH xY xW).f4).length yY) ∧ w'.cell? ⟨yh,5,none⟩ = some (.slice ze ((aH xY xW).f5).length zf)) (ds:=[7]) #[false,false,false,false,false,false,false,false] (by kernel_rfl) rfl rfl ⟨(ah xU.out 0).trans rfl,(ah xU.out 1).trans rfl,(ah xU.out 2).trans rfl,(ah xU.out 3).trans rfl,(ah xU.out 4).trans rfl,(ah xU.out 5).trans rfl,(ah yC.out 0).trans rfl,(ah yC.out 1).trans rfl,(ah yC.out 2).trans rfl,(ah yC.out 3).trans rfl,(ah yC.out 4).trans rfl,(ah yC.out 5).trans rfl⟩ (fun hHeld=>?_);refine fB aW.xO aW.wT (fun HT_ HW_=>?_)
       generalize Io.drew = IJ at xX yc yj xU yC HB hHeld ⊢
       refine bE (i:=0) (N:=some 24) (v:=?_) (a':=?_) #[true,false,false,false,false,false,false,false] rfl rfl (bg HT_.out (by kernel_rfl)) (fun _ _ _ h=>h) (Or.inl ⟨by rfl,?_⟩) ?_ ?_
       rotate_left
       ·intro w'
        go_simp
        with_reducible rfl
       rotate_left
       ·simp only [Act.put,List.setIfInBounds_toArray,List.set_cons_zero,List.set_cons_succ,aT,aU]
        rfl
       refine dI (i:=1) (N:=some 25) (v:=?_) (a':=?_) #[true,true,false,false,false,false,false,false] rfl rfl (bU HT_.out HW_.out (by kernel_rfl)) (fun _ _ _ h=>h) (Or.inl ⟨by rfl,?_⟩) hHeld ?_ ?_
       rotate_left
       ·rintro w' ⟨s0,s1,s2,s3,s4,s5,s6,s7,s8,s9,s10,s11⟩
        go_simp
        with_reducible rfl
       rotate_left
       ·simp only [Act.put,List.setIfInBounds_toArray,List.set_cons_zero,List.set_cons_succ,aT,aU]
        rfl
       refine dI (i:=2) (N:=some 26) (v:=?_) (a':=?_) #[true,true,true,false,false,false,false,false] rfl rfl (bU HT_.out HW_.out (by kernel_rfl)) (fun _ _ _ h=>h) (Or.inl ⟨by rfl,?_⟩) hHeld ?_ ?_
       rotate_left
       ·rintro w' ⟨s0,s1,s2,s3,s4,s5,s6,s7,s8,s9,s10,s11⟩
        go_simp
        with_reducible rfl
       rotate_left
       ·simp only [Act.put,List.setIfInBounds_toArray,List.set_cons_zero,List.set_cons_succ,aT,aU]
        rfl
       refine fM (i:=3) (N:=some 27) #[true,true,true,true,false,false,false,false] rfl rfl (dx HT_.out (by kernel_rfl)) (by decide) (fun K hK=>?_)
       refine gq Tryd.func14 (by kernel_rfl) rfl #[.agg #[.int .i64 ((aH xY xW).f0),.bool ((aH xY xW).f1),.int .i64 ((aH xY xW).f2),.string ((aH xY xW).f3),.slice yX ((aH xY xW).f4).length yY,.slice ze ((aH xY xW).f5).length zf]] (by rfl) rfl rfl (by (try simp only [List.map_toArray,List.map_cons,List.map_nil]);first|done|rfl|(simp only [List.length_drop,List.length_take];rfl)) ?_
       with_reducible refine (ih k1 (by have:=Ei.out;omega) ((aH xY xW).f0) ((aH xY xW).f1) ((aH xY xW).f2) ((aH xY xW).f3) _ _ ((aH xY xW).f4) _ _ ((aH xY xW).f5) Bh Bj Bl Bn Bo Bp _ ?Cw ?Cx ?Cy ?Cz Im.out).mono ?_
       (case Cw=>repeat (first|exact (Kd.bQ Da.out HB.out)|(with_reducible refine Kd.bW ?_ _)|(with_reducible refine Kd.bX ?_ _)|(with_reducible refine Kd.dh ?_)))
       (case Cx=>exact Db.out)
       (case Cy=>repeat (first|exact (Kd.bQ Dc.out HB.out)|(with_reducible refine Kd.bW ?_ _)|(with_reducible refine Kd.bX ?_ _)|(with_reducible refine Kd.dh ?_)))
       (case Cz=>exact Df.out)
       rintro e IK ⟨Ip,Iq,rfl,ho0,ho1,hb⟩
       refine ⟨_,rfl,?_⟩
       have zm:=Aside0.mk (Kd.dR (Kd.lD (Kd.lD (Kd.sF (by (with_reducible repeat (first|apply Kd.dZ|apply Kd.d9|apply Kd.eU));exact xX.out) hb) (Kd.kE ho0)) (Kd.kE ho1)) (fun _ h_=>h_.1))
       have zn:=Aside0.mk (Kd.jg (Kd.jI (Kd.jI (Kd.kY ho0 (Kd.oO (by (with_reducible repeat (first|apply Kd.dZ|apply Kd.d9|apply Kd.eU));exact xX.out))) (g:=yt) (o:=.cells #[.int .i64 0,.bool false,.int .i64 0,.string (⟨#[]⟩ : ByteArray),.slice none 0 0,.slice none 0 0] 33 (0,0)) (bk_ yj.out)) (g:=yg) (o:=.cells #[.int .i64 yA,.bool yB,.int .i64 yD,.string yE,yu,.slice none 0 0] 33 (0,0)) (bk_ xU.out)) (aM (by repeat (first|(with_reducible first|exact HB.out|apply av|apply ak|apply au|refine aG ?_ yL.out|refine aG ?_ yM.out|refine aG ?_ yN.out|refine aG ?_ zR.out)|exact HB.out))))
       have zo:=Aside0.mk (Kd.jg (Kd.jI (Kd.jI (Kd.kY ho1 (Kd.oO (by (with_reducible repeat (first|apply Kd.dZ|apply Kd.d9|apply Kd.eU));exact xX.out))) (g:=yt) (o:=.cells #[.int .i64 0,.bool false,.int .i64 0,.string (⟨#[]⟩ : ByteArray),.slice none 0 0,.slice none 0 0] 33 (0,0)) (bk_ yj.out)) (g:=yg) (o:=.cells #[.int .i64 yA,.bool yB,.int .i64 yD,.string yE,yu,.slice none 0 0] 33 (0,0)) (bk_ xU.out)) (aM (by repeat (first|(with_reducible first|exact HB.out|apply av|apply ak|apply au|refine aG ?_ yL.out|refine aG ?_ yM.out|refine aG ?_ yN.out|refine aG ?_ zR.out)|exact HB.out))))
       have zq:=Aside0.mk (aI (g:=yF) (o:=.cells #[.int .i64 yA,.bool yB,.int .i64 yD,.string yE,.slice (some zV) xY.length yZ,.slice zl xV.length za] 29 (0,0)) (bk_ yc.out) hb)
       have zx:=Aside0.mk (aI (g:=yt) (o:=.cells #[.int .i64 0,.bool false,.int .i64 0,.string (⟨#[]⟩ : ByteArray),.slice none 0 0,.slice none 0 0] 33 (0,0)) (bk_ yj.out) hb)
       have zy:=Aside0.mk (aI (g:=yg) (o:=.cells #[.int .i64 yA,.bool yB,.int .i64 yD,.string yE,yu,.slice none 0 0] 33 (0,0)) (bk_ xU.out) hb)
       have zI:=Aside0.mk (aI (g:=yh) (o:=.cells #[.int .i64 ((aH xY xW).f0),.bool ((aH xY xW).f1),.int .i64 ((aH xY xW).f2),.string ((aH xY xW).f3),.slice yX ((aH xY xW).f4).length yY,.slice ze ((aH xY xW).f5).length zf] 29 (0,0)) (bk_ yC.out) hb)
       have Ar:=Aside0.mk (aK (by repeat (first|(with_reducible first|exact HB.out|apply av|apply ak|apply au|refine aG ?_ yL.out|refine aG ?_ yM.out|refine aG ?_ yN.out|refine aG ?_ zR.out)|exact HB.out)) hb)
       clear xX
       clear yc
       clear yj
       clear xU
       clear yC
       clear HB
       have xX:=zm
       have CB:=zn
       have CF:=zo
       have yc:=zq
       have yj:=zx
       have xU:=zy
       have yC:=zI
       have HB:=Ar
       clear zm zn zo zq zx zy zI Ar
       (try clear hb)
       (try clear hb2)
       (try clear hk)
       (try clear hi)
       (try clear ho0)
       (try clear ho1)
       obtain ⟨Gh,Gi,Ep⟩:=Kd.iH CB.out
       (first|subst Ep|(injection Ep with Ak CG Al;have CJ:=Ak.symm;have CK:=Al.symm;clear Ak CG Al;subst CJ;subst CK))
       obtain ⟨Gj,Gl,Er⟩:=Kd.iH CF.out
       (first|subst Er|(injection Er with Ak CG Al;have CJ:=Ak.symm;have CK:=Al.symm;clear Ak CG Al;subst CJ;subst CK))
       refine hK.out _ _ ⟨(ah xU.out 0).trans rfl,(ah xU.out 1).trans rfl,(ah xU.out 2).trans rfl,(ah xU.out 3).trans rfl,(ah xU.out 4).trans rfl,(ah xU.out 5).trans rfl,(ah yC.out 0).trans rfl,(ah yC.out 1).trans rfl,(ah yC.out 2).trans rfl,(ah yC.out 3).trans rfl,(ah yC.out 4).trans rfl,(ah yC.out 5).trans rfl⟩ (fun hHeld=>?_)
       clear hK K
       refine cB (a':=?_) ?_ ?_
       rotate_left
       ·show Act.put _ (some 27) _ = _
        simp only [Act.put,List.setIfInBounds_toArray,List.set_cons_zero,List.set_cons_succ,aT,aU]
        rfl
       refine fM (i:=4) (N:=some 28) #[true,true,true,true,true,false,false,false] rfl rfl (dx HT_.out (by kernel_rfl)) (by decide) (fun K hK=>?_)
       refine rW (w1:=?_) (v:=?_) (by rfl) rfl ?_ ?_
       rotate_left 2
       ·go_simp
        constructor
        ·rfl
        ·rfl
       refine hK.out _ _ ⟨(ah (ay xU.out _) 0).trans rfl,(ah (ay xU.out _) 1).trans rfl,(ah (ay xU.out _) 2).trans rfl,(ah (ay xU.out _) 3).trans rfl,(ah (ay xU.out _) 4).trans rfl,(ah (ay xU.out _) 5).trans rfl,(ah (ay yC.out _) 0).trans rfl,(ah (ay yC.out _) 1).trans rfl,(ah (ay yC.out _) 2).trans rfl,(ah (ay yC.out _) 3).trans rfl,(ah (ay yC.out _) 4).trans rfl,(ah (ay yC.out _) 5).trans rfl⟩ (fun hHeld=>?_)
       clear hK K
       refine cB (a':=?_) ?_ ?_
       rotate_left
       ·show Act.put _ (some 28) _ = _
        simp only [Act.put,List.setIfInBounds_toArray,List.set_cons_zero,List.set_cons_succ,aT,aU]
        rfl
       refine fM (i:=5) (N:=some 29) #[true,true,true,true,true,true,false,false] rfl rfl (dx HT_.out (by kernel_rfl)) (by decide) (fun K hK=>?_)
       refine Kd.ko k33 (w0:=w) w.heap.size (by rfl) (.tmp 25) (.tmp 28) 30 33 (.agg #[(.int .i64 0),(.bool false),(.int .i64 0),(.string ⟨#[]⟩),(.slice none 0 0),(.slice none 0 0)]) 88 rfl Tryd.underlying30 oC rfl (by decide) (by omega) yu yG (⟨Bh,Bj,Bl,Bn,Bo,Bp⟩ : S33) [.int .i64 Bh,.bool Bj,.int .i64 Bl,.string Bn,.slice Gh Bo.length Gi,.slice Gj Bp.length Gl] (fun k_=>k_ ≠ yt ∧ k_ ≠ yg) (fun k_=>((fun k_=>k_ ≠ yt ∧ k_ ≠ yg)) k_ ∧ some k_ ≠ (yu : Value).ownBlock) rfl rfl ?aP (fun _ hk=>hk) ?aF ?aO ?aB ?aS ?aL ?_
       (case aP=>exact qD _ _ _ (⟨Bh,Bj,Bl,Bn,Bo,Bp⟩ : S33) (Kd.dR (CB.out) (fun k_ hk=>⟨⟨hk.1.2,hk.2⟩,hk.1.1.2⟩)) (Kd.dR (CF.out) (fun k_ hk=>⟨⟨hk.1.2,hk.2⟩,hk.1.1.2⟩)))
       (case aB=>exact (by repeat (first|(with_reducible first|exact HB.out|apply av|apply ak|apply au|refine aG ?_ yL.out|refine aG ?_ yM.out|refine aG ?_ yN.out|refine aG ?_ zR.out)|exact HB.out)))
       (case aF=>exact (fun k_ hk=>⟨Kd.jr (g:=yt) (o:=.cells #[.int .i64 0,.bool false,.int .i64 0,.string (⟨#[]⟩ : ByteArray),.slice none 0 0,.slice none 0 0] 33 (0,0)) (bk_ yj.out) k_ hk,Kd.jr (g:=yg) (o:=.cells #[.int .i64 yA,.bool yB,.int .i64 yD,.string yE,yu,.slice none 0 0] 33 (0,0)) (bk_ xU.out) k_ hk⟩))
       (case aO=>exact (by (with_reducible repeat (first|apply Kd.dZ|apply Kd.d9|apply Kd.eU));exact Kd.dR xX.out (fun _ hk=>⟨hk.1.1.1,hk.1.1.2⟩)))
       (case aS=>exact (aM (by repeat (first|(with_reducible first|exact HB.out|apply av|apply ak|apply au|refine aG ?_ yL.out|refine aG ?_ yM.out|refine aG ?_ yN.out|refine aG ?_ zR.out)|exact HB.out))))
       (case aL=>have:=En.out;omega)
       intro Ir Iu ho hb hg hat
       rw [← Eo.out] at ho
       have zm:=Aside0.mk (dU (g:=yF) (o:=.cells #[.int .i64 yA,.bool yB,.int .i64 yD,.string yE,.slice (some zV) xY.length yZ,.slice zl xV.length za] 29 (0,0)) (bk_ yc.out) hg (Kd.pW xX.out yc.out (by decide)))
       have zn:=Aside0.mk (dU (g:=yt) (o:=.cells #[.int .i64 0,.bool false,.int .i64 0,.string (⟨#[]⟩ : ByteArray),.slice none 0 0,.slice none 0 0] 33 (0,0)) (bk_ yj.out) hg (Kd.rT xX.out (fun _ hk=>hk.1.1.1)))
       have zo:=Aside0.mk (dU (g:=yg) (o:=.cells #[.int .i64 yA,.bool yB,.int .i64 yD,.string yE,yu,.slice none 0 0] 33 (0,0)) (bk_ xU.out) hg (Kd.rT xX.out (fun _ hk=>hk.1.1.2)))
       have zq:=Aside0.mk (dU (g:=yh) (o:=.cells #[.int .i64 ((aH xY xW).f0),.bool ((aH xY xW).f1),.int .i64 ((aH xY xW).f2),.string ((aH xY xW).f3),.slice yX ((aH xY xW).f4).length yY,.slice ze ((aH xY xW).f5).length zf] 29 (0,0)) (bk_ yC.out) hg (Kd.pW xX.out yC.out (by decide)))
       have zx:=Aside0.mk (hb)
       have zy:=Aside0.mk (ho)
       clear yc
       clear yj
       clear xU
       clear yC
       clear HB
       clear xX
       clear CB
       clear CF
       have yc:=zm
       have yj:=zn
       have xU:=zo
       have yC:=zq
       have HB:=zx
       have D6:=zy
       clear zm zn zo zq zx zy
       clear ho hb hg hat
       obtain ⟨Es,Et,Eu⟩:=Kd.iH D6.out
       (first|subst Eu|(injection Eu with Ak CG Al;have CJ:=Ak.symm;have CK:=Al.symm;clear Ak CG Al;subst CJ;subst CK))
       refine hK.out _ _ ⟨(ah xU.out 0).trans rfl,(ah xU.out 1).trans rfl,(ah xU.out 2).trans rfl,(ah xU.out 3).trans rfl,(ah xU.out 4).trans rfl,(ah xU.out 5).trans rfl,(ah yC.out 0).trans rfl,(ah yC.out 1).trans rfl,(ah yC.out 2).trans rfl,(ah yC.out 3).trans rfl,(ah yC.out 4).trans rfl,(ah yC.out 5).trans rfl⟩ (fun hHeld=>?_)
       clear hK K
       refine cB (a':=?_) ?_ ?_
       rotate_left
       ·show Act.put _ (some 29) _ = _
        simp only [Act.put,List.setIfInBounds_toArray,List.set_cons_zero,List.set_cons_succ,aT,aU]
        rfl
       refine bE (i:=6) (N:=some 30) (v:=?_) (a':=?_) #[true,true,true,true,true,true,true,false] rfl rfl (bg HT_.out (by kernel_rfl)) (fun _ _ _ h=>h) (Or.inl ⟨by rfl,?_⟩) ?_ ?_
       rotate_left
       ·intro w'
        go_simp
        with_reducible rfl
       rotate_left
       ·simp only [Act.put,List.setIfInBounds_toArray,List.set_cons_zero,List.set_cons_succ,aT,aU]
        rfl
       refine lS (i:=7) (N:=none) #[true,true,true,true,true,true,true,true] rfl rfl (dx HT_.out (by kernel_rfl)) (by decide) (fun K hK=>?_)
       have Iw : Iu.cell? ⟨yg,4,none⟩ = some (yu):=(ah xU.out 4).trans rfl
       have G6:=aj xU.out 4
       have EK:=yI.out
       have EL:=yJ.out
       have EM:=zW.out
       have EN:=zu.out
       have EO:=zB.out
       have EP:=yT.out
       refine ku (w1:=?_) (by rfl) rfl ?_ ?_
       rotate_left
       ·go_simp
        rfl
       refine hK.out _ _ ?_
       clear hK K
       refine jh (gL HT_.out (by kernel_rfl)) ?_
       try go_wp2
       go_roundg k1
       case measure=>have:=Ei.out;omega
       case rel=>exact ⟨(wrap64 (xW + 1)),(CZ),(.slice Es CZ.length Et),(by first|rfl|(simp;done)|(simp [*];done)),H',⟨by have:=Ei.out;omega⟩,⟨by (with_reducible repeat (first|apply Kd.dZ|apply Kd.d9|apply Kd.eU));exact Kd.dR (Kd.fq (p:=⟨yg,4,none⟩) (Kd.dR D6.out (fun k_ hk=>(⟨hk,hk.2⟩ : _ ∧ k_ ≠ yg))) (fun _ hk=>hk.2) (.slice Es CZ.length Et)) (fun _ hk=>⟨hk.1.1,hk.1.2⟩)⟩,⟨by (with_reducible repeat (first|apply aA|apply aD|apply ay));refine bq ?_ yI.out _;(with_reducible repeat (first|apply aA|apply aD|apply ay));exact yc.out⟩,⟨by (with_reducible repeat (first|apply aA|apply aD|apply ay));refine bq ?_ yJ.out _;(with_reducible repeat (first|apply aA|apply aD|apply ay));exact yj.out⟩,⟨by (with_reducible repeat (first|apply aA|apply aD|apply ay));refine aQ (cs:=#[.int .i64 yA,.bool yB,.int .i64 yD,.string yE,yu,.slice none 0 0]) ?_ 4 _ rfl;(with_reducible repeat (first|apply aA|apply aD|apply ay));exact xU.out⟩,⟨by repeat (first|(with_reducible first|exact HB.out|apply av|apply ak|apply au|refine aG ?_ yL.out|refine aG ?_ yM.out|refine aG ?_ yN.out|refine aG ?_ zR.out)|exact HB.out)⟩⟩
      ·rw [if_neg c15] at H
       exact absurd H (by simp)
     ·rw [if_neg c13] at H
      exact absurd H (by simp)
    ·rw [if_neg c12] at H
     exact absurd H (by simp)
   ·rw [if_neg c11] at H
    have c11b0 : decide (xW < (xY.length : Int)) = false:=decide_eq_false c11
    clear c11
    have H':=Aside0.mk H
    clear H
    have G7:=zJ.out
    have G8:=zK.out
    have G9:=yI.out
    have He:=zu.out
    have Dv : wr.cell? ⟨yF,0,none⟩ = some (.int .i64 yA):=(ah yc.out 0).trans rfl
    have Dw : wr.cell? ⟨yF,1,none⟩ = some (.bool yB):=(ah yc.out 1).trans rfl
    have Dx : wr.cell? ⟨yF,2,none⟩ = some (.int .i64 yD):=(ah yc.out 2).trans rfl
    have Dy : wr.cell? ⟨yF,3,none⟩ = some (.string yE):=(ah yc.out 3).trans rfl
    have Dz : wr.cell? ⟨yF,4,none⟩ = some (.slice zk xY.length yZ):=(ah yc.out 4).trans rfl
    have DC : wr.cell? ⟨yF,5,none⟩ = some (.slice zl xV.length za):=(ah yc.out 5).trans rfl
    have DF:=aj yc.out 0
    have DI:=aj yc.out 1
    have DJ:=aj yc.out 2
    have DK:=aj yc.out 3
    have DL:=aj yc.out 4
    have DN:=aj yc.out 5
    go_wp2
    go_loopg [35] k1 (fun kq v35 w'=>∃ (xS : Int) (yK : List (S50)) (yH : Value),v35 = .int .i64 xS ∧ Aside0 (aW.l1 kq xV (xV.length : Int) xS yA yB yD yE yG yK = some (r1,r2,r3,r4,r5,r6)) ∧ Aside0 (kq ≤ k1) ∧ Aside0 (Kd.R k33 33 w' w.heap.size (fun k_=>some k_ ≠ (yH : Value).ownBlock ∧ k_ ≠ yt ∧ k_ ≠ yg) yu yG) ∧ Aside0 (Kd.R k50 50 w' w.heap.size (fun k_=>some k_ ≠ (yu : Value).ownBlock ∧ k_ ≠ yt ∧ k_ ≠ yg) yH yK) ∧ Aside0 (w'.heap[yF]? = some (.cells #[.int .i64 yA,.bool yB,.int .i64 yD,.string yE,(.slice zk xY.length yZ),(.slice zl xV.length za)] 29 (0,0))) ∧ Aside0 (w'.heap[yt]? = some (.cells #[.int .i64 0,.bool false,.int .i64 0,.string (⟨#[]⟩ : ByteArray),(.slice none 0 0),(.slice none 0 0)] 33 (0,0))) ∧ Aside0 (w'.heap[yg]? = some (.cells #[.int .i64 yA,.bool yB,.int .i64 yD,.string yE,yu,yH] 33 (0,0))) ∧ Aside0 (Below w.heap.size w w'))
    case atStart=>exact ⟨(0),(([] : List (S50))),(.slice none 0 0),(by first|rfl|(simp;done)|(simp [*];done)),H',⟨Nat.le_refl _⟩,⟨by (with_reducible repeat (first|apply Kd.dZ|apply Kd.d9|apply Kd.eU));exact Kd.dR xX.out (fun _ hk=>⟨(by simp [Value.ownBlock]),⟨hk.1,hk.2⟩⟩)⟩,⟨by first|exact Kd.jf _ _ _ _ _|exact Kd.iZ _ _ _ _ _|exact Kd.eT _ _ _ _ _|exact Kd.jG _ _ _ _ _|exact Kd.jJ _ _ _ _ _⟩,⟨by (with_reducible repeat (first|apply aA|apply aD|apply ay));exact yc.out⟩,⟨by (with_reducible repeat (first|apply aA|apply aD|apply ay));exact yj.out⟩,⟨by (with_reducible repeat (first|apply aA|apply aD|apply ay));exact xU.out⟩,⟨by repeat (first|(with_reducible first|exact HB.out|apply av|apply ak|apply au|refine aG ?_ yL.out|refine aG ?_ yM.out|refine aG ?_ yN.out)|exact HB.out)⟩⟩
    case round =>
     clear H'
     try clear c1
     try clear c2
     try clear p2
     try clear q2
     try clear hx2
     try clear c3
     try clear c4
     try clear p6
     try clear c7
     try clear c8
     try clear c11
     try clear c11b0
     try clear c12
     try clear c12b0
     try clear c13
     try clear c13b0
     try clear c14
     try clear c15
     try clear c17
     try clear c18
     try clear c19
     try clear c28
     try clear p28
     try clear IL
     try clear hx28
     try clear IQ
     try clear IU
     try clear Au
     try clear Av
     try clear AA
     try clear AB
     try clear AJ
     try clear AL
     try clear Dh
     try clear Di
     try clear Dj
     try clear Dk
     try clear Dl
     try clear Dm
     try clear Dv
     try clear Dw
     try clear Dx
     try clear Dy
     try clear Dz
     try clear DC
     try clear BJ
     try clear BK
     try clear BL
     try clear BM
     try clear BN
     try clear BO
     try clear Cb
     try clear Cc
     try clear Ce
     try clear Cg
     try clear Ch
     try clear Ci
     try clear AO
     try clear AP
     try clear AQ
     try clear AU
     try clear AV
     try clear AX
     try clear Dn
     try clear Dp
     try clear Dq
     try clear Dr
     try clear Dt
     try clear Du
     try clear DF
     try clear DI
     try clear DJ
     try clear DK
     try clear DL
     try clear DN
     try clear BP
     try clear BQ
     try clear BR
     try clear BS
     try clear BU
     try clear BZ
     try clear Cj
     try clear Ck
     try clear Cm
     try clear Cn
     try clear Co
     try clear Cq
     try clear zL
     try clear zM
     try clear zN
     try clear zO
     try clear zP
     try clear zQ
     try clear p2
     try clear C8
     try clear C9
     obtain ⟨xS,yK,yH,rfl,HA,Gm,xX,yx,yc,yj,xU,HB⟩:=hrel
     cases gk with
     | zero=>exact absurd HA.out (by simp [aW.l1])
     | succ k2 =>
      have H:=HA.out
      clear HA
      simp only [aW.l1] at H
      by_cases c32 : xS < (xV.length : Int)
      ·rw [if_pos c32] at H
       have c32b0 : decide (xS < (xV.length : Int)) = true:=decide_eq_true c32
       clear c32
       by_cases ER : 0 ≤ xS
       ·rw [if_pos ER] at H
        have c33b0 : decide (0 ≤ xS) = true:=decide_eq_true ER
        clear ER
        by_cases c34 : xS < (xV.length : Int)
        ·rw [if_pos c34] at H
         have c34b0 : decide (xS < (xV.length : Int)) = true:=decide_eq_true c34
         clear c34
         replace H:=Option.bind_eq_some_iff.mp H
         obtain ⟨⟨Bt,Bu,Bv,Bw,Ao,Ap⟩,Ew,H⟩:=H
         replace H : (if yK.length < 1353245080339 then (aW.l1 k2 xV (xV.length : Int) (wrap64 (xS + 1)) yA yB yD yE yG (yK ++ [(⟨(aC xV xS).f0,(⟨Bt,Bu,Bv,Bw,Ao,Ap⟩ : S33)⟩ : S50)])) else (none)) = some (r1,r2,r3,r4,r5,r6):=H
         have Iy:=Aside0.mk Ew
         clear Ew
         by_cases ES : yK.length < 1353245080339
         ·rw [if_pos ES] at H
          have Ey:=Aside0.mk ES
          clear ES
          obtain ⟨CO,Am⟩ : ∃ y_ : List (S50),y_ = (yK ++ [(⟨(aC xV xS).f0,(⟨Bt,Bu,Bv,Bw,Ao,Ap⟩ : S33)⟩ : S50)]):=⟨_,rfl⟩
          replace H : (aW.l1 k2 xV (xV.length : Int) (wrap64 (xS + 1)) yA yB yD yE yG CO) = some (r1,r2,r3,r4,r5,r6):=by first|(rw [Am];with_reducible exact H)|(have Ea:=(Option.bind_some _ _).symm.trans H;rw [Am];with_reducible exact Ea)|(have Ea:=(Option.bind_some _ _).symm.trans H;with_reducible exact Ea)|with_reducible exact H|(rw [Am];exact H)|exact H
          have Ez:=Aside0.mk Am
          clear Am
          have H':=Aside0.mk H
          clear H
          have Eb : 0 ≤ (xS : Int):=of_decide_eq_true (by first|(with_reducible assumption)|assumption)
          have Ec : xS < (xV.length : Int):=of_decide_eq_true (by first|(with_reducible assumption)|assumption)
          obtain ⟨zX,yP,yQ,yR,yS,e301,Ac,Ad,Ae,Af,Ag,Ah,Ai,Bc,Bd,Bf,Bg⟩:=jE El.out xS Eb Ec
          cases e301
          replace Ac:=(HB.out.cell (World.block_lt_of_cell? w _ Ac)).trans Ac
          replace Ad:=(HB.out.cell (World.block_lt_of_cell? w _ Ad)).trans Ad
          replace Ae:=(HB.out.cell (World.block_lt_of_cell? w _ Ae)).trans Ae
          replace Af:=(HB.out.cell (World.block_lt_of_cell? w _ Af)).trans Af
          replace Ag:=(HB.out.cell (World.block_lt_of_cell? w _ Ag)).trans Ag
          replace Ah:=(HB.out.cell (World.block_lt_of_cell? w _ Ah)).trans Ah
          replace Ai:=(HB.out.cell (World.block_lt_of_cell? w _ Ai)).trans Ai
          have DR:=Aside0.mk Bd
          have DT:=Aside0.mk Bc
          clear Bd Bc
          have DU:=Aside0.mk Bg
          have DV:=Aside0.mk Bf
          clear Bg Bf
          replace Eb:=eq_true Eb
          replace Ec:=eq_true Ec
          try go_wp2_with (first|((with_reducible refine bH (N:=7) rfl ?_);refine bF ?hg (N:=7) ?hd (cs:=#[.string (⟨#[]⟩ : ByteArray),.int .i64 0,.bool false,.int .i64 0,.string (⟨#[]⟩ : ByteArray),.slice none 0 0,.slice none 0 0]) (t:=48) ?hr ?_;(case hd=>rfl);(case hg=>rfl);(case hr=>first|(go_simp;done)|(go_simp;rfl));intro xZ hg Aq hbox hb;have zm:=Aside0.mk (Kd.jA (by (with_reducible repeat (first|apply Kd.dZ|apply Kd.d9|apply Kd.eU));exact xX.out) hb);have zn:=Aside0.mk (Kd.jA (by (with_reducible repeat (first|apply Kd.dZ|apply Kd.d9|apply Kd.eU));exact yx.out) hb);have zo:=Aside0.mk (aI (g:=yF) (o:=.cells #[.int .i64 yA,.bool yB,.int .i64 yD,.string yE,.slice zk xY.length yZ,.slice (some zX) xV.length za] 29 (0,0)) (bk_ yc.out) hb);have zq:=Aside0.mk (aI (g:=yt) (o:=.cells #[.int .i64 0,.bool false,.int .i64 0,.string (⟨#[]⟩ : ByteArray),.slice none 0 0,.slice none 0 0] 33 (0,0)) (bk_ yj.out) hb);have zx:=Aside0.mk (aI (g:=yg) (o:=.cells #[.int .i64 yA,.bool yB,.int .i64 yD,.string yE,yu,yH] 33 (0,0)) (bk_ xU.out) hb);have zy:=Aside0.mk (aK (by repeat (first|(with_reducible first|exact HB.out|apply av|apply ak|apply au|refine aG ?_ yL.out|refine aG ?_ yM.out|refine aG ?_ yN.out)|exact HB.out)) hb);have zI:=Aside0.mk (hbox);have Ar:=Aside0.mk ((by rw [hg];exact (aM (by repeat (first|(with_reducible first|exact HB.out|apply av|apply ak|apply au|refine aG ?_ yL.out|refine aG ?_ yM.out|refine aG ?_ yN.out)|exact HB.out))) : w.heap.size ≤ xZ));have Ca:=Aside0.mk ((by rw [hg];exact (aM (by repeat (first|(with_reducible first|exact HB.out|apply av|apply ak|apply au|refine aG ?_ yL.out|refine aG ?_ yM.out|refine aG ?_ yN.out)|exact HB.out))) : w.heap.size ≤ xZ));have DZ:=Aside0.mk ((by rw [hg];exact Nat.ne_of_lt (bO (g:=yF) (o:=.cells #[.int .i64 yA,.bool yB,.int .i64 yD,.string yE,.slice zk xY.length yZ,.slice (some zX) xV.length za] 29 (0,0)) (bk_ yc.out)) : yF ≠ xZ));have Cr:=Aside0.mk ((by rw [hg];exact Nat.ne_of_gt (bO (g:=yF) (o:=.cells #[.int .i64 yA,.bool yB,.int .i64 yD,.string yE,.slice zk xY.length yZ,.slice (some zX) xV.length za] 29 (0,0)) (bk_ yc.out)) : xZ ≠ yF));have Ct:=Aside0.mk ((by rw [hg];exact Nat.ne_of_lt (bO (g:=yt) (o:=.cells #[.int .i64 0,.bool false,.int .i64 0,.string (⟨#[]⟩ : ByteArray),.slice none 0 0,.slice none 0 0] 33 (0,0)) (bk_ yj.out)) : yt ≠ xZ));have Cu:=Aside0.mk ((by rw [hg];exact Nat.ne_of_gt (bO (g:=yt) (o:=.cells #[.int .i64 0,.bool false,.int .i64 0,.string (⟨#[]⟩ : ByteArray),.slice none 0 0,.slice none 0 0] 33 (0,0)) (bk_ yj.out)) : xZ ≠ yt));have Cv:=Aside0.mk ((by rw [hg];exact Nat.ne_of_lt (bO (g:=yg) (o:=.cells #[.int .i64 yA,.bool yB,.int .i64 yD,.string yE,yu,yH] 33 (0,0)) (bk_ xU.out)) : yg ≠ xZ));have EA:=Aside0.mk ((by rw [hg];exact Nat.ne_of_gt (bO (g:=yg) (o:=.cells #[.int .i64 yA,.bool yB,.int .i64 yD,.string yE,yu,yH] 33 (0,0)) (bk_ xU.out)) : xZ ≠ yg));clear xX;clear yx;clear yc;clear yj;clear xU;clear HB;have xX:=zm;have yx:=zn;have yc:=zo;have yj:=zq;have xU:=zx;have HB:=zy;have yw:=zI;have Hf:=Ar;have zS:=Ca;have yU:=DZ;have Bz:=Cr;have yV:=Ct;have BA:=Cu;have yO:=Cv;have zY:=EA;clear zm zn zo zq zx zy zI Ar Ca DZ Cr Ct Cu Cv EA;clear hb hbox hg;have Hg:=Bz.out;have Hl:=yU.out;have Ho:=BA.out;have Hq:=yV.out;have Hr:=zY.out;have Ht:=yO.out;have ET : Aq.cell? ⟨xZ,0,none⟩ = some (.string (⟨#[]⟩ : ByteArray)):=(ah yw.out 0).trans rfl;have EU : Aq.cell? ⟨xZ,1,none⟩ = some (.int .i64 0):=(ah yw.out 1).trans rfl;have EW : Aq.cell? ⟨xZ,2,none⟩ = some (.bool false):=(ah yw.out 2).trans rfl;have EZ : Aq.cell? ⟨xZ,3,none⟩ = some (.int .i64 0):=(ah yw.out 3).trans rfl;have E8 : Aq.cell? ⟨xZ,4,none⟩ = some (.string (⟨#[]⟩ : ByteArray)):=(ah yw.out 4).trans rfl;have Fa : Aq.cell? ⟨xZ,5,none⟩ = some (.slice none 0 0):=(ah yw.out 5).trans rfl;have Fb : Aq.cell? ⟨xZ,6,none⟩ = some (.slice none 0 0):=(ah yw.out 6).trans rfl;have Fe:=aj yw.out 0;have Fg:=aj yw.out 1;have Fh:=aj yw.out 2;have Fj:=aj yw.out 3;have Fp:=aj yw.out 4;have Fq:=aj yw.out 5;have Fu:=aj yw.out 6))
          have zm : Aside0 (Kd.R k33 33 (((((((Aq.setCell ⟨xZ,0,none⟩ (.string ((aC xV xS).f0))).setCell ⟨xZ,1,none⟩ (.int .i64 ((aC xV xS).f1.f0))).setCell ⟨xZ,2,none⟩ (.bool ((aC xV xS).f1.f1))).setCell ⟨xZ,3,none⟩ (.int .i64 ((aC xV xS).f1.f2))).setCell ⟨xZ,4,none⟩ (.string ((aC xV xS).f1.f3))).setCell ⟨xZ,5,none⟩ (.slice yP ((aC xV xS).f1.f4).length yQ)).setCell ⟨xZ,6,none⟩ (.slice yR ((aC xV xS).f1.f5).length yS)) w.heap.size (fun k_=>some k_ ≠ (yH : Value).ownBlock ∧ k_ ≠ yt ∧ k_ ≠ yg) yu yG):=⟨by (with_reducible repeat (first|apply Kd.dZ|apply Kd.d9|apply Kd.eU));exact Kd.dR (Kd.fq (p:=⟨xZ,6,none⟩) (Kd.fq (p:=⟨xZ,5,none⟩) (Kd.fq (p:=⟨xZ,4,none⟩) (Kd.fq (p:=⟨xZ,3,none⟩) (Kd.fq (p:=⟨xZ,2,none⟩) (Kd.fq (p:=⟨xZ,1,none⟩) (Kd.fq (p:=⟨xZ,0,none⟩) (Kd.nU xX.out yw.out (by decide)) (fun _ hk=>hk.2) (.string ((aC xV xS).f0))) (fun _ hk=>hk.2) (.int .i64 ((aC xV xS).f1.f0))) (fun _ hk=>hk.2) (.bool ((aC xV xS).f1.f1))) (fun _ hk=>hk.2) (.int .i64 ((aC xV xS).f1.f2))) (fun _ hk=>hk.2) (.string ((aC xV xS).f1.f3))) (fun _ hk=>hk.2) (.slice yP ((aC xV xS).f1.f4).length yQ)) (fun _ hk=>hk.2) (.slice yR ((aC xV xS).f1.f5).length yS)) (fun _ hk=>⟨hk.1.1,⟨hk.1.2.1,hk.1.2.2⟩⟩)⟩
          have zn : Aside0 (Kd.R k50 50 (((((((Aq.setCell ⟨xZ,0,none⟩ (.string ((aC xV xS).f0))).setCell ⟨xZ,1,none⟩ (.int .i64 ((aC xV xS).f1.f0))).setCell ⟨xZ,2,none⟩ (.bool ((aC xV xS).f1.f1))).setCell ⟨xZ,3,none⟩ (.int .i64 ((aC xV xS).f1.f2))).setCell ⟨xZ,4,none⟩ (.string ((aC xV xS).f1.f3))).setCell ⟨xZ,5,none⟩ (.slice yP ((aC xV xS).f1.f4).length yQ)).setCell ⟨xZ,6,none⟩ (.slice yR ((aC xV xS).f1.f5).length yS)) w.heap.size (fun k_=>some k_ ≠ (yu : Value).ownBlock ∧ k_ ≠ yt ∧ k_ ≠ yg) yH yK):=⟨by (with_reducible repeat (first|apply Kd.dZ|apply Kd.d9|apply Kd.eU));exact Kd.dR (Kd.fq (p:=⟨xZ,6,none⟩) (Kd.fq (p:=⟨xZ,5,none⟩) (Kd.fq (p:=⟨xZ,4,none⟩) (Kd.fq (p:=⟨xZ,3,none⟩) (Kd.fq (p:=⟨xZ,2,none⟩) (Kd.fq (p:=⟨xZ,1,none⟩) (Kd.fq (p:=⟨xZ,0,none⟩) (Kd.nU yx.out yw.out (by decide)) (fun _ hk=>hk.2) (.string ((aC xV xS).f0))) (fun _ hk=>hk.2) (.int .i64 ((aC xV xS).f1.f0))) (fun _ hk=>hk.2) (.bool ((aC xV xS).f1.f1))) (fun _ hk=>hk.2) (.int .i64 ((aC xV xS).f1.f2))) (fun _ hk=>hk.2) (.string ((aC xV xS).f1.f3))) (fun _ hk=>hk.2) (.slice yP ((aC xV xS).f1.f4).length yQ)) (fun _ hk=>hk.2) (.slice yR ((aC xV xS).f1.f5).length yS)) (fun _ hk=>⟨hk.1.1,⟨hk.1.2.1,hk.1.2.2⟩⟩)⟩
          have zo : Aside0 ((((((((Aq.setCell ⟨xZ,0,none⟩ (.string ((aC xV xS).f0))).setCell ⟨xZ,1,none⟩ (.int .i64 ((aC xV xS).f1.f0))).setCell ⟨xZ,2,none⟩ (.bool ((aC xV xS).f1.f1))).setCell ⟨xZ,3,none⟩ (.int .i64 ((aC xV xS).f1.f2))).setCell ⟨xZ,4,none⟩ (.string ((aC xV xS).f1.f3))).setCell ⟨xZ,5,none⟩ (.slice yP ((aC xV xS).f1.f4).length yQ)).setCell ⟨xZ,6,none⟩ (.slice yR ((aC xV xS).f1.f5).length yS)).heap[yF]? = some (.cells #[.int .i64 yA,.bool yB,.int .i64 yD,.string yE,.slice zk xY.length yZ,.slice (some zX) xV.length za] 29 (0,0))):=⟨by (with_reducible repeat (first|apply aA|apply aD|apply ay));refine bq ?_ yU.out _;(with_reducible repeat (first|apply aA|apply aD|apply ay));refine bq ?_ yU.out _;(with_reducible repeat (first|apply aA|apply aD|apply ay));refine bq ?_ yU.out _;(with_reducible repeat (first|apply aA|apply aD|apply ay));refine bq ?_ yU.out _;(with_reducible repeat (first|apply aA|apply aD|apply ay));refine bq ?_ yU.out _;(with_reducible repeat (first|apply aA|apply aD|apply ay));refine bq ?_ yU.out _;(with_reducible repeat (first|apply aA|apply aD|apply ay));refine bq ?_ yU.out _;(with_reducible repeat (first|apply aA|apply aD|apply ay));exact yc.out⟩
          have zq : Aside0 ((((((((Aq.setCell ⟨xZ,0,none⟩ (.string ((aC xV xS).f0))).setCell ⟨xZ,1,none⟩ (.int .i64 ((aC xV xS).f1.f0))).setCell ⟨xZ,2,none⟩ (.bool ((aC xV xS).f1.f1))).setCell ⟨xZ,3,none⟩ (.int .i64 ((aC xV xS).f1.f2))).setCell ⟨xZ,4,none⟩ (.string ((aC xV xS).f1.f3))).setCell ⟨xZ,5,none⟩ (.slice yP ((aC xV xS).f1.f4).length yQ)).setCell ⟨xZ,6,none⟩ (.slice yR ((aC xV xS).f1.f5).length yS)).heap[yt]? = some (.cells #[.int .i64 0,.bool false,.int .i64 0,.string (⟨#[]⟩ : ByteArray),.slice none 0 0,.slice none 0 0] 33 (0,0))):=⟨by (with_reducible repeat (first|apply aA|apply aD|apply ay));refine bq ?_ yV.out _;(with_reducible repeat (first|apply aA|apply aD|apply ay));refine bq ?_ yV.out _;(with_reducible repeat (first|apply aA|apply aD|apply ay));refine bq ?_ yV.out _;(with_reducible repeat (first|apply aA|apply aD|apply ay));refine bq ?_ yV.out _;(with_reducible repeat (first|apply aA|apply aD|apply ay));refine bq ?_ yV.out _;(with_reducible repeat (first|apply aA|apply aD|apply ay));refine bq ?_ yV.out _;(with_reducible repeat (first|apply aA|apply aD|apply ay));refine bq ?_ yV.out _;(with_reducible repeat (first|apply aA|apply aD|apply ay));exact yj.out⟩
          have zx : Aside0 ((((((((Aq.setCell ⟨xZ,0,none⟩ (.string ((aC xV xS).f0))).setCell ⟨xZ,1,none⟩ (.int .i64 ((aC xV xS).f1.f0))).setCell ⟨xZ,2,none⟩ (.bool ((aC xV xS).f1.f1))).setCell ⟨xZ,3,none⟩ (.int .i64 ((aC xV xS).f1.f2))).setCell ⟨xZ,4,none⟩ (.string ((aC xV xS).f1.f3))).setCell ⟨xZ,5,none⟩ (.slice yP ((aC xV xS).f1.f4).length yQ)).setCell ⟨xZ,6,none⟩ (.slice yR ((aC xV xS).f1.f5).length yS)).heap[yg]? = some (.cells #[.int .i64 yA,.bool yB,.int .i64 yD,.string yE,yu,yH] 33 (0,0))):=⟨by (with_reducible repeat (first|apply aA|apply aD|apply ay));refine bq ?_ yO.out _;(with_reducible repeat (first|apply aA|apply aD|apply ay));refine bq ?_ yO.out _;(with_reducible repeat (first|apply aA|apply aD|apply ay));refine bq ?_ yO.out _;(with_reducible repeat (first|apply aA|apply aD|apply ay));refine bq ?_ yO.out _;(with_reducible repeat (first|apply aA|apply aD|apply ay));refine bq ?_ yO.out _;(with_reducible repeat (first|apply aA|apply aD|apply ay));refine bq ?_ yO.out _;(with_reducible repeat (first|apply aA|apply aD|apply ay));refine bq ?_ yO.out _;(with_reducible repeat (first|apply aA|apply aD|apply ay));exact xU.out⟩
          have zy : Aside0 ((((((((Aq.setCell ⟨xZ,0,none⟩ (.string ((aC xV xS).f0))).setCell ⟨xZ,1,none⟩ (.int .i64 ((aC xV xS).f1.f0))).setCell ⟨xZ,2,none⟩ (.bool ((aC xV xS).f1.f1))).setCell ⟨xZ,3,none⟩ (.int .i64 ((aC xV xS).f1.f2))).setCell ⟨xZ,4,none⟩ (.string ((aC xV xS).f1.f3))).setCell ⟨xZ,5,none⟩ (.slice yP ((aC xV xS).f1.f4).length yQ)).setCell ⟨xZ,6,none⟩ (.slice yR ((aC xV xS).f1.f5).length yS)).heap[xZ]? = some (.cells #[.string ((aC xV xS).f0),.int .i64 ((aC xV xS).f1.f0),.bool ((aC xV xS).f1.f1),.int .i64 ((aC xV xS).f1.f2),.string ((aC xV xS).f1.f3),.slice yP ((aC xV xS).f1.f4).length yQ,.slice yR ((aC xV xS).f1.f5).length yS] 48 (0,0))):=⟨by (with_reducible repeat (first|apply aA|apply aD|apply ay));refine aQ (cs:=#[.string ((aC xV xS).f0),.int .i64 ((aC xV xS).f1.f0),.bool ((aC xV xS).f1.f1),.int .i64 ((aC xV xS).f1.f2),.string ((aC xV xS).f1.f3),.slice yP ((aC xV xS).f1.f4).length yQ,.slice none 0 0]) ?_ 6 _ rfl;(with_reducible repeat (first|apply aA|apply aD|apply ay));refine aQ (cs:=#[.string ((aC xV xS).f0),.int .i64 ((aC xV xS).f1.f0),.bool ((aC xV xS).f1.f1),.int .i64 ((aC xV xS).f1.f2),.string ((aC xV xS).f1.f3),.slice none 0 0,.slice none 0 0]) ?_ 5 _ rfl;(with_reducible repeat (first|apply aA|apply aD|apply ay));refine aQ (cs:=#[.string ((aC xV xS).f0),.int .i64 ((aC xV xS).f1.f0),.bool ((aC xV xS).f1.f1),.int .i64 ((aC xV xS).f1.f2),.string (⟨#[]⟩ : ByteArray),.slice none 0 0,.slice none 0 0]) ?_ 4 _ rfl;(with_reducible repeat (first|apply aA|apply aD|apply ay));refine aQ (cs:=#[.string ((aC xV xS).f0),.int .i64 ((aC xV xS).f1.f0),.bool ((aC xV xS).f1.f1),.int .i64 0,.string (⟨#[]⟩ : ByteArray),.slice none 0 0,.slice none 0 0]) ?_ 3 _ rfl;(with_reducible repeat (first|apply aA|apply aD|apply ay));refine aQ (cs:=#[.string ((aC xV xS).f0),.int .i64 ((aC xV xS).f1.f0),.bool false,.int .i64 0,.string (⟨#[]⟩ : ByteArray),.slice none 0 0,.slice none 0 0]) ?_ 2 _ rfl;(with_reducible repeat (first|apply aA|apply aD|apply ay));refine aQ (cs:=#[.string ((aC xV xS).f0),.int .i64 0,.bool false,.int .i64 0,.string (⟨#[]⟩ : ByteArray),.slice none 0 0,.slice none 0 0]) ?_ 1 _ rfl;(with_reducible repeat (first|apply aA|apply aD|apply ay));refine aQ (cs:=#[.string (⟨#[]⟩ : ByteArray),.int .i64 0,.bool false,.int .i64 0,.string (⟨#[]⟩ : ByteArray),.slice none 0 0,.slice none 0 0]) ?_ 0 _ rfl;(with_reducible repeat (first|apply aA|apply aD|apply ay));exact yw.out⟩
          have zI : Aside0 (Below w.heap.size w (((((((Aq.setCell ⟨xZ,0,none⟩ (.string ((aC xV xS).f0))).setCell ⟨xZ,1,none⟩ (.int .i64 ((aC xV xS).f1.f0))).setCell ⟨xZ,2,none⟩ (.bool ((aC xV xS).f1.f1))).setCell ⟨xZ,3,none⟩ (.int .i64 ((aC xV xS).f1.f2))).setCell ⟨xZ,4,none⟩ (.string ((aC xV xS).f1.f3))).setCell ⟨xZ,5,none⟩ (.slice yP ((aC xV xS).f1.f4).length yQ)).setCell ⟨xZ,6,none⟩ (.slice yR ((aC xV xS).f1.f5).length yS))):=⟨by repeat (first|(with_reducible first|exact HB.out|apply av|apply ak|apply au|refine aG ?_ yL.out|refine aG ?_ yM.out|refine aG ?_ yN.out|refine aG ?_ zS.out)|exact HB.out)⟩
          (try clear xX)
          (try clear yx)
          (try clear yc)
          (try clear yj)
          (try clear xU)
          (try clear yw)
          (try clear HB)
          generalize (((((((Aq.setCell ⟨xZ,0,none⟩ (.string ((aC xV xS).f0))).setCell ⟨xZ,1,none⟩ (.int .i64 ((aC xV xS).f1.f0))).setCell ⟨xZ,2,none⟩ (.bool ((aC xV xS).f1.f1))).setCell ⟨xZ,3,none⟩ (.int .i64 ((aC xV xS).f1.f2))).setCell ⟨xZ,4,none⟩ (.string ((aC xV xS).f1.f3))).setCell ⟨xZ,5,none⟩ (.slice yP ((aC xV xS).f1.f4).length yQ)).setCell ⟨xZ,6,none⟩ (.slice yR ((aC xV xS).f1.f5).length yS)) = Iz at zm zn zo zq zx zy zI ⊢
          have xX:=zm
          have yx:=zn
          have yc:=zo
          have yj:=zq
          have xU:=zx
          have yw:=zy
          have HB:=zI
          clear zm zn zo zq zx zy zI
          have zm:=Aside0.mk (Kd.eU xX.out)
          have zn:=Aside0.mk (Kd.eU yx.out)
          have zo:=Aside0.mk (aD yc.out)
          have zq:=Aside0.mk (aD yj.out)
          have zx:=Aside0.mk (aD xU.out)
          have zy:=Aside0.mk (aD yw.out)
          have zI:=Aside0.mk (au HB.out)
          clear xX
          clear yx
          clear yc
          clear yj
          clear xU
          clear yw
          clear HB
          have xX:=zm
          have yx:=zn
          have yc:=zo
          have yj:=zq
          have xU:=zx
          have yw:=zy
          have HB:=zI
          clear zm zn zo zq zx zy zI
          refine iE (n:=12) (S:=fun w'=>w'.cell? ⟨yg,0,none⟩ = some (.int .i64 yA) ∧ w'.cell? ⟨yg,1,none⟩ = some (.bool yB) ∧ w'.cell? ⟨yg,2,none⟩ = some (.int .i64 yD) ∧ w'.cell? ⟨yg,3,none⟩ = some (.string yE) ∧ w'.cell? ⟨yg,4,none⟩ = some (yu) ∧ w'.cell? ⟨yg,5,none⟩ = some (yH) ∧ w'.cell? ⟨xZ,0,none⟩ = some (.string ((aC xV xS).f0)) ∧ w'.cell? ⟨xZ,1,none⟩ = some (.int .i64 ((aC xV xS).f1.f0)) ∧ w'.cell? ⟨xZ,2,none⟩ = some (.bool ((aC xV xS).f1.f1)) ∧ w'.cell? ⟨xZ,3,none⟩ = some (.int .i64 ((aC xV xS).f1.f2)) ∧ w'.cell? ⟨xZ,4,none⟩ = some (.string ((aC xV xS).f1.f3)) ∧ w'.cell? ⟨xZ,5,none⟩ = some (.slice yP ((aC xV xS).f1.f4).length yQ) ∧ w'.cell? ⟨xZ,6,none⟩ = some (.slice yR ((aC xV xS).f1.f5).length yS)) (ds:=[11]) #[false,false,false,false,false,false,false,false,false,false,false,false] (by kernel_rfl) rfl rfl ⟨(ah xU.out 0).trans rfl,(ah xU.out 1).trans rfl,(ah xU.out 2).trans rfl,(ah xU.out 3).trans rfl,(ah xU.out 4).trans rfl,(ah xU.out 5).trans rfl,(ah yw.out 0).trans rfl,(ah yw.out 1).trans rfl,(ah yw.out 2).trans rfl,(ah yw.out 3).trans rfl,(ah yw.out 4).trans rfl,(ah yw.out 5).trans rfl,(ah yw.out 6).trans rfl⟩ (fun hHeld=>?_);refine fB aW.tN aW.qj (fun HT_ HW_=>?_)
          generalize Iz.drew = IV at xX yx yc yj xU yw HB hHeld ⊢
          refine bE (i:=0) (N:=some 39) (v:=?_) (a':=?_) #[true,false,false,false,false,false,false,false,false,false,false,false] rfl rfl (bg HT_.out (by kernel_rfl)) (fun _ _ _ h=>h) (Or.inl ⟨by rfl,?_⟩) ?_ ?_
          rotate_left
          ·intro w'
           go_simp
           with_reducible rfl
          rotate_left
          ·simp only [Act.put,List.setIfInBounds_toArray,List.set_cons_zero,List.set_cons_succ,aT,aU]
           rfl
          refine bE (i:=2) (N:=some 41) (v:=?_) (a':=?_) #[true,false,true,false,false,false,false,false,false,false,false,false] rfl rfl (bg HT_.out (by kernel_rfl)) (fun _ _ _ h=>h) (Or.inl ⟨by rfl,?_⟩) ?_ ?_
          rotate_left
          ·intro w'
           go_simp
           with_reducible rfl
          rotate_left
          ·simp only [Act.put,List.setIfInBounds_toArray,List.set_cons_zero,List.set_cons_succ,aT,aU]
           rfl
          refine bE (i:=4) (N:=some 43) (v:=?_) (a':=?_) #[true,false,true,false,true,false,false,false,false,false,false,false] rfl rfl (bg HT_.out (by kernel_rfl)) (fun _ _ _ h=>h) (Or.inl ⟨by rfl,?_⟩) ?_ ?_
          rotate_left
          ·intro w'
           go_simp
           with_reducible rfl
          rotate_left
          ·simp only [Act.put,List.setIfInBounds_toArray,List.set_cons_zero,List.set_cons_succ,aT,aU]
           rfl
          refine dI (i:=1) (N:=some 40) (v:=?_) (a':=?_) #[true,true,true,false,true,false,false,false,false,false,false,false] rfl rfl (bU HT_.out HW_.out (by kernel_rfl)) (fun _ _ _ h=>h) (Or.inl ⟨by rfl,?_⟩) hHeld ?_ ?_
          rotate_left
          ·rintro w' ⟨s0,s1,s2,s3,s4,s5,s6,s7,s8,s9,s10,s11,s12⟩
           go_simp
           with_reducible rfl
          rotate_left
          ·simp only [Act.put,List.setIfInBounds_toArray,List.set_cons_zero,List.set_cons_succ,aT,aU]
           rfl
          refine dI (i:=3) (N:=some 42) (v:=?_) (a':=?_) #[true,true,true,true,true,false,false,false,false,false,false,false] rfl rfl (bU HT_.out HW_.out (by kernel_rfl)) (fun _ _ _ h=>h) (Or.inl ⟨by rfl,?_⟩) hHeld ?_ ?_
          rotate_left
          ·rintro w' ⟨s0,s1,s2,s3,s4,s5,s6,s7,s8,s9,s10,s11,s12⟩
           go_simp
           with_reducible rfl
          rotate_left
          ·simp only [Act.put,List.setIfInBounds_toArray,List.set_cons_zero,List.set_cons_succ,aT,aU]
           rfl
          refine dI (i:=5) (N:=some 44) (v:=?_) (a':=?_) #[true,true,true,true,true,true,false,false,false,false,false,false] rfl rfl (bU HT_.out HW_.out (by kernel_rfl)) (fun _ _ _ h=>h) (Or.inl ⟨by rfl,?_⟩) hHeld ?_ ?_
          rotate_left
          ·rintro w' ⟨s0,s1,s2,s3,s4,s5,s6,s7,s8,s9,s10,s11,s12⟩
           go_simp
           with_reducible rfl
          rotate_left
          ·simp only [Act.put,List.setIfInBounds_toArray,List.set_cons_zero,List.set_cons_succ,aT,aU]
           rfl
          refine fM (i:=6) (N:=some 45) #[true,true,true,true,true,true,true,false,false,false,false,false] rfl rfl (dx HT_.out (by kernel_rfl)) (by decide) (fun K hK=>?_)
          refine gq Tryd.func14 (by kernel_rfl) rfl #[.agg #[.int .i64 ((aC xV xS).f1.f0),.bool ((aC xV xS).f1.f1),.int .i64 ((aC xV xS).f1.f2),.string ((aC xV xS).f1.f3),.slice yP ((aC xV xS).f1.f4).length yQ,.slice yR ((aC xV xS).f1.f5).length yS]] (by rfl) rfl rfl (by (try simp only [List.map_toArray,List.map_cons,List.map_nil]);first|done|rfl|(simp only [List.length_drop,List.length_take];rfl)) ?_
          with_reducible refine (ih k2 (by have:=Ei.out;have:=Gm.out;omega) ((aC xV xS).f1.f0) ((aC xV xS).f1.f1) ((aC xV xS).f1.f2) ((aC xV xS).f1.f3) _ _ ((aC xV xS).f1.f4) _ _ ((aC xV xS).f1.f5) Bt Bu Bv Bw Ao Ap _ ?Cw ?Cx ?Cy ?Cz Iy.out).mono ?_
          (case Cw=>repeat (first|exact (Kd.bQ DR.out HB.out)|(with_reducible refine Kd.bW ?_ _)|(with_reducible refine Kd.bX ?_ _)|(with_reducible refine Kd.dh ?_)))
          (case Cx=>exact DT.out)
          (case Cy=>repeat (first|exact (Kd.bQ DU.out HB.out)|(with_reducible refine Kd.bW ?_ _)|(with_reducible refine Kd.bX ?_ _)|(with_reducible refine Kd.dh ?_)))
          (case Cz=>exact DV.out)
          rintro e IW ⟨IB,IC,rfl,ho0,ho1,hb⟩
          refine ⟨_,rfl,?_⟩
          have zm:=Aside0.mk (Kd.dR (Kd.lD (Kd.lD (Kd.sF (by (with_reducible repeat (first|apply Kd.dZ|apply Kd.d9|apply Kd.eU));exact xX.out) hb) (Kd.kE ho0)) (Kd.kE ho1)) (fun _ h_=>h_.1))
          have zn:=Aside0.mk (Kd.dR (Kd.lD (Kd.lD (Kd.sF (by (with_reducible repeat (first|apply Kd.dZ|apply Kd.d9|apply Kd.eU));exact yx.out) hb) (Kd.kE ho0)) (Kd.kE ho1)) (fun _ h_=>h_.1))
          have zo:=Aside0.mk (Kd.jg (Kd.jI (Kd.jI (Kd.kY (Kd.kY ho0 (Kd.oO (by (with_reducible repeat (first|apply Kd.dZ|apply Kd.d9|apply Kd.eU));exact xX.out))) (Kd.oO (by (with_reducible repeat (first|apply Kd.dZ|apply Kd.d9|apply Kd.eU));exact yx.out))) (g:=yt) (o:=.cells #[.int .i64 0,.bool false,.int .i64 0,.string (⟨#[]⟩ : ByteArray),.slice none 0 0,.slice none 0 0] 33 (0,0)) (bk_ yj.out)) (g:=yg) (o:=.cells #[.int .i64 yA,.bool yB,.int .i64 yD,.string yE,yu,yH] 33 (0,0)) (bk_ xU.out)) (aM (by repeat (first|(with_reducible first|exact HB.out|apply av|apply ak|apply au|refine aG ?_ yL.out|refine aG ?_ yM.out|refine aG ?_ yN.out|refine aG ?_ zS.out)|exact HB.out))))
          have zq:=Aside0.mk (Kd.jg (Kd.jI (Kd.jI (Kd.kY (Kd.kY ho1 (Kd.oO (by (with_reducible repeat (first|apply Kd.dZ|apply Kd.d9|apply Kd.eU));exact xX.out))) (Kd.oO (by (with_reducible repeat (first|apply Kd.dZ|apply Kd.d9|apply Kd.eU));exact yx.out))) (g:=yt) (o:=.cells #[.int .i64 0,.bool false,.int .i64 0,.string (⟨#[]⟩ : ByteArray),.slice none 0 0,.slice none 0 0] 33 (0,0)) (bk_ yj.out)) (g:=yg) (o:=.cells #[.int .i64 yA,.bool yB,.int .i64 yD,.string yE,yu,yH] 33 (0,0)) (bk_ xU.out)) (aM (by repeat (first|(with_reducible first|exact HB.out|apply av|apply ak|apply au|refine aG ?_ yL.out|refine aG ?_ yM.out|refine aG ?_ yN.out|refine aG ?_ zS.out)|exact HB.out))))
          have zx:=Aside0.mk (aI (g:=yF) (o:=.cells #[.int .i64 yA,.bool yB,.int .i64 yD,.string yE,.slice zk xY.length yZ,.slice (some zX) xV.length za] 29 (0,0)) (bk_ yc.out) hb)
          have zy:=Aside0.mk (aI (g:=yt) (o:=.cells #[.int .i64 0,.bool false,.int .i64 0,.string (⟨#[]⟩ : ByteArray),.slice none 0 0,.slice none 0 0] 33 (0,0)) (bk_ yj.out) hb)
          have zI:=Aside0.mk (aI (g:=yg) (o:=.cells #[.int .i64 yA,.bool yB,.int .i64 yD,.string yE,yu,yH] 33 (0,0)) (bk_ xU.out) hb)
          have Ar:=Aside0.mk (aI (g:=xZ) (o:=.cells #[.string ((aC xV xS).f0),.int .i64 ((aC xV xS).f1.f0),.bool ((aC xV xS).f1.f1),.int .i64 ((aC xV xS).f1.f2),.string ((aC xV xS).f1.f3),.slice yP ((aC xV xS).f1.f4).length yQ,.slice yR ((aC xV xS).f1.f5).length yS] 48 (0,0)) (bk_ yw.out) hb)
          have Ca:=Aside0.mk (aK (by repeat (first|(with_reducible first|exact HB.out|apply av|apply ak|apply au|refine aG ?_ yL.out|refine aG ?_ yM.out|refine aG ?_ yN.out|refine aG ?_ zS.out)|exact HB.out)) hb)
          clear xX
          clear yx
          clear yc
          clear yj
          clear xU
          clear yw
          clear HB
          have xX:=zm
          have yx:=zn
          have CP:=zo
          have CQ:=zq
          have yc:=zx
          have yj:=zy
          have xU:=zI
          have yw:=Ar
          have HB:=Ca
          clear zm zn zo zq zx zy zI Ar Ca
          (try clear hb)
          (try clear hb2)
          (try clear hk)
          (try clear hi)
          (try clear ho0)
          (try clear ho1)
          obtain ⟨EB,EC,ED⟩:=Kd.iH CQ.out
          (first|subst ED|(injection ED with Ak CG Al;have CJ:=Ak.symm;have CK:=Al.symm;clear Ak CG Al;subst CJ;subst CK))
          obtain ⟨EF,EG,EH⟩:=Kd.iH CP.out
          (first|subst EH|(injection EH with Ak CG Al;have CJ:=Ak.symm;have CK:=Al.symm;clear Ak CG Al;subst CJ;subst CK))
          refine hK.out _ _ ⟨(ah xU.out 0).trans rfl,(ah xU.out 1).trans rfl,(ah xU.out 2).trans rfl,(ah xU.out 3).trans rfl,(ah xU.out 4).trans rfl,(ah xU.out 5).trans rfl,(ah yw.out 0).trans rfl,(ah yw.out 1).trans rfl,(ah yw.out 2).trans rfl,(ah yw.out 3).trans rfl,(ah yw.out 4).trans rfl,(ah yw.out 5).trans rfl,(ah yw.out 6).trans rfl⟩ (fun hHeld=>?_)
          clear hK K
          refine cB (a':=?_) ?_ ?_
          rotate_left
          ·show Act.put _ (some 45) _ = _
           simp only [Act.put,List.setIfInBounds_toArray,List.set_cons_zero,List.set_cons_succ,aT,aU]
           rfl
          refine bE (i:=7) (N:=some 46) (v:=?_) (a':=?_) #[true,true,true,true,true,true,true,true,false,false,false,false] rfl rfl (bg HT_.out (by kernel_rfl)) (fun _ _ _ h=>h) (Or.inl ⟨by rfl,?_⟩) ?_ ?_
          rotate_left
          ·intro w'
           go_simp
           with_reducible rfl
          rotate_left
          ·simp only [Act.put,List.setIfInBounds_toArray,List.set_cons_zero,List.set_cons_succ,aT,aU]
           rfl
          refine fM (i:=8) (N:=some 47) #[true,true,true,true,true,true,true,true,true,false,false,false] rfl rfl (dx HT_.out (by kernel_rfl)) (by decide) (fun K hK=>?_)
          refine rW (w1:=?_) (v:=?_) (by rfl) rfl ?_ ?_
          rotate_left 2
          ·go_simp
           constructor
           ·rfl
           ·rfl
          refine hK.out _ _ ⟨(ah (ay xU.out _) 0).trans rfl,(ah (ay xU.out _) 1).trans rfl,(ah (ay xU.out _) 2).trans rfl,(ah (ay xU.out _) 3).trans rfl,(ah (ay xU.out _) 4).trans rfl,(ah (ay xU.out _) 5).trans rfl,(ah (ay yw.out _) 0).trans rfl,(ah (ay yw.out _) 1).trans rfl,(ah (ay yw.out _) 2).trans rfl,(ah (ay yw.out _) 3).trans rfl,(ah (ay yw.out _) 4).trans rfl,(ah (ay yw.out _) 5).trans rfl,(ah (ay yw.out _) 6).trans rfl⟩ (fun hHeld=>?_)
          clear hK K
          refine cB (a':=?_) ?_ ?_
          rotate_left
          ·show Act.put _ (some 47) _ = _
           simp only [Act.put,List.setIfInBounds_toArray,List.set_cons_zero,List.set_cons_succ,aT,aU]
           rfl
          refine fM (i:=9) (N:=some 48) #[true,true,true,true,true,true,true,true,true,true,false,false] rfl rfl (dx HT_.out (by kernel_rfl)) (by decide) (fun K hK=>?_)
          refine Kd.ko k50 (w0:=w) w.heap.size (by rfl) (.tmp 40) (.tmp 47) 31 50 (.agg #[(.string ⟨#[]⟩),(.int .i64 0),(.bool false),(.int .i64 0),(.string ⟨#[]⟩),(.slice none 0 0),(.slice none 0 0)]) 104 rfl Tryd.underlying31 vI rfl (by decide) (by omega) yH yK (⟨(aC xV xS).f0,(⟨Bt,Bu,Bv,Bw,Ao,Ap⟩ : S33)⟩ : S50) [.string ((aC xV xS).f0),.int .i64 Bt,.bool Bu,.int .i64 Bv,.string Bw,.slice EF Ao.length EG,.slice EB Ap.length EC] (fun k_=>some k_ ≠ (yu : Value).ownBlock ∧ k_ ≠ yt ∧ k_ ≠ yg) (fun k_=>((fun k_=>some k_ ≠ (yu : Value).ownBlock ∧ k_ ≠ yt ∧ k_ ≠ yg)) k_ ∧ some k_ ≠ (yH : Value).ownBlock) rfl rfl ?aP (fun _ hk=>hk) ?aF ?aO ?aB ?aS ?aL ?_
          (case aP=>exact uH _ _ _ (⟨(aC xV xS).f0,(⟨Bt,Bu,Bv,Bw,Ao,Ap⟩ : S33)⟩ : S50) (Kd.dR (CP.out) (fun k_ hk=>⟨⟨hk.1.1.1.2,⟨hk.1.2,hk.2⟩⟩,hk.1.1.2⟩)) (Kd.dR (CQ.out) (fun k_ hk=>⟨⟨hk.1.1.1.2,⟨hk.1.2,hk.2⟩⟩,hk.1.1.2⟩)))
          (case aB=>exact (by repeat (first|(with_reducible first|exact HB.out|apply av|apply ak|apply au|refine aG ?_ yL.out|refine aG ?_ yM.out|refine aG ?_ yN.out|refine aG ?_ zS.out)|exact HB.out)))
          (case aF=>exact (fun k_ hk=>⟨Kd.fresh' (Kd.oO (by (with_reducible repeat (first|apply Kd.dZ|apply Kd.d9|apply Kd.eU));exact xX.out)) k_ hk,Kd.jr (g:=yt) (o:=.cells #[.int .i64 0,.bool false,.int .i64 0,.string (⟨#[]⟩ : ByteArray),.slice none 0 0,.slice none 0 0] 33 (0,0)) (bk_ yj.out) k_ hk,Kd.jr (g:=yg) (o:=.cells #[.int .i64 yA,.bool yB,.int .i64 yD,.string yE,yu,yH] 33 (0,0)) (bk_ xU.out) k_ hk⟩))
          (case aO=>exact (by (with_reducible repeat (first|apply Kd.dZ|apply Kd.d9|apply Kd.eU));exact Kd.dR yx.out (fun _ hk=>⟨hk.1.1.1,⟨hk.1.1.2.1,hk.1.1.2.2⟩⟩)))
          (case aS=>exact (aM (by repeat (first|(with_reducible first|exact HB.out|apply av|apply ak|apply au|refine aG ?_ yL.out|refine aG ?_ yM.out|refine aG ?_ yN.out|refine aG ?_ zS.out)|exact HB.out))))
          (case aL=>have:=Ey.out;omega)
          intro IE IG ho hb hg hat
          rw [← Ez.out] at ho
          have zm:=Aside0.mk (Kd.tX (ok:=(fun k_=>some k_ ≠ (.slice EF Ao.length EG : Value).ownBlock ∧ some k_ ≠ (.slice EB Ap.length EC : Value).ownBlock ∧ k_ ≠ yt ∧ k_ ≠ yg)) (by (with_reducible repeat (first|apply Kd.dZ|apply Kd.d9|apply Kd.eU));exact Kd.dR xX.out (fun _ hk=>⟨⟨hk.1.2,⟨hk.2,⟨hk.1.1.2.1,hk.1.1.2.2⟩⟩⟩,hk.1.1.1⟩)) hg hat)
          have zn:=Aside0.mk (dU (g:=yF) (o:=.cells #[.int .i64 yA,.bool yB,.int .i64 yD,.string yE,.slice zk xY.length yZ,.slice (some zX) xV.length za] 29 (0,0)) (bk_ yc.out) hg (Kd.pW yx.out yc.out (by decide)))
          have zo:=Aside0.mk (dU (g:=yt) (o:=.cells #[.int .i64 0,.bool false,.int .i64 0,.string (⟨#[]⟩ : ByteArray),.slice none 0 0,.slice none 0 0] 33 (0,0)) (bk_ yj.out) hg (Kd.pW yx.out yj.out (by decide)))
          have zq:=Aside0.mk (dU (g:=yg) (o:=.cells #[.int .i64 yA,.bool yB,.int .i64 yD,.string yE,yu,yH] 33 (0,0)) (bk_ xU.out) hg (Kd.pW yx.out xU.out (by decide)))
          have zx:=Aside0.mk (dU (g:=xZ) (o:=.cells #[.string ((aC xV xS).f0),.int .i64 ((aC xV xS).f1.f0),.bool ((aC xV xS).f1.f1),.int .i64 ((aC xV xS).f1.f2),.string ((aC xV xS).f1.f3),.slice yP ((aC xV xS).f1.f4).length yQ,.slice yR ((aC xV xS).f1.f5).length yS] 48 (0,0)) (bk_ yw.out) hg (Kd.pW yx.out yw.out (by decide)))
          have zy:=Aside0.mk (hb)
          have zI:=Aside0.mk (ho)
          clear xX
          clear yc
          clear yj
          clear xU
          clear yw
          clear HB
          clear yx
          clear CP
          clear CQ
          have xX:=zm
          have yc:=zn
          have yj:=zo
          have xU:=zq
          have yw:=zx
          have HB:=zy
          have D7:=zI
          clear zm zn zo zq zx zy zI
          clear ho hb hg hat
          obtain ⟨Ed,Ee,EI⟩:=Kd.iH D7.out
          (first|subst EI|(injection EI with Ak CG Al;have CJ:=Ak.symm;have CK:=Al.symm;clear Ak CG Al;subst CJ;subst CK))
          refine hK.out _ _ ⟨(ah xU.out 0).trans rfl,(ah xU.out 1).trans rfl,(ah xU.out 2).trans rfl,(ah xU.out 3).trans rfl,(ah xU.out 4).trans rfl,(ah xU.out 5).trans rfl,(ah yw.out 0).trans rfl,(ah yw.out 1).trans rfl,(ah yw.out 2).trans rfl,(ah yw.out 3).trans rfl,(ah yw.out 4).trans rfl,(ah yw.out 5).trans rfl,(ah yw.out 6).trans rfl⟩ (fun hHeld=>?_)
          clear hK K
          refine cB (a':=?_) ?_ ?_
          rotate_left
          ·show Act.put _ (some 48) _ = _
           simp only [Act.put,List.setIfInBounds_toArray,List.set_cons_zero,List.set_cons_succ,aT,aU]
           rfl
          refine bE (i:=10) (N:=some 49) (v:=?_) (a':=?_) #[true,true,true,true,true,true,true,true,true,true,true,false] rfl rfl (bg HT_.out (by kernel_rfl)) (fun _ _ _ h=>h) (Or.inl ⟨by rfl,?_⟩) ?_ ?_
          rotate_left
          ·intro w'
           go_simp
           with_reducible rfl
          rotate_left
          ·simp only [Act.put,List.setIfInBounds_toArray,List.set_cons_zero,List.set_cons_succ,aT,aU]
           rfl
          refine lS (i:=11) (N:=none) #[true,true,true,true,true,true,true,true,true,true,true,true] rfl rfl (dx HT_.out (by kernel_rfl)) (by decide) (fun K hK=>?_)
          have II : IG.cell? ⟨yg,5,none⟩ = some (yH):=(ah xU.out 5).trans rfl
          have Hu:=aj xU.out 5
          have Fv:=yI.out
          have Fw:=yJ.out
          have Fx:=zY.out
          have Fy:=zu.out
          have Fz:=zB.out
          have FB:=yO.out
          refine ku (w1:=?_) (by rfl) rfl ?_ ?_
          rotate_left
          ·go_simp
           rfl
          refine hK.out _ _ ?_
          clear hK K
          refine jh (gL HT_.out (by kernel_rfl)) ?_
          try go_wp2
          go_roundg k2
          case measure=>have:=Ei.out;have:=Gm.out;omega
          case rel=>exact ⟨(wrap64 (xS + 1)),(CO),(.slice Ed CO.length Ee),(by first|rfl|(simp;done)|(simp [*];done)),H',⟨by have:=Ei.out;have:=Gm.out;omega⟩,⟨by (with_reducible repeat (first|apply Kd.dZ|apply Kd.d9|apply Kd.eU));exact Kd.dR (Kd.fq (p:=⟨yg,5,none⟩) (Kd.dR xX.out (fun k_ hk=>(⟨hk,hk.1.2.2.2⟩ : _ ∧ k_ ≠ yg))) (fun _ hk=>hk.2) (.slice Ed CO.length Ee)) (fun _ hk=>⟨hk.1.2,⟨hk.1.1.2.2.1,hk.1.1.2.2.2⟩⟩)⟩,⟨by (with_reducible repeat (first|apply Kd.dZ|apply Kd.d9|apply Kd.eU));exact Kd.dR (Kd.fq (p:=⟨yg,5,none⟩) (Kd.dR D7.out (fun k_ hk=>(⟨hk,hk.2.2⟩ : _ ∧ k_ ≠ yg))) (fun _ hk=>hk.2) (.slice Ed CO.length Ee)) (fun _ hk=>⟨hk.1.1,⟨hk.1.2.1,hk.1.2.2⟩⟩)⟩,⟨by (with_reducible repeat (first|apply aA|apply aD|apply ay));refine bq ?_ yI.out _;(with_reducible repeat (first|apply aA|apply aD|apply ay));exact yc.out⟩,⟨by (with_reducible repeat (first|apply aA|apply aD|apply ay));refine bq ?_ yJ.out _;(with_reducible repeat (first|apply aA|apply aD|apply ay));exact yj.out⟩,⟨by (with_reducible repeat (first|apply aA|apply aD|apply ay));refine aQ (cs:=#[.int .i64 yA,.bool yB,.int .i64 yD,.string yE,yu,yH]) ?_ 5 _ rfl;(with_reducible repeat (first|apply aA|apply aD|apply ay));exact xU.out⟩,⟨by repeat (first|(with_reducible first|exact HB.out|apply av|apply ak|apply au|refine aG ?_ yL.out|refine aG ?_ yM.out|refine aG ?_ yN.out|refine aG ?_ zS.out)|exact HB.out)⟩⟩
         ·rw [if_neg ES] at H
          exact absurd H (by simp)
        ·rw [if_neg c34] at H
         exact absurd H (by simp)
       ·rw [if_neg ER] at H
        exact absurd H (by simp)
      ·rw [if_neg c32] at H
       have c32b0 : decide (xS < (xV.length : Int)) = false:=decide_eq_false c32
       clear c32
       simp only [Option.some.injEq,Prod.mk.injEq] at H
       obtain ⟨rfl,rfl,rfl,rfl,rfl,rfl⟩:=H
       have Hw:=zu.out
       have Hy:=yI.out
       have Hz:=zB.out
       have H6:=yJ.out
       have FC : wr.cell? ⟨yg,0,none⟩ = some (.int .i64 yA):=(ah xU.out 0).trans rfl
       have FD : wr.cell? ⟨yg,1,none⟩ = some (.bool yB):=(ah xU.out 1).trans rfl
       have FE : wr.cell? ⟨yg,2,none⟩ = some (.int .i64 yD):=(ah xU.out 2).trans rfl
       have FH : wr.cell? ⟨yg,3,none⟩ = some (.string yE):=(ah xU.out 3).trans rfl
       have FI : wr.cell? ⟨yg,4,none⟩ = some (yu):=(ah xU.out 4).trans rfl
       have FJ : wr.cell? ⟨yg,5,none⟩ = some (yH):=(ah xU.out 5).trans rfl
       have FL:=aj xU.out 0
       have FM:=aj xU.out 1
       have FN:=aj xU.out 2
       have FP:=aj xU.out 3
       have FQ:=aj xU.out 4
       have FR:=aj xU.out 5
       have H7:=zK.out
       have H8:=zJ.out
       have FU : wr.cell? ⟨yt,0,none⟩ = some (.int .i64 0):=(ah yj.out 0).trans rfl
       have FV : wr.cell? ⟨yt,1,none⟩ = some (.bool false):=(ah yj.out 1).trans rfl
       have FW : wr.cell? ⟨yt,2,none⟩ = some (.int .i64 0):=(ah yj.out 2).trans rfl
       have FX : wr.cell? ⟨yt,3,none⟩ = some (.string (⟨#[]⟩ : ByteArray)):=(ah yj.out 3).trans rfl
       have FY : wr.cell? ⟨yt,4,none⟩ = some (.slice none 0 0):=(ah yj.out 4).trans rfl
       have FZ : wr.cell? ⟨yt,5,none⟩ = some (.slice none 0 0):=(ah yj.out 5).trans rfl
       have F3:=aj yj.out 0
       have F6:=aj yj.out 1
       have F7:=aj yj.out 2
       have F8:=aj yj.out 3
       have F9:=aj yj.out 4
       have Ga:=aj yj.out 5
       obtain ⟨DW,DX,Gn⟩:=Kd.iH xX.out
       subst Gn
       obtain ⟨Ef,Eh,Gp⟩:=Kd.iH yx.out
       subst Gp
       go_wp2
       refine bodyPost_ret (results_cell_row rfl _ _ yt 33 #[.int .i64 yA,.bool yB,.int .i64 yD,.string yE,.slice DW yG.length DX,.slice Ef yK.length Eh] (0,0) _ rfl (by (with_reducible repeat (first|apply aA|apply aD|apply ay));refine aQ (cs:=#[.int .i64 yA,.bool yB,.int .i64 yD,.string yE,.slice DW yG.length DX,.slice none 0 0]) ?_ 5 _ rfl;(with_reducible repeat (first|apply aA|apply aD|apply ay));refine aQ (cs:=#[.int .i64 yA,.bool yB,.int .i64 yD,.string yE,.slice none 0 0,.slice none 0 0]) ?_ 4 _ rfl;(with_reducible repeat (first|apply aA|apply aD|apply ay));refine aQ (cs:=#[.int .i64 yA,.bool yB,.int .i64 yD,.string (⟨#[]⟩ : ByteArray),.slice none 0 0,.slice none 0 0]) ?_ 3 _ rfl;(with_reducible repeat (first|apply aA|apply aD|apply ay));refine aQ (cs:=#[.int .i64 yA,.bool yB,.int .i64 0,.string (⟨#[]⟩ : ByteArray),.slice none 0 0,.slice none 0 0]) ?_ 2 _ rfl;(with_reducible repeat (first|apply aA|apply aD|apply ay));refine aQ (cs:=#[.int .i64 yA,.bool false,.int .i64 0,.string (⟨#[]⟩ : ByteArray),.slice none 0 0,.slice none 0 0]) ?_ 1 _ rfl;(with_reducible repeat (first|apply aA|apply aD|apply ay));refine aQ (cs:=#[.int .i64 0,.bool false,.int .i64 0,.string (⟨#[]⟩ : ByteArray),.slice none 0 0,.slice none 0 0]) ?_ 0 _ rfl;(with_reducible repeat (first|apply aA|apply aD|apply ay));exact yj.out) Tryd.underlying33 rfl (by kernel_rfl)) rfl ?_
       exact ⟨_,_,by first|rfl|(simp [aX,aY] <;> rfl)|(simp [*,aX,aY] <;> rfl),by (with_reducible repeat (first|apply Kd.dZ|apply Kd.d9|apply Kd.eU));exact Kd.dR (Kd.fq (p:=⟨yt,5,none⟩) (Kd.fq (p:=⟨yt,4,none⟩) (Kd.fq (p:=⟨yt,3,none⟩) (Kd.fq (p:=⟨yt,2,none⟩) (Kd.fq (p:=⟨yt,1,none⟩) (Kd.fq (p:=⟨yt,0,none⟩) (Kd.dR xX.out (fun k_ hk=>(⟨hk,hk.2.1⟩ : _ ∧ k_ ≠ yt))) (fun _ hk=>hk.2) (.int .i64 yA)) (fun _ hk=>hk.2) (.bool yB)) (fun _ hk=>hk.2) (.int .i64 yD)) (fun _ hk=>hk.2) (.string yE)) (fun _ hk=>hk.2) (.slice DW yG.length DX)) (fun _ hk=>hk.2) (.slice Ef yK.length Eh)) (fun _ hk=>hk.1.1),by (with_reducible repeat (first|apply Kd.dZ|apply Kd.d9|apply Kd.eU));exact Kd.dR (Kd.fq (p:=⟨yt,5,none⟩) (Kd.fq (p:=⟨yt,4,none⟩) (Kd.fq (p:=⟨yt,3,none⟩) (Kd.fq (p:=⟨yt,2,none⟩) (Kd.fq (p:=⟨yt,1,none⟩) (Kd.fq (p:=⟨yt,0,none⟩) (Kd.dR yx.out (fun k_ hk=>(⟨hk,hk.2.1⟩ : _ ∧ k_ ≠ yt))) (fun _ hk=>hk.2) (.int .i64 yA)) (fun _ hk=>hk.2) (.bool yB)) (fun _ hk=>hk.2) (.int .i64 yD)) (fun _ hk=>hk.2) (.string yE)) (fun _ hk=>hk.2) (.slice DW yG.length DX)) (fun _ hk=>hk.2) (.slice Ef yK.length Eh)) (fun _ hk=>hk.1.1),by repeat (first|(with_reducible first|exact HB.out|apply av|apply ak|apply au|refine aG ?_ yL.out|refine aG ?_ yM.out|refine aG ?_ yN.out)|exact HB.out)⟩
def lK.f (a0 : Bool) : Option (Int × Bool × Int × ByteArray × (List (S29)) × (List (S48))):=some (1,a0,0,(⟨#[]⟩ : ByteArray),([] : List (S29)),([] : List (S48)))
set_option maxHeartbeats 8000000 in
set_option maxRecDepth 100000 in
theorem lK.calls (a0 : Bool) (r1 : Int) (r2 : Bool) (r3 : Int) (r4 : ByteArray) (r5 : List (S29)) (r6 : List (S48)) (w : World) (h : lK.f a0 = some (r1,r2,r3,r4,r5,r6)) :
  Calls Tryd.prog 17 #[.bool a0] w fun e w'=>∃ D8 D9 : Value,e = .returned (.agg #[.int .i64 r1,.bool r2,.int .i64 r3,.string r4,D8,D9]) ∧ Kd.R k29 29 w' w.heap.size (fun k_=>some k_ ≠ (D9 : Value).ownBlock) D8 r5 ∧ Kd.R k48 48 w' w.heap.size (fun k_=>some k_ ≠ (D8 : Value).ownBlock) D9 r6 ∧ Below w.heap.size w w':=by
 have Gf:=Tryd.underlying29
 have HB:=Aside0.mk (Below.refl w.heap.size w)
 have H : (some (1,a0,0,(⟨#[]⟩ : ByteArray),([] : List (S29)),([] : List (S48)))) = some (r1,r2,r3,r4,r5,r6):=h
 clear h
 simp only [Option.some.injEq,Prod.mk.injEq] at H
 obtain ⟨rfl,rfl,rfl,rfl,rfl,rfl⟩:=H
 go_enter Tryd.func17,Tryd.ntmps17
 go_wp2_with (first|((with_reducible refine bH (N:=2) rfl ?_);refine bF ?hg (N:=2) ?hd (cs:=#[.int .i64 0,.bool false,.int .i64 0,.string (⟨#[]⟩ : ByteArray),.slice none 0 0,.slice none 0 0]) (t:=29) ?hr ?_;(case hd=>rfl);(case hg=>rfl);(case hr=>first|(go_simp;done)|(go_simp;rfl));intro zH hg w2 hbox hb;have zm:=Aside0.mk (aK (by repeat (first|(with_reducible first|exact HB.out|apply av|apply ak|apply au)|exact HB.out)) hb);have zn:=Aside0.mk (hbox);have zo:=Aside0.mk ((by rw [hg];exact (aM (by repeat (first|(with_reducible first|exact HB.out|apply av|apply ak|apply au)|exact HB.out))) : w.heap.size ≤ zH));have zq:=Aside0.mk ((by rw [hg];exact (aM (by repeat (first|(with_reducible first|exact HB.out|apply av|apply ak|apply au)|exact HB.out))) : w.heap.size ≤ zH));clear HB;have HB:=zm;have zw:=zn;have Ia:=zo;have EJ:=zq;clear zm zn zo zq;clear hb hbox hg;have Gq : w2.cell? ⟨zH,0,none⟩ = some (.int .i64 0):=(ah zw.out 0).trans rfl;have Gr : w2.cell? ⟨zH,1,none⟩ = some (.bool false):=(ah zw.out 1).trans rfl;have Gs : w2.cell? ⟨zH,2,none⟩ = some (.int .i64 0):=(ah zw.out 2).trans rfl;have Gt : w2.cell? ⟨zH,3,none⟩ = some (.string (⟨#[]⟩ : ByteArray)):=(ah zw.out 3).trans rfl;have Gu : w2.cell? ⟨zH,4,none⟩ = some (.slice none 0 0):=(ah zw.out 4).trans rfl;have Gv : w2.cell? ⟨zH,5,none⟩ = some (.slice none 0 0):=(ah zw.out 5).trans rfl;have Gw:=aj zw.out 0;have Gx:=aj zw.out 1;have Gy:=aj zw.out 2;have Gz:=aj zw.out 3;have GA:=aj zw.out 4;have GD:=aj zw.out 5))
 refine bodyPost_ret (results_cell_row rfl _ _ zH 29 #[.int .i64 1,.bool a0,.int .i64 0,.string (⟨#[]⟩ : ByteArray),.slice none 0 0,.slice none 0 0] (0,0) _ rfl (by (with_reducible repeat (first|apply aA|apply aD|apply ay));refine aQ (cs:=#[.int .i64 1,.bool a0,.int .i64 0,.string (⟨#[]⟩ : ByteArray),.slice none 0 0,.slice none 0 0]) ?_ 5 _ rfl;(with_reducible repeat (first|apply aA|apply aD|apply ay));refine aQ (cs:=#[.int .i64 1,.bool a0,.int .i64 0,.string (⟨#[]⟩ : ByteArray),.slice none 0 0,.slice none 0 0]) ?_ 4 _ rfl;(with_reducible repeat (first|apply aA|apply aD|apply ay));refine aQ (cs:=#[.int .i64 1,.bool a0,.int .i64 0,.string (⟨#[]⟩ : ByteArray),.slice none 0 0,.slice none 0 0]) ?_ 3 _ rfl;(with_reducible repeat (first|apply aA|apply aD|apply ay));refine aQ (cs:=#[.int .i64 1,.bool a0,.int .i64 0,.string (⟨#[]⟩ : ByteArray),.slice none 0 0,.slice none 0 0]) ?_ 2 _ rfl;(with_reducible repeat (first|apply aA|apply aD|apply ay));refine aQ (cs:=#[.int .i64 1,.bool false,.int .i64 0,.string (⟨#[]⟩ : ByteArray),.slice none 0 0,.slice none 0 0]) ?_ 1 _ rfl;(with_reducible repeat (first|apply aA|apply aD|apply ay));refine aQ (cs:=#[.int .i64 0,.bool false,.int .i64 0,.string (⟨#[]⟩ : ByteArray),.slice none 0 0,.slice none 0 0]) ?_ 0 _ rfl;(with_reducible repeat (first|apply aA|apply aD|apply ay));exact zw.out) Tryd.underlying29 rfl (by kernel_rfl)) rfl ?_
 exact ⟨_,_,by first|rfl|(simp [aX,aY] <;> rfl)|(simp [*,aX,aY] <;> rfl),by first|exact Kd.jf _ _ _ _ _|exact Kd.iZ _ _ _ _ _|exact Kd.eT _ _ _ _ _|exact Kd.jG _ _ _ _ _|exact Kd.jJ _ _ _ _ _,by first|exact Kd.jf _ _ _ _ _|exact Kd.iZ _ _ _ _ _|exact Kd.eT _ _ _ _ _|exact Kd.jG _ _ _ _ _|exact Kd.jJ _ _ _ _ _,by repeat (first|(with_reducible first|exact HB.out|apply av|apply ak|apply au|refine aG ?_ EJ.out)|exact HB.out)⟩
end Go.Proofs.YtnkkbiabloodaaaDoor.GVa
