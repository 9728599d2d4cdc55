/- Written by this session's own program (wip/gen.py) out of the translation: plain Lean functions of the Go functions, and proofs that the calls come to their answers. No conditions beside those in the statements. -/
import Derived.Test.YtpflenjhmeaeoaaDoorCp
import Derived.Test.YtpflenjhmeaeoaaDoorGUtx0
import Derived.Test.YtpflenjhmeaeoaaDoorGUtSame
namespace Go.Proofs.YtpflenjhmeaeoaaDoor.GUt
open Go.RowKit Go.Proofs.YtpflenjhmeaeoaaDoorW.PrintWords Go.Proofs.YtpflenjhmeaeoaaDoorW.PrintLast Go.Proofs.YtpflenjhmeaeoaaDoorW.PrintMore
attribute [local go_sem] fC fD gu gD eP eT fE fF
set_option linter.unusedVariables false
set_option linter.unusedSimpArgs false
mutual
def aA.l0 : Nat → List (S65) → List (S102) → List (S102) → Option ((List (S65)))
 | 0,_,_,_=>none
 | k + 1,x5,x6,x7=>if (x6.length : Int) > 0 then (aA.j1 k x5 x6 x7 true) else (aA.j1 k x5 x6 x7 (decide ((x7.length : Int) > 0)))
def aA.j1 : Nat → List (S65) → List (S102) → List (S102) → Bool → Option ((List (S65)))
 | 0,_,_,_,_=>none
 | k + 1,x5,x6,x7,OG=>if OG = true then (if (x7.length : Int) = 0 then (aA.j2 k x5 x6 x7 true) else (if (x6.length : Int) > 0 then (if 0 < (x6.length : Int) then (if 0 < (x7.length : Int) then (aA.j2 k x5 x6 x7 (Op.bytesLess (((ay x6 0).f0).toList) (((ay x7 0).f0).toList))) else (none)) else (none)) else (aA.j2 k x5 x6 x7 false))) else (some x5)
def aA.j2 : Nat → List (S65) → List (S102) → List (S102) → Bool → Option ((List (S65)))
 | 0,_,_,_,_=>none
 | k + 1,x5,x6,x7,x20=>if x20 = true then (if 0 < (x6.length : Int) then (if x5.length < 3518437208883 then (if 1 ≤ (x6.length : Int) then (aA.l0 k (x5 ++ [(⟨2,(ay x6 0).f0,(ay x6 0).f1.f0⟩ : S65)]) (x6.drop 1) x7) else (none)) else (none)) else (none)) else (if (x6.length : Int) = 0 then (aA.j3 k x5 x6 x7 true) else (if 0 < (x7.length : Int) then (if 0 < (x6.length : Int) then (aA.j3 k x5 x6 x7 (Op.bytesLess (((ay x7 0).f0).toList) (((ay x6 0).f0).toList))) else (none)) else (none)))
def aA.j3 : Nat → List (S65) → List (S102) → List (S102) → Bool → Option ((List (S65)))
 | 0,_,_,_,_=>none
 | k + 1,x5,x6,x7,x40=>if x40 = true then (if 0 < (x7.length : Int) then (if x5.length < 3518437208883 then (if 1 ≤ (x7.length : Int) then (aA.l0 k (x5 ++ [(⟨0,(ay x7 0).f0,(ay x7 0).f1.f0⟩ : S65)]) x6 (x7.drop 1)) else (none)) else (none)) else (none)) else (if 0 < (x6.length : Int) then (if 0 < (x7.length : Int) then ((dD.f k ((ay x6 0).f1.f0) ((ay x6 0).f1.f1) ((ay x6 0).f1.f2) ((ay x6 0).f1.f3) ((ay x6 0).f1.f4) ((ay x6 0).f1.f5) ((ay x7 0).f1.f0) ((ay x7 0).f1.f1) ((ay x7 0).f1.f2) ((ay x7 0).f1.f3) ((ay x7 0).f1.f4) ((ay x7 0).f1.f5)).bind fun GQ=>(if GQ = true then (if 1 ≤ (x6.length : Int) then (if 1 ≤ (x7.length : Int) then (aA.l0 k x5 (x6.drop 1) (x7.drop 1)) else (none)) else (none)) else (if x5.length < 3518437208883 then (if 1 ≤ (x6.length : Int) then (if 1 ≤ (x7.length : Int) then (aA.l0 k (x5 ++ [(⟨1,(ay x7 0).f0,(ay x7 0).f1.f0⟩ : S65)]) (x6.drop 1) (x7.drop 1)) else (none)) else (none)) else (none)))) else (none)) else (none))
end
def aA.f (k : Nat) (Ct : Int) (Bg : List (S102)) (CF : Int) (Bh : List (S102)) : Option ((List (S65))):=aA.l0 k ([] : List (S65)) Bg Bh
theorem aA.dV : ∀ k,(∀ y0 y1 y2,LeO (aA.l0 k y0 y1 y2) (aA.l0 (k + 1) y0 y1 y2)) ∧ (∀ y0 y1 y2 y3,LeO (aA.j1 k y0 y1 y2 y3) (aA.j1 (k + 1) y0 y1 y2 y3)) ∧ (∀ y0 y1 y2 y3,LeO (aA.j2 k y0 y1 y2 y3) (aA.j2 (k + 1) y0 y1 y2 y3)) ∧ (∀ y0 y1 y2 y3,LeO (aA.j3 k y0 y1 y2 y3) (aA.j3 (k + 1) y0 y1 y2 y3))
 | 0=>⟨fun _ _ _ r h=>by simp [aA.l0] at h,fun _ _ _ _ r h=>by simp [aA.j1] at h,fun _ _ _ _ r h=>by simp [aA.j2] at h,fun _ _ _ _ r h=>by simp [aA.j3] at h⟩
 | k + 1=>by
  obtain ⟨GV,ih1,ih2,ih3⟩:=aA.dV k
  refine ⟨?_,?_,?_,?_⟩
  ·intro y0 y1 y2
   unfold aA.l0
   repeat' first
   | (with_reducible exact GV _ _ _)
   | (with_reducible exact ih1 _ _ _ _)
   | (with_reducible exact ih2 _ _ _ _)
   | (with_reducible exact ih3 _ _ _ _)
   | (with_reducible exact dD.mono _ _ _ _ _ _ _ _ _ _ _ _ _)
   | (with_reducible exact LeO.refl _)
   | (with_reducible exact LeO.none _)
   | (with_reducible refine LeO.ite ?_ ?_)
   | (with_reducible refine LeO.bind ?_ (fun _=>?_))
   | exact GV _ _ _
   | exact ih1 _ _ _ _
   | exact ih2 _ _ _ _
   | exact ih3 _ _ _ _
   | exact dD.mono _ _ _ _ _ _ _ _ _ _ _ _ _
   | exact LeO.none _
   | refine LeO.ite ?_ ?_
   | refine LeO.bind ?_ (fun _=>?_)
  ·intro y0 y1 y2 y3
   unfold aA.j1
   repeat' first
   | (with_reducible exact GV _ _ _)
   | (with_reducible exact ih1 _ _ _ _)
   | (with_reducible exact ih2 _ _ _ _)
   | (with_reducible exact ih3 _ _ _ _)
   | (with_reducible exact dD.mono _ _ _ _ _ _ _ _ _ _ _ _ _)
   | (with_reducible exact LeO.refl _)
   | (with_reducible exact LeO.none _)
   | (with_reducible refine LeO.ite ?_ ?_)
   | (with_reducible refine LeO.bind ?_ (fun _=>?_))
   | exact GV _ _ _
   | exact ih1 _ _ _ _
   | exact ih2 _ _ _ _
   | exact ih3 _ _ _ _
   | exact dD.mono _ _ _ _ _ _ _ _ _ _ _ _ _
   | exact LeO.none _
   | refine LeO.ite ?_ ?_
   | refine LeO.bind ?_ (fun _=>?_)
  ·intro y0 y1 y2 y3
   unfold aA.j2
   repeat' first
   | (with_reducible exact GV _ _ _)
   | (with_reducible exact ih1 _ _ _ _)
   | (with_reducible exact ih2 _ _ _ _)
   | (with_reducible exact ih3 _ _ _ _)
   | (with_reducible exact dD.mono _ _ _ _ _ _ _ _ _ _ _ _ _)
   | (with_reducible exact LeO.refl _)
   | (with_reducible exact LeO.none _)
   | (with_reducible refine LeO.ite ?_ ?_)
   | (with_reducible refine LeO.bind ?_ (fun _=>?_))
   | exact GV _ _ _
   | exact ih1 _ _ _ _
   | exact ih2 _ _ _ _
   | exact ih3 _ _ _ _
   | exact dD.mono _ _ _ _ _ _ _ _ _ _ _ _ _
   | exact LeO.none _
   | refine LeO.ite ?_ ?_
   | refine LeO.bind ?_ (fun _=>?_)
  ·intro y0 y1 y2 y3
   unfold aA.j3
   repeat' first
   | (with_reducible exact GV _ _ _)
   | (with_reducible exact ih1 _ _ _ _)
   | (with_reducible exact ih2 _ _ _ _)
   | (with_reducible exact ih3 _ _ _ _)
   | (with_reducible exact dD.mono _ _ _ _ _ _ _ _ _ _ _ _ _)
   | (with_reducible exact LeO.refl _)
   | (with_reducible exact LeO.none _)
   | (with_reducible refine LeO.ite ?_ ?_)
   | (with_reducible refine LeO.bind ?_ (fun _=>?_))
   | exact GV _ _ _
   | exact ih1 _ _ _ _
   | exact ih2 _ _ _ _
   | exact ih3 _ _ _ _
   | exact dD.mono _ _ _ _ _ _ _ _ _ _ _ _ _
   | exact LeO.none _
   | refine LeO.ite ?_ ?_
   | refine LeO.bind ?_ (fun _=>?_)
theorem aA.mono : ∀ a0 a1 a2 a3 k,LeO (aA.f k a0 a1 a2 a3) (aA.f (k + 1) a0 a1 a2 a3):=by
 intro a0 a1 a2 a3 k
 obtain ⟨GV,ih1,ih2,ih3⟩:=aA.dV k
 unfold aA.f
 repeat' first
   | (with_reducible exact GV _ _ _)
   | (with_reducible exact ih1 _ _ _ _)
   | (with_reducible exact ih2 _ _ _ _)
   | (with_reducible exact ih3 _ _ _ _)
   | (with_reducible exact dD.mono _ _ _ _ _ _ _ _ _ _ _ _ _)
   | (with_reducible exact LeO.refl _)
   | (with_reducible exact LeO.none _)
   | (with_reducible refine LeO.ite ?_ ?_)
   | (with_reducible refine LeO.bind ?_ (fun _=>?_))
   | exact GV _ _ _
   | exact ih1 _ _ _ _
   | exact ih2 _ _ _ _
   | exact ih3 _ _ _ _
   | exact dD.mono _ _ _ _ _ _ _ _ _ _ _ _ _
   | exact LeO.none _
   | refine LeO.ite ?_ ?_
   | refine LeO.bind ?_ (fun _=>?_)
def aA.T4 : Bool × List (List Nat × List Nat):=(true,[([],[]),([0],[0]),([1],[1]),([2],[2]),([3],[3]),([4,3],[3,4]),([5,3],[3,5]),([6,3,3],[3,6]),([7],[7]),([8,7],[7,8]),([9,7],[7,9]),([10,7],[7,10]),([7],[7]),([12,7],[7,12]),([13,7],[7,13]),([14,7],[7,14]),([11,15,7],[7,11,15]),([7,16,3],[3,7,16]),([3,17],[3,17]),([18,7],[18])])
def aA.B4 : List Nat:=[0,1,3,7,15,31,63,127,255,511,1023,2047,255,4351,12543,28927,65535,131071,262143,524287]
theorem aA.yE : gM .any (opsOf Tryd.f27 4) = aA.T4:=by kernel_rfl
theorem aA.vM : eY aA.T4.2 aA.B4 = true:=by kernel_rfl
def aA.T5 : Bool × List (List Nat × List Nat):=(true,[([],[]),([0],[0]),([1],[1]),([2],[2]),([3],[3]),([4,3],[3,4]),([5,3],[3,5]),([6,3],[3,6]),([3],[3]),([8,3],[3,8]),([9,3],[3,9]),([10,3],[3,10]),([7,11,3],[3,7,11]),([3,12],[3,12]),([13,3],[13])])
def aA.B5 : List Nat:=[0,1,3,7,15,31,63,127,15,271,783,1807,4095,8191,16383]
theorem aA.qy : gM .any (opsOf Tryd.f27 5) = aA.T5:=by kernel_rfl
theorem aA.l8 : eY aA.T5.2 aA.B5 = true:=by kernel_rfl
def aA.T6 : Bool × List (List Nat × List Nat):=(true,[([],[]),([0],[0]),([1],[1]),([2],[2]),([],[]),([4],[4]),([5],[5]),([6],[6]),([3,7],[3,7]),([8],[8]),([9,8],[9])])
def aA.B6 : List Nat:=[0,1,3,7,0,16,48,112,255,511,1023]
theorem aA.qO : gM .any (opsOf Tryd.f27 6) = aA.T6:=by kernel_rfl
theorem aA.mW : eY aA.T6.2 aA.B6 = true:=by kernel_rfl
def aA.T7 : Bool × List (List Nat × List Nat):=(true,[([],[]),([],[]),([1],[1]),([2],[2]),([3],[3]),([],[]),([5],[5]),([6],[6]),([7],[7]),([8],[8]),([4,9],[4,9]),([10],[10]),([0,11],[0,11]),([12,12,0,1,2,3,4,5,6,7,8,9,10,11,12],[0,12])])
def aA.B7 : List Nat:=[0,0,2,6,14,0,32,96,224,480,1022,2046,4095,8191]
theorem aA.z8 : gM .any (opsOf Tryd.f27 7) = aA.T7:=by kernel_rfl
theorem aA.zG : eY aA.T7.2 aA.B7 = true:=by kernel_rfl
def aA.T9 : Bool × List (List Nat × List Nat):=(true,[([],[]),([],[]),([1],[1]),([2],[2]),([3],[3]),([],[]),([5],[5]),([6],[6]),([7],[7]),([8],[8]),([4,9],[4,9]),([10],[10]),([0,11],[0,11]),([12,12,0,1,2,3,4,5,6,7,8,9,10,11,12],[0,12])])
def aA.B9 : List Nat:=[0,0,2,6,14,0,32,96,224,480,1022,2046,4095,8191]
theorem aA.rM : gM .any (opsOf Tryd.f27 9) = aA.T9:=by kernel_rfl
theorem aA.oz : eY aA.T9.2 aA.B9 = true:=by kernel_rfl
def aA.T11 : Bool × List (List Nat × List Nat):=(true,[([],[]),([],[]),([1],[1]),([2],[2]),([3],[3]),([],[]),([5],[5]),([6],[6]),([7],[7]),([8],[8]),([4,9],[4,9]),([10],[10]),([0,11],[0,11]),([12,12,0,1,2,3,4,5,6,7,8,9,10,11,12],[0,12])])
def aA.B11 : List Nat:=[0,0,2,6,14,0,32,96,224,480,1022,2046,4095,8191]
theorem aA.zH : gM .any (opsOf Tryd.f27 11) = aA.T11:=by kernel_rfl
theorem aA.yF : eY aA.T11.2 aA.B11 = true:=by kernel_rfl
set_option maxHeartbeats 8000000 in
set_option maxRecDepth 100000 in
theorem aA.calls (k : Nat) (Ct : Int) (AP : Nat → Prop) (BG : Option Addr) (BH : Nat) (Bg : List (S102)) (CF : Int) (AQ : Nat → Prop) (Cq : Option Addr) (Cr : Nat) (Bh : List (S102)) (r : List (S65)) (w : World) (K8 : Kd.V fP 102 w w.heap.size (fun k_=>AP k_) (.slice BG Bg.length BH) Bg) (K9 : Kd.V fP 102 w w.heap.size (fun k_=>AQ k_) (.slice Cq Bh.length Cr) Bh) (h : aA.f k Ct Bg CF Bh = some r) :
  Calls Tryd.prog 27 #[.agg #[.int .u64 Ct,.slice BG Bg.length BH],.agg #[.int .u64 CF,.slice Cq Bh.length Cr]] w fun e w'=>∃ NI : Value,e = .returned (NI) ∧ Kd.R k65 65 w' w.heap.size (fun k_=>(w.heap.size ≤ k_)) NI r ∧ Below w.heap.size w w':=by
 have OH:=Tryd.underlying59
 have OI:=Tryd.underlying25
 have OJ:=Tryd.underlying65
 have Cn:=Aside0.mk (show Kd.V fP 102 w w.heap.size (fun k_=>((AP k_ ∨ AQ k_) ∨ w.heap.size ≤ k_)) (.slice BG Bg.length BH) Bg from Kd.dO K8 (fun k_ hk=>.inl (.inl hk)))
 have Co:=Aside0.mk (show Kd.V fP 102 w w.heap.size (fun k_=>((AP k_ ∨ AQ k_) ∨ w.heap.size ≤ k_)) (.slice Cq Bh.length Cr) Bh from Kd.dO K9 (fun k_ hk=>.inl (.inr hk)))
 have HB:=Aside0.mk (Below.refl w.heap.size w)
 have H : (aA.l0 k ([] : List (S65)) Bg Bh) = some r:=h
 clear h
 have H':=Aside0.mk H
 clear H
 go_enter Tryd.func27,Tryd.ntmps27
 try go_wp2_with (first|((with_reducible refine dA (N:=2) rfl ?_);(try (refine gH (by rfl) ?_;dsimp only));refine dG ?hg (N:=2) ?hd (cs:=#[.int .u64 Ct,.slice BG Bg.length BH]) (t:=59) ?hr ?_;(case hd=>rfl);(case hg=>rfl);(case hr=>first|(go_simp;done)|(go_simp;rfl));intro AA hg w3 hbox hb;have Bj:=Aside0.mk (Kd.dx (Kd.kF (kv_ Cn.out) AA (Nat.le_of_eq hg.symm)) hb);have Bl:=Aside0.mk (Kd.dx (Kd.kF (kv_ Co.out) AA (Nat.le_of_eq hg.symm)) hb);have Bn:=Aside0.mk (aJ hb_ hb);have Bo:=Aside0.mk (hbox);have Bp:=Aside0.mk ((by rw [hg];exact (aY hb_) : w.heap.size ≤ AA));have Bq:=Aside0.mk ((by rw [hg];exact (aY hb_) : w.heap.size ≤ AA));clear Cn;clear Co;clear HB;have Cn:=Bj;have Co:=Bl;have HB:=Bn;have Aq:=Bo;have NJ:=Bp;have NK:=Bq;clear Bj Bl Bn Bo Bp Bq;clear hb hbox hg)|((with_reducible refine dA (N:=3) rfl ?_);(try (refine gH (by rfl) ?_;dsimp only));refine dG ?hg (N:=3) ?hd (cs:=#[.int .u64 CF,.slice Cq Bh.length Cr]) (t:=59) ?hr ?_;(case hd=>rfl);(case hg=>rfl);(case hr=>first|(go_simp;done)|(go_simp;rfl));intro AB hg w4 hbox hb;have Bj:=Aside0.mk (Kd.dx (Kd.kF (kv_ Cn.out) AB (Nat.le_of_eq hg.symm)) hb);have Bl:=Aside0.mk (Kd.dx (Kd.kF (kv_ Co.out) AB (Nat.le_of_eq hg.symm)) hb);have Bn:=Aside0.mk (aM (g:=AA) (o:=.cells #[.int .u64 Ct,.slice BG Bg.length BH] 59 (0,0)) (bk_ Aq.out) hb);have Bo:=Aside0.mk (aJ hb_ hb);have Bp:=Aside0.mk (hbox);have Bq:=Aside0.mk ((by rw [hg];exact (aY hb_) : w.heap.size ≤ AB));have Br:=Aside0.mk ((by rw [hg];exact (aY hb_) : w.heap.size ≤ AB));have Bt:=Aside0.mk ((by rw [hg];exact Nat.ne_of_lt (dn (g:=AA) (o:=.cells #[.int .u64 Ct,.slice BG Bg.length BH] 59 (0,0)) (bk_ Aq.out)) : AA ≠ AB));have Da:=Aside0.mk ((by rw [hg];exact Nat.ne_of_gt (dn (g:=AA) (o:=.cells #[.int .u64 Ct,.slice BG Bg.length BH] 59 (0,0)) (bk_ Aq.out)) : AB ≠ AA));clear Cn;clear Co;clear Aq;clear HB;have Cn:=Bj;have Co:=Bl;have Aq:=Bn;have HB:=Bo;have Au:=Bp;have NM:=Bq;have NP:=Br;have K5:=Bt;have K7:=Da;clear Bj Bl Bn Bo Bp Bq Br Bt Da;clear hb hbox hg))
 have Bj:=Aside0.mk (Kd.bA Cn.out)
 have Bl:=Aside0.mk (Kd.bA Co.out)
 have Bn:=Aside0.mk (aG Aq.out)
 have Bo:=Aside0.mk (aG Au.out)
 have Bp:=Aside0.mk (aZ HB.out)
 clear Cn
 clear Co
 clear Aq
 clear Au
 clear HB
 have Cn:=Bj
 have Co:=Bl
 have Aq:=Bn
 have Au:=Bo
 have HB:=Bp
 clear Bj Bl Bn Bo Bp
 refine fu (n:=6) (S:=fun w'=>w'.cell? ⟨AA,0,none⟩ = some (.int .u64 Ct) ∧ w'.cell? ⟨AA,1,none⟩ = some (.slice BG Bg.length BH) ∧ w'.cell? ⟨AB,0,none⟩ = some (.int .u64 CF) ∧ w'.cell? ⟨AB,1,none⟩ = some (.slice Cq Bh.length Cr)) (ds:=[]) #[O,O,O,O,O,O] (by kernel_rfl) rfl rfl ⟨(ah Aq.out 0).trans rfl,(ah Aq.out 1).trans rfl,(ah Au.out 0).trans rfl,(ah Au.out 1).trans rfl⟩ (fun hHeld=>?_)
 generalize w4.drew = w5 at Cn Co Aq Au HB hHeld ⊢
 refine eD (i:=0) (N:=some 8) (v:=?_) (a':=?_) #[I,O,O,O,O,O] rfl rfl (by kernel_rfl) (fun _ _ _ h=>h) (Or.inl ⟨by rfl,?_⟩) ?_ ?_
 rotate_left
 ·intro w'
  go_simp
  with_reducible rfl
 rotate_left
 ·simp only [Act.put,List.setIfInBounds_toArray,List.set_cons_zero,List.set_cons_succ,bH,bI]
  rfl
 refine eD (i:=2) (N:=some 10) (v:=?_) (a':=?_) #[I,O,I,O,O,O] rfl rfl (by kernel_rfl) (fun _ _ _ h=>h) (Or.inl ⟨by rfl,?_⟩) ?_ ?_
 rotate_left
 ·intro w'
  go_simp
  with_reducible rfl
 rotate_left
 ·simp only [Act.put,List.setIfInBounds_toArray,List.set_cons_zero,List.set_cons_succ,bH,bI]
  rfl
 refine iy (i:=1) (N:=some 9) (v:=?_) (a':=?_) #[I,I,I,O,O,O] rfl rfl (by kernel_rfl) (fun _ _ _ h=>h) (Or.inl ⟨by rfl,?_⟩) hHeld ?_ ?_
 rotate_left
 ·rintro w' ⟨s0,s1,s2,s3⟩
  go_simp
  with_reducible rfl
 rotate_left
 ·simp only [Act.put,List.setIfInBounds_toArray,List.set_cons_zero,List.set_cons_succ,bH,bI]
  rfl
 refine eD (i:=4) (N:=some 6) (v:=?_) (a':=?_) #[I,I,I,O,I,O] rfl rfl (by kernel_rfl) (fun _ _ _ h=>h) (Or.inl ⟨by rfl,?_⟩) ?_ ?_
 rotate_left
 ·intro w'
  go_simp
  with_reducible rfl
 rotate_left
 ·simp only [Act.put,List.setIfInBounds_toArray,List.set_cons_zero,List.set_cons_succ,bH,bI]
  rfl
 refine iy (i:=3) (N:=some 11) (v:=?_) (a':=?_) #[I,I,I,I,I,O] rfl rfl (by kernel_rfl) (fun _ _ _ h=>h) (Or.inl ⟨by rfl,?_⟩) hHeld ?_ ?_
 rotate_left
 ·rintro w' ⟨s0,s1,s2,s3⟩
  go_simp
  with_reducible rfl
 rotate_left
 ·simp only [Act.put,List.setIfInBounds_toArray,List.set_cons_zero,List.set_cons_succ,bH,bI]
  rfl
 refine eD (i:=5) (N:=some 7) (v:=?_) (a':=?_) #[I,I,I,I,I,I] rfl rfl (by kernel_rfl) (fun _ _ _ h=>h) (Or.inl ⟨by rfl,?_⟩) ?_ ?_
 rotate_left
 ·intro w'
  go_simp
  with_reducible rfl
 rotate_left
 ·simp only [Act.put,List.setIfInBounds_toArray,List.set_cons_zero,List.set_cons_succ,bH,bI]
  rfl
 refine gJ (by kernel_rfl) ?_
 try go_wp2
 go_loopg [5,6,7] k (fun kq v5 v6 v7 w'=>∃ (Bf : List (S65)) (Ap : List (S102)) (Ao : List (S102)),Aside0 (aA.l0 kq Bf Ap Ao = some r) ∧ Aside0 (kq ≤ k) ∧ Aside0 (Kd.R k65 65 w' w.heap.size (fun k_=>(w.heap.size ≤ k_)) v5 Bf) ∧ Aside0 (Kd.V fP 102 w' w.heap.size (fun k_=>((AP k_ ∨ AQ k_) ∨ w.heap.size ≤ k_) ∧ some k_ ≠ (v5 : Value).ownBlock ∧ k_ ≠ AA ∧ k_ ≠ AB) v6 Ap) ∧ Aside0 (Kd.V fP 102 w' w.heap.size (fun k_=>((AP k_ ∨ AQ k_) ∨ w.heap.size ≤ k_) ∧ some k_ ≠ (v5 : Value).ownBlock ∧ k_ ≠ AA ∧ k_ ≠ AB) v7 Ao) ∧ Aside0 (Kd.V fP 102 w' w.heap.size (fun k_=>((AP k_ ∨ AQ k_) ∨ w.heap.size ≤ k_) ∧ some k_ ≠ (v5 : Value).ownBlock ∧ k_ ≠ AA ∧ k_ ≠ AB) (.slice BG Bg.length BH) Bg) ∧ Aside0 (Kd.V fP 102 w' w.heap.size (fun k_=>((AP k_ ∨ AQ k_) ∨ w.heap.size ≤ k_) ∧ some k_ ≠ (v5 : Value).ownBlock ∧ k_ ≠ AA ∧ k_ ≠ AB) (.slice Cq Bh.length Cr) Bh) ∧ Aside0 (w'.heap[AA]? = some (.cells #[.int .u64 Ct,(.slice BG Bg.length BH)] 59 (0,0))) ∧ Aside0 (w'.heap[AB]? = some (.cells #[.int .u64 CF,(.slice Cq Bh.length Cr)] 59 (0,0))) ∧ Aside0 (Below w.heap.size w w'))
 case atStart=>exact ⟨(([] : List (S65))),(Bg),(Bh),H',⟨Nat.le_refl _⟩,⟨by first|exact Kd.lT _ _ _ _ _|exact Kd.uW _ _ _ _ _|exact Kd.sI _ _ _ _ _|exact Kd.zl _ _ _ _ _|exact Kd.zn _ _ _ _ _⟩,⟨by (with_reducible repeat (first|apply Kd.bP|apply Kd.bQ|apply Kd.bA));exact Kd.dO Cn.out (fun _ hk=>⟨hk.1.1,⟨(by simp [Value.ownBlock]),⟨hk.1.2,hk.2⟩⟩⟩)⟩,⟨by (with_reducible repeat (first|apply Kd.bP|apply Kd.bQ|apply Kd.bA));exact Kd.dO Co.out (fun _ hk=>⟨hk.1.1,⟨(by simp [Value.ownBlock]),⟨hk.1.2,hk.2⟩⟩⟩)⟩,⟨by (with_reducible repeat (first|apply Kd.bP|apply Kd.bQ|apply Kd.bA));exact Kd.dO Cn.out (fun _ hk=>⟨hk.1.1,⟨(by simp [Value.ownBlock]),⟨hk.1.2,hk.2⟩⟩⟩)⟩,⟨by (with_reducible repeat (first|apply Kd.bP|apply Kd.bQ|apply Kd.bA));exact Kd.dO Co.out (fun _ hk=>⟨hk.1.1,⟨(by simp [Value.ownBlock]),⟨hk.1.2,hk.2⟩⟩⟩)⟩,⟨by (with_reducible repeat (first|apply aC|apply aG|apply aH));exact Aq.out⟩,⟨by (with_reducible repeat (first|apply aC|apply aG|apply aH));exact Au.out⟩,⟨hb_⟩⟩
 case round =>
  clear H'
  try clear c1
  try clear c2
  try clear p2
  obtain ⟨Bf,Ap,Ao,HA,Gd,AJ,Ay,Aw,Al,Am,Aq,Au,HB⟩:=hrel
  cases gk with
  | zero=>exact absurd HA.out (by simp [aA.l0])
  | succ k1 =>
   have H:=HA.out
   clear HA
   simp only [aA.l0] at H
   have Ng:=Aside0.mk H
   clear H
   go_upto_region 3 with (fail)
   go_cut [19] (fun v19 wc=>∃ (kq : Nat) (Gl : Bool),v19 = .bool Gl ∧ Aside0 (aA.j1 kq Bf Ap Ao Gl = some r) ∧ Aside0 (kq ≤ k1) ∧ Aside0 (Kd.R k65 65 wc w.heap.size (fun k_=>(w.heap.size ≤ k_)) u5 Bf) ∧ Aside0 (Kd.V fP 102 wc w.heap.size (fun k_=>((AP k_ ∨ AQ k_) ∨ w.heap.size ≤ k_) ∧ some k_ ≠ (u5 : Value).ownBlock ∧ k_ ≠ AA ∧ k_ ≠ AB) u6 Ap) ∧ Aside0 (Kd.V fP 102 wc w.heap.size (fun k_=>((AP k_ ∨ AQ k_) ∨ w.heap.size ≤ k_) ∧ some k_ ≠ (u5 : Value).ownBlock ∧ k_ ≠ AA ∧ k_ ≠ AB) u7 Ao) ∧ Aside0 (Kd.V fP 102 wc w.heap.size (fun k_=>((AP k_ ∨ AQ k_) ∨ w.heap.size ≤ k_) ∧ some k_ ≠ (u5 : Value).ownBlock ∧ k_ ≠ AA ∧ k_ ≠ AB) (.slice BG Bg.length BH) Bg) ∧ Aside0 (Kd.V fP 102 wc w.heap.size (fun k_=>((AP k_ ∨ AQ k_) ∨ w.heap.size ≤ k_) ∧ some k_ ≠ (u5 : Value).ownBlock ∧ k_ ≠ AA ∧ k_ ≠ AB) (.slice Cq Bh.length Cr) Bh) ∧ Aside0 (wc.heap[AA]? = some (.cells #[.int .u64 Ct,(.slice BG Bg.length BH)] 59 (0,0))) ∧ Aside0 (wc.heap[AB]? = some (.cells #[.int .u64 CF,(.slice Cq Bh.length Cr)] 59 (0,0))) ∧ Aside0 (Below w.heap.size w wc))
   case first =>
    have H:=Ng.out
    clear Ng
    by_cases c7 : (Ap.length : Int) > 0
    ·rw [if_pos c7] at H
     have c7b0 : decide (0 < (Ap.length : Int)) = true:=decide_eq_true c7
     have c7b1 : decide (0 < Ap.length) = true:=decide_eq_true (by omega)
     clear c7
     (first|rw [c7b0]|(simp only [bH,bI];rw [c7b0])|skip)
     have H':=Aside0.mk H
     clear H
     obtain ⟨Qg,Qh,OL⟩:=Kd.fO Ay.out
     subst OL
     go_wp2
     go_meet
     case rel=>exact ⟨_,(true),(by first|rfl|(simp;done)|(simp [*];done)),H',⟨by have:=Gd.out;first|omega|exact Nat.le_refl _⟩,⟨by (with_reducible repeat (first|apply Kd.fA|apply Kd.fB|apply Kd.d9));exact AJ.out⟩,⟨by (with_reducible repeat (first|apply Kd.bP|apply Kd.bQ|apply Kd.bA));exact Ay.out⟩,⟨by (with_reducible repeat (first|apply Kd.bP|apply Kd.bQ|apply Kd.bA));exact Aw.out⟩,⟨by (with_reducible repeat (first|apply Kd.bP|apply Kd.bQ|apply Kd.bA));exact Al.out⟩,⟨by (with_reducible repeat (first|apply Kd.bP|apply Kd.bQ|apply Kd.bA));exact Am.out⟩,⟨by (with_reducible repeat (first|apply aC|apply aG|apply aH));exact Aq.out⟩,⟨by (with_reducible repeat (first|apply aC|apply aG|apply aH));exact Au.out⟩,⟨hb_⟩⟩
    ·rw [if_neg c7] at H
     have c7b0 : decide (0 < (Ap.length : Int)) = false:=decide_eq_false c7
     have c7b1 : decide (0 < Ap.length) = false:=decide_eq_false (by omega)
     clear c7
     (first|rw [c7b0]|(simp only [bH,bI];rw [c7b0])|skip)
     have H':=Aside0.mk H
     clear H
     obtain ⟨Qi,Qj,OM⟩:=Kd.fO Ay.out
     subst OM
     obtain ⟨OO,OP,Nh⟩:=Kd.fO Aw.out
     subst Nh
     go_wp2
     go_meet
     case rel=>exact ⟨_,(decide ((Ao.length : Int) > 0)),(by first|rfl|(simp;done)|(simp [*];done)),H',⟨by have:=Gd.out;first|omega|exact Nat.le_refl _⟩,⟨by (with_reducible repeat (first|apply Kd.fA|apply Kd.fB|apply Kd.d9));exact AJ.out⟩,⟨by (with_reducible repeat (first|apply Kd.bP|apply Kd.bQ|apply Kd.bA));exact Ay.out⟩,⟨by (with_reducible repeat (first|apply Kd.bP|apply Kd.bQ|apply Kd.bA));exact Aw.out⟩,⟨by (with_reducible repeat (first|apply Kd.bP|apply Kd.bQ|apply Kd.bA));exact Al.out⟩,⟨by (with_reducible repeat (first|apply Kd.bP|apply Kd.bQ|apply Kd.bA));exact Am.out⟩,⟨by (with_reducible repeat (first|apply aC|apply aG|apply aH));exact Aq.out⟩,⟨by (with_reducible repeat (first|apply aC|apply aG|apply aH));exact Au.out⟩,⟨hb_⟩⟩
   case rest =>
    clear Ng
    try clear c1
    try clear c2
    try clear p2
    try clear c7
    try clear c7b0
    try clear c7b1
    try clear p2
    obtain ⟨kq,Gl,rfl,HA,GR,AJ,Ay,Aw,Al,Am,Aq,Au,HB⟩:=hcut
    cases kq with
    | zero=>exact absurd HA.out (by simp [aA.j1])
    | succ Mt =>
     have H:=HA.out
     clear HA
     simp only [aA.j1] at H
     by_cases c11 : Gl = true
     ·subst c11
      have H1 : (if (Ao.length : Int) = 0 then (aA.j2 Mt Bf Ap Ao true) else (if (Ap.length : Int) > 0 then (if 0 < (Ap.length : Int) then (if 0 < (Ao.length : Int) then (aA.j2 Mt Bf Ap Ao (Op.bytesLess (((ay Ap 0).f0).toList) (((ay Ao 0).f0).toList))) else (none)) else (none)) else (aA.j2 Mt Bf Ap Ao false))) = some r:=by rw [if_pos rfl] at H;exact H
      clear H
      have H:=H1
      clear H1
      have J4:=Aside0.mk H
      clear H
      go_upto_region 4 with (fail)
      go_cut [20] (fun v20 wc=>∃ (kq : Nat) (EG : Bool),v20 = .bool EG ∧ Aside0 (aA.j2 kq Bf Ap Ao EG = some r) ∧ Aside0 (kq ≤ Mt) ∧ Aside0 (Kd.R k65 65 wc w.heap.size (fun k_=>(w.heap.size ≤ k_)) u5 Bf) ∧ Aside0 (Kd.V fP 102 wc w.heap.size (fun k_=>((AP k_ ∨ AQ k_) ∨ w.heap.size ≤ k_) ∧ some k_ ≠ (u5 : Value).ownBlock ∧ k_ ≠ AA ∧ k_ ≠ AB) u6 Ap) ∧ Aside0 (Kd.V fP 102 wc w.heap.size (fun k_=>((AP k_ ∨ AQ k_) ∨ w.heap.size ≤ k_) ∧ some k_ ≠ (u5 : Value).ownBlock ∧ k_ ≠ AA ∧ k_ ≠ AB) u7 Ao) ∧ Aside0 (Kd.V fP 102 wc w.heap.size (fun k_=>((AP k_ ∨ AQ k_) ∨ w.heap.size ≤ k_) ∧ some k_ ≠ (u5 : Value).ownBlock ∧ k_ ≠ AA ∧ k_ ≠ AB) (.slice BG Bg.length BH) Bg) ∧ Aside0 (Kd.V fP 102 wc w.heap.size (fun k_=>((AP k_ ∨ AQ k_) ∨ w.heap.size ≤ k_) ∧ some k_ ≠ (u5 : Value).ownBlock ∧ k_ ≠ AA ∧ k_ ≠ AB) (.slice Cq Bh.length Cr) Bh) ∧ Aside0 (wc.heap[AA]? = some (.cells #[.int .u64 Ct,(.slice BG Bg.length BH)] 59 (0,0))) ∧ Aside0 (wc.heap[AB]? = some (.cells #[.int .u64 CF,(.slice Cq Bh.length Cr)] 59 (0,0))) ∧ Aside0 (Below w.heap.size w wc))
      case first =>
       have H:=J4.out
       clear J4
       by_cases c13 : (Ao.length : Int) = 0
       ·rw [if_pos c13] at H
        have c13b0 : ((Ao.length : Int) == 0) = true:=beq_iff_eq.mpr c13
        have c13b1 : ((Ao.length : Int) != 0) = false:=bne_eq_false_iff_eq.mpr c13
        clear c13
        (first|rw [c13b0]|(simp only [bH,bI];rw [c13b0])|skip)
        have H':=Aside0.mk H
        clear H
        try go_wp2
        have Bj:=Aside0.mk (Kd.d9 AJ.out)
        have Bl:=Aside0.mk (Kd.bA Ay.out)
        have Bn:=Aside0.mk (Kd.bA Aw.out)
        have Bo:=Aside0.mk (Kd.bA Al.out)
        have Bp:=Aside0.mk (Kd.bA Am.out)
        have Bq:=Aside0.mk (aG Aq.out)
        have Br:=Aside0.mk (aG Au.out)
        have Bt:=Aside0.mk (aZ HB.out)
        clear AJ
        clear Ay
        clear Aw
        clear Al
        clear Am
        clear Aq
        clear Au
        clear HB
        have AJ:=Bj
        have Ay:=Bl
        have Aw:=Bn
        have Al:=Bo
        have Am:=Bp
        have Aq:=Bq
        have Au:=Br
        have HB:=Bt
        clear Bj Bl Bn Bo Bp Bq Br Bt
        obtain ⟨OQ,OT,La⟩:=Kd.fO Aw.out
        (first|subst La|(injection La with BI CZ BJ;have C8:=BI.symm;have C9:=BJ.symm;clear BI CZ BJ;subst C8;subst C9))
        refine fu (n:=20) (S:=fun w'=>True) (ds:=[]) #[O,O,O,O,O,O,O,O,O,O,O,O,O,O,O,O,O,O,O,O] (by kernel_rfl) rfl rfl trivial (fun hHeld=>?_);refine dR aA.yE aA.vM (fun HT_ HW_=>?_)
        generalize wc.drew = Qk at AJ Ay Aw Al Am Aq Au HB hHeld ⊢
        refine pu_ 0 21 #[I,O,O,O,O,O,O,O,O,O,O,O,O,O,O,O,O,O,O,O] HT_.out ?_
        refine pu_ 1 22 #[I,I,O,O,O,O,O,O,O,O,O,O,O,O,O,O,O,O,O,O] HT_.out ?_
        refine pu_ 2 23 #[I,I,I,O,O,O,O,O,O,O,O,O,O,O,O,O,O,O,O,O] HT_.out ?_
        refine pu_ 3 24 #[I,I,I,I,O,O,O,O,O,O,O,O,O,O,O,O,O,O,O,O] HT_.out ?_
        refine pz_ 4 25 #[I,I,I,I,I,O,O,O,O,O,O,O,O,O,O,O,O,O,O,O] HT_.out ?_
        refine pz_ 5 26 #[I,I,I,I,I,I,O,O,O,O,O,O,O,O,O,O,O,O,O,O] HT_.out ?_
        refine pz_ 6 27 #[I,I,I,I,I,I,I,O,O,O,O,O,O,O,O,O,O,O,O,O] HT_.out ?_
        refine pz_ 7 28 #[I,I,I,I,I,I,I,I,O,O,O,O,O,O,O,O,O,O,O,O] HT_.out ?_
        refine pz_ 8 29 #[I,I,I,I,I,I,I,I,I,O,O,O,O,O,O,O,O,O,O,O] HT_.out ?_
        refine pz_ 9 30 #[I,I,I,I,I,I,I,I,I,I,O,O,O,O,O,O,O,O,O,O] HT_.out ?_
        refine pz_ 10 31 #[I,I,I,I,I,I,I,I,I,I,I,O,O,O,O,O,O,O,O,O] HT_.out ?_
        refine pz_ 11 32 #[I,I,I,I,I,I,I,I,I,I,I,I,O,O,O,O,O,O,O,O] HT_.out ?_
        refine pz_ 12 33 #[I,I,I,I,I,I,I,I,I,I,I,I,I,O,O,O,O,O,O,O] HT_.out ?_
        refine pz_ 13 34 #[I,I,I,I,I,I,I,I,I,I,I,I,I,I,O,O,O,O,O,O] HT_.out ?_
        refine pz_ 14 35 #[I,I,I,I,I,I,I,I,I,I,I,I,I,I,I,O,O,O,O,O] HT_.out ?_
        refine pz_ 15 36 #[I,I,I,I,I,I,I,I,I,I,I,I,I,I,I,I,O,O,O,O] HT_.out ?_
        refine pz_ 16 37 #[I,I,I,I,I,I,I,I,I,I,I,I,I,I,I,I,I,O,O,O] HT_.out ?_
        refine pz_ 17 38 #[I,I,I,I,I,I,I,I,I,I,I,I,I,I,I,I,I,I,O,O] HT_.out ?_
        refine pu_ 18 39 #[I,I,I,I,I,I,I,I,I,I,I,I,I,I,I,I,I,I,I,O] HT_.out ?_
        refine pu_ 19 20 #[I,I,I,I,I,I,I,I,I,I,I,I,I,I,I,I,I,I,I,I] HT_.out ?_
        refine gJ (eH HT_.out (by kernel_rfl)) ?_
        try go_wp2
        go_meet
        case rel=>exact ⟨_,(true),(by first|rfl|(simp;done)|(simp [*];done)),H',⟨by have:=Gd.out;have:=GR.out;first|omega|exact Nat.le_refl _⟩,⟨by (with_reducible repeat (first|apply Kd.fA|apply Kd.fB|apply Kd.d9));exact AJ.out⟩,⟨by (with_reducible repeat (first|apply Kd.bP|apply Kd.bQ|apply Kd.bA));exact Ay.out⟩,⟨by (with_reducible repeat (first|apply Kd.bP|apply Kd.bQ|apply Kd.bA));exact Aw.out⟩,⟨by (with_reducible repeat (first|apply Kd.bP|apply Kd.bQ|apply Kd.bA));exact Al.out⟩,⟨by (with_reducible repeat (first|apply Kd.bP|apply Kd.bQ|apply Kd.bA));exact Am.out⟩,⟨by (with_reducible repeat (first|apply aC|apply aG|apply aH));exact Aq.out⟩,⟨by (with_reducible repeat (first|apply aC|apply aG|apply aH));exact Au.out⟩,⟨hb_⟩⟩
       ·rw [if_neg c13] at H
        have c13b0 : ((Ao.length : Int) == 0) = false:=beq_eq_false_iff_ne.mpr c13
        have c13b1 : ((Ao.length : Int) != 0) = true:=bne_iff_ne.mpr c13
        have c13b2 : ¬ (Ao = []):=fun h_=>c13 (by rw [h_];rfl)
        (first|rw [c13b0]|(simp only [bH,bI];rw [c13b0])|skip)
        by_cases c16 : (Ap.length : Int) > 0
        ·rw [if_pos c16] at H
         have c16b0 : decide (0 < (Ap.length : Int)) = true:=decide_eq_true c16
         have c16b1 : decide (0 < Ap.length) = true:=decide_eq_true (by omega)
         clear c16
         by_cases c17 : 0 < (Ap.length : Int)
         ·rw [if_pos c17] at H
          have c17b0 : decide (0 < (Ap.length : Int)) = true:=decide_eq_true c17
          have c17b1 : decide (0 < Ap.length) = true:=decide_eq_true (by omega)
          clear c17
          by_cases c18 : 0 < (Ao.length : Int)
          ·rw [if_pos c18] at H
           have c18b0 : decide (0 < (Ao.length : Int)) = true:=decide_eq_true c18
           have c18b1 : decide (0 < Ao.length) = true:=decide_eq_true (by omega)
           clear c18
           have H':=Aside0.mk H
           clear H
           try go_wp2
           have Bj:=Aside0.mk (Kd.d9 AJ.out)
           have Bl:=Aside0.mk (Kd.bA Ay.out)
           have Bn:=Aside0.mk (Kd.bA Aw.out)
           have Bo:=Aside0.mk (Kd.bA Al.out)
           have Bp:=Aside0.mk (Kd.bA Am.out)
           have Bq:=Aside0.mk (aG Aq.out)
           have Br:=Aside0.mk (aG Au.out)
           have Bt:=Aside0.mk (aZ HB.out)
           clear AJ
           clear Ay
           clear Aw
           clear Al
           clear Am
           clear Aq
           clear Au
           clear HB
           have AJ:=Bj
           have Ay:=Bl
           have Aw:=Bn
           have Al:=Bo
           have Am:=Bp
           have Aq:=Bq
           have Au:=Br
           have HB:=Bt
           clear Bj Bl Bn Bo Bp Bq Br Bt
           obtain ⟨OU,OV,Lb⟩:=Kd.fO Aw.out
           (first|subst Lb|(injection Lb with BI CZ BJ;have C8:=BI.symm;have C9:=BJ.symm;clear BI CZ BJ;subst C8;subst C9))
           obtain ⟨OW,OX,Lc⟩:=Kd.fO Ay.out
           (first|subst Lc|(injection Lc with BI CZ BJ;have C8:=BI.symm;have C9:=BJ.symm;clear BI CZ BJ;subst C8;subst C9))
           have GX : 0 ≤ (0 : Int):=(by omega)
           have GY : 0 < (Ap.length : Int):=of_decide_eq_true (by first|(with_reducible assumption)|assumption)
           obtain ⟨BK,J5,J6,e129,Db,Dc,Df,Dh,Di,Dj,CG,Gm,Gn⟩:=gF (Kd.bL Ay.out).2.2 0 GX GY
           cases e129
           obtain ⟨NQ,J7,J8,GZ⟩:=Kd.iL Ay.out kJ 0 GX (by first|exact GY|exact of_decide_eq_true (by first|(with_reducible assumption)|assumption)|(have e_:=(Kd.bL Ay.out).1;omega))
           obtain ⟨Mv,Mw,rfl,EH,EI⟩:=fH J8
           have Dk:=GZ 6 _ rfl
           rw [bM _ _ 6 (by omega)] at Dk
           replace Dk:=Option.some.inj (Dk.symm.trans CG)
           injection Dk with hva_ hvn_ hvc_
           rw [hva_] at EI
           rw [hvc_] at EH
           have IU:=Aside0.mk (show Kd.V k43 43 _ w.heap.size _ _ ((ay Ap 0).f1.f5) from Kd.gU EH EI)
           clear hva_ hvn_ hvc_ EI EH
           clear GZ J7
           have NR : (0 < Ap.length) = True:=eq_true (by omega)
           (try simp only [show ((0 : Int)).toNat = 0 from rfl,show 0 * 7 = 0 from rfl,Addr.add_zero'] at Db Dc Df Dh Di Dj CG)
           have IV:=Aside0.mk Gn
           have Mx:=Aside0.mk Gm
           clear Gn Gm
           replace GX:=eq_true GX
           replace GY:=eq_true GY
           have G6 : 0 ≤ (0 : Int):=(by omega)
           have G7 : 0 < (Ao.length : Int):=of_decide_eq_true (by first|(with_reducible assumption)|assumption)
           obtain ⟨BL,J9,Ka,Nk,Dl,Dm,Dn,Dp,Dq,Dr,CJ,Gp,Gq⟩:=gF (Kd.bL Aw.out).2.2 0 G6 G7
           cases Nk
           obtain ⟨NS,Ke,Kg,G8⟩:=Kd.iL Aw.out kJ 0 G6 (by first|exact G7|exact of_decide_eq_true (by first|(with_reducible assumption)|assumption)|(have e_:=(Kd.bL Aw.out).1;omega))
           obtain ⟨MB,MC,rfl,EJ,EK⟩:=fH Kg
           have Dt:=G8 6 _ rfl
           rw [bM _ _ 6 (by omega)] at Dt
           replace Dt:=Option.some.inj (Dt.symm.trans CJ)
           injection Dt with hva_ hvn_ hvc_
           rw [hva_] at EK
           rw [hvc_] at EJ
           have IW:=Aside0.mk (show Kd.V k43 43 _ w.heap.size _ _ ((ay Ao 0).f1.f5) from Kd.gU EJ EK)
           clear hva_ hvn_ hvc_ EK EJ
           clear G8 Ke
           have NT : (0 < Ao.length) = True:=eq_true (by omega)
           (try simp only [show ((0 : Int)).toNat = 0 from rfl,show 0 * 7 = 0 from rfl,Addr.add_zero'] at Dl Dm Dn Dp Dq Dr CJ)
           have IX:=Aside0.mk Gq
           have ME:=Aside0.mk Gp
           clear Gq Gp
           replace G6:=eq_true G6
           replace G7:=eq_true G7
           refine fu (n:=20) (S:=fun w'=>w'.cell? BK = some (.string ((ay Ap 0).f0)) ∧ w'.cell? ⟨BK.block,BK.off + 1,none⟩ = some (.string ((ay Ap 0).f1.f0)) ∧ w'.cell? ⟨BK.block,BK.off + 2,none⟩ = some (.string ((ay Ap 0).f1.f1)) ∧ w'.cell? ⟨BK.block,BK.off + 3,none⟩ = some (.int .i64 ((ay Ap 0).f1.f2)) ∧ w'.cell? ⟨BK.block,BK.off + 4,none⟩ = some (.int .i64 ((ay Ap 0).f1.f3)) ∧ w'.cell? ⟨BK.block,BK.off + 5,none⟩ = some (.bool ((ay Ap 0).f1.f4)) ∧ w'.cell? ⟨BK.block,BK.off + 6,none⟩ = some (.slice J5 ((ay Ap 0).f1.f5).length J6) ∧ w'.cell? BL = some (.string ((ay Ao 0).f0)) ∧ w'.cell? ⟨BL.block,BL.off + 1,none⟩ = some (.string ((ay Ao 0).f1.f0)) ∧ w'.cell? ⟨BL.block,BL.off + 2,none⟩ = some (.string ((ay Ao 0).f1.f1)) ∧ w'.cell? ⟨BL.block,BL.off + 3,none⟩ = some (.int .i64 ((ay Ao 0).f1.f2)) ∧ w'.cell? ⟨BL.block,BL.off + 4,none⟩ = some (.int .i64 ((ay Ao 0).f1.f3)) ∧ w'.cell? ⟨BL.block,BL.off + 5,none⟩ = some (.bool ((ay Ao 0).f1.f4)) ∧ w'.cell? ⟨BL.block,BL.off + 6,none⟩ = some (.slice J9 ((ay Ao 0).f1.f5).length Ka)) (ds:=[]) #[O,O,O,O,O,O,O,O,O,O,O,O,O,O,O,O,O,O,O,O] (by kernel_rfl) rfl rfl ⟨Db,Dc,Df,Dh,Di,Dj,CG,Dl,Dm,Dn,Dp,Dq,Dr,CJ⟩ (fun hHeld=>?_);refine dR aA.yE aA.vM (fun HT_ HW_=>?_)
           generalize wc.drew = Ql at AJ Ay Aw Al Am Aq Au HB IU IW IV IX Db Dc Df Dh Di Dj CG Dl Dm Dn Dp Dq Dr CJ hHeld ⊢
           refine pu_ 0 21 #[I,O,O,O,O,O,O,O,O,O,O,O,O,O,O,O,O,O,O,O] HT_.out ?_
           refine pu_ 1 22 #[I,I,O,O,O,O,O,O,O,O,O,O,O,O,O,O,O,O,O,O] HT_.out ?_
           refine pu_ 2 23 #[I,I,I,O,O,O,O,O,O,O,O,O,O,O,O,O,O,O,O,O] HT_.out ?_
           refine pu_ 3 24 #[I,I,I,I,O,O,O,O,O,O,O,O,O,O,O,O,O,O,O,O] HT_.out ?_
           refine pu_ 4 25 #[I,I,I,I,I,O,O,O,O,O,O,O,O,O,O,O,O,O,O,O] HT_.out ?_
           refine pu_ 5 26 #[I,I,I,I,I,I,O,O,O,O,O,O,O,O,O,O,O,O,O,O] HT_.out ?_
           refine pu_ 6 27 #[I,I,I,I,I,I,I,O,O,O,O,O,O,O,O,O,O,O,O,O] HT_.out ?_
           refine pu_ 7 28 #[I,I,I,I,I,I,I,I,O,O,O,O,O,O,O,O,O,O,O,O] HT_.out ?_
           refine pu_ 8 29 #[I,I,I,I,I,I,I,I,I,O,O,O,O,O,O,O,O,O,O,O] HT_.out ?_
           refine pu_ 9 30 #[I,I,I,I,I,I,I,I,I,I,O,O,O,O,O,O,O,O,O,O] HT_.out ?_
           refine pu_ 10 31 #[I,I,I,I,I,I,I,I,I,I,I,O,O,O,O,O,O,O,O,O] HT_.out ?_
           refine pu_ 12 33 #[I,I,I,I,I,I,I,I,I,I,I,O,I,O,O,O,O,O,O,O] HT_.out ?_
           refine pu_ 13 34 #[I,I,I,I,I,I,I,I,I,I,I,O,I,I,O,O,O,O,O,O] HT_.out ?_
           refine pu_ 14 35 #[I,I,I,I,I,I,I,I,I,I,I,O,I,I,I,O,O,O,O,O] HT_.out ?_
           refine ta_ 11 32 #[I,I,I,I,I,I,I,I,I,I,I,I,I,I,I,O,O,O,O,O] HT_.out HW_.out hHeld ?_
           refine ta_ 15 36 #[I,I,I,I,I,I,I,I,I,I,I,I,I,I,I,I,O,O,O,O] HT_.out HW_.out hHeld ?_
           refine pu_ 16 37 #[I,I,I,I,I,I,I,I,I,I,I,I,I,I,I,I,I,O,O,O] HT_.out ?_
           refine pu_ 17 38 #[I,I,I,I,I,I,I,I,I,I,I,I,I,I,I,I,I,I,O,O] HT_.out ?_
           refine pu_ 18 39 #[I,I,I,I,I,I,I,I,I,I,I,I,I,I,I,I,I,I,I,O] HT_.out ?_
           refine pu_ 19 20 #[I,I,I,I,I,I,I,I,I,I,I,I,I,I,I,I,I,I,I,I] HT_.out ?_
           refine gJ (eH HT_.out (by kernel_rfl)) ?_
           try go_wp2
           go_meet
           case rel=>exact ⟨_,((Op.bytesLess (((ay Ap 0).f0).toList) (((ay Ao 0).f0).toList))),(by first|rfl|(simp;done)|(simp [*];done)),H',⟨by have:=Gd.out;have:=GR.out;first|omega|exact Nat.le_refl _⟩,⟨by (with_reducible repeat (first|apply Kd.fA|apply Kd.fB|apply Kd.d9));exact AJ.out⟩,⟨by (with_reducible repeat (first|apply Kd.bP|apply Kd.bQ|apply Kd.bA));exact Ay.out⟩,⟨by (with_reducible repeat (first|apply Kd.bP|apply Kd.bQ|apply Kd.bA));exact Aw.out⟩,⟨by (with_reducible repeat (first|apply Kd.bP|apply Kd.bQ|apply Kd.bA));exact Al.out⟩,⟨by (with_reducible repeat (first|apply Kd.bP|apply Kd.bQ|apply Kd.bA));exact Am.out⟩,⟨by (with_reducible repeat (first|apply aC|apply aG|apply aH));exact Aq.out⟩,⟨by (with_reducible repeat (first|apply aC|apply aG|apply aH));exact Au.out⟩,⟨hb_⟩⟩
          ·rw [if_neg c18] at H
           exact absurd H (by simp)
         ·rw [if_neg c17] at H
          exact absurd H (by simp)
        ·rw [if_neg c16] at H
         have c16b0 : decide (0 < (Ap.length : Int)) = false:=decide_eq_false c16
         have c16b1 : decide (0 < Ap.length) = false:=decide_eq_false (by omega)
         clear c16
         have H':=Aside0.mk H
         clear H
         try go_wp2
         have Bj:=Aside0.mk (Kd.d9 AJ.out)
         have Bl:=Aside0.mk (Kd.bA Ay.out)
         have Bn:=Aside0.mk (Kd.bA Aw.out)
         have Bo:=Aside0.mk (Kd.bA Al.out)
         have Bp:=Aside0.mk (Kd.bA Am.out)
         have Bq:=Aside0.mk (aG Aq.out)
         have Br:=Aside0.mk (aG Au.out)
         have Bt:=Aside0.mk (aZ HB.out)
         clear AJ
         clear Ay
         clear Aw
         clear Al
         clear Am
         clear Aq
         clear Au
         clear HB
         have AJ:=Bj
         have Ay:=Bl
         have Aw:=Bn
         have Al:=Bo
         have Am:=Bp
         have Aq:=Bq
         have Au:=Br
         have HB:=Bt
         clear Bj Bl Bn Bo Bp Bq Br Bt
         obtain ⟨OY,OZ,Ld⟩:=Kd.fO Aw.out
         (first|subst Ld|(injection Ld with BI CZ BJ;have C8:=BI.symm;have C9:=BJ.symm;clear BI CZ BJ;subst C8;subst C9))
         obtain ⟨O1,O6,Le⟩:=Kd.fO Ay.out
         (first|subst Le|(injection Le with BI CZ BJ;have C8:=BI.symm;have C9:=BJ.symm;clear BI CZ BJ;subst C8;subst C9))
         refine fu (n:=20) (S:=fun w'=>True) (ds:=[]) #[O,O,O,O,O,O,O,O,O,O,O,O,O,O,O,O,O,O,O,O] (by kernel_rfl) rfl rfl trivial (fun hHeld=>?_);refine dR aA.yE aA.vM (fun HT_ HW_=>?_)
         generalize wc.drew = Qm at AJ Ay Aw Al Am Aq Au HB hHeld ⊢
         refine pu_ 0 21 #[I,O,O,O,O,O,O,O,O,O,O,O,O,O,O,O,O,O,O,O] HT_.out ?_
         refine pu_ 1 22 #[I,I,O,O,O,O,O,O,O,O,O,O,O,O,O,O,O,O,O,O] HT_.out ?_
         refine pu_ 2 23 #[I,I,I,O,O,O,O,O,O,O,O,O,O,O,O,O,O,O,O,O] HT_.out ?_
         refine pu_ 3 24 #[I,I,I,I,O,O,O,O,O,O,O,O,O,O,O,O,O,O,O,O] HT_.out ?_
         refine pu_ 4 25 #[I,I,I,I,I,O,O,O,O,O,O,O,O,O,O,O,O,O,O,O] HT_.out ?_
         refine pu_ 5 26 #[I,I,I,I,I,I,O,O,O,O,O,O,O,O,O,O,O,O,O,O] HT_.out ?_
         refine pu_ 6 27 #[I,I,I,I,I,I,I,O,O,O,O,O,O,O,O,O,O,O,O,O] HT_.out ?_
         refine pu_ 7 28 #[I,I,I,I,I,I,I,I,O,O,O,O,O,O,O,O,O,O,O,O] HT_.out ?_
         refine pz_ 8 29 #[I,I,I,I,I,I,I,I,I,O,O,O,O,O,O,O,O,O,O,O] HT_.out ?_
         refine pz_ 9 30 #[I,I,I,I,I,I,I,I,I,I,O,O,O,O,O,O,O,O,O,O] HT_.out ?_
         refine pz_ 10 31 #[I,I,I,I,I,I,I,I,I,I,I,O,O,O,O,O,O,O,O,O] HT_.out ?_
         refine pz_ 11 32 #[I,I,I,I,I,I,I,I,I,I,I,I,O,O,O,O,O,O,O,O] HT_.out ?_
         refine pz_ 12 33 #[I,I,I,I,I,I,I,I,I,I,I,I,I,O,O,O,O,O,O,O] HT_.out ?_
         refine pz_ 13 34 #[I,I,I,I,I,I,I,I,I,I,I,I,I,I,O,O,O,O,O,O] HT_.out ?_
         refine pz_ 14 35 #[I,I,I,I,I,I,I,I,I,I,I,I,I,I,I,O,O,O,O,O] HT_.out ?_
         refine pz_ 15 36 #[I,I,I,I,I,I,I,I,I,I,I,I,I,I,I,I,O,O,O,O] HT_.out ?_
         refine pz_ 16 37 #[I,I,I,I,I,I,I,I,I,I,I,I,I,I,I,I,I,O,O,O] HT_.out ?_
         refine pu_ 17 38 #[I,I,I,I,I,I,I,I,I,I,I,I,I,I,I,I,I,I,O,O] HT_.out ?_
         refine pu_ 18 39 #[I,I,I,I,I,I,I,I,I,I,I,I,I,I,I,I,I,I,I,O] HT_.out ?_
         refine pu_ 19 20 #[I,I,I,I,I,I,I,I,I,I,I,I,I,I,I,I,I,I,I,I] HT_.out ?_
         refine gJ (eH HT_.out (by kernel_rfl)) ?_
         try go_wp2
         go_meet
         case rel=>exact ⟨_,(false),(by first|rfl|(simp;done)|(simp [*];done)),H',⟨by have:=Gd.out;have:=GR.out;first|omega|exact Nat.le_refl _⟩,⟨by (with_reducible repeat (first|apply Kd.fA|apply Kd.fB|apply Kd.d9));exact AJ.out⟩,⟨by (with_reducible repeat (first|apply Kd.bP|apply Kd.bQ|apply Kd.bA));exact Ay.out⟩,⟨by (with_reducible repeat (first|apply Kd.bP|apply Kd.bQ|apply Kd.bA));exact Aw.out⟩,⟨by (with_reducible repeat (first|apply Kd.bP|apply Kd.bQ|apply Kd.bA));exact Al.out⟩,⟨by (with_reducible repeat (first|apply Kd.bP|apply Kd.bQ|apply Kd.bA));exact Am.out⟩,⟨by (with_reducible repeat (first|apply aC|apply aG|apply aH));exact Aq.out⟩,⟨by (with_reducible repeat (first|apply aC|apply aG|apply aH));exact Au.out⟩,⟨hb_⟩⟩
      case rest =>
       clear J4
       try clear c1
       try clear p1
       try clear q1
       try clear hx1
       try clear O7
       try clear p2
       try clear c12
       try clear Qn
       try clear Qo
       try clear O8
       try clear O9
       try clear c13
       try clear c13b0
       try clear c13b1
       try clear c13b2
       try clear Pf
       try clear Pg
       try clear Nl
       try clear Ph
       try clear c16
       try clear c16b0
       try clear c16b1
       try clear c17
       try clear c17b0
       try clear c17b1
       try clear c18
       try clear c18b0
       try clear c18b1
       try clear Db
       try clear Dc
       try clear Df
       try clear Dh
       try clear Di
       try clear Dj
       try clear CG
       try clear Dl
       try clear Dm
       try clear Dn
       try clear Dp
       try clear Dq
       try clear Dr
       try clear CJ
       try clear GX
       try clear G6
       try clear GY
       try clear G7
       obtain ⟨kq,EG,rfl,HA,EC,AJ,Ay,Aw,Al,Am,Aq,Au,HB⟩:=hcut
       cases kq with
       | zero=>exact absurd HA.out (by simp [aA.j2])
       | succ Gf =>
        have H:=HA.out
        clear HA
        simp only [aA.j2] at H
        by_cases Lf : EG = true
        ·subst Lf
         have H1 : (if 0 < (Ap.length : Int) then (if Bf.length < 3518437208883 then (if 1 ≤ (Ap.length : Int) then (aA.l0 Gf (Bf ++ [(⟨2,(ay Ap 0).f0,(ay Ap 0).f1.f0⟩ : S65)]) (Ap.drop 1) Ao) else (none)) else (none)) else (none)) = some r:=by rw [if_pos rfl] at H;exact H
         clear H
         have H:=H1
         clear H1
         by_cases Lg : 0 < (Ap.length : Int)
         ·rw [if_pos Lg] at H
          have c26b0 : decide (0 < (Ap.length : Int)) = true:=decide_eq_true Lg
          have c26b1 : decide (0 < Ap.length) = true:=decide_eq_true (by omega)
          clear Lg
          by_cases Lh : Bf.length < 3518437208883
          ·rw [if_pos Lh] at H
           have Li:=Aside0.mk Lh
           clear Lh
           obtain ⟨Kh,F4⟩ : ∃ y_ : List (S65),y_ = (Bf ++ [(⟨2,(ay Ap 0).f0,(ay Ap 0).f1.f0⟩ : S65)]):=⟨_,rfl⟩
           replace H : (if 1 ≤ (Ap.length : Int) then (aA.l0 Gf Kh (Ap.drop 1) Ao) else (none)) = some r:=by first|(rw [F4];with_reducible exact H)|(have Cu:=(Option.bind_some _ _).symm.trans H;rw [F4];with_reducible exact Cu)|(have Cu:=(Option.bind_some _ _).symm.trans H;with_reducible exact Cu)|with_reducible exact H|(rw [F4];exact H)|exact H
           have Lj:=Aside0.mk F4
           clear F4
           by_cases c28 : 1 ≤ (Ap.length : Int)
           ·rw [if_pos c28] at H
            have c28b0:=eq_true c28
            have c28b1 : decide (1 ≤ (Ap.length : Int)) = true:=decide_eq_true c28
            clear c28
            obtain ⟨EL,F5⟩ : ∃ y_ : List (S102),y_ = (Ap.drop 1):=⟨_,rfl⟩
            replace H : (aA.l0 Gf Kh EL Ao) = some r:=by first|(rw [F5];with_reducible exact H)|(have Cu:=(Option.bind_some _ _).symm.trans H;rw [F5];with_reducible exact Cu)|(have Cu:=(Option.bind_some _ _).symm.trans H;with_reducible exact Cu)|with_reducible exact H|(rw [F5];exact H)|exact H
            have JD:=Aside0.mk F5
            clear F5
            have H':=Aside0.mk H
            clear H
            try go_wp2
            have Bj:=Aside0.mk (Kd.d9 AJ.out)
            have Bl:=Aside0.mk (Kd.bA Ay.out)
            have Bn:=Aside0.mk (Kd.bA Aw.out)
            have Bo:=Aside0.mk (Kd.bA Al.out)
            have Bp:=Aside0.mk (Kd.bA Am.out)
            have Bq:=Aside0.mk (aG Aq.out)
            have Br:=Aside0.mk (aG Au.out)
            have Bt:=Aside0.mk (aZ HB.out)
            clear AJ
            clear Ay
            clear Aw
            clear Al
            clear Am
            clear Aq
            clear Au
            clear HB
            have AJ:=Bj
            have Ay:=Bl
            have Aw:=Bn
            have Al:=Bo
            have Am:=Bp
            have Aq:=Bq
            have Au:=Br
            have HB:=Bt
            clear Bj Bl Bn Bo Bp Bq Br Bt
            obtain ⟨Pj,G9,Ll⟩:=Kd.fO Ay.out
            (first|subst Ll|(injection Ll with BI CZ BJ;have C8:=BI.symm;have C9:=BJ.symm;clear BI CZ BJ;subst C8;subst C9))
            have IY : 0 ≤ (0 : Int):=(by omega)
            have IZ : 0 < (Ap.length : Int):=of_decide_eq_true (by first|(with_reducible assumption)|assumption)
            obtain ⟨AY,He,Hf,Nn,Du,Dv,Dw,Dx,Dy,Dz,Cz,Gr,Gs⟩:=gF (Kd.bL Ay.out).2.2 0 IY IZ
            cases Nn
            obtain ⟨NU,Ki,Kj,Hg⟩:=Kd.iL Ay.out kJ 0 IY (by first|exact IZ|exact of_decide_eq_true (by first|(with_reducible assumption)|assumption)|(have e_:=(Kd.bL Ay.out).1;omega))
            obtain ⟨MF,MG,rfl,EM,EN⟩:=fH Kj
            have DC:=Hg 6 _ rfl
            rw [bM _ _ 6 (by omega)] at DC
            replace DC:=Option.some.inj (DC.symm.trans Cz)
            injection DC with hva_ hvn_ hvc_
            rw [hva_] at EN
            rw [hvc_] at EM
            have DF:=Aside0.mk (show Kd.V k43 43 _ w.heap.size _ _ ((ay Ap 0).f1.f5) from Kd.gU EM EN)
            clear hva_ hvn_ hvc_ EN EM
            clear Hg Ki
            have NV : (0 < Ap.length) = True:=eq_true (by omega)
            (try simp only [show ((0 : Int)).toNat = 0 from rfl,show 0 * 7 = 0 from rfl,Addr.add_zero'] at Du Dv Dw Dx Dy Dz Cz)
            have I4:=Aside0.mk Gs
            have MH:=Aside0.mk Gr
            clear Gs Gr
            replace IY:=eq_true IY
            replace IZ:=eq_true IZ
            have Hl : 0 ≤ (0 : Int):=(by omega)
            have Ho : 0 < (Ap.length : Int):=of_decide_eq_true (by first|(with_reducible assumption)|assumption)
            obtain ⟨Lm,Np,Nq,Nr,DI,DJ,DK,DL,DN,DR,CB,Gt,Gu⟩:=gF (Kd.bL Ay.out).2.2 0 Hl Ho
            obtain rfl : AY = Lm:=(by injection Nr)
            obtain ⟨NW,Kk,Kl,Hq⟩:=Kd.iL Ay.out kJ 0 Hl (by first|exact Ho|exact of_decide_eq_true (by first|(with_reducible assumption)|assumption)|(have e_:=(Kd.bL Ay.out).1;omega))
            obtain ⟨MI,MJ,rfl,EO,EP⟩:=fH Kl
            have DT:=Hq 6 _ rfl
            rw [bM _ _ 6 (by omega)] at DT
            replace DT:=Option.some.inj (DT.symm.trans CB)
            injection DT with hva_ hvn_ hvc_
            rw [hva_] at EP
            rw [hvc_] at EO
            have DU:=Aside0.mk (show Kd.V k43 43 _ w.heap.size _ _ ((ay Ap 0).f1.f5) from Kd.gU EO EP)
            clear hva_ hvn_ hvc_ EP EO
            clear Hq Kk
            have NY : (0 < Ap.length) = True:=eq_true (by omega)
            (try simp only [show ((0 : Int)).toNat = 0 from rfl,show 0 * 7 = 0 from rfl,Addr.add_zero'] at DI DJ DK DL DN DR CB)
            have I5:=Aside0.mk Gu
            have MK:=Aside0.mk Gt
            clear Gu Gt
            replace Hl:=eq_true Hl
            replace Ho:=eq_true Ho
            have ea_:=Option.some.inj (Cz.symm.trans CB)
            injection ea_ with ea_ en_ ec_
            subst ea_
            subst ec_
            clear en_
            refine fu (n:=14) (S:=fun w'=>w'.cell? AY = some (.string ((ay Ap 0).f0)) ∧ w'.cell? ⟨AY.block,AY.off + 1,none⟩ = some (.string ((ay Ap 0).f1.f0)) ∧ w'.cell? ⟨AY.block,AY.off + 2,none⟩ = some (.string ((ay Ap 0).f1.f1)) ∧ w'.cell? ⟨AY.block,AY.off + 3,none⟩ = some (.int .i64 ((ay Ap 0).f1.f2)) ∧ w'.cell? ⟨AY.block,AY.off + 4,none⟩ = some (.int .i64 ((ay Ap 0).f1.f3)) ∧ w'.cell? ⟨AY.block,AY.off + 5,none⟩ = some (.bool ((ay Ap 0).f1.f4)) ∧ w'.cell? ⟨AY.block,AY.off + 6,none⟩ = some (.slice He ((ay Ap 0).f1.f5).length Hf) ∧ w'.cell? AY = some (.string ((ay Ap 0).f0)) ∧ w'.cell? ⟨AY.block,AY.off + 1,none⟩ = some (.string ((ay Ap 0).f1.f0)) ∧ w'.cell? ⟨AY.block,AY.off + 2,none⟩ = some (.string ((ay Ap 0).f1.f1)) ∧ w'.cell? ⟨AY.block,AY.off + 3,none⟩ = some (.int .i64 ((ay Ap 0).f1.f2)) ∧ w'.cell? ⟨AY.block,AY.off + 4,none⟩ = some (.int .i64 ((ay Ap 0).f1.f3)) ∧ w'.cell? ⟨AY.block,AY.off + 5,none⟩ = some (.bool ((ay Ap 0).f1.f4)) ∧ w'.cell? ⟨AY.block,AY.off + 6,none⟩ = some (.slice He ((ay Ap 0).f1.f5).length Hf)) (ds:=[11,12]) #[O,O,O,O,O,O,O,O,O,O,O,O,O,O] (by kernel_rfl) rfl rfl ⟨Du,Dv,Dw,Dx,Dy,Dz,Cz,DI,DJ,DK,DL,DN,DR,CB⟩ (fun hHeld=>?_);refine dR aA.z8 aA.zG (fun HT_ HW_=>?_)
            generalize wc.drew = Qp at AJ Ay Aw Al Am Aq Au HB DF DU I4 I5 Du Dv Dw Dx Dy Dz Cz DI DJ DK DL DN DR CB hHeld ⊢
            refine pu_ 0 66 #[I,O,O,O,O,O,O,O,O,O,O,O,O,O] HT_.out ?_
            refine pu_ 1 67 #[I,I,O,O,O,O,O,O,O,O,O,O,O,O] HT_.out ?_
            refine pu_ 2 68 #[I,I,I,O,O,O,O,O,O,O,O,O,O,O] HT_.out ?_
            refine pu_ 3 69 #[I,I,I,I,O,O,O,O,O,O,O,O,O,O] HT_.out ?_
            refine pu_ 5 71 #[I,I,I,I,O,I,O,O,O,O,O,O,O,O] HT_.out ?_
            refine pu_ 6 72 #[I,I,I,I,O,I,I,O,O,O,O,O,O,O] HT_.out ?_
            refine pu_ 7 73 #[I,I,I,I,O,I,I,I,O,O,O,O,O,O] HT_.out ?_
            refine pu_ 8 74 #[I,I,I,I,O,I,I,I,I,O,O,O,O,O] HT_.out ?_
            refine ta_ 4 70 #[I,I,I,I,I,I,I,I,I,O,O,O,O,O] HT_.out HW_.out hHeld ?_
            refine ta_ 9 75 #[I,I,I,I,I,I,I,I,I,I,O,O,O,O] HT_.out HW_.out hHeld ?_
            refine pu_ 10 76 #[I,I,I,I,I,I,I,I,I,I,I,O,O,O] HT_.out ?_
            refine jJ (i:=11) (N:=some 77) #[I,I,I,I,I,I,I,I,I,I,I,I,O,O] rfl rfl (dw HT_.out (by kernel_rfl)) (by decide) (fun K hK=>?_)
            refine qc (w1:=?_) (v:=?_) (by rfl) rfl ?_ ?_
            rotate_left 2
            ·go_simp
             constructor
             ·rfl
             ·rfl
            refine hK.out _ _ ?_
            clear hK K
            refine dU (a':=?_) ?_ ?_
            rotate_left
            ·show Act.put _ (some 77) _ = _
             simp only [Act.put,List.setIfInBounds_toArray,List.set_cons_zero,List.set_cons_succ,bH,bI]
             rfl
            refine jJ (i:=12) (N:=some 78) #[I,I,I,I,I,I,I,I,I,I,I,I,I,O] rfl rfl (dw HT_.out (by kernel_rfl)) (by decide) (fun K hK=>?_)
            refine Kd.jO k65 (w0:=w) w.heap.size (by rfl) (.tmp 66) (.tmp 77) 61 65 (.agg #[(.int .i64 0),(.string ⟨#[]⟩),(.string ⟨#[]⟩)]) 40 rfl Tryd.underlying61 rJ rfl (by decide) (by omega) u5 Bf (⟨2,(ay Ap 0).f0,(ay Ap 0).f1.f0⟩ : S65) [.int .i64 2,.string ((ay Ap 0).f0),.string ((ay Ap 0).f1.f0)] (fun k_=>(w.heap.size ≤ k_)) (fun _=>False) rfl rfl ?aP (fun _ hk=>hk.elim) ?aF ?aO ?aB ?aS ?aL ?_
            (case aP=>exact qx _ _ _ (⟨2,(ay Ap 0).f0,(ay Ap 0).f1.f0⟩ : S65))
            (case aB=>exact hb_)
            (case aF=>exact (fun k_ hk=>(Nat.le_trans (aY hb_) hk)))
            (case aO=>exact (kr_ AJ.out))
            (case aS=>exact (aY hb_))
            (case aL=>have:=Li.out;omega)
            intro Pk Qq ho hb hg hat
            rw [← Lj.out] at ho
            have Bj:=Aside0.mk (Kd.fK (ok:=(fun k_=>((AP k_ ∨ AQ k_) ∨ w.heap.size ≤ k_) ∧ k_ ≠ AA ∧ k_ ≠ AB)) (by (with_reducible repeat (first|apply Kd.bP|apply Kd.bQ|apply Kd.bA));exact Kd.dO Ay.out (fun _ hk=>⟨⟨hk.1,⟨hk.2.2.1,hk.2.2.2⟩⟩,hk.2.1⟩)) hg hat)
            have Bl:=Aside0.mk (Kd.fK (ok:=(fun k_=>((AP k_ ∨ AQ k_) ∨ w.heap.size ≤ k_) ∧ k_ ≠ AA ∧ k_ ≠ AB)) (by (with_reducible repeat (first|apply Kd.bP|apply Kd.bQ|apply Kd.bA));exact Kd.dO Aw.out (fun _ hk=>⟨⟨hk.1,⟨hk.2.2.1,hk.2.2.2⟩⟩,hk.2.1⟩)) hg hat)
            have Bn:=Aside0.mk (Kd.fK (ok:=(fun k_=>((AP k_ ∨ AQ k_) ∨ w.heap.size ≤ k_) ∧ k_ ≠ AA ∧ k_ ≠ AB)) (by (with_reducible repeat (first|apply Kd.bP|apply Kd.bQ|apply Kd.bA));exact Kd.dO Al.out (fun _ hk=>⟨⟨hk.1,⟨hk.2.2.1,hk.2.2.2⟩⟩,hk.2.1⟩)) hg hat)
            have Bo:=Aside0.mk (Kd.fK (ok:=(fun k_=>((AP k_ ∨ AQ k_) ∨ w.heap.size ≤ k_) ∧ k_ ≠ AA ∧ k_ ≠ AB)) (by (with_reducible repeat (first|apply Kd.bP|apply Kd.bQ|apply Kd.bA));exact Kd.dO Am.out (fun _ hk=>⟨⟨hk.1,⟨hk.2.2.1,hk.2.2.2⟩⟩,hk.2.1⟩)) hg hat)
            have Bp:=Aside0.mk (jA (g:=AA) (o:=.cells #[.int .u64 Ct,.slice BG Bg.length BH] 59 (0,0)) (bk_ Aq.out) hg (Kd.ku AJ.out Aq.out (by decide)))
            have Bq:=Aside0.mk (jA (g:=AB) (o:=.cells #[.int .u64 CF,.slice Cq Bh.length Cr] 59 (0,0)) (bk_ Au.out) hg (Kd.ku AJ.out Au.out (by decide)))
            have Br:=Aside0.mk (Kd.fK (ok:=(fun k_=>((AP k_ ∨ AQ k_) ∨ w.heap.size ≤ k_) ∧ k_ ≠ AA ∧ k_ ≠ AB)) (by (with_reducible repeat (first|apply Kd.bP|apply Kd.bQ|apply Kd.bA));exact Kd.dO DF.out (fun _ hk=>⟨⟨hk.1,⟨hk.2.2.1,hk.2.2.2⟩⟩,hk.2.1⟩)) hg hat)
            have Bt:=Aside0.mk (Kd.fK (ok:=(fun k_=>((AP k_ ∨ AQ k_) ∨ w.heap.size ≤ k_) ∧ k_ ≠ AA ∧ k_ ≠ AB)) (by (with_reducible repeat (first|apply Kd.bP|apply Kd.bQ|apply Kd.bA));exact Kd.dO DU.out (fun _ hk=>⟨⟨hk.1,⟨hk.2.2.1,hk.2.2.2⟩⟩,hk.2.1⟩)) hg hat)
            have Da:=Aside0.mk (hb)
            have Et:=Aside0.mk (ho)
            clear Ay
            clear Aw
            clear Al
            clear Am
            clear Aq
            clear Au
            clear DF
            clear DU
            clear HB
            clear AJ
            have Ay:=Bj
            have Aw:=Bl
            have Al:=Bn
            have Am:=Bo
            have Aq:=Bp
            have Au:=Bq
            have DF:=Br
            have DU:=Bt
            have HB:=Da
            have Lp:=Et
            clear Bj Bl Bn Bo Bp Bq Br Bt Da Et
            clear ho hb hg hat
            refine hK.out _ _ ?_
            clear hK K
            refine dU (a':=?_) ?_ ?_
            rotate_left
            ·show Act.put _ (some 78) _ = _
             simp only [Act.put,List.setIfInBounds_toArray,List.set_cons_zero,List.set_cons_succ,bH,bI]
             rfl
            refine pu_ 13 5 #[I,I,I,I,I,I,I,I,I,I,I,I,I,I] HT_.out ?_
            refine gJ (eH HT_.out (by kernel_rfl)) ?_
            have q32 : (1 : Int) ≤ ((Ap.length : Int) : Int):=of_decide_eq_true (by first|(with_reducible assumption)|assumption)
            obtain ⟨Pm,JE,_,JF,_⟩:=info_parts kS
            have DV : Ap.length ≤ G9:=(Kd.bL Ay.out).2.1
            have Lr : Kd.F fP _ _ (some AY) Ap.length Ap:=(Kd.nY (base:=w.heap.size) Ay.out).2.2
            have Km:=jQ (P:=Tryd.prog) 57 102 .i64 Tryd.underlying57 JE 7 JF (some AY) Ap.length G9 1 (by omega) q32
            have Hr:=Kd.pF (m:=(1 : Int).toNat) (c:=G9) Lr (by omega) DV
            obtain ⟨NZ,I6⟩ : ∃ A1,A1 = (if G9 = (1 : Int).toNat then (some AY) else ((some AY) : Option Addr).map (·.add ((1 : Int).toNat * 7))):=⟨_,rfl⟩
            obtain ⟨c32,hc32⟩ : ∃ c1,c1 = G9 - (1 : Int).toNat:=⟨_,rfl⟩
            have hy32 : EL.length = Ap.length - (1 : Int).toNat:=(by rw [JD.out,List.length_drop] <;> omega)
            rw [show (Ap).drop (1 : Int).toNat = EL from JD.out.symm] at Hr
            replace Hr : Kd.F fP _ _ NZ EL.length EL:=(by rw [I6];exact Hr)
            rw [← hy32,← I6,← hc32] at Km
            have Ls:=Aside0.mk (show Kd.V fP 102 _ w.heap.size _ (.slice NZ EL.length c32) EL from Kd.gU (by rw [hy32,hc32];exact Nat.sub_le_sub_right DV _) Hr)
            have N7:=Aside0.mk (show EL.length ≤ c32 from by rw [hy32,hc32];exact Nat.sub_le_sub_right DV _)
            clear Hr Lr DV JE JF hc32
            have Pn:=Aside0.mk hy32
            have Po:=Aside0.mk I6
            clear hy32 I6
            replace q32:=eq_true q32
            try go_wp2
            go_roundg Gf
            case measure=>have:=Gd.out;have:=GR.out;have:=EC.out;omega
            case rel=>exact ⟨(Kh),(EL),(Ao),H',⟨by have:=Gd.out;have:=GR.out;have:=EC.out;omega⟩,⟨by (with_reducible repeat (first|apply Kd.fA|apply Kd.fB|apply Kd.d9));exact Lp.out⟩,⟨by (with_reducible repeat (first|apply Kd.bP|apply Kd.bQ|apply Kd.bA));exact Kd.dO Ls.out (fun _ hk=>⟨hk.1.1,⟨hk.2,⟨hk.1.2.1,hk.1.2.2⟩⟩⟩)⟩,⟨by (with_reducible repeat (first|apply Kd.bP|apply Kd.bQ|apply Kd.bA));exact Kd.dO Aw.out (fun _ hk=>⟨hk.1.1,⟨hk.2,⟨hk.1.2.1,hk.1.2.2⟩⟩⟩)⟩,⟨by (with_reducible repeat (first|apply Kd.bP|apply Kd.bQ|apply Kd.bA));exact Kd.dO Al.out (fun _ hk=>⟨hk.1.1,⟨hk.2,⟨hk.1.2.1,hk.1.2.2⟩⟩⟩)⟩,⟨by (with_reducible repeat (first|apply Kd.bP|apply Kd.bQ|apply Kd.bA));exact Kd.dO Am.out (fun _ hk=>⟨hk.1.1,⟨hk.2,⟨hk.1.2.1,hk.1.2.2⟩⟩⟩)⟩,⟨by (with_reducible repeat (first|apply aC|apply aG|apply aH));exact Aq.out⟩,⟨by (with_reducible repeat (first|apply aC|apply aG|apply aH));exact Au.out⟩,⟨hb_⟩⟩
           ·rw [if_neg c28] at H
            exact absurd H (by simp)
          ·rw [if_neg Lh] at H
           exact absurd H (by simp)
         ·rw [if_neg Lg] at H
          exact absurd H (by simp)
        ·replace Lf:=Bool.eq_false_iff.mpr Lf
         subst Lf
         have H1 : (if (Ap.length : Int) = 0 then (aA.j3 Gf Bf Ap Ao true) else (if 0 < (Ao.length : Int) then (if 0 < (Ap.length : Int) then (aA.j3 Gf Bf Ap Ao (Op.bytesLess (((ay Ao 0).f0).toList) (((ay Ap 0).f0).toList))) else (none)) else (none))) = some r:=by rw [if_neg (show ¬ (false = true) by decide)] at H;exact H
         clear H
         have H:=H1
         clear H1
         have Kn:=Aside0.mk H
         clear H
         go_upto_region 5 with (fail)
         go_cut [40] (fun v40 wc=>∃ (kq : Nat) (ER : Bool),v40 = .bool ER ∧ Aside0 (aA.j3 kq Bf Ap Ao ER = some r) ∧ Aside0 (kq ≤ Gf) ∧ Aside0 (Kd.R k65 65 wc w.heap.size (fun k_=>(w.heap.size ≤ k_)) u5 Bf) ∧ Aside0 (Kd.V fP 102 wc w.heap.size (fun k_=>((AP k_ ∨ AQ k_) ∨ w.heap.size ≤ k_) ∧ some k_ ≠ (u5 : Value).ownBlock ∧ k_ ≠ AA ∧ k_ ≠ AB) u6 Ap) ∧ Aside0 (Kd.V fP 102 wc w.heap.size (fun k_=>((AP k_ ∨ AQ k_) ∨ w.heap.size ≤ k_) ∧ some k_ ≠ (u5 : Value).ownBlock ∧ k_ ≠ AA ∧ k_ ≠ AB) u7 Ao) ∧ Aside0 (Kd.V fP 102 wc w.heap.size (fun k_=>((AP k_ ∨ AQ k_) ∨ w.heap.size ≤ k_) ∧ some k_ ≠ (u5 : Value).ownBlock ∧ k_ ≠ AA ∧ k_ ≠ AB) (.slice BG Bg.length BH) Bg) ∧ Aside0 (Kd.V fP 102 wc w.heap.size (fun k_=>((AP k_ ∨ AQ k_) ∨ w.heap.size ≤ k_) ∧ some k_ ≠ (u5 : Value).ownBlock ∧ k_ ≠ AA ∧ k_ ≠ AB) (.slice Cq Bh.length Cr) Bh) ∧ Aside0 (wc.heap[AA]? = some (.cells #[.int .u64 Ct,(.slice BG Bg.length BH)] 59 (0,0))) ∧ Aside0 (wc.heap[AB]? = some (.cells #[.int .u64 CF,(.slice Cq Bh.length Cr)] 59 (0,0))) ∧ Aside0 (Below w.heap.size w wc))
         case first =>
          have H:=Kn.out
          clear Kn
          by_cases c34 : (Ap.length : Int) = 0
          ·rw [if_pos c34] at H
           have c34b0 : ((Ap.length : Int) == 0) = true:=beq_iff_eq.mpr c34
           have c34b1 : ((Ap.length : Int) != 0) = false:=bne_eq_false_iff_eq.mpr c34
           clear c34
           (first|rw [c34b0]|(simp only [bH,bI];rw [c34b0])|skip)
           have H':=Aside0.mk H
           clear H
           try go_wp2
           have Bj:=Aside0.mk (Kd.d9 AJ.out)
           have Bl:=Aside0.mk (Kd.bA Ay.out)
           have Bn:=Aside0.mk (Kd.bA Aw.out)
           have Bo:=Aside0.mk (Kd.bA Al.out)
           have Bp:=Aside0.mk (Kd.bA Am.out)
           have Bq:=Aside0.mk (aG Aq.out)
           have Br:=Aside0.mk (aG Au.out)
           have Bt:=Aside0.mk (aZ HB.out)
           clear AJ
           clear Ay
           clear Aw
           clear Al
           clear Am
           clear Aq
           clear Au
           clear HB
           have AJ:=Bj
           have Ay:=Bl
           have Aw:=Bn
           have Al:=Bo
           have Am:=Bp
           have Aq:=Bq
           have Au:=Br
           have HB:=Bt
           clear Bj Bl Bn Bo Bp Bq Br Bt
           obtain ⟨Pp,Pq,Lu⟩:=Kd.fO Ay.out
           (first|subst Lu|(injection Lu with BI CZ BJ;have C8:=BI.symm;have C9:=BJ.symm;clear BI CZ BJ;subst C8;subst C9))
           refine fu (n:=15) (S:=fun w'=>True) (ds:=[]) #[O,O,O,O,O,O,O,O,O,O,O,O,O,O,O] (by kernel_rfl) rfl rfl trivial (fun hHeld=>?_);refine dR aA.qy aA.l8 (fun HT_ HW_=>?_)
           generalize wc.drew = Qr at AJ Ay Aw Al Am Aq Au HB hHeld ⊢
           refine pu_ 0 41 #[I,O,O,O,O,O,O,O,O,O,O,O,O,O,O] HT_.out ?_
           refine pu_ 1 42 #[I,I,O,O,O,O,O,O,O,O,O,O,O,O,O] HT_.out ?_
           refine pu_ 2 43 #[I,I,I,O,O,O,O,O,O,O,O,O,O,O,O] HT_.out ?_
           refine pu_ 3 44 #[I,I,I,I,O,O,O,O,O,O,O,O,O,O,O] HT_.out ?_
           refine pz_ 4 45 #[I,I,I,I,I,O,O,O,O,O,O,O,O,O,O] HT_.out ?_
           refine pz_ 5 46 #[I,I,I,I,I,I,O,O,O,O,O,O,O,O,O] HT_.out ?_
           refine pz_ 6 47 #[I,I,I,I,I,I,I,O,O,O,O,O,O,O,O] HT_.out ?_
           refine pz_ 7 48 #[I,I,I,I,I,I,I,I,O,O,O,O,O,O,O] HT_.out ?_
           refine pz_ 8 49 #[I,I,I,I,I,I,I,I,I,O,O,O,O,O,O] HT_.out ?_
           refine pz_ 9 50 #[I,I,I,I,I,I,I,I,I,I,O,O,O,O,O] HT_.out ?_
           refine pz_ 10 51 #[I,I,I,I,I,I,I,I,I,I,I,O,O,O,O] HT_.out ?_
           refine pz_ 11 52 #[I,I,I,I,I,I,I,I,I,I,I,I,O,O,O] HT_.out ?_
           refine pz_ 12 53 #[I,I,I,I,I,I,I,I,I,I,I,I,I,O,O] HT_.out ?_
           refine pu_ 13 54 #[I,I,I,I,I,I,I,I,I,I,I,I,I,I,O] HT_.out ?_
           refine pu_ 14 40 #[I,I,I,I,I,I,I,I,I,I,I,I,I,I,I] HT_.out ?_
           refine gJ (eH HT_.out (by kernel_rfl)) ?_
           try go_wp2
           go_meet
           case rel=>exact ⟨_,(true),(by first|rfl|(simp;done)|(simp [*];done)),H',⟨by have:=Gd.out;have:=GR.out;have:=EC.out;first|omega|exact Nat.le_refl _⟩,⟨by (with_reducible repeat (first|apply Kd.fA|apply Kd.fB|apply Kd.d9));exact AJ.out⟩,⟨by (with_reducible repeat (first|apply Kd.bP|apply Kd.bQ|apply Kd.bA));exact Ay.out⟩,⟨by (with_reducible repeat (first|apply Kd.bP|apply Kd.bQ|apply Kd.bA));exact Aw.out⟩,⟨by (with_reducible repeat (first|apply Kd.bP|apply Kd.bQ|apply Kd.bA));exact Al.out⟩,⟨by (with_reducible repeat (first|apply Kd.bP|apply Kd.bQ|apply Kd.bA));exact Am.out⟩,⟨by (with_reducible repeat (first|apply aC|apply aG|apply aH));exact Aq.out⟩,⟨by (with_reducible repeat (first|apply aC|apply aG|apply aH));exact Au.out⟩,⟨hb_⟩⟩
          ·rw [if_neg c34] at H
           have c34b0 : ((Ap.length : Int) == 0) = false:=beq_eq_false_iff_ne.mpr c34
           have c34b1 : ((Ap.length : Int) != 0) = true:=bne_iff_ne.mpr c34
           have c34b2 : ¬ (Ap = []):=fun h_=>c34 (by rw [h_];rfl)
           (first|rw [c34b0]|(simp only [bH,bI];rw [c34b0])|skip)
           by_cases c37 : 0 < (Ao.length : Int)
           ·rw [if_pos c37] at H
            have c37b0 : decide (0 < (Ao.length : Int)) = true:=decide_eq_true c37
            have c37b1 : decide (0 < Ao.length) = true:=decide_eq_true (by omega)
            clear c37
            by_cases Lv : 0 < (Ap.length : Int)
            ·rw [if_pos Lv] at H
             have c38b0 : decide (0 < (Ap.length : Int)) = true:=decide_eq_true Lv
             have c38b1 : decide (0 < Ap.length) = true:=decide_eq_true (by omega)
             clear Lv
             have H':=Aside0.mk H
             clear H
             try go_wp2
             have Bj:=Aside0.mk (Kd.d9 AJ.out)
             have Bl:=Aside0.mk (Kd.bA Ay.out)
             have Bn:=Aside0.mk (Kd.bA Aw.out)
             have Bo:=Aside0.mk (Kd.bA Al.out)
             have Bp:=Aside0.mk (Kd.bA Am.out)
             have Bq:=Aside0.mk (aG Aq.out)
             have Br:=Aside0.mk (aG Au.out)
             have Bt:=Aside0.mk (aZ HB.out)
             clear AJ
             clear Ay
             clear Aw
             clear Al
             clear Am
             clear Aq
             clear Au
             clear HB
             have AJ:=Bj
             have Ay:=Bl
             have Aw:=Bn
             have Al:=Bo
             have Am:=Bp
             have Aq:=Bq
             have Au:=Br
             have HB:=Bt
             clear Bj Bl Bn Bo Bp Bq Br Bt
             obtain ⟨Pt,Pv,Lx⟩:=Kd.fO Ay.out
             (first|subst Lx|(injection Lx with BI CZ BJ;have C8:=BI.symm;have C9:=BJ.symm;clear BI CZ BJ;subst C8;subst C9))
             obtain ⟨Pw,Px,LA⟩:=Kd.fO Aw.out
             (first|subst LA|(injection LA with BI CZ BJ;have C8:=BI.symm;have C9:=BJ.symm;clear BI CZ BJ;subst C8;subst C9))
             have Ht : 0 ≤ (0 : Int):=(by omega)
             have Hu : 0 < (Ao.length : Int):=of_decide_eq_true (by first|(with_reducible assumption)|assumption)
             obtain ⟨BN,Ko,Kq,Ns,DW,DX,DY,DZ,D5,D6,CK,Gv,Gw⟩:=gF (Kd.bL Aw.out).2.2 0 Ht Hu
             cases Ns
             obtain ⟨N8,Kr,Kt,Hw⟩:=Kd.iL Aw.out kJ 0 Ht (by first|exact Hu|exact of_decide_eq_true (by first|(with_reducible assumption)|assumption)|(have e_:=(Kd.bL Aw.out).1;omega))
             obtain ⟨ML,MN,rfl,ES,ET⟩:=fH Kt
             have D7:=Hw 6 _ rfl
             rw [bM _ _ 6 (by omega)] at D7
             replace D7:=Option.some.inj (D7.symm.trans CK)
             injection D7 with hva_ hvn_ hvc_
             rw [hva_] at ET
             rw [hvc_] at ES
             have I7:=Aside0.mk (show Kd.V k43 43 _ w.heap.size _ _ ((ay Ao 0).f1.f5) from Kd.gU ES ET)
             clear hva_ hvn_ hvc_ ET ES
             clear Hw Kr
             have N9 : (0 < Ao.length) = True:=eq_true (by omega)
             (try simp only [show ((0 : Int)).toNat = 0 from rfl,show 0 * 7 = 0 from rfl,Addr.add_zero'] at DW DX DY DZ D5 D6 CK)
             have I8:=Aside0.mk Gw
             have MO:=Aside0.mk Gv
             clear Gw Gv
             replace Ht:=eq_true Ht
             replace Hu:=eq_true Hu
             have Hy : 0 ≤ (0 : Int):=(by omega)
             have Hz : 0 < (Ap.length : Int):=of_decide_eq_true (by first|(with_reducible assumption)|assumption)
             obtain ⟨BO,Ku,Kv,Nt,D8,D9,Ea,Eb,Ec,Ed,CO,Gx,Gy⟩:=gF (Kd.bL Ay.out).2.2 0 Hy Hz
             cases Nt
             obtain ⟨Oa,Kw,Ky,H6⟩:=Kd.iL Ay.out kJ 0 Hy (by first|exact Hz|exact of_decide_eq_true (by first|(with_reducible assumption)|assumption)|(have e_:=(Kd.bL Ay.out).1;omega))
             obtain ⟨MP,MQ,rfl,EU,EW⟩:=fH Ky
             have Ee:=H6 6 _ rfl
             rw [bM _ _ 6 (by omega)] at Ee
             replace Ee:=Option.some.inj (Ee.symm.trans CO)
             injection Ee with hva_ hvn_ hvc_
             rw [hva_] at EW
             rw [hvc_] at EU
             have I9:=Aside0.mk (show Kd.V k43 43 _ w.heap.size _ _ ((ay Ap 0).f1.f5) from Kd.gU EU EW)
             clear hva_ hvn_ hvc_ EW EU
             clear H6 Kw
             have Ob : (0 < Ap.length) = True:=eq_true (by omega)
             (try simp only [show ((0 : Int)).toNat = 0 from rfl,show 0 * 7 = 0 from rfl,Addr.add_zero'] at D8 D9 Ea Eb Ec Ed CO)
             have Ja:=Aside0.mk Gy
             have MR:=Aside0.mk Gx
             clear Gy Gx
             replace Hy:=eq_true Hy
             replace Hz:=eq_true Hz
             refine fu (n:=15) (S:=fun w'=>w'.cell? BN = some (.string ((ay Ao 0).f0)) ∧ w'.cell? ⟨BN.block,BN.off + 1,none⟩ = some (.string ((ay Ao 0).f1.f0)) ∧ w'.cell? ⟨BN.block,BN.off + 2,none⟩ = some (.string ((ay Ao 0).f1.f1)) ∧ w'.cell? ⟨BN.block,BN.off + 3,none⟩ = some (.int .i64 ((ay Ao 0).f1.f2)) ∧ w'.cell? ⟨BN.block,BN.off + 4,none⟩ = some (.int .i64 ((ay Ao 0).f1.f3)) ∧ w'.cell? ⟨BN.block,BN.off + 5,none⟩ = some (.bool ((ay Ao 0).f1.f4)) ∧ w'.cell? ⟨BN.block,BN.off + 6,none⟩ = some (.slice Ko ((ay Ao 0).f1.f5).length Kq) ∧ w'.cell? BO = some (.string ((ay Ap 0).f0)) ∧ w'.cell? ⟨BO.block,BO.off + 1,none⟩ = some (.string ((ay Ap 0).f1.f0)) ∧ w'.cell? ⟨BO.block,BO.off + 2,none⟩ = some (.string ((ay Ap 0).f1.f1)) ∧ w'.cell? ⟨BO.block,BO.off + 3,none⟩ = some (.int .i64 ((ay Ap 0).f1.f2)) ∧ w'.cell? ⟨BO.block,BO.off + 4,none⟩ = some (.int .i64 ((ay Ap 0).f1.f3)) ∧ w'.cell? ⟨BO.block,BO.off + 5,none⟩ = some (.bool ((ay Ap 0).f1.f4)) ∧ w'.cell? ⟨BO.block,BO.off + 6,none⟩ = some (.slice Ku ((ay Ap 0).f1.f5).length Kv)) (ds:=[]) #[O,O,O,O,O,O,O,O,O,O,O,O,O,O,O] (by kernel_rfl) rfl rfl ⟨DW,DX,DY,DZ,D5,D6,CK,D8,D9,Ea,Eb,Ec,Ed,CO⟩ (fun hHeld=>?_);refine dR aA.qy aA.l8 (fun HT_ HW_=>?_)
             generalize wc.drew = Qs at AJ Ay Aw Al Am Aq Au HB I7 I9 I8 Ja DW DX DY DZ D5 D6 CK D8 D9 Ea Eb Ec Ed CO hHeld ⊢
             refine pu_ 0 41 #[I,O,O,O,O,O,O,O,O,O,O,O,O,O,O] HT_.out ?_
             refine pu_ 1 42 #[I,I,O,O,O,O,O,O,O,O,O,O,O,O,O] HT_.out ?_
             refine pu_ 2 43 #[I,I,I,O,O,O,O,O,O,O,O,O,O,O,O] HT_.out ?_
             refine pu_ 3 44 #[I,I,I,I,O,O,O,O,O,O,O,O,O,O,O] HT_.out ?_
             refine pu_ 4 45 #[I,I,I,I,I,O,O,O,O,O,O,O,O,O,O] HT_.out ?_
             refine pu_ 5 46 #[I,I,I,I,I,I,O,O,O,O,O,O,O,O,O] HT_.out ?_
             refine pu_ 6 47 #[I,I,I,I,I,I,I,O,O,O,O,O,O,O,O] HT_.out ?_
             refine pu_ 8 49 #[I,I,I,I,I,I,I,O,I,O,O,O,O,O,O] HT_.out ?_
             refine pu_ 9 50 #[I,I,I,I,I,I,I,O,I,I,O,O,O,O,O] HT_.out ?_
             refine pu_ 10 51 #[I,I,I,I,I,I,I,O,I,I,I,O,O,O,O] HT_.out ?_
             refine ta_ 7 48 #[I,I,I,I,I,I,I,I,I,I,I,O,O,O,O] HT_.out HW_.out hHeld ?_
             refine ta_ 11 52 #[I,I,I,I,I,I,I,I,I,I,I,I,O,O,O] HT_.out HW_.out hHeld ?_
             refine pu_ 12 53 #[I,I,I,I,I,I,I,I,I,I,I,I,I,O,O] HT_.out ?_
             refine pu_ 13 54 #[I,I,I,I,I,I,I,I,I,I,I,I,I,I,O] HT_.out ?_
             refine pu_ 14 40 #[I,I,I,I,I,I,I,I,I,I,I,I,I,I,I] HT_.out ?_
             refine gJ (eH HT_.out (by kernel_rfl)) ?_
             try go_wp2
             go_meet
             case rel=>exact ⟨_,((Op.bytesLess (((ay Ao 0).f0).toList) (((ay Ap 0).f0).toList))),(by first|rfl|(simp;done)|(simp [*];done)),H',⟨by have:=Gd.out;have:=GR.out;have:=EC.out;first|omega|exact Nat.le_refl _⟩,⟨by (with_reducible repeat (first|apply Kd.fA|apply Kd.fB|apply Kd.d9));exact AJ.out⟩,⟨by (with_reducible repeat (first|apply Kd.bP|apply Kd.bQ|apply Kd.bA));exact Ay.out⟩,⟨by (with_reducible repeat (first|apply Kd.bP|apply Kd.bQ|apply Kd.bA));exact Aw.out⟩,⟨by (with_reducible repeat (first|apply Kd.bP|apply Kd.bQ|apply Kd.bA));exact Al.out⟩,⟨by (with_reducible repeat (first|apply Kd.bP|apply Kd.bQ|apply Kd.bA));exact Am.out⟩,⟨by (with_reducible repeat (first|apply aC|apply aG|apply aH));exact Aq.out⟩,⟨by (with_reducible repeat (first|apply aC|apply aG|apply aH));exact Au.out⟩,⟨hb_⟩⟩
            ·rw [if_neg Lv] at H
             exact absurd H (by simp)
           ·rw [if_neg c37] at H
            exact absurd H (by simp)
         case rest =>
          clear Kn
          try clear c1
          try clear p1
          try clear q1
          try clear hx1
          try clear O7
          try clear c2
          try clear p2
          try clear c3
          try clear q3
          try clear c13
          try clear Pf
          try clear Pg
          try clear Nl
          try clear c14
          try clear Qt
          try clear Qu
          try clear Py
          try clear Pz
          try clear Lf
          try clear Lg
          try clear Lh
          try clear c28
          try clear c32
          try clear q32
          try clear c34
          try clear c34b0
          try clear c34b1
          try clear c34b2
          try clear c37
          try clear c37b0
          try clear c37b1
          try clear Lv
          try clear c38b0
          try clear c38b1
          try clear Du
          try clear Dv
          try clear Dw
          try clear Dx
          try clear Dy
          try clear Dz
          try clear Cz
          try clear DI
          try clear DJ
          try clear DK
          try clear DL
          try clear DN
          try clear DR
          try clear CB
          try clear DW
          try clear DX
          try clear DY
          try clear DZ
          try clear D5
          try clear D6
          try clear CK
          try clear D8
          try clear D9
          try clear Ea
          try clear Eb
          try clear Ec
          try clear Ed
          try clear CO
          try clear Hl
          try clear Ht
          try clear Hy
          try clear Ho
          try clear Hu
          try clear Hz
          try clear q32
          obtain ⟨kq,ER,rfl,HA,GU,AJ,Ay,Aw,Al,Am,Aq,Au,HB⟩:=hcut
          cases kq with
          | zero=>exact absurd HA.out (by simp [aA.j3])
          | succ BP =>
           have H:=HA.out
           clear HA
           simp only [aA.j3] at H
           by_cases MS : ER = true
           ·subst MS
            have H1 : (if 0 < (Ao.length : Int) then (if Bf.length < 3518437208883 then (if 1 ≤ (Ao.length : Int) then (aA.l0 BP (Bf ++ [(⟨0,(ay Ao 0).f0,(ay Ao 0).f1.f0⟩ : S65)]) Ap (Ao.drop 1)) else (none)) else (none)) else (none)) = some r:=by rw [if_pos rfl] at H;exact H
            clear H
            have H:=H1
            clear H1
            by_cases MU : 0 < (Ao.length : Int)
            ·rw [if_pos MU] at H
             have c43b0 : decide (0 < (Ao.length : Int)) = true:=decide_eq_true MU
             have c43b1 : decide (0 < Ao.length) = true:=decide_eq_true (by omega)
             clear MU
             by_cases MV : Bf.length < 3518437208883
             ·rw [if_pos MV] at H
              have LC:=Aside0.mk MV
              clear MV
              obtain ⟨Kz,F6⟩ : ∃ y_ : List (S65),y_ = (Bf ++ [(⟨0,(ay Ao 0).f0,(ay Ao 0).f1.f0⟩ : S65)]):=⟨_,rfl⟩
              replace H : (if 1 ≤ (Ao.length : Int) then (aA.l0 BP Kz Ap (Ao.drop 1)) else (none)) = some r:=by first|(rw [F6];with_reducible exact H)|(have Cu:=(Option.bind_some _ _).symm.trans H;rw [F6];with_reducible exact Cu)|(have Cu:=(Option.bind_some _ _).symm.trans H;with_reducible exact Cu)|with_reducible exact H|(rw [F6];exact H)|exact H
              have LD:=Aside0.mk F6
              clear F6
              by_cases LG : 1 ≤ (Ao.length : Int)
              ·rw [if_pos LG] at H
               have c45b0:=eq_true LG
               have c45b1 : decide (1 ≤ (Ao.length : Int)) = true:=decide_eq_true LG
               clear LG
               obtain ⟨EX,F7⟩ : ∃ y_ : List (S102),y_ = (Ao.drop 1):=⟨_,rfl⟩
               replace H : (aA.l0 BP Kz Ap EX) = some r:=by first|(rw [F7];with_reducible exact H)|(have Cu:=(Option.bind_some _ _).symm.trans H;rw [F7];with_reducible exact Cu)|(have Cu:=(Option.bind_some _ _).symm.trans H;with_reducible exact Cu)|with_reducible exact H|(rw [F7];exact H)|exact H
               have JG:=Aside0.mk F7
               clear F7
               have H':=Aside0.mk H
               clear H
               try go_wp2
               have Bj:=Aside0.mk (Kd.d9 AJ.out)
               have Bl:=Aside0.mk (Kd.bA Ay.out)
               have Bn:=Aside0.mk (Kd.bA Aw.out)
               have Bo:=Aside0.mk (Kd.bA Al.out)
               have Bp:=Aside0.mk (Kd.bA Am.out)
               have Bq:=Aside0.mk (aG Aq.out)
               have Br:=Aside0.mk (aG Au.out)
               have Bt:=Aside0.mk (aZ HB.out)
               clear AJ
               clear Ay
               clear Aw
               clear Al
               clear Am
               clear Aq
               clear Au
               clear HB
               have AJ:=Bj
               have Ay:=Bl
               have Aw:=Bn
               have Al:=Bo
               have Am:=Bp
               have Aq:=Bq
               have Au:=Br
               have HB:=Bt
               clear Bj Bl Bn Bo Bp Bq Br Bt
               obtain ⟨PD,H7,LJ⟩:=Kd.fO Aw.out
               (first|subst LJ|(injection LJ with BI CZ BJ;have C8:=BI.symm;have C9:=BJ.symm;clear BI CZ BJ;subst C8;subst C9))
               have Jb : 0 ≤ (0 : Int):=(by omega)
               have Jc : 0 < (Ao.length : Int):=of_decide_eq_true (by first|(with_reducible assumption)|assumption)
               obtain ⟨AZ,H8,H9,e143,EY,EZ,E5,E8,E9,Fa,CP,Gz,GA⟩:=gF (Kd.bL Aw.out).2.2 0 Jb Jc
               cases e143
               obtain ⟨Oc,KA,KC,Ia⟩:=Kd.iL Aw.out kJ 0 Jb (by first|exact Jc|exact of_decide_eq_true (by first|(with_reducible assumption)|assumption)|(have e_:=(Kd.bL Aw.out).1;omega))
               obtain ⟨MW,MX,rfl,Fb,Fe⟩:=fH KC
               have Ef:=Ia 6 _ rfl
               rw [bM _ _ 6 (by omega)] at Ef
               replace Ef:=Option.some.inj (Ef.symm.trans CP)
               injection Ef with hva_ hvn_ hvc_
               rw [hva_] at Fe
               rw [hvc_] at Fb
               have Eh:=Aside0.mk (show Kd.V k43 43 _ w.heap.size _ _ ((ay Ao 0).f1.f5) from Kd.gU Fb Fe)
               clear hva_ hvn_ hvc_ Fe Fb
               clear Ia KA
               have Od : (0 < Ao.length) = True:=eq_true (by omega)
               (try simp only [show ((0 : Int)).toNat = 0 from rfl,show 0 * 7 = 0 from rfl,Addr.add_zero'] at EY EZ E5 E8 E9 Fa CP)
               have Jd:=Aside0.mk GA
               have MZ:=Aside0.mk Gz
               clear GA Gz
               replace Jb:=eq_true Jb
               replace Jc:=eq_true Jc
               have Je : 0 ≤ (0 : Int):=(by omega)
               have Jf : 0 < (Ao.length : Int):=of_decide_eq_true (by first|(with_reducible assumption)|assumption)
               obtain ⟨LK,Nu,Nv,Nw,Fg,Fh,Fj,Fp,Fq,Fu,CQ,GD,GI⟩:=gF (Kd.bL Aw.out).2.2 0 Je Jf
               obtain rfl : AZ = LK:=(by injection Nw)
               obtain ⟨Oe,KD,KE,Ib⟩:=Kd.iL Aw.out kJ 0 Je (by first|exact Jf|exact of_decide_eq_true (by first|(with_reducible assumption)|assumption)|(have e_:=(Kd.bL Aw.out).1;omega))
               obtain ⟨M0,M4,rfl,Fv,Fw⟩:=fH KE
               have Ei:=Ib 6 _ rfl
               rw [bM _ _ 6 (by omega)] at Ei
               replace Ei:=Option.some.inj (Ei.symm.trans CQ)
               injection Ei with hva_ hvn_ hvc_
               rw [hva_] at Fw
               rw [hvc_] at Fv
               have Ej:=Aside0.mk (show Kd.V k43 43 _ w.heap.size _ _ ((ay Ao 0).f1.f5) from Kd.gU Fv Fw)
               clear hva_ hvn_ hvc_ Fw Fv
               clear Ib KD
               have Og : (0 < Ao.length) = True:=eq_true (by omega)
               (try simp only [show ((0 : Int)).toNat = 0 from rfl,show 0 * 7 = 0 from rfl,Addr.add_zero'] at Fg Fh Fj Fp Fq Fu CQ)
               have Jg:=Aside0.mk GI
               have M5:=Aside0.mk GD
               clear GI GD
               replace Je:=eq_true Je
               replace Jf:=eq_true Jf
               have ea_:=Option.some.inj (CP.symm.trans CQ)
               injection ea_ with ea_ en_ ec_
               subst ea_
               subst ec_
               clear en_
               refine fu (n:=14) (S:=fun w'=>w'.cell? AZ = some (.string ((ay Ao 0).f0)) ∧ w'.cell? ⟨AZ.block,AZ.off + 1,none⟩ = some (.string ((ay Ao 0).f1.f0)) ∧ w'.cell? ⟨AZ.block,AZ.off + 2,none⟩ = some (.string ((ay Ao 0).f1.f1)) ∧ w'.cell? ⟨AZ.block,AZ.off + 3,none⟩ = some (.int .i64 ((ay Ao 0).f1.f2)) ∧ w'.cell? ⟨AZ.block,AZ.off + 4,none⟩ = some (.int .i64 ((ay Ao 0).f1.f3)) ∧ w'.cell? ⟨AZ.block,AZ.off + 5,none⟩ = some (.bool ((ay Ao 0).f1.f4)) ∧ w'.cell? ⟨AZ.block,AZ.off + 6,none⟩ = some (.slice H8 ((ay Ao 0).f1.f5).length H9) ∧ w'.cell? AZ = some (.string ((ay Ao 0).f0)) ∧ w'.cell? ⟨AZ.block,AZ.off + 1,none⟩ = some (.string ((ay Ao 0).f1.f0)) ∧ w'.cell? ⟨AZ.block,AZ.off + 2,none⟩ = some (.string ((ay Ao 0).f1.f1)) ∧ w'.cell? ⟨AZ.block,AZ.off + 3,none⟩ = some (.int .i64 ((ay Ao 0).f1.f2)) ∧ w'.cell? ⟨AZ.block,AZ.off + 4,none⟩ = some (.int .i64 ((ay Ao 0).f1.f3)) ∧ w'.cell? ⟨AZ.block,AZ.off + 5,none⟩ = some (.bool ((ay Ao 0).f1.f4)) ∧ w'.cell? ⟨AZ.block,AZ.off + 6,none⟩ = some (.slice H8 ((ay Ao 0).f1.f5).length H9)) (ds:=[11,12]) #[O,O,O,O,O,O,O,O,O,O,O,O,O,O] (by kernel_rfl) rfl rfl ⟨EY,EZ,E5,E8,E9,Fa,CP,Fg,Fh,Fj,Fp,Fq,Fu,CQ⟩ (fun hHeld=>?_);refine dR aA.rM aA.oz (fun HT_ HW_=>?_)
               generalize wc.drew = Qv at AJ Ay Aw Al Am Aq Au HB Eh Ej Jd Jg EY EZ E5 E8 E9 Fa CP Fg Fh Fj Fp Fq Fu CQ hHeld ⊢
               refine pu_ 0 81 #[I,O,O,O,O,O,O,O,O,O,O,O,O,O] HT_.out ?_
               refine pu_ 1 82 #[I,I,O,O,O,O,O,O,O,O,O,O,O,O] HT_.out ?_
               refine pu_ 2 83 #[I,I,I,O,O,O,O,O,O,O,O,O,O,O] HT_.out ?_
               refine pu_ 3 84 #[I,I,I,I,O,O,O,O,O,O,O,O,O,O] HT_.out ?_
               refine pu_ 5 86 #[I,I,I,I,O,I,O,O,O,O,O,O,O,O] HT_.out ?_
               refine pu_ 6 87 #[I,I,I,I,O,I,I,O,O,O,O,O,O,O] HT_.out ?_
               refine pu_ 7 88 #[I,I,I,I,O,I,I,I,O,O,O,O,O,O] HT_.out ?_
               refine pu_ 8 89 #[I,I,I,I,O,I,I,I,I,O,O,O,O,O] HT_.out ?_
               refine ta_ 4 85 #[I,I,I,I,I,I,I,I,I,O,O,O,O,O] HT_.out HW_.out hHeld ?_
               refine ta_ 9 90 #[I,I,I,I,I,I,I,I,I,I,O,O,O,O] HT_.out HW_.out hHeld ?_
               refine pu_ 10 91 #[I,I,I,I,I,I,I,I,I,I,I,O,O,O] HT_.out ?_
               refine jJ (i:=11) (N:=some 92) #[I,I,I,I,I,I,I,I,I,I,I,I,O,O] rfl rfl (dw HT_.out (by kernel_rfl)) (by decide) (fun K hK=>?_)
               refine qc (w1:=?_) (v:=?_) (by rfl) rfl ?_ ?_
               rotate_left 2
               ·go_simp
                constructor
                ·rfl
                ·rfl
               refine hK.out _ _ ?_
               clear hK K
               refine dU (a':=?_) ?_ ?_
               rotate_left
               ·show Act.put _ (some 92) _ = _
                simp only [Act.put,List.setIfInBounds_toArray,List.set_cons_zero,List.set_cons_succ,bH,bI]
                rfl
               refine jJ (i:=12) (N:=some 93) #[I,I,I,I,I,I,I,I,I,I,I,I,I,O] rfl rfl (dw HT_.out (by kernel_rfl)) (by decide) (fun K hK=>?_)
               refine Kd.jO k65 (w0:=w) w.heap.size (by rfl) (.tmp 81) (.tmp 92) 61 65 (.agg #[(.int .i64 0),(.string ⟨#[]⟩),(.string ⟨#[]⟩)]) 40 rfl Tryd.underlying61 rJ rfl (by decide) (by omega) u5 Bf (⟨0,(ay Ao 0).f0,(ay Ao 0).f1.f0⟩ : S65) [.int .i64 0,.string ((ay Ao 0).f0),.string ((ay Ao 0).f1.f0)] (fun k_=>(w.heap.size ≤ k_)) (fun _=>False) rfl rfl ?aP (fun _ hk=>hk.elim) ?aF ?aO ?aB ?aS ?aL ?_
               (case aP=>exact qx _ _ _ (⟨0,(ay Ao 0).f0,(ay Ao 0).f1.f0⟩ : S65))
               (case aB=>exact hb_)
               (case aF=>exact (fun k_ hk=>(Nat.le_trans (aY hb_) hk)))
               (case aO=>exact (kr_ AJ.out))
               (case aS=>exact (aY hb_))
               (case aL=>have:=LC.out;omega)
               intro v146 Qw ho hb hg hat
               rw [← LD.out] at ho
               have Bj:=Aside0.mk (Kd.fK (ok:=(fun k_=>((AP k_ ∨ AQ k_) ∨ w.heap.size ≤ k_) ∧ k_ ≠ AA ∧ k_ ≠ AB)) (by (with_reducible repeat (first|apply Kd.bP|apply Kd.bQ|apply Kd.bA));exact Kd.dO Ay.out (fun _ hk=>⟨⟨hk.1,⟨hk.2.2.1,hk.2.2.2⟩⟩,hk.2.1⟩)) hg hat)
               have Bl:=Aside0.mk (Kd.fK (ok:=(fun k_=>((AP k_ ∨ AQ k_) ∨ w.heap.size ≤ k_) ∧ k_ ≠ AA ∧ k_ ≠ AB)) (by (with_reducible repeat (first|apply Kd.bP|apply Kd.bQ|apply Kd.bA));exact Kd.dO Aw.out (fun _ hk=>⟨⟨hk.1,⟨hk.2.2.1,hk.2.2.2⟩⟩,hk.2.1⟩)) hg hat)
               have Bn:=Aside0.mk (Kd.fK (ok:=(fun k_=>((AP k_ ∨ AQ k_) ∨ w.heap.size ≤ k_) ∧ k_ ≠ AA ∧ k_ ≠ AB)) (by (with_reducible repeat (first|apply Kd.bP|apply Kd.bQ|apply Kd.bA));exact Kd.dO Al.out (fun _ hk=>⟨⟨hk.1,⟨hk.2.2.1,hk.2.2.2⟩⟩,hk.2.1⟩)) hg hat)
               have Bo:=Aside0.mk (Kd.fK (ok:=(fun k_=>((AP k_ ∨ AQ k_) ∨ w.heap.size ≤ k_) ∧ k_ ≠ AA ∧ k_ ≠ AB)) (by (with_reducible repeat (first|apply Kd.bP|apply Kd.bQ|apply Kd.bA));exact Kd.dO Am.out (fun _ hk=>⟨⟨hk.1,⟨hk.2.2.1,hk.2.2.2⟩⟩,hk.2.1⟩)) hg hat)
               have Bp:=Aside0.mk (jA (g:=AA) (o:=.cells #[.int .u64 Ct,.slice BG Bg.length BH] 59 (0,0)) (bk_ Aq.out) hg (Kd.ku AJ.out Aq.out (by decide)))
               have Bq:=Aside0.mk (jA (g:=AB) (o:=.cells #[.int .u64 CF,.slice Cq Bh.length Cr] 59 (0,0)) (bk_ Au.out) hg (Kd.ku AJ.out Au.out (by decide)))
               have Br:=Aside0.mk (Kd.fK (ok:=(fun k_=>((AP k_ ∨ AQ k_) ∨ w.heap.size ≤ k_) ∧ k_ ≠ AA ∧ k_ ≠ AB)) (by (with_reducible repeat (first|apply Kd.bP|apply Kd.bQ|apply Kd.bA));exact Kd.dO Eh.out (fun _ hk=>⟨⟨hk.1,⟨hk.2.2.1,hk.2.2.2⟩⟩,hk.2.1⟩)) hg hat)
               have Bt:=Aside0.mk (Kd.fK (ok:=(fun k_=>((AP k_ ∨ AQ k_) ∨ w.heap.size ≤ k_) ∧ k_ ≠ AA ∧ k_ ≠ AB)) (by (with_reducible repeat (first|apply Kd.bP|apply Kd.bQ|apply Kd.bA));exact Kd.dO Ej.out (fun _ hk=>⟨⟨hk.1,⟨hk.2.2.1,hk.2.2.2⟩⟩,hk.2.1⟩)) hg hat)
               have Da:=Aside0.mk (hb)
               have Et:=Aside0.mk (ho)
               clear Ay
               clear Aw
               clear Al
               clear Am
               clear Aq
               clear Au
               clear Eh
               clear Ej
               clear HB
               clear AJ
               have Ay:=Bj
               have Aw:=Bl
               have Al:=Bn
               have Am:=Bo
               have Aq:=Bp
               have Au:=Bq
               have Eh:=Br
               have Ej:=Bt
               have HB:=Da
               have LP:=Et
               clear Bj Bl Bn Bo Bp Bq Br Bt Da Et
               clear ho hb hg hat
               refine hK.out _ _ ?_
               clear hK K
               refine dU (a':=?_) ?_ ?_
               rotate_left
               ·show Act.put _ (some 93) _ = _
                simp only [Act.put,List.setIfInBounds_toArray,List.set_cons_zero,List.set_cons_succ,bH,bI]
                rfl
               refine pu_ 13 5 #[I,I,I,I,I,I,I,I,I,I,I,I,I,I] HT_.out ?_
               refine gJ (eH HT_.out (by kernel_rfl)) ?_
               have Ny : (1 : Int) ≤ ((Ao.length : Int) : Int):=of_decide_eq_true (by first|(with_reducible assumption)|assumption)
               obtain ⟨PE,JH,_,JI,_⟩:=info_parts kS
               have El : Ao.length ≤ H7:=(Kd.bL Aw.out).2.1
               have LQ : Kd.F fP _ _ (some AZ) Ao.length Ao:=(Kd.nY (base:=w.heap.size) Aw.out).2.2
               have KF:=jQ (P:=Tryd.prog) 57 102 .i64 Tryd.underlying57 JH 7 JI (some AZ) Ao.length H7 1 (by omega) Ny
               have Ic:=Kd.pF (m:=(1 : Int).toNat) (c:=H7) LQ (by omega) El
               obtain ⟨Oh,Jh⟩ : ∃ A1,A1 = (if H7 = (1 : Int).toNat then (some AZ) else ((some AZ) : Option Addr).map (·.add ((1 : Int).toNat * 7))):=⟨_,rfl⟩
               obtain ⟨c49,Ji⟩ : ∃ c1,c1 = H7 - (1 : Int).toNat:=⟨_,rfl⟩
               have Ie : EX.length = Ao.length - (1 : Int).toNat:=(by rw [JG.out,List.length_drop] <;> omega)
               rw [show (Ao).drop (1 : Int).toNat = EX from JG.out.symm] at Ic
               replace Ic : Kd.F fP _ _ Oh EX.length EX:=(by rw [Jh];exact Ic)
               rw [← Ie,← Jh,← Ji] at KF
               have LU:=Aside0.mk (show Kd.V fP 102 _ w.heap.size _ (.slice Oh EX.length c49) EX from Kd.gU (by rw [Ie,Ji];exact Nat.sub_le_sub_right El _) Ic)
               have Oi:=Aside0.mk (show EX.length ≤ c49 from by rw [Ie,Ji];exact Nat.sub_le_sub_right El _)
               clear Ic LQ El JH JI Ji
               have PG:=Aside0.mk Ie
               have PI:=Aside0.mk Jh
               clear Ie Jh
               replace Ny:=eq_true Ny
               try go_wp2
               go_roundg BP
               case measure=>have:=Gd.out;have:=GR.out;have:=EC.out;have:=GU.out;omega
               case rel=>exact ⟨(Kz),(Ap),(EX),H',⟨by have:=Gd.out;have:=GR.out;have:=EC.out;have:=GU.out;omega⟩,⟨by (with_reducible repeat (first|apply Kd.fA|apply Kd.fB|apply Kd.d9));exact LP.out⟩,⟨by (with_reducible repeat (first|apply Kd.bP|apply Kd.bQ|apply Kd.bA));exact Kd.dO Ay.out (fun _ hk=>⟨hk.1.1,⟨hk.2,⟨hk.1.2.1,hk.1.2.2⟩⟩⟩)⟩,⟨by (with_reducible repeat (first|apply Kd.bP|apply Kd.bQ|apply Kd.bA));exact Kd.dO LU.out (fun _ hk=>⟨hk.1.1,⟨hk.2,⟨hk.1.2.1,hk.1.2.2⟩⟩⟩)⟩,⟨by (with_reducible repeat (first|apply Kd.bP|apply Kd.bQ|apply Kd.bA));exact Kd.dO Al.out (fun _ hk=>⟨hk.1.1,⟨hk.2,⟨hk.1.2.1,hk.1.2.2⟩⟩⟩)⟩,⟨by (with_reducible repeat (first|apply Kd.bP|apply Kd.bQ|apply Kd.bA));exact Kd.dO Am.out (fun _ hk=>⟨hk.1.1,⟨hk.2,⟨hk.1.2.1,hk.1.2.2⟩⟩⟩)⟩,⟨by (with_reducible repeat (first|apply aC|apply aG|apply aH));exact Aq.out⟩,⟨by (with_reducible repeat (first|apply aC|apply aG|apply aH));exact Au.out⟩,⟨hb_⟩⟩
              ·rw [if_neg LG] at H
               exact absurd H (by simp)
             ·rw [if_neg MV] at H
              exact absurd H (by simp)
            ·rw [if_neg MU] at H
             exact absurd H (by simp)
           ·replace MS:=Bool.eq_false_iff.mpr MS
            subst MS
            have H1 : (if 0 < (Ap.length : Int) then (if 0 < (Ao.length : Int) then ((dD.f BP ((ay Ap 0).f1.f0) ((ay Ap 0).f1.f1) ((ay Ap 0).f1.f2) ((ay Ap 0).f1.f3) ((ay Ap 0).f1.f4) ((ay Ap 0).f1.f5) ((ay Ao 0).f1.f0) ((ay Ao 0).f1.f1) ((ay Ao 0).f1.f2) ((ay Ao 0).f1.f3) ((ay Ao 0).f1.f4) ((ay Ao 0).f1.f5)).bind fun GQ=>(if GQ = true then (if 1 ≤ (Ap.length : Int) then (if 1 ≤ (Ao.length : Int) then (aA.l0 BP Bf (Ap.drop 1) (Ao.drop 1)) else (none)) else (none)) else (if Bf.length < 3518437208883 then (if 1 ≤ (Ap.length : Int) then (if 1 ≤ (Ao.length : Int) then (aA.l0 BP (Bf ++ [(⟨1,(ay Ao 0).f0,(ay Ao 0).f1.f0⟩ : S65)]) (Ap.drop 1) (Ao.drop 1)) else (none)) else (none)) else (none)))) else (none)) else (none)) = some r:=by rw [if_neg (show ¬ (false = true) by decide)] at H;exact H
            clear H
            have H:=H1
            clear H1
            by_cases M6 : 0 < (Ap.length : Int)
            ·rw [if_pos M6] at H
             have c50b0 : decide (0 < (Ap.length : Int)) = true:=decide_eq_true M6
             have c50b1 : decide (0 < Ap.length) = true:=decide_eq_true (by omega)
             clear M6
             by_cases c51 : 0 < (Ao.length : Int)
             ·rw [if_pos c51] at H
              have c51b0 : decide (0 < (Ao.length : Int)) = true:=decide_eq_true c51
              have c51b1 : decide (0 < Ao.length) = true:=decide_eq_true (by omega)
              clear c51
              replace H:=Option.bind_eq_some_iff.mp H
              obtain ⟨GQ,LV,H⟩:=H
              replace H : (if GQ = true then (if 1 ≤ (Ap.length : Int) then (if 1 ≤ (Ao.length : Int) then (aA.l0 BP Bf (Ap.drop 1) (Ao.drop 1)) else (none)) else (none)) else (if Bf.length < 3518437208883 then (if 1 ≤ (Ap.length : Int) then (if 1 ≤ (Ao.length : Int) then (aA.l0 BP (Bf ++ [(⟨1,(ay Ao 0).f0,(ay Ao 0).f1.f0⟩ : S65)]) (Ap.drop 1) (Ao.drop 1)) else (none)) else (none)) else (none))) = some r:=H
              have Oj:=Aside0.mk LV
              clear LV
              by_cases c53 : GQ = true
              ·subst c53
               have H1 : (if 1 ≤ (Ap.length : Int) then (if 1 ≤ (Ao.length : Int) then (aA.l0 BP Bf (Ap.drop 1) (Ao.drop 1)) else (none)) else (none)) = some r:=by rw [if_pos rfl] at H;exact H
               clear H
               have H:=H1
               clear H1
               by_cases LW : 1 ≤ (Ap.length : Int)
               ·rw [if_pos LW] at H
                have c54b0:=eq_true LW
                have c54b1 : decide (1 ≤ (Ap.length : Int)) = true:=decide_eq_true LW
                clear LW
                obtain ⟨ED,F8⟩ : ∃ y_ : List (S102),y_ = (Ap.drop 1):=⟨_,rfl⟩
                replace H : (if 1 ≤ (Ao.length : Int) then (aA.l0 BP Bf ED (Ao.drop 1)) else (none)) = some r:=by first|(rw [F8];with_reducible exact H)|(have Cu:=(Option.bind_some _ _).symm.trans H;rw [F8];with_reducible exact Cu)|(have Cu:=(Option.bind_some _ _).symm.trans H;with_reducible exact Cu)|with_reducible exact H|(rw [F8];exact H)|exact H
                have JJ:=Aside0.mk F8
                clear F8
                by_cases LY : 1 ≤ (Ao.length : Int)
                ·rw [if_pos LY] at H
                 have c55b0:=eq_true LY
                 have c55b1 : decide (1 ≤ (Ao.length : Int)) = true:=decide_eq_true LY
                 clear LY
                 obtain ⟨Fx,F9⟩ : ∃ y_ : List (S102),y_ = (Ao.drop 1):=⟨_,rfl⟩
                 replace H : (aA.l0 BP Bf ED Fx) = some r:=by first|(rw [F9];with_reducible exact H)|(have Cu:=(Option.bind_some _ _).symm.trans H;rw [F9];with_reducible exact Cu)|(have Cu:=(Option.bind_some _ _).symm.trans H;with_reducible exact Cu)|with_reducible exact H|(rw [F9];exact H)|exact H
                 have JK:=Aside0.mk F9
                 clear F9
                 have H':=Aside0.mk H
                 clear H
                 try go_wp2
                 have Bj:=Aside0.mk (Kd.d9 AJ.out)
                 have Bl:=Aside0.mk (Kd.bA Ay.out)
                 have Bn:=Aside0.mk (Kd.bA Aw.out)
                 have Bo:=Aside0.mk (Kd.bA Al.out)
                 have Bp:=Aside0.mk (Kd.bA Am.out)
                 have Bq:=Aside0.mk (aG Aq.out)
                 have Br:=Aside0.mk (aG Au.out)
                 have Bt:=Aside0.mk (aZ HB.out)
                 clear AJ
                 clear Ay
                 clear Aw
                 clear Al
                 clear Am
                 clear Aq
                 clear Au
                 clear HB
                 have AJ:=Bj
                 have Ay:=Bl
                 have Aw:=Bn
                 have Al:=Bo
                 have Am:=Bp
                 have Aq:=Bq
                 have Au:=Br
                 have HB:=Bt
                 clear Bj Bl Bn Bo Bp Bq Br Bt
                 obtain ⟨PK,Ig,LZ⟩:=Kd.fO Ay.out
                 (first|subst LZ|(injection LZ with BI CZ BJ;have C8:=BI.symm;have C9:=BJ.symm;clear BI CZ BJ;subst C8;subst C9))
                 have Fy : 0 ≤ (0 : Int):=(by omega)
                 have Fz : 0 < (Ap.length : Int):=of_decide_eq_true (by first|(with_reducible assumption)|assumption)
                 obtain ⟨AX,Eu,Ew,e153,BQ,BR,BS,BU,BX,BZ,Bu,CS,CU⟩:=gF (Kd.bL Ay.out).2.2 0 Fy Fz
                 cases e153
                 obtain ⟨L6,Gg,Gh,Ey⟩:=Kd.iL Ay.out kJ 0 Fy (by first|exact Fz|exact of_decide_eq_true (by first|(with_reducible assumption)|assumption)|(have e_:=(Kd.bL Ay.out).1;omega))
                 obtain ⟨Jj,Jk,rfl,Ca,Cb⟩:=fH Gh
                 have Bv:=Ey 6 _ rfl
                 rw [bM _ _ 6 (by omega)] at Bv
                 replace Bv:=Option.some.inj (Bv.symm.trans Bu)
                 injection Bv with hva_ hvn_ hvc_
                 rw [hva_] at Cb
                 rw [hvc_] at Ca
                 have AL:=Aside0.mk (show Kd.V k43 43 _ w.heap.size _ _ ((ay Ap 0).f1.f5) from Kd.gU Ca Cb)
                 clear hva_ hvn_ hvc_ Cb Ca
                 clear Ey Gg
                 have L8 : (0 < Ap.length) = True:=eq_true (by omega)
                 (try simp only [show ((0 : Int)).toNat = 0 from rfl,show 0 * 7 = 0 from rfl,Addr.add_zero'] at BQ BR BS BU BX BZ Bu)
                 have AU:=Aside0.mk CU
                 have FB:=Aside0.mk CS
                 clear CU CS
                 replace Fy:=eq_true Fy
                 replace Fz:=eq_true Fz
                 obtain ⟨PL,Ih,L9⟩:=Kd.fO Aw.out
                 (first|subst L9|(injection L9 with BI CZ BJ;have C8:=BI.symm;have C9:=BJ.symm;clear BI CZ BJ;subst C8;subst C9))
                 have FC : 0 ≤ (0 : Int):=(by omega)
                 have FD : 0 < (Ao.length : Int):=of_decide_eq_true (by first|(with_reducible assumption)|assumption)
                 obtain ⟨Az,Ez,EA,e154,Cc,Ce,Cg,Ch,Ci,Cj,Bw,CV,CW⟩:=gF (Kd.bL Aw.out).2.2 0 FC FD
                 cases e154
                 obtain ⟨Ma,Gi,Gj,EB⟩:=Kd.iL Aw.out kJ 0 FC (by first|exact FD|exact of_decide_eq_true (by first|(with_reducible assumption)|assumption)|(have e_:=(Kd.bL Aw.out).1;omega))
                 obtain ⟨Jl,Jm,rfl,Ck,Cm⟩:=fH Gj
                 have Bz:=EB 6 _ rfl
                 rw [bM _ _ 6 (by omega)] at Bz
                 replace Bz:=Option.some.inj (Bz.symm.trans Bw)
                 injection Bz with hva_ hvn_ hvc_
                 rw [hva_] at Cm
                 rw [hvc_] at Ck
                 have AO:=Aside0.mk (show Kd.V k43 43 _ w.heap.size _ _ ((ay Ao 0).f1.f5) from Kd.gU Ck Cm)
                 clear hva_ hvn_ hvc_ Cm Ck
                 clear EB Gi
                 have Md : (0 < Ao.length) = True:=eq_true (by omega)
                 (try simp only [show ((0 : Int)).toNat = 0 from rfl,show 0 * 7 = 0 from rfl,Addr.add_zero'] at Cc Ce Cg Ch Ci Cj Bw)
                 have AV:=Aside0.mk CW
                 have FE:=Aside0.mk CV
                 clear CW CV
                 replace FC:=eq_true FC
                 replace FD:=eq_true FD
                 refine fu (n:=11) (S:=fun w'=>w'.cell? AX = some (.string ((ay Ap 0).f0)) ∧ w'.cell? ⟨AX.block,AX.off + 1,none⟩ = some (.string ((ay Ap 0).f1.f0)) ∧ w'.cell? ⟨AX.block,AX.off + 2,none⟩ = some (.string ((ay Ap 0).f1.f1)) ∧ w'.cell? ⟨AX.block,AX.off + 3,none⟩ = some (.int .i64 ((ay Ap 0).f1.f2)) ∧ w'.cell? ⟨AX.block,AX.off + 4,none⟩ = some (.int .i64 ((ay Ap 0).f1.f3)) ∧ w'.cell? ⟨AX.block,AX.off + 5,none⟩ = some (.bool ((ay Ap 0).f1.f4)) ∧ w'.cell? ⟨AX.block,AX.off + 6,none⟩ = some (.slice Eu ((ay Ap 0).f1.f5).length Ew) ∧ w'.cell? Az = some (.string ((ay Ao 0).f0)) ∧ w'.cell? ⟨Az.block,Az.off + 1,none⟩ = some (.string ((ay Ao 0).f1.f0)) ∧ w'.cell? ⟨Az.block,Az.off + 2,none⟩ = some (.string ((ay Ao 0).f1.f1)) ∧ w'.cell? ⟨Az.block,Az.off + 3,none⟩ = some (.int .i64 ((ay Ao 0).f1.f2)) ∧ w'.cell? ⟨Az.block,Az.off + 4,none⟩ = some (.int .i64 ((ay Ao 0).f1.f3)) ∧ w'.cell? ⟨Az.block,Az.off + 5,none⟩ = some (.bool ((ay Ao 0).f1.f4)) ∧ w'.cell? ⟨Az.block,Az.off + 6,none⟩ = some (.slice Ez ((ay Ao 0).f1.f5).length EA)) (ds:=[]) #[O,O,O,O,O,O,O,O,O,O,O] (by kernel_rfl) rfl rfl ⟨BQ,BR,BS,BU,BX,BZ,Bu,Cc,Ce,Cg,Ch,Ci,Cj,Bw⟩ (fun hHeld=>?_);refine dR aA.qO aA.mW (fun HT_ HW_=>?_)
                 generalize wc.drew = Qx at AJ Ay Aw Al Am Aq Au HB AL AO AU AV BQ BR BS BU BX BZ Bu Cc Ce Cg Ch Ci Cj Bw hHeld ⊢
                 refine pu_ 0 56 #[I,O,O,O,O,O,O,O,O,O,O] HT_.out ?_
                 refine pu_ 1 57 #[I,I,O,O,O,O,O,O,O,O,O] HT_.out ?_
                 refine pu_ 2 58 #[I,I,I,O,O,O,O,O,O,O,O] HT_.out ?_
                 refine pu_ 4 60 #[I,I,I,O,I,O,O,O,O,O,O] HT_.out ?_
                 refine pu_ 5 61 #[I,I,I,O,I,I,O,O,O,O,O] HT_.out ?_
                 refine pu_ 6 62 #[I,I,I,O,I,I,I,O,O,O,O] HT_.out ?_
                 refine ta_ 3 59 #[I,I,I,I,I,I,I,O,O,O,O] HT_.out HW_.out hHeld ?_
                 refine ta_ 7 63 #[I,I,I,I,I,I,I,I,O,O,O] HT_.out HW_.out hHeld ?_
                 refine gG (i:=8) (N:=some 64) #[I,I,I,I,I,I,I,I,I,O,O] rfl rfl (dw HT_.out (by kernel_rfl)) (by decide) (fun K hK=>?_)
                 refine eZ Tryd.func15 (by kernel_rfl) rfl #[.agg #[.string ((ay Ap 0).f1.f0),.string ((ay Ap 0).f1.f1),.int .i64 ((ay Ap 0).f1.f2),.int .i64 ((ay Ap 0).f1.f3),.bool ((ay Ap 0).f1.f4),.slice Eu ((ay Ap 0).f1.f5).length Ew],.agg #[.string ((ay Ao 0).f1.f0),.string ((ay Ao 0).f1.f1),.int .i64 ((ay Ao 0).f1.f2),.int .i64 ((ay Ao 0).f1.f3),.bool ((ay Ao 0).f1.f4),.slice Ez ((ay Ao 0).f1.f5).length EA]] (by rfl) rfl rfl (by (try simp only [List.map_toArray,List.map_cons,List.map_nil]);first|done|rfl|(simp only [List.length_drop,List.length_take];rfl)) ?_
                 with_reducible refine (dD.calls BP ((ay Ap 0).f1.f0) ((ay Ap 0).f1.f1) ((ay Ap 0).f1.f2) ((ay Ap 0).f1.f3) ((ay Ap 0).f1.f4) _ _ ((ay Ap 0).f1.f5) ((ay Ao 0).f1.f0) ((ay Ao 0).f1.f1) ((ay Ao 0).f1.f2) ((ay Ao 0).f1.f3) ((ay Ao 0).f1.f4) _ _ ((ay Ao 0).f1.f5) true _ ?Ii ?Ij ?Ik ?Il Oj.out).mono ?_
                 (case Ii=>repeat (first|exact (by repeat (first|(with_reducible exact AU.out)|(with_reducible refine Kd.bC ?_ _)|(with_reducible refine Kd.bO ?_ _)|(with_reducible refine Kd.bW ?_)|exact AU.out))|(with_reducible refine Kd.bC ?_ _)|(with_reducible refine Kd.bO ?_ _)|(with_reducible refine Kd.bW ?_)))
                 (case Ij=>exact FB.out)
                 (case Ik=>repeat (first|exact (by repeat (first|(with_reducible exact AV.out)|(with_reducible refine Kd.bC ?_ _)|(with_reducible refine Kd.bO ?_ _)|(with_reducible refine Kd.bW ?_)|exact AV.out))|(with_reducible refine Kd.bC ?_ _)|(with_reducible refine Kd.bO ?_ _)|(with_reducible refine Kd.bW ?_)))
                 (case Il=>exact FE.out)
                 rintro e PN ⟨rfl,hb⟩
                 have KG:=(hb.cell (World.block_lt_of_cell? _ _ (hHeld.1))).trans (hHeld.1)
                 have KH:=(hb.cell (World.block_lt_of_cell? _ _ (hHeld.2.1))).trans (hHeld.2.1)
                 have KI:=(hb.cell (World.block_lt_of_cell? _ _ (hHeld.2.2.1))).trans (hHeld.2.2.1)
                 have KJ:=(hb.cell (World.block_lt_of_cell? _ _ (hHeld.2.2.2.1))).trans (hHeld.2.2.2.1)
                 have KL:=(hb.cell (World.block_lt_of_cell? _ _ (hHeld.2.2.2.2.1))).trans (hHeld.2.2.2.2.1)
                 have KM:=(hb.cell (World.block_lt_of_cell? _ _ (hHeld.2.2.2.2.2.1))).trans (hHeld.2.2.2.2.2.1)
                 have KN:=(hb.cell (World.block_lt_of_cell? _ _ (hHeld.2.2.2.2.2.2.1))).trans (hHeld.2.2.2.2.2.2.1)
                 have KO:=(hb.cell (World.block_lt_of_cell? _ _ (hHeld.2.2.2.2.2.2.2.1))).trans (hHeld.2.2.2.2.2.2.2.1)
                 have KP:=(hb.cell (World.block_lt_of_cell? _ _ (hHeld.2.2.2.2.2.2.2.2.1))).trans (hHeld.2.2.2.2.2.2.2.2.1)
                 have KQ:=(hb.cell (World.block_lt_of_cell? _ _ (hHeld.2.2.2.2.2.2.2.2.2.1))).trans (hHeld.2.2.2.2.2.2.2.2.2.1)
                 have Im:=(hb.cell (World.block_lt_of_cell? _ _ (hHeld.2.2.2.2.2.2.2.2.2.2.1))).trans (hHeld.2.2.2.2.2.2.2.2.2.2.1)
                 have Io:=(hb.cell (World.block_lt_of_cell? _ _ (hHeld.2.2.2.2.2.2.2.2.2.2.2.1))).trans (hHeld.2.2.2.2.2.2.2.2.2.2.2.1)
                 have Ip:=(hb.cell (World.block_lt_of_cell? _ _ (hHeld.2.2.2.2.2.2.2.2.2.2.2.2.1))).trans (hHeld.2.2.2.2.2.2.2.2.2.2.2.2.1)
                 have Iq:=(hb.cell (World.block_lt_of_cell? _ _ (hHeld.2.2.2.2.2.2.2.2.2.2.2.2.2))).trans (hHeld.2.2.2.2.2.2.2.2.2.2.2.2.2)
                 refine ⟨_,rfl,?_⟩
                 have Bj:=Aside0.mk (Kd.fZ (kr_ AJ.out) hb)
                 have Bl:=Aside0.mk (Kd.dx (kv_ Ay.out) hb)
                 have Bn:=Aside0.mk (Kd.dx (kv_ Aw.out) hb)
                 have Bo:=Aside0.mk (Kd.dx (kv_ Al.out) hb)
                 have Bp:=Aside0.mk (Kd.dx (kv_ Am.out) hb)
                 have Bq:=Aside0.mk (Kd.dx (kv_ AL.out) hb)
                 have Br:=Aside0.mk (Kd.dx (kv_ AO.out) hb)
                 have Bt:=Aside0.mk (aM (g:=AA) (o:=.cells #[.int .u64 Ct,.slice BG Bg.length BH] 59 (0,0)) (bk_ Aq.out) hb)
                 have Da:=Aside0.mk (aM (g:=AB) (o:=.cells #[.int .u64 CF,.slice Cq Bh.length Cr] 59 (0,0)) (bk_ Au.out) hb)
                 have Et:=Aside0.mk (Kd.bN (by repeat (first|(with_reducible exact AU.out)|(with_reducible refine Kd.bC ?_ _)|(with_reducible refine Kd.bO ?_ _)|(with_reducible refine Kd.bW ?_)|exact AU.out)) hb)
                 have Cv:=Aside0.mk (Kd.bN (by repeat (first|(with_reducible exact AV.out)|(with_reducible refine Kd.bC ?_ _)|(with_reducible refine Kd.bO ?_ _)|(with_reducible refine Kd.bW ?_)|exact AV.out)) hb)
                 have Cw:=Aside0.mk (aJ hb_ hb)
                 clear AJ
                 clear Ay
                 clear Aw
                 clear Al
                 clear Am
                 clear AL
                 clear AO
                 clear Aq
                 clear Au
                 clear AU
                 clear AV
                 clear HB
                 have AJ:=Bj
                 have Ay:=Bl
                 have Aw:=Bn
                 have Al:=Bo
                 have Am:=Bp
                 have AL:=Bq
                 have AO:=Br
                 have Aq:=Bt
                 have Au:=Da
                 have AU:=Et
                 have AV:=Cv
                 have HB:=Cw
                 clear Bj Bl Bn Bo Bp Bq Br Bt Da Et Cv Cw
                 (try clear hb)
                 (try clear hb2)
                 (try clear hk)
                 (try clear hi)
                 refine hK.out _ _ ⟨KG,KH,KI,KJ,KL,KM,KN,KO,KP,KQ,Im,Io,Ip,Iq⟩ (fun hHeld=>?_)
                 clear hK K
                 refine dU (a':=?_) ?_ ?_
                 rotate_left
                 ·show Act.put _ (some 64) _ = _
                  simp only [Act.put,List.setIfInBounds_toArray,List.set_cons_zero,List.set_cons_succ,bH,bI]
                  rfl
                 refine pu_ 9 65 #[I,I,I,I,I,I,I,I,I,I,O] HT_.out ?_
                 refine pu_ 10 55 #[I,I,I,I,I,I,I,I,I,I,I] HT_.out ?_
                 refine gJ (eH HT_.out (by kernel_rfl)) ?_
                 try go_wp2
                 have Bj:=Aside0.mk (Kd.d9 AJ.out)
                 have Bl:=Aside0.mk (Kd.bA Ay.out)
                 have Bn:=Aside0.mk (Kd.bA Aw.out)
                 have Bo:=Aside0.mk (Kd.bA Al.out)
                 have Bp:=Aside0.mk (Kd.bA Am.out)
                 have Bq:=Aside0.mk (Kd.bA AL.out)
                 have Br:=Aside0.mk (Kd.bA AO.out)
                 have Bt:=Aside0.mk (aG Aq.out)
                 have Da:=Aside0.mk (aG Au.out)
                 have Et:=Aside0.mk (Kd.bW AU.out)
                 have Cv:=Aside0.mk (Kd.bW AV.out)
                 have Cw:=Aside0.mk (aZ HB.out)
                 clear AJ
                 clear Ay
                 clear Aw
                 clear Al
                 clear Am
                 clear AL
                 clear AO
                 clear Aq
                 clear Au
                 clear AU
                 clear AV
                 clear HB
                 have AJ:=Bj
                 have Ay:=Bl
                 have Aw:=Bn
                 have Al:=Bo
                 have Am:=Bp
                 have AL:=Bq
                 have AO:=Br
                 have Aq:=Bt
                 have Au:=Da
                 have AU:=Et
                 have AV:=Cv
                 have HB:=Cw
                 clear Bj Bl Bn Bo Bp Bq Br Bt Da Et Cv Cw
                 have Nz : (1 : Int) ≤ ((Ap.length : Int) : Int):=of_decide_eq_true (by first|(with_reducible assumption)|assumption)
                 obtain ⟨PO,JL,_,JM,_⟩:=info_parts kS
                 have Em : Ap.length ≤ Ig:=(Kd.bL Ay.out).2.1
                 have Me : Kd.F fP _ _ (some AX) Ap.length Ap:=(Kd.nY (base:=w.heap.size) Ay.out).2.2
                 have KR:=jQ (P:=Tryd.prog) 57 102 .i64 Tryd.underlying57 JL 7 JM (some AX) Ap.length Ig 1 (by omega) Nz
                 have Ir:=Kd.pF (m:=(1 : Int).toNat) (c:=Ig) Me (by omega) Em
                 obtain ⟨Ol,Jo⟩ : ∃ A1,A1 = (if Ig = (1 : Int).toNat then (some AX) else ((some AX) : Option Addr).map (·.add ((1 : Int).toNat * 7))):=⟨_,rfl⟩
                 obtain ⟨Om,Jp⟩ : ∃ c1,c1 = Ig - (1 : Int).toNat:=⟨_,rfl⟩
                 have Iu : ED.length = Ap.length - (1 : Int).toNat:=(by rw [JJ.out,List.length_drop] <;> omega)
                 rw [show (Ap).drop (1 : Int).toNat = ED from JJ.out.symm] at Ir
                 replace Ir : Kd.F fP _ _ Ol ED.length ED:=(by rw [Jo];exact Ir)
                 rw [← Iu,← Jo,← Jp] at KR
                 have JN:=Aside0.mk (show Kd.V fP 102 _ w.heap.size _ (.slice Ol ED.length Om) ED from Kd.gU (by rw [Iu,Jp];exact Nat.sub_le_sub_right Em _) Ir)
                 have Oo:=Aside0.mk (show ED.length ≤ Om from by rw [Iu,Jp];exact Nat.sub_le_sub_right Em _)
                 clear Ir Me Em JL JM Jp
                 have PS:=Aside0.mk Iu
                 have PU:=Aside0.mk Jo
                 clear Iu Jo
                 replace Nz:=eq_true Nz
                 have NA : (1 : Int) ≤ ((Ao.length : Int) : Int):=of_decide_eq_true (by first|(with_reducible assumption)|assumption)
                 obtain ⟨PV,JO,_,JQ,_⟩:=info_parts kS
                 have En : Ao.length ≤ Ih:=(Kd.bL Aw.out).2.1
                 have Mf : Kd.F fP _ _ (some Az) Ao.length Ao:=(Kd.nY (base:=w.heap.size) Aw.out).2.2
                 have KS:=jQ (P:=Tryd.prog) 57 102 .i64 Tryd.underlying57 JO 7 JQ (some Az) Ao.length Ih 1 (by omega) NA
                 have Iw:=Kd.pF (m:=(1 : Int).toNat) (c:=Ih) Mf (by omega) En
                 obtain ⟨Oq,Jq⟩ : ∃ A1,A1 = (if Ih = (1 : Int).toNat then (some Az) else ((some Az) : Option Addr).map (·.add ((1 : Int).toNat * 7))):=⟨_,rfl⟩
                 obtain ⟨Ot,Jr⟩ : ∃ c1,c1 = Ih - (1 : Int).toNat:=⟨_,rfl⟩
                 have Iy : Fx.length = Ao.length - (1 : Int).toNat:=(by rw [JK.out,List.length_drop] <;> omega)
                 rw [show (Ao).drop (1 : Int).toNat = Fx from JK.out.symm] at Iw
                 replace Iw : Kd.F fP _ _ Oq Fx.length Fx:=(by rw [Jq];exact Iw)
                 rw [← Iy,← Jq,← Jr] at KS
                 have JR:=Aside0.mk (show Kd.V fP 102 _ w.heap.size _ (.slice Oq Fx.length Ot) Fx from Kd.gU (by rw [Iy,Jr];exact Nat.sub_le_sub_right En _) Iw)
                 have Ou:=Aside0.mk (show Fx.length ≤ Ot from by rw [Iy,Jr];exact Nat.sub_le_sub_right En _)
                 clear Iw Mf En JO JQ Jr
                 have PW:=Aside0.mk Iy
                 have PX:=Aside0.mk Jq
                 clear Iy Jq
                 replace NA:=eq_true NA
                 refine fu (n:=6) (S:=fun w'=>True) (ds:=[]) #[O,O,O,O,O,O] (by kernel_rfl) rfl rfl trivial (fun hHeld=>?_)
                 generalize PN.drew = Qy at AJ Ay Aw Al Am AL AO Aq Au AU AV HB JN JR hHeld ⊢
                 refine eD (i:=0) (N:=some 109) (v:=?_) (a':=?_) #[I,O,O,O,O,O] rfl rfl (by kernel_rfl) (fun _ _ _ h=>h) (Or.inl ⟨by rfl,?_⟩) ?_ ?_
                 rotate_left
                 ·intro w'
                  go_simp
                  with_reducible rfl
                 rotate_left
                 ·simp only [Act.put,List.setIfInBounds_toArray,List.set_cons_zero,List.set_cons_succ,bH,bI]
                  rfl
                 refine eD (i:=1) (N:=some 110) (v:=?_) (a':=?_) #[I,I,O,O,O,O] rfl rfl (by kernel_rfl) (fun _ _ _ h=>h) (Or.inl ⟨by rfl,?_⟩) ?_ ?_
                 rotate_left
                 ·intro w'
                  go_simp
                  with_reducible rfl
                 rotate_left
                 ·simp only [Act.put,List.setIfInBounds_toArray,List.set_cons_zero,List.set_cons_succ,bH,bI]
                  rfl
                 refine eD (i:=2) (N:=some 111) (v:=?_) (a':=?_) #[I,I,I,O,O,O] rfl rfl (by kernel_rfl) (fun _ _ _ h=>h) (Or.inl ⟨by rfl,?_⟩) ?_ ?_
                 rotate_left
                 ·intro w'
                  go_simp
                  with_reducible rfl
                 rotate_left
                 ·simp only [Act.put,List.setIfInBounds_toArray,List.set_cons_zero,List.set_cons_succ,bH,bI]
                  rfl
                 refine eD (i:=3) (N:=some 112) (v:=?_) (a':=?_) #[I,I,I,I,O,O] rfl rfl (by kernel_rfl) (fun _ _ _ h=>h) (Or.inl ⟨by rfl,?_⟩) ?_ ?_
                 rotate_left
                 ·intro w'
                  go_simp
                  with_reducible rfl
                 rotate_left
                 ·simp only [Act.put,List.setIfInBounds_toArray,List.set_cons_zero,List.set_cons_succ,bH,bI]
                  rfl
                 refine eD (i:=4) (N:=some 6) (v:=?_) (a':=?_) #[I,I,I,I,I,O] rfl rfl (by kernel_rfl) (fun _ _ _ h=>h) (Or.inl ⟨by rfl,?_⟩) ?_ ?_
                 rotate_left
                 ·intro w'
                  go_simp
                  with_reducible rfl
                 rotate_left
                 ·simp only [Act.put,List.setIfInBounds_toArray,List.set_cons_zero,List.set_cons_succ,bH,bI]
                  rfl
                 refine eD (i:=5) (N:=some 7) (v:=?_) (a':=?_) #[I,I,I,I,I,I] rfl rfl (by kernel_rfl) (fun _ _ _ h=>h) (Or.inl ⟨by rfl,?_⟩) ?_ ?_
                 rotate_left
                 ·intro w'
                  go_simp
                  with_reducible rfl
                 rotate_left
                 ·simp only [Act.put,List.setIfInBounds_toArray,List.set_cons_zero,List.set_cons_succ,bH,bI]
                  rfl
                 refine gJ (by kernel_rfl) ?_
                 try go_wp2
                 go_roundg BP
                 case measure=>have:=Gd.out;have:=GR.out;have:=EC.out;have:=GU.out;omega
                 case rel=>exact ⟨(Bf),(ED),(Fx),H',⟨by have:=Gd.out;have:=GR.out;have:=EC.out;have:=GU.out;omega⟩,⟨by (with_reducible repeat (first|apply Kd.fA|apply Kd.fB|apply Kd.d9));exact AJ.out⟩,⟨by (with_reducible repeat (first|apply Kd.bP|apply Kd.bQ|apply Kd.bA));exact JN.out⟩,⟨by (with_reducible repeat (first|apply Kd.bP|apply Kd.bQ|apply Kd.bA));exact JR.out⟩,⟨by (with_reducible repeat (first|apply Kd.bP|apply Kd.bQ|apply Kd.bA));exact Al.out⟩,⟨by (with_reducible repeat (first|apply Kd.bP|apply Kd.bQ|apply Kd.bA));exact Am.out⟩,⟨by (with_reducible repeat (first|apply aC|apply aG|apply aH));exact Aq.out⟩,⟨by (with_reducible repeat (first|apply aC|apply aG|apply aH));exact Au.out⟩,⟨hb_⟩⟩
                ·rw [if_neg LY] at H
                 exact absurd H (by simp)
               ·rw [if_neg LW] at H
                exact absurd H (by simp)
              ·replace c53:=Bool.eq_false_iff.mpr c53
               subst c53
               have H1 : (if Bf.length < 3518437208883 then (if 1 ≤ (Ap.length : Int) then (if 1 ≤ (Ao.length : Int) then (aA.l0 BP (Bf ++ [(⟨1,(ay Ao 0).f0,(ay Ao 0).f1.f0⟩ : S65)]) (Ap.drop 1) (Ao.drop 1)) else (none)) else (none)) else (none)) = some r:=by rw [if_neg (show ¬ (false = true) by decide)] at H;exact H
               clear H
               have H:=H1
               clear H1
               by_cases M7 : Bf.length < 3518437208883
               ·rw [if_pos M7] at H
                have Mg:=Aside0.mk M7
                clear M7
                obtain ⟨y168,hy168⟩ : ∃ y_ : List (S65),y_ = (Bf ++ [(⟨1,(ay Ao 0).f0,(ay Ao 0).f1.f0⟩ : S65)]):=⟨_,rfl⟩
                replace H : (if 1 ≤ (Ap.length : Int) then (if 1 ≤ (Ao.length : Int) then (aA.l0 BP y168 (Ap.drop 1) (Ao.drop 1)) else (none)) else (none)) = some r:=by first|(rw [hy168];with_reducible exact H)|(have Cu:=(Option.bind_some _ _).symm.trans H;rw [hy168];with_reducible exact Cu)|(have Cu:=(Option.bind_some _ _).symm.trans H;with_reducible exact Cu)|with_reducible exact H|(rw [hy168];exact H)|exact H
                have Mh:=Aside0.mk hy168
                clear hy168
                by_cases c64 : 1 ≤ (Ap.length : Int)
                ·rw [if_pos c64] at H
                 have c64b0:=eq_true c64
                 have c64b1 : decide (1 ≤ (Ap.length : Int)) = true:=decide_eq_true c64
                 clear c64
                 obtain ⟨EF,Ga⟩ : ∃ y_ : List (S102),y_ = (Ap.drop 1):=⟨_,rfl⟩
                 replace H : (if 1 ≤ (Ao.length : Int) then (aA.l0 BP y168 EF (Ao.drop 1)) else (none)) = some r:=by first|(rw [Ga];with_reducible exact H)|(have Cu:=(Option.bind_some _ _).symm.trans H;rw [Ga];with_reducible exact Cu)|(have Cu:=(Option.bind_some _ _).symm.trans H;with_reducible exact Cu)|with_reducible exact H|(rw [Ga];exact H)|exact H
                 have JU:=Aside0.mk Ga
                 clear Ga
                 by_cases Mi : 1 ≤ (Ao.length : Int)
                 ·rw [if_pos Mi] at H
                  have c65b0:=eq_true Mi
                  have c65b1 : decide (1 ≤ (Ao.length : Int)) = true:=decide_eq_true Mi
                  clear Mi
                  obtain ⟨FH,Gb⟩ : ∃ y_ : List (S102),y_ = (Ao.drop 1):=⟨_,rfl⟩
                  replace H : (aA.l0 BP y168 EF FH) = some r:=by first|(rw [Gb];with_reducible exact H)|(have Cu:=(Option.bind_some _ _).symm.trans H;rw [Gb];with_reducible exact Cu)|(have Cu:=(Option.bind_some _ _).symm.trans H;with_reducible exact Cu)|with_reducible exact H|(rw [Gb];exact H)|exact H
                  have JV:=Aside0.mk Gb
                  clear Gb
                  have H':=Aside0.mk H
                  clear H
                  try go_wp2
                  have Bj:=Aside0.mk (Kd.d9 AJ.out)
                  have Bl:=Aside0.mk (Kd.bA Ay.out)
                  have Bn:=Aside0.mk (Kd.bA Aw.out)
                  have Bo:=Aside0.mk (Kd.bA Al.out)
                  have Bp:=Aside0.mk (Kd.bA Am.out)
                  have Bq:=Aside0.mk (aG Aq.out)
                  have Br:=Aside0.mk (aG Au.out)
                  have Bt:=Aside0.mk (aZ HB.out)
                  clear AJ
                  clear Ay
                  clear Aw
                  clear Al
                  clear Am
                  clear Aq
                  clear Au
                  clear HB
                  have AJ:=Bj
                  have Ay:=Bl
                  have Aw:=Bn
                  have Al:=Bo
                  have Am:=Bp
                  have Aq:=Bq
                  have Au:=Br
                  have HB:=Bt
                  clear Bj Bl Bn Bo Bp Bq Br Bt
                  obtain ⟨PY,Iz,Mj⟩:=Kd.fO Ay.out
                  (first|subst Mj|(injection Mj with BI CZ BJ;have C8:=BI.symm;have C9:=BJ.symm;clear BI CZ BJ;subst C8;subst C9))
                  have Fy : 0 ≤ (0 : Int):=(by omega)
                  have Fz : 0 < (Ap.length : Int):=of_decide_eq_true (by first|(with_reducible assumption)|assumption)
                  obtain ⟨AX,Eu,Ew,e153,BQ,BR,BS,BU,BX,BZ,Bu,CS,CU⟩:=gF (Kd.bL Ay.out).2.2 0 Fy Fz
                  cases e153
                  obtain ⟨L6,Gg,Gh,Ey⟩:=Kd.iL Ay.out kJ 0 Fy (by first|exact Fz|exact of_decide_eq_true (by first|(with_reducible assumption)|assumption)|(have e_:=(Kd.bL Ay.out).1;omega))
                  obtain ⟨Jj,Jk,rfl,Ca,Cb⟩:=fH Gh
                  have Bv:=Ey 6 _ rfl
                  rw [bM _ _ 6 (by omega)] at Bv
                  replace Bv:=Option.some.inj (Bv.symm.trans Bu)
                  injection Bv with hva_ hvn_ hvc_
                  rw [hva_] at Cb
                  rw [hvc_] at Ca
                  have AL:=Aside0.mk (show Kd.V k43 43 _ w.heap.size _ _ ((ay Ap 0).f1.f5) from Kd.gU Ca Cb)
                  clear hva_ hvn_ hvc_ Cb Ca
                  clear Ey Gg
                  have L8 : (0 < Ap.length) = True:=eq_true (by omega)
                  (try simp only [show ((0 : Int)).toNat = 0 from rfl,show 0 * 7 = 0 from rfl,Addr.add_zero'] at BQ BR BS BU BX BZ Bu)
                  have AU:=Aside0.mk CU
                  have FB:=Aside0.mk CS
                  clear CU CS
                  replace Fy:=eq_true Fy
                  replace Fz:=eq_true Fz
                  obtain ⟨PZ,IB,Mk⟩:=Kd.fO Aw.out
                  (first|subst Mk|(injection Mk with BI CZ BJ;have C8:=BI.symm;have C9:=BJ.symm;clear BI CZ BJ;subst C8;subst C9))
                  have FC : 0 ≤ (0 : Int):=(by omega)
                  have FD : 0 < (Ao.length : Int):=of_decide_eq_true (by first|(with_reducible assumption)|assumption)
                  obtain ⟨Az,Ez,EA,e154,Cc,Ce,Cg,Ch,Ci,Cj,Bw,CV,CW⟩:=gF (Kd.bL Aw.out).2.2 0 FC FD
                  cases e154
                  obtain ⟨Ma,Gi,Gj,EB⟩:=Kd.iL Aw.out kJ 0 FC (by first|exact FD|exact of_decide_eq_true (by first|(with_reducible assumption)|assumption)|(have e_:=(Kd.bL Aw.out).1;omega))
                  obtain ⟨Jl,Jm,rfl,Ck,Cm⟩:=fH Gj
                  have Bz:=EB 6 _ rfl
                  rw [bM _ _ 6 (by omega)] at Bz
                  replace Bz:=Option.some.inj (Bz.symm.trans Bw)
                  injection Bz with hva_ hvn_ hvc_
                  rw [hva_] at Cm
                  rw [hvc_] at Ck
                  have AO:=Aside0.mk (show Kd.V k43 43 _ w.heap.size _ _ ((ay Ao 0).f1.f5) from Kd.gU Ck Cm)
                  clear hva_ hvn_ hvc_ Cm Ck
                  clear EB Gi
                  have Md : (0 < Ao.length) = True:=eq_true (by omega)
                  (try simp only [show ((0 : Int)).toNat = 0 from rfl,show 0 * 7 = 0 from rfl,Addr.add_zero'] at Cc Ce Cg Ch Ci Cj Bw)
                  have AV:=Aside0.mk CW
                  have FE:=Aside0.mk CV
                  clear CW CV
                  replace FC:=eq_true FC
                  replace FD:=eq_true FD
                  refine fu (n:=11) (S:=fun w'=>w'.cell? AX = some (.string ((ay Ap 0).f0)) ∧ w'.cell? ⟨AX.block,AX.off + 1,none⟩ = some (.string ((ay Ap 0).f1.f0)) ∧ w'.cell? ⟨AX.block,AX.off + 2,none⟩ = some (.string ((ay Ap 0).f1.f1)) ∧ w'.cell? ⟨AX.block,AX.off + 3,none⟩ = some (.int .i64 ((ay Ap 0).f1.f2)) ∧ w'.cell? ⟨AX.block,AX.off + 4,none⟩ = some (.int .i64 ((ay Ap 0).f1.f3)) ∧ w'.cell? ⟨AX.block,AX.off + 5,none⟩ = some (.bool ((ay Ap 0).f1.f4)) ∧ w'.cell? ⟨AX.block,AX.off + 6,none⟩ = some (.slice Eu ((ay Ap 0).f1.f5).length Ew) ∧ w'.cell? Az = some (.string ((ay Ao 0).f0)) ∧ w'.cell? ⟨Az.block,Az.off + 1,none⟩ = some (.string ((ay Ao 0).f1.f0)) ∧ w'.cell? ⟨Az.block,Az.off + 2,none⟩ = some (.string ((ay Ao 0).f1.f1)) ∧ w'.cell? ⟨Az.block,Az.off + 3,none⟩ = some (.int .i64 ((ay Ao 0).f1.f2)) ∧ w'.cell? ⟨Az.block,Az.off + 4,none⟩ = some (.int .i64 ((ay Ao 0).f1.f3)) ∧ w'.cell? ⟨Az.block,Az.off + 5,none⟩ = some (.bool ((ay Ao 0).f1.f4)) ∧ w'.cell? ⟨Az.block,Az.off + 6,none⟩ = some (.slice Ez ((ay Ao 0).f1.f5).length EA)) (ds:=[]) #[O,O,O,O,O,O,O,O,O,O,O] (by kernel_rfl) rfl rfl ⟨BQ,BR,BS,BU,BX,BZ,Bu,Cc,Ce,Cg,Ch,Ci,Cj,Bw⟩ (fun hHeld=>?_);refine dR aA.qO aA.mW (fun HT_ HW_=>?_)
                  generalize wc.drew = Qz at AJ Ay Aw Al Am Aq Au HB AL AO AU AV BQ BR BS BU BX BZ Bu Cc Ce Cg Ch Ci Cj Bw hHeld ⊢
                  refine pu_ 0 56 #[I,O,O,O,O,O,O,O,O,O,O] HT_.out ?_
                  refine pu_ 1 57 #[I,I,O,O,O,O,O,O,O,O,O] HT_.out ?_
                  refine pu_ 2 58 #[I,I,I,O,O,O,O,O,O,O,O] HT_.out ?_
                  refine pu_ 4 60 #[I,I,I,O,I,O,O,O,O,O,O] HT_.out ?_
                  refine pu_ 5 61 #[I,I,I,O,I,I,O,O,O,O,O] HT_.out ?_
                  refine pu_ 6 62 #[I,I,I,O,I,I,I,O,O,O,O] HT_.out ?_
                  refine ta_ 3 59 #[I,I,I,I,I,I,I,O,O,O,O] HT_.out HW_.out hHeld ?_
                  refine ta_ 7 63 #[I,I,I,I,I,I,I,I,O,O,O] HT_.out HW_.out hHeld ?_
                  refine gG (i:=8) (N:=some 64) #[I,I,I,I,I,I,I,I,I,O,O] rfl rfl (dw HT_.out (by kernel_rfl)) (by decide) (fun K hK=>?_)
                  refine eZ Tryd.func15 (by kernel_rfl) rfl #[.agg #[.string ((ay Ap 0).f1.f0),.string ((ay Ap 0).f1.f1),.int .i64 ((ay Ap 0).f1.f2),.int .i64 ((ay Ap 0).f1.f3),.bool ((ay Ap 0).f1.f4),.slice Eu ((ay Ap 0).f1.f5).length Ew],.agg #[.string ((ay Ao 0).f1.f0),.string ((ay Ao 0).f1.f1),.int .i64 ((ay Ao 0).f1.f2),.int .i64 ((ay Ao 0).f1.f3),.bool ((ay Ao 0).f1.f4),.slice Ez ((ay Ao 0).f1.f5).length EA]] (by rfl) rfl rfl (by (try simp only [List.map_toArray,List.map_cons,List.map_nil]);first|done|rfl|(simp only [List.length_drop,List.length_take];rfl)) ?_
                  with_reducible refine (dD.calls BP ((ay Ap 0).f1.f0) ((ay Ap 0).f1.f1) ((ay Ap 0).f1.f2) ((ay Ap 0).f1.f3) ((ay Ap 0).f1.f4) _ _ ((ay Ap 0).f1.f5) ((ay Ao 0).f1.f0) ((ay Ao 0).f1.f1) ((ay Ao 0).f1.f2) ((ay Ao 0).f1.f3) ((ay Ao 0).f1.f4) _ _ ((ay Ao 0).f1.f5) false _ ?Ii ?Ij ?Ik ?Il Oj.out).mono ?_
                  (case Ii=>repeat (first|exact (by repeat (first|(with_reducible exact AU.out)|(with_reducible refine Kd.bC ?_ _)|(with_reducible refine Kd.bO ?_ _)|(with_reducible refine Kd.bW ?_)|exact AU.out))|(with_reducible refine Kd.bC ?_ _)|(with_reducible refine Kd.bO ?_ _)|(with_reducible refine Kd.bW ?_)))
                  (case Ij=>exact FB.out)
                  (case Ik=>repeat (first|exact (by repeat (first|(with_reducible exact AV.out)|(with_reducible refine Kd.bC ?_ _)|(with_reducible refine Kd.bO ?_ _)|(with_reducible refine Kd.bW ?_)|exact AV.out))|(with_reducible refine Kd.bC ?_ _)|(with_reducible refine Kd.bO ?_ _)|(with_reducible refine Kd.bW ?_)))
                  (case Il=>exact FE.out)
                  rintro e P7 ⟨rfl,hb⟩
                  have KG:=(hb.cell (World.block_lt_of_cell? _ _ (hHeld.1))).trans (hHeld.1)
                  have KH:=(hb.cell (World.block_lt_of_cell? _ _ (hHeld.2.1))).trans (hHeld.2.1)
                  have KI:=(hb.cell (World.block_lt_of_cell? _ _ (hHeld.2.2.1))).trans (hHeld.2.2.1)
                  have KJ:=(hb.cell (World.block_lt_of_cell? _ _ (hHeld.2.2.2.1))).trans (hHeld.2.2.2.1)
                  have KL:=(hb.cell (World.block_lt_of_cell? _ _ (hHeld.2.2.2.2.1))).trans (hHeld.2.2.2.2.1)
                  have KM:=(hb.cell (World.block_lt_of_cell? _ _ (hHeld.2.2.2.2.2.1))).trans (hHeld.2.2.2.2.2.1)
                  have KN:=(hb.cell (World.block_lt_of_cell? _ _ (hHeld.2.2.2.2.2.2.1))).trans (hHeld.2.2.2.2.2.2.1)
                  have KO:=(hb.cell (World.block_lt_of_cell? _ _ (hHeld.2.2.2.2.2.2.2.1))).trans (hHeld.2.2.2.2.2.2.2.1)
                  have KP:=(hb.cell (World.block_lt_of_cell? _ _ (hHeld.2.2.2.2.2.2.2.2.1))).trans (hHeld.2.2.2.2.2.2.2.2.1)
                  have KQ:=(hb.cell (World.block_lt_of_cell? _ _ (hHeld.2.2.2.2.2.2.2.2.2.1))).trans (hHeld.2.2.2.2.2.2.2.2.2.1)
                  have Im:=(hb.cell (World.block_lt_of_cell? _ _ (hHeld.2.2.2.2.2.2.2.2.2.2.1))).trans (hHeld.2.2.2.2.2.2.2.2.2.2.1)
                  have Io:=(hb.cell (World.block_lt_of_cell? _ _ (hHeld.2.2.2.2.2.2.2.2.2.2.2.1))).trans (hHeld.2.2.2.2.2.2.2.2.2.2.2.1)
                  have Ip:=(hb.cell (World.block_lt_of_cell? _ _ (hHeld.2.2.2.2.2.2.2.2.2.2.2.2.1))).trans (hHeld.2.2.2.2.2.2.2.2.2.2.2.2.1)
                  have Iq:=(hb.cell (World.block_lt_of_cell? _ _ (hHeld.2.2.2.2.2.2.2.2.2.2.2.2.2))).trans (hHeld.2.2.2.2.2.2.2.2.2.2.2.2.2)
                  refine ⟨_,rfl,?_⟩
                  have Bj:=Aside0.mk (Kd.fZ (kr_ AJ.out) hb)
                  have Bl:=Aside0.mk (Kd.dx (kv_ Ay.out) hb)
                  have Bn:=Aside0.mk (Kd.dx (kv_ Aw.out) hb)
                  have Bo:=Aside0.mk (Kd.dx (kv_ Al.out) hb)
                  have Bp:=Aside0.mk (Kd.dx (kv_ Am.out) hb)
                  have Bq:=Aside0.mk (Kd.dx (kv_ AL.out) hb)
                  have Br:=Aside0.mk (Kd.dx (kv_ AO.out) hb)
                  have Bt:=Aside0.mk (aM (g:=AA) (o:=.cells #[.int .u64 Ct,.slice BG Bg.length BH] 59 (0,0)) (bk_ Aq.out) hb)
                  have Da:=Aside0.mk (aM (g:=AB) (o:=.cells #[.int .u64 CF,.slice Cq Bh.length Cr] 59 (0,0)) (bk_ Au.out) hb)
                  have Et:=Aside0.mk (Kd.bN (by repeat (first|(with_reducible exact AU.out)|(with_reducible refine Kd.bC ?_ _)|(with_reducible refine Kd.bO ?_ _)|(with_reducible refine Kd.bW ?_)|exact AU.out)) hb)
                  have Cv:=Aside0.mk (Kd.bN (by repeat (first|(with_reducible exact AV.out)|(with_reducible refine Kd.bC ?_ _)|(with_reducible refine Kd.bO ?_ _)|(with_reducible refine Kd.bW ?_)|exact AV.out)) hb)
                  have Cw:=Aside0.mk (aJ hb_ hb)
                  clear AJ
                  clear Ay
                  clear Aw
                  clear Al
                  clear Am
                  clear AL
                  clear AO
                  clear Aq
                  clear Au
                  clear AU
                  clear AV
                  clear HB
                  have AJ:=Bj
                  have Ay:=Bl
                  have Aw:=Bn
                  have Al:=Bo
                  have Am:=Bp
                  have AL:=Bq
                  have AO:=Br
                  have Aq:=Bt
                  have Au:=Da
                  have AU:=Et
                  have AV:=Cv
                  have HB:=Cw
                  clear Bj Bl Bn Bo Bp Bq Br Bt Da Et Cv Cw
                  (try clear hb)
                  (try clear hb2)
                  (try clear hk)
                  (try clear hi)
                  refine hK.out _ _ ⟨KG,KH,KI,KJ,KL,KM,KN,KO,KP,KQ,Im,Io,Ip,Iq⟩ (fun hHeld=>?_)
                  clear hK K
                  refine dU (a':=?_) ?_ ?_
                  rotate_left
                  ·show Act.put _ (some 64) _ = _
                   simp only [Act.put,List.setIfInBounds_toArray,List.set_cons_zero,List.set_cons_succ,bH,bI]
                   rfl
                  refine pu_ 9 65 #[I,I,I,I,I,I,I,I,I,I,O] HT_.out ?_
                  refine pu_ 10 55 #[I,I,I,I,I,I,I,I,I,I,I] HT_.out ?_
                  refine gJ (eH HT_.out (by kernel_rfl)) ?_
                  try go_wp2
                  have Bj:=Aside0.mk (Kd.d9 AJ.out)
                  have Bl:=Aside0.mk (Kd.bA Ay.out)
                  have Bn:=Aside0.mk (Kd.bA Aw.out)
                  have Bo:=Aside0.mk (Kd.bA Al.out)
                  have Bp:=Aside0.mk (Kd.bA Am.out)
                  have Bq:=Aside0.mk (Kd.bA AL.out)
                  have Br:=Aside0.mk (Kd.bA AO.out)
                  have Bt:=Aside0.mk (aG Aq.out)
                  have Da:=Aside0.mk (aG Au.out)
                  have Et:=Aside0.mk (Kd.bW AU.out)
                  have Cv:=Aside0.mk (Kd.bW AV.out)
                  have Cw:=Aside0.mk (aZ HB.out)
                  clear AJ
                  clear Ay
                  clear Aw
                  clear Al
                  clear Am
                  clear AL
                  clear AO
                  clear Aq
                  clear Au
                  clear AU
                  clear AV
                  clear HB
                  have AJ:=Bj
                  have Ay:=Bl
                  have Aw:=Bn
                  have Al:=Bo
                  have Am:=Bp
                  have AL:=Bq
                  have AO:=Br
                  have Aq:=Bt
                  have Au:=Da
                  have AU:=Et
                  have AV:=Cv
                  have HB:=Cw
                  clear Bj Bl Bn Bo Bp Bq Br Bt Da Et Cv Cw
                  have Js : 0 ≤ (0 : Int):=(by omega)
                  have Jt : 0 < (Ao.length : Int):=of_decide_eq_true (by first|(with_reducible assumption)|assumption)
                  obtain ⟨Ml,IC,IE,e166,FI,FJ,FL,FM,FN,FP,CX,GJ,GK⟩:=gF (Kd.bL Aw.out).2.2 0 Js Jt
                  obtain rfl : Az = Ml:=(by injection e166)
                  obtain ⟨Ov,KT,KU,IG⟩:=Kd.iL Aw.out kJ 0 Js (by first|exact Jt|exact of_decide_eq_true (by first|(with_reducible assumption)|assumption)|(have e_:=(Kd.bL Aw.out).1;omega))
                  obtain ⟨M8,M9,rfl,FQ,FR⟩:=fH KU
                  have Eo:=IG 6 _ rfl
                  rw [bM _ _ 6 (by omega)] at Eo
                  replace Eo:=Option.some.inj (Eo.symm.trans CX)
                  injection Eo with hva_ hvn_ hvc_
                  rw [hva_] at FR
                  rw [hvc_] at FQ
                  have BD:=Aside0.mk (show Kd.V k43 43 _ w.heap.size _ _ ((ay Ao 0).f1.f5) from Kd.gU FQ FR)
                  clear hva_ hvn_ hvc_ FR FQ
                  clear IG KT
                  have Ow : (0 < Ao.length) = True:=eq_true (by omega)
                  (try simp only [show ((0 : Int)).toNat = 0 from rfl,show 0 * 7 = 0 from rfl,Addr.add_zero'] at FI FJ FL FM FN FP CX)
                  have Ju:=Aside0.mk GK
                  have Na:=Aside0.mk GJ
                  clear GK GJ
                  replace Js:=eq_true Js
                  replace Jt:=eq_true Jt
                  have Jv : 0 ≤ (0 : Int):=(by omega)
                  have Jw : 0 < (Ao.length : Int):=of_decide_eq_true (by first|(with_reducible assumption)|assumption)
                  obtain ⟨Mq,NC,ND,e167,FT,FU,FV,FW,FX,FY,CY,GL,GN⟩:=gF (Kd.bL Aw.out).2.2 0 Jv Jw
                  obtain rfl : Az = Mq:=(by injection e167)
                  obtain ⟨Ox,KV,KW,II⟩:=Kd.iL Aw.out kJ 0 Jv (by first|exact Jw|exact of_decide_eq_true (by first|(with_reducible assumption)|assumption)|(have e_:=(Kd.bL Aw.out).1;omega))
                  obtain ⟨Nb,Nc,rfl,FZ,F3⟩:=fH KW
                  have Ep:=II 6 _ rfl
                  rw [bM _ _ 6 (by omega)] at Ep
                  replace Ep:=Option.some.inj (Ep.symm.trans CY)
                  injection Ep with hva_ hvn_ hvc_
                  rw [hva_] at F3
                  rw [hvc_] at FZ
                  have BF:=Aside0.mk (show Kd.V k43 43 _ w.heap.size _ _ ((ay Ao 0).f1.f5) from Kd.gU FZ F3)
                  clear hva_ hvn_ hvc_ F3 FZ
                  clear II KV
                  have Oy : (0 < Ao.length) = True:=eq_true (by omega)
                  (try simp only [show ((0 : Int)).toNat = 0 from rfl,show 0 * 7 = 0 from rfl,Addr.add_zero'] at FT FU FV FW FX FY CY)
                  have Jy:=Aside0.mk GN
                  have Nf:=Aside0.mk GL
                  clear GN GL
                  replace Jv:=eq_true Jv
                  replace Jw:=eq_true Jw
                  have ea_:=Option.some.inj (CX.symm.trans CY)
                  injection ea_ with ea_ en_ ec_
                  subst ea_
                  subst ec_
                  clear en_
                  refine fu (n:=14) (S:=fun w'=>w'.cell? Az = some (.string ((ay Ao 0).f0)) ∧ w'.cell? ⟨Az.block,Az.off + 1,none⟩ = some (.string ((ay Ao 0).f1.f0)) ∧ w'.cell? ⟨Az.block,Az.off + 2,none⟩ = some (.string ((ay Ao 0).f1.f1)) ∧ w'.cell? ⟨Az.block,Az.off + 3,none⟩ = some (.int .i64 ((ay Ao 0).f1.f2)) ∧ w'.cell? ⟨Az.block,Az.off + 4,none⟩ = some (.int .i64 ((ay Ao 0).f1.f3)) ∧ w'.cell? ⟨Az.block,Az.off + 5,none⟩ = some (.bool ((ay Ao 0).f1.f4)) ∧ w'.cell? ⟨Az.block,Az.off + 6,none⟩ = some (.slice IC ((ay Ao 0).f1.f5).length IE) ∧ w'.cell? Az = some (.string ((ay Ao 0).f0)) ∧ w'.cell? ⟨Az.block,Az.off + 1,none⟩ = some (.string ((ay Ao 0).f1.f0)) ∧ w'.cell? ⟨Az.block,Az.off + 2,none⟩ = some (.string ((ay Ao 0).f1.f1)) ∧ w'.cell? ⟨Az.block,Az.off + 3,none⟩ = some (.int .i64 ((ay Ao 0).f1.f2)) ∧ w'.cell? ⟨Az.block,Az.off + 4,none⟩ = some (.int .i64 ((ay Ao 0).f1.f3)) ∧ w'.cell? ⟨Az.block,Az.off + 5,none⟩ = some (.bool ((ay Ao 0).f1.f4)) ∧ w'.cell? ⟨Az.block,Az.off + 6,none⟩ = some (.slice IC ((ay Ao 0).f1.f5).length IE)) (ds:=[11,12]) #[O,O,O,O,O,O,O,O,O,O,O,O,O,O] (by kernel_rfl) rfl rfl ⟨FI,FJ,FL,FM,FN,FP,CX,FT,FU,FV,FW,FX,FY,CY⟩ (fun hHeld=>?_);refine dR aA.zH aA.yF (fun HT_ HW_=>?_)
                  generalize P7.drew = QA at AJ Ay Aw Al Am AL AO Aq Au AU AV HB BD BF Ju Jy FI FJ FL FM FN FP CX FT FU FV FW FX FY CY hHeld ⊢
                  refine pu_ 0 96 #[I,O,O,O,O,O,O,O,O,O,O,O,O,O] HT_.out ?_
                  refine pu_ 1 97 #[I,I,O,O,O,O,O,O,O,O,O,O,O,O] HT_.out ?_
                  refine pu_ 2 98 #[I,I,I,O,O,O,O,O,O,O,O,O,O,O] HT_.out ?_
                  refine pu_ 3 99 #[I,I,I,I,O,O,O,O,O,O,O,O,O,O] HT_.out ?_
                  refine pu_ 5 101 #[I,I,I,I,O,I,O,O,O,O,O,O,O,O] HT_.out ?_
                  refine pu_ 6 102 #[I,I,I,I,O,I,I,O,O,O,O,O,O,O] HT_.out ?_
                  refine pu_ 7 103 #[I,I,I,I,O,I,I,I,O,O,O,O,O,O] HT_.out ?_
                  refine pu_ 8 104 #[I,I,I,I,O,I,I,I,I,O,O,O,O,O] HT_.out ?_
                  refine ta_ 4 100 #[I,I,I,I,I,I,I,I,I,O,O,O,O,O] HT_.out HW_.out hHeld ?_
                  refine ta_ 9 105 #[I,I,I,I,I,I,I,I,I,I,O,O,O,O] HT_.out HW_.out hHeld ?_
                  refine pu_ 10 106 #[I,I,I,I,I,I,I,I,I,I,I,O,O,O] HT_.out ?_
                  refine jJ (i:=11) (N:=some 107) #[I,I,I,I,I,I,I,I,I,I,I,I,O,O] rfl rfl (dw HT_.out (by kernel_rfl)) (by decide) (fun K hK=>?_)
                  refine qc (w1:=?_) (v:=?_) (by rfl) rfl ?_ ?_
                  rotate_left 2
                  ·go_simp
                   constructor
                   ·rfl
                   ·rfl
                  refine hK.out _ _ ?_
                  clear hK K
                  refine dU (a':=?_) ?_ ?_
                  rotate_left
                  ·show Act.put _ (some 107) _ = _
                   simp only [Act.put,List.setIfInBounds_toArray,List.set_cons_zero,List.set_cons_succ,bH,bI]
                   rfl
                  refine jJ (i:=12) (N:=some 108) #[I,I,I,I,I,I,I,I,I,I,I,I,I,O] rfl rfl (dw HT_.out (by kernel_rfl)) (by decide) (fun K hK=>?_)
                  refine Kd.jO k65 (w0:=w) w.heap.size (by rfl) (.tmp 96) (.tmp 107) 61 65 (.agg #[(.int .i64 0),(.string ⟨#[]⟩),(.string ⟨#[]⟩)]) 40 rfl Tryd.underlying61 rJ rfl (by decide) (by omega) u5 Bf (⟨1,(ay Ao 0).f0,(ay Ao 0).f1.f0⟩ : S65) [.int .i64 1,.string ((ay Ao 0).f0),.string ((ay Ao 0).f1.f0)] (fun k_=>(w.heap.size ≤ k_)) (fun _=>False) rfl rfl ?aP (fun _ hk=>hk.elim) ?aF ?aO ?aB ?aS ?aL ?_
                  (case aP=>exact qx _ _ _ (⟨1,(ay Ao 0).f0,(ay Ao 0).f1.f0⟩ : S65))
                  (case aB=>exact hb_)
                  (case aF=>exact (fun k_ hk=>(Nat.le_trans (aY hb_) hk)))
                  (case aO=>exact (kr_ AJ.out))
                  (case aS=>exact (aY hb_))
                  (case aL=>have:=Mg.out;omega)
                  intro P8 P9 ho hb hg hat
                  rw [← Mh.out] at ho
                  have Bj:=Aside0.mk (Kd.fK (ok:=(fun k_=>((AP k_ ∨ AQ k_) ∨ w.heap.size ≤ k_) ∧ k_ ≠ AA ∧ k_ ≠ AB)) (by (with_reducible repeat (first|apply Kd.bP|apply Kd.bQ|apply Kd.bA));exact Kd.dO Ay.out (fun _ hk=>⟨⟨hk.1,⟨hk.2.2.1,hk.2.2.2⟩⟩,hk.2.1⟩)) hg hat)
                  have Bl:=Aside0.mk (Kd.fK (ok:=(fun k_=>((AP k_ ∨ AQ k_) ∨ w.heap.size ≤ k_) ∧ k_ ≠ AA ∧ k_ ≠ AB)) (by (with_reducible repeat (first|apply Kd.bP|apply Kd.bQ|apply Kd.bA));exact Kd.dO Aw.out (fun _ hk=>⟨⟨hk.1,⟨hk.2.2.1,hk.2.2.2⟩⟩,hk.2.1⟩)) hg hat)
                  have Bn:=Aside0.mk (Kd.fK (ok:=(fun k_=>((AP k_ ∨ AQ k_) ∨ w.heap.size ≤ k_) ∧ k_ ≠ AA ∧ k_ ≠ AB)) (by (with_reducible repeat (first|apply Kd.bP|apply Kd.bQ|apply Kd.bA));exact Kd.dO Al.out (fun _ hk=>⟨⟨hk.1,⟨hk.2.2.1,hk.2.2.2⟩⟩,hk.2.1⟩)) hg hat)
                  have Bo:=Aside0.mk (Kd.fK (ok:=(fun k_=>((AP k_ ∨ AQ k_) ∨ w.heap.size ≤ k_) ∧ k_ ≠ AA ∧ k_ ≠ AB)) (by (with_reducible repeat (first|apply Kd.bP|apply Kd.bQ|apply Kd.bA));exact Kd.dO Am.out (fun _ hk=>⟨⟨hk.1,⟨hk.2.2.1,hk.2.2.2⟩⟩,hk.2.1⟩)) hg hat)
                  have Bp:=Aside0.mk (jA (g:=AA) (o:=.cells #[.int .u64 Ct,.slice BG Bg.length BH] 59 (0,0)) (bk_ Aq.out) hg (Kd.ku AJ.out Aq.out (by decide)))
                  have Bq:=Aside0.mk (jA (g:=AB) (o:=.cells #[.int .u64 CF,.slice Cq Bh.length Cr] 59 (0,0)) (bk_ Au.out) hg (Kd.ku AJ.out Au.out (by decide)))
                  have Br:=Aside0.mk (Kd.fK (ok:=(fun k_=>((AP k_ ∨ AQ k_) ∨ w.heap.size ≤ k_) ∧ k_ ≠ AA ∧ k_ ≠ AB)) (by (with_reducible repeat (first|apply Kd.bP|apply Kd.bQ|apply Kd.bA));exact Kd.dO AL.out (fun _ hk=>⟨⟨hk.1,⟨hk.2.2.1,hk.2.2.2⟩⟩,hk.2.1⟩)) hg hat)
                  have Bt:=Aside0.mk (Kd.fK (ok:=(fun k_=>((AP k_ ∨ AQ k_) ∨ w.heap.size ≤ k_) ∧ k_ ≠ AA ∧ k_ ≠ AB)) (by (with_reducible repeat (first|apply Kd.bP|apply Kd.bQ|apply Kd.bA));exact Kd.dO AO.out (fun _ hk=>⟨⟨hk.1,⟨hk.2.2.1,hk.2.2.2⟩⟩,hk.2.1⟩)) hg hat)
                  have Da:=Aside0.mk (Kd.fK (ok:=(fun k_=>((AP k_ ∨ AQ k_) ∨ w.heap.size ≤ k_) ∧ k_ ≠ AA ∧ k_ ≠ AB)) (by (with_reducible repeat (first|apply Kd.bP|apply Kd.bQ|apply Kd.bA));exact Kd.dO BD.out (fun _ hk=>⟨⟨hk.1,⟨hk.2.2.1,hk.2.2.2⟩⟩,hk.2.1⟩)) hg hat)
                  have Et:=Aside0.mk (Kd.fK (ok:=(fun k_=>((AP k_ ∨ AQ k_) ∨ w.heap.size ≤ k_) ∧ k_ ≠ AA ∧ k_ ≠ AB)) (by (with_reducible repeat (first|apply Kd.bP|apply Kd.bQ|apply Kd.bA));exact Kd.dO BF.out (fun _ hk=>⟨⟨hk.1,⟨hk.2.2.1,hk.2.2.2⟩⟩,hk.2.1⟩)) hg hat)
                  have Cv:=Aside0.mk (hb)
                  have Cw:=Aside0.mk (ho)
                  clear Ay
                  clear Aw
                  clear Al
                  clear Am
                  clear Aq
                  clear Au
                  clear AL
                  clear AO
                  clear BD
                  clear BF
                  clear HB
                  clear AJ
                  have Ay:=Bj
                  have Aw:=Bl
                  have Al:=Bn
                  have Am:=Bo
                  have Aq:=Bp
                  have Au:=Bq
                  have AL:=Br
                  have AO:=Bt
                  have BD:=Da
                  have BF:=Et
                  have HB:=Cv
                  have Gc:=Cw
                  clear Bj Bl Bn Bo Bp Bq Br Bt Da Et Cv Cw
                  clear ho hb hg hat
                  refine hK.out _ _ ?_
                  clear hK K
                  refine dU (a':=?_) ?_ ?_
                  rotate_left
                  ·show Act.put _ (some 108) _ = _
                   simp only [Act.put,List.setIfInBounds_toArray,List.set_cons_zero,List.set_cons_succ,bH,bI]
                   rfl
                  refine pu_ 13 5 #[I,I,I,I,I,I,I,I,I,I,I,I,I,I] HT_.out ?_
                  refine gJ (eH HT_.out (by kernel_rfl)) ?_
                  try go_wp2
                  have Bj:=Aside0.mk (Kd.bA Ay.out)
                  have Bl:=Aside0.mk (Kd.bA Aw.out)
                  have Bn:=Aside0.mk (Kd.bA Al.out)
                  have Bo:=Aside0.mk (Kd.bA Am.out)
                  have Bp:=Aside0.mk (Kd.bA AL.out)
                  have Bq:=Aside0.mk (Kd.bA AO.out)
                  have Br:=Aside0.mk (Kd.bA BD.out)
                  have Bt:=Aside0.mk (Kd.bA BF.out)
                  have Da:=Aside0.mk (Kd.d9 Gc.out)
                  have Et:=Aside0.mk (aG Aq.out)
                  have Cv:=Aside0.mk (aG Au.out)
                  have Cw:=Aside0.mk (aZ HB.out)
                  clear Ay
                  clear Aw
                  clear Al
                  clear Am
                  clear AL
                  clear AO
                  clear BD
                  clear BF
                  clear Gc
                  clear Aq
                  clear Au
                  clear HB
                  have Ay:=Bj
                  have Aw:=Bl
                  have Al:=Bn
                  have Am:=Bo
                  have AL:=Bp
                  have AO:=Bq
                  have BD:=Br
                  have BF:=Bt
                  have Gc:=Da
                  have Aq:=Et
                  have Au:=Cv
                  have HB:=Cw
                  clear Bj Bl Bn Bo Bp Bq Br Bt Da Et Cv Cw
                  have NG : (1 : Int) ≤ ((Ap.length : Int) : Int):=of_decide_eq_true (by first|(with_reducible assumption)|assumption)
                  obtain ⟨Qa,JW,_,JX,_⟩:=info_parts kS
                  have Er : Ap.length ≤ Iz:=(Kd.bL Ay.out).2.1
                  have Mr : Kd.F fP _ _ (some AX) Ap.length Ap:=(Kd.nY (base:=w.heap.size) Ay.out).2.2
                  have KZ:=jQ (P:=Tryd.prog) 57 102 .i64 Tryd.underlying57 JW 7 JX (some AX) Ap.length Iz 1 (by omega) NG
                  have IJ:=Kd.pF (m:=(1 : Int).toNat) (c:=Iz) Mr (by omega) Er
                  obtain ⟨Oz,Jz⟩ : ∃ A1,A1 = (if Iz = (1 : Int).toNat then (some AX) else ((some AX) : Option Addr).map (·.add ((1 : Int).toNat * 7))):=⟨_,rfl⟩
                  obtain ⟨OA,JA⟩ : ∃ c1,c1 = Iz - (1 : Int).toNat:=⟨_,rfl⟩
                  have IK : EF.length = Ap.length - (1 : Int).toNat:=(by rw [JU.out,List.length_drop] <;> omega)
                  rw [show (Ap).drop (1 : Int).toNat = EF from JU.out.symm] at IJ
                  replace IJ : Kd.F fP _ _ Oz EF.length EF:=(by rw [Jz];exact IJ)
                  rw [← IK,← Jz,← JA] at KZ
                  have JY:=Aside0.mk (show Kd.V fP 102 _ w.heap.size _ (.slice Oz EF.length OA) EF from Kd.gU (by rw [IK,JA];exact Nat.sub_le_sub_right Er _) IJ)
                  have OB:=Aside0.mk (show EF.length ≤ OA from by rw [IK,JA];exact Nat.sub_le_sub_right Er _)
                  clear IJ Mr Er JW JX JA
                  have Qb:=Aside0.mk IK
                  have Qc:=Aside0.mk Jz
                  clear IK Jz
                  replace NG:=eq_true NG
                  have NH : (1 : Int) ≤ ((Ao.length : Int) : Int):=of_decide_eq_true (by first|(with_reducible assumption)|assumption)
                  obtain ⟨Qd,JZ,_,J2,_⟩:=info_parts kS
                  have Es : Ao.length ≤ IB:=(Kd.bL Aw.out).2.1
                  have Ms : Kd.F fP _ _ (some Az) Ao.length Ao:=(Kd.nY (base:=w.heap.size) Aw.out).2.2
                  have K4:=jQ (P:=Tryd.prog) 57 102 .i64 Tryd.underlying57 JZ 7 J2 (some Az) Ao.length IB 1 (by omega) NH
                  have IL:=Kd.pF (m:=(1 : Int).toNat) (c:=IB) Ms (by omega) Es
                  obtain ⟨OC,JB⟩ : ∃ A1,A1 = (if IB = (1 : Int).toNat then (some Az) else ((some Az) : Option Addr).map (·.add ((1 : Int).toNat * 7))):=⟨_,rfl⟩
                  obtain ⟨OD,JC⟩ : ∃ c1,c1 = IB - (1 : Int).toNat:=⟨_,rfl⟩
                  have IQ : FH.length = Ao.length - (1 : Int).toNat:=(by rw [JV.out,List.length_drop] <;> omega)
                  rw [show (Ao).drop (1 : Int).toNat = FH from JV.out.symm] at IL
                  replace IL : Kd.F fP _ _ OC FH.length FH:=(by rw [JB];exact IL)
                  rw [← IQ,← JB,← JC] at K4
                  have J3:=Aside0.mk (show Kd.V fP 102 _ w.heap.size _ (.slice OC FH.length OD) FH from Kd.gU (by rw [IQ,JC];exact Nat.sub_le_sub_right Es _) IL)
                  have OE:=Aside0.mk (show FH.length ≤ OD from by rw [IQ,JC];exact Nat.sub_le_sub_right Es _)
                  clear IL Ms Es JZ J2 JC
                  have Qe:=Aside0.mk IQ
                  have Qf:=Aside0.mk JB
                  clear IQ JB
                  replace NH:=eq_true NH
                  refine fu (n:=6) (S:=fun w'=>True) (ds:=[]) #[O,O,O,O,O,O] (by kernel_rfl) rfl rfl trivial (fun hHeld=>?_)
                  generalize P9.drew = QC at Ay Aw Al Am AL AO BD BF Gc Aq Au HB JY J3 hHeld ⊢
                  refine eD (i:=0) (N:=some 109) (v:=?_) (a':=?_) #[I,O,O,O,O,O] rfl rfl (by kernel_rfl) (fun _ _ _ h=>h) (Or.inl ⟨by rfl,?_⟩) ?_ ?_
                  rotate_left
                  ·intro w'
                   go_simp
                   with_reducible rfl
                  rotate_left
                  ·simp only [Act.put,List.setIfInBounds_toArray,List.set_cons_zero,List.set_cons_succ,bH,bI]
                   rfl
                  refine eD (i:=1) (N:=some 110) (v:=?_) (a':=?_) #[I,I,O,O,O,O] rfl rfl (by kernel_rfl) (fun _ _ _ h=>h) (Or.inl ⟨by rfl,?_⟩) ?_ ?_
                  rotate_left
                  ·intro w'
                   go_simp
                   with_reducible rfl
                  rotate_left
                  ·simp only [Act.put,List.setIfInBounds_toArray,List.set_cons_zero,List.set_cons_succ,bH,bI]
                   rfl
                  refine eD (i:=2) (N:=some 111) (v:=?_) (a':=?_) #[I,I,I,O,O,O] rfl rfl (by kernel_rfl) (fun _ _ _ h=>h) (Or.inl ⟨by rfl,?_⟩) ?_ ?_
                  rotate_left
                  ·intro w'
                   go_simp
                   with_reducible rfl
                  rotate_left
                  ·simp only [Act.put,List.setIfInBounds_toArray,List.set_cons_zero,List.set_cons_succ,bH,bI]
                   rfl
                  refine eD (i:=3) (N:=some 112) (v:=?_) (a':=?_) #[I,I,I,I,O,O] rfl rfl (by kernel_rfl) (fun _ _ _ h=>h) (Or.inl ⟨by rfl,?_⟩) ?_ ?_
                  rotate_left
                  ·intro w'
                   go_simp
                   with_reducible rfl
                  rotate_left
                  ·simp only [Act.put,List.setIfInBounds_toArray,List.set_cons_zero,List.set_cons_succ,bH,bI]
                   rfl
                  refine eD (i:=4) (N:=some 6) (v:=?_) (a':=?_) #[I,I,I,I,I,O] rfl rfl (by kernel_rfl) (fun _ _ _ h=>h) (Or.inl ⟨by rfl,?_⟩) ?_ ?_
                  rotate_left
                  ·intro w'
                   go_simp
                   with_reducible rfl
                  rotate_left
                  ·simp only [Act.put,List.setIfInBounds_toArray,List.set_cons_zero,List.set_cons_succ,bH,bI]
                   rfl
                  refine eD (i:=5) (N:=some 7) (v:=?_) (a':=?_) #[I,I,I,I,I,I] rfl rfl (by kernel_rfl) (fun _ _ _ h=>h) (Or.inl ⟨by rfl,?_⟩) ?_ ?_
                  rotate_left
                  ·intro w'
                   go_simp
                   with_reducible rfl
                  rotate_left
                  ·simp only [Act.put,List.setIfInBounds_toArray,List.set_cons_zero,List.set_cons_succ,bH,bI]
                   rfl
                  refine gJ (by kernel_rfl) ?_
                  try go_wp2
                  go_roundg BP
                  case measure=>have:=Gd.out;have:=GR.out;have:=EC.out;have:=GU.out;omega
                  case rel=>exact ⟨(y168),(EF),(FH),H',⟨by have:=Gd.out;have:=GR.out;have:=EC.out;have:=GU.out;omega⟩,⟨by (with_reducible repeat (first|apply Kd.fA|apply Kd.fB|apply Kd.d9));exact Gc.out⟩,⟨by (with_reducible repeat (first|apply Kd.bP|apply Kd.bQ|apply Kd.bA));exact Kd.dO JY.out (fun _ hk=>⟨hk.1.1,⟨hk.2,⟨hk.1.2.1,hk.1.2.2⟩⟩⟩)⟩,⟨by (with_reducible repeat (first|apply Kd.bP|apply Kd.bQ|apply Kd.bA));exact Kd.dO J3.out (fun _ hk=>⟨hk.1.1,⟨hk.2,⟨hk.1.2.1,hk.1.2.2⟩⟩⟩)⟩,⟨by (with_reducible repeat (first|apply Kd.bP|apply Kd.bQ|apply Kd.bA));exact Kd.dO Al.out (fun _ hk=>⟨hk.1.1,⟨hk.2,⟨hk.1.2.1,hk.1.2.2⟩⟩⟩)⟩,⟨by (with_reducible repeat (first|apply Kd.bP|apply Kd.bQ|apply Kd.bA));exact Kd.dO Am.out (fun _ hk=>⟨hk.1.1,⟨hk.2,⟨hk.1.2.1,hk.1.2.2⟩⟩⟩)⟩,⟨by (with_reducible repeat (first|apply aC|apply aG|apply aH));exact Aq.out⟩,⟨by (with_reducible repeat (first|apply aC|apply aG|apply aH));exact Au.out⟩,⟨hb_⟩⟩
                 ·rw [if_neg Mi] at H
                  exact absurd H (by simp)
                ·rw [if_neg c64] at H
                 exact absurd H (by simp)
               ·rw [if_neg M7] at H
                exact absurd H (by simp)
             ·rw [if_neg c51] at H
              exact absurd H (by simp)
            ·rw [if_neg M6] at H
             exact absurd H (by simp)
     ·replace c11:=Bool.eq_false_iff.mpr c11
      subst c11
      have H1 : (some Bf) = some r:=by rw [if_neg (show ¬ (false = true) by decide)] at H;exact H
      clear H
      have H:=H1
      clear H1
      obtain rfl:=Option.some.inj H
      go_wp2
      go_ret
      exact ⟨_,by first|rfl|(simp [aV,aW] <;> rfl)|(simp [*,aV,aW] <;> rfl),by (with_reducible repeat (first|apply Kd.fA|apply Kd.fB|apply Kd.d9));exact AJ.out,hb_⟩
end Go.Proofs.YtpflenjhmeaeoaaDoor.GUt
