/- Written by this session's own program (wip/gen.py) out of the translation: plain Lean functions of the Go functions, and proofs that the calls come to their answers. No conditions beside those in the statements. -/
import Derived.Test.YtpflenjhmeaeoaaGreatDoorCp
import Derived.Test.YtpflenjhmeaeoaaGreatDoorGUtx0
import Derived.Test.YtpflenjhmeaeoaaGreatDoorGUtSame
namespace Go.Proofs.YtpflenjhmeaeoaaGreatDoor.GUt
open Go.RowKit Go.Proofs.YtpflenjhmeaeoaaGreatDoorW.PrintWords Go.Proofs.YtpflenjhmeaeoaaGreatDoorW.PrintLast Go.Proofs.YtpflenjhmeaeoaaGreatDoorW.PrintMore
attribute [local go_sem] fJ fK gH gI eO eP fM fO
set_option linter.unusedVariables false
set_option linter.unusedSimpArgs false
mutual
def av.l0 : Nat → List (S30) → List (S51) → List (S51) → Option ((List (S30)))
 | 0,_,_,_=>none
 | k + 1,x5,x6,x7=>if (x6.length : Int) > 0 then (av.j1 k x5 x6 x7 true) else (av.j1 k x5 x6 x7 (decide ((x7.length : Int) > 0)))
def av.j1 : Nat → List (S30) → List (S51) → List (S51) → Bool → Option ((List (S30)))
 | 0,_,_,_,_=>none
 | k + 1,x5,x6,x7,O9=>if O9 = true then (if (x7.length : Int) = 0 then (av.j2 k x5 x6 x7 true) else (if (x6.length : Int) > 0 then (if 0 < (x6.length : Int) then (if 0 < (x7.length : Int) then (av.j2 k x5 x6 x7 (Op.bytesLess (((aC x6 0).f0).toList) (((aC x7 0).f0).toList))) else (none)) else (none)) else (av.j2 k x5 x6 x7 false))) else (some x5)
def av.j2 : Nat → List (S30) → List (S51) → List (S51) → Bool → Option ((List (S30)))
 | 0,_,_,_,_=>none
 | k + 1,x5,x6,x7,x20=>if x20 = true then (if 0 < (x6.length : Int) then (if x5.length < 3518437208883 then (if 1 ≤ (x6.length : Int) then (av.l0 k (x5 ++ [(⟨2,(aC x6 0).f0,(aC x6 0).f1.f0⟩ : S30)]) (x6.drop 1) x7) else (none)) else (none)) else (none)) else (if (x6.length : Int) = 0 then (av.j3 k x5 x6 x7 true) else (if 0 < (x7.length : Int) then (if 0 < (x6.length : Int) then (av.j3 k x5 x6 x7 (Op.bytesLess (((aC x7 0).f0).toList) (((aC x6 0).f0).toList))) else (none)) else (none)))
def av.j3 : Nat → List (S30) → List (S51) → List (S51) → Bool → Option ((List (S30)))
 | 0,_,_,_,_=>none
 | k + 1,x5,x6,x7,x40=>if x40 = true then (if 0 < (x7.length : Int) then (if x5.length < 3518437208883 then (if 1 ≤ (x7.length : Int) then (av.l0 k (x5 ++ [(⟨0,(aC x7 0).f0,(aC x7 0).f1.f0⟩ : S30)]) x6 (x7.drop 1)) else (none)) else (none)) else (none)) else (if 0 < (x6.length : Int) then (if 0 < (x7.length : Int) then ((dK.f k ((aC x6 0).f1.f0) ((aC x6 0).f1.f1) ((aC x6 0).f1.f2) ((aC x6 0).f1.f3) ((aC x6 0).f1.f4) ((aC x6 0).f1.f5) ((aC x7 0).f1.f0) ((aC x7 0).f1.f1) ((aC x7 0).f1.f2) ((aC x7 0).f1.f3) ((aC x7 0).f1.f4) ((aC x7 0).f1.f5)).bind fun Hu=>(if Hu = true then (if 1 ≤ (x6.length : Int) then (if 1 ≤ (x7.length : Int) then (av.l0 k x5 (x6.drop 1) (x7.drop 1)) else (none)) else (none)) else (if x5.length < 3518437208883 then (if 1 ≤ (x6.length : Int) then (if 1 ≤ (x7.length : Int) then (av.l0 k (x5 ++ [(⟨1,(aC x7 0).f0,(aC x7 0).f1.f0⟩ : S30)]) (x6.drop 1) (x7.drop 1)) else (none)) else (none)) else (none)))) else (none)) else (none))
end
def av.f (k : Nat) (C8 : Int) (BK : List (S51)) (Dc : Int) (BL : List (S51)) : Option ((List (S30))):=av.l0 k ([] : List (S30)) BK BL
theorem av.dQ : ∀ k,(∀ y0 y1 y2,LeO (av.l0 k y0 y1 y2) (av.l0 (k + 1) y0 y1 y2)) ∧ (∀ y0 y1 y2 y3,LeO (av.j1 k y0 y1 y2 y3) (av.j1 (k + 1) y0 y1 y2 y3)) ∧ (∀ y0 y1 y2 y3,LeO (av.j2 k y0 y1 y2 y3) (av.j2 (k + 1) y0 y1 y2 y3)) ∧ (∀ y0 y1 y2 y3,LeO (av.j3 k y0 y1 y2 y3) (av.j3 (k + 1) y0 y1 y2 y3))
 | 0=>⟨fun _ _ _ r h=>by simp [av.l0] at h,fun _ _ _ _ r h=>by simp [av.j1] at h,fun _ _ _ _ r h=>by simp [av.j2] at h,fun _ _ _ _ r h=>by simp [av.j3] at h⟩
 | k + 1=>by
  obtain ⟨Hz,ih1,ih2,ih3⟩:=av.dQ k
  refine ⟨?_,?_,?_,?_⟩
  ·intro y0 y1 y2
   unfold av.l0
   repeat' first
   | (with_reducible exact Hz _ _ _)
   | (with_reducible exact ih1 _ _ _ _)
   | (with_reducible exact ih2 _ _ _ _)
   | (with_reducible exact ih3 _ _ _ _)
   | (with_reducible exact dK.mono _ _ _ _ _ _ _ _ _ _ _ _ _)
   | (with_reducible exact LeO.refl _)
   | (with_reducible exact LeO.none _)
   | (with_reducible refine LeO.ite ?_ ?_)
   | (with_reducible refine LeO.bind ?_ (fun _=>?_))
   | exact Hz _ _ _
   | exact ih1 _ _ _ _
   | exact ih2 _ _ _ _
   | exact ih3 _ _ _ _
   | exact dK.mono _ _ _ _ _ _ _ _ _ _ _ _ _
   | exact LeO.none _
   | refine LeO.ite ?_ ?_
   | refine LeO.bind ?_ (fun _=>?_)
  ·intro y0 y1 y2 y3
   unfold av.j1
   repeat' first
   | (with_reducible exact Hz _ _ _)
   | (with_reducible exact ih1 _ _ _ _)
   | (with_reducible exact ih2 _ _ _ _)
   | (with_reducible exact ih3 _ _ _ _)
   | (with_reducible exact dK.mono _ _ _ _ _ _ _ _ _ _ _ _ _)
   | (with_reducible exact LeO.refl _)
   | (with_reducible exact LeO.none _)
   | (with_reducible refine LeO.ite ?_ ?_)
   | (with_reducible refine LeO.bind ?_ (fun _=>?_))
   | exact Hz _ _ _
   | exact ih1 _ _ _ _
   | exact ih2 _ _ _ _
   | exact ih3 _ _ _ _
   | exact dK.mono _ _ _ _ _ _ _ _ _ _ _ _ _
   | exact LeO.none _
   | refine LeO.ite ?_ ?_
   | refine LeO.bind ?_ (fun _=>?_)
  ·intro y0 y1 y2 y3
   unfold av.j2
   repeat' first
   | (with_reducible exact Hz _ _ _)
   | (with_reducible exact ih1 _ _ _ _)
   | (with_reducible exact ih2 _ _ _ _)
   | (with_reducible exact ih3 _ _ _ _)
   | (with_reducible exact dK.mono _ _ _ _ _ _ _ _ _ _ _ _ _)
   | (with_reducible exact LeO.refl _)
   | (with_reducible exact LeO.none _)
   | (with_reducible refine LeO.ite ?_ ?_)
   | (with_reducible refine LeO.bind ?_ (fun _=>?_))
   | exact Hz _ _ _
   | exact ih1 _ _ _ _
   | exact ih2 _ _ _ _
   | exact ih3 _ _ _ _
   | exact dK.mono _ _ _ _ _ _ _ _ _ _ _ _ _
   | exact LeO.none _
   | refine LeO.ite ?_ ?_
   | refine LeO.bind ?_ (fun _=>?_)
  ·intro y0 y1 y2 y3
   unfold av.j3
   repeat' first
   | (with_reducible exact Hz _ _ _)
   | (with_reducible exact ih1 _ _ _ _)
   | (with_reducible exact ih2 _ _ _ _)
   | (with_reducible exact ih3 _ _ _ _)
   | (with_reducible exact dK.mono _ _ _ _ _ _ _ _ _ _ _ _ _)
   | (with_reducible exact LeO.refl _)
   | (with_reducible exact LeO.none _)
   | (with_reducible refine LeO.ite ?_ ?_)
   | (with_reducible refine LeO.bind ?_ (fun _=>?_))
   | exact Hz _ _ _
   | exact ih1 _ _ _ _
   | exact ih2 _ _ _ _
   | exact ih3 _ _ _ _
   | exact dK.mono _ _ _ _ _ _ _ _ _ _ _ _ _
   | exact LeO.none _
   | refine LeO.ite ?_ ?_
   | refine LeO.bind ?_ (fun _=>?_)
theorem av.mono : ∀ a0 a1 a2 a3 k,LeO (av.f k a0 a1 a2 a3) (av.f (k + 1) a0 a1 a2 a3):=by
 intro a0 a1 a2 a3 k
 obtain ⟨Hz,ih1,ih2,ih3⟩:=av.dQ k
 unfold av.f
 repeat' first
   | (with_reducible exact Hz _ _ _)
   | (with_reducible exact ih1 _ _ _ _)
   | (with_reducible exact ih2 _ _ _ _)
   | (with_reducible exact ih3 _ _ _ _)
   | (with_reducible exact dK.mono _ _ _ _ _ _ _ _ _ _ _ _ _)
   | (with_reducible exact LeO.refl _)
   | (with_reducible exact LeO.none _)
   | (with_reducible refine LeO.ite ?_ ?_)
   | (with_reducible refine LeO.bind ?_ (fun _=>?_))
   | exact Hz _ _ _
   | exact ih1 _ _ _ _
   | exact ih2 _ _ _ _
   | exact ih3 _ _ _ _
   | exact dK.mono _ _ _ _ _ _ _ _ _ _ _ _ _
   | exact LeO.none _
   | refine LeO.ite ?_ ?_
   | refine LeO.bind ?_ (fun _=>?_)
def av.T4 : Bool × List (List Nat × List Nat):=(true,[([],[]),([0],[0]),([1],[1]),([2],[2]),([3],[3]),([4,3],[3,4]),([5,3],[3,5]),([6,3,3],[3,6]),([7],[7]),([8,7],[7,8]),([9,7],[7,9]),([10,7],[7,10]),([7],[7]),([12,7],[7,12]),([13,7],[7,13]),([14,7],[7,14]),([11,15,7],[7,11,15]),([7,16,3],[3,7,16]),([3,17],[3,17]),([18,7],[18])])
def av.B4 : List Nat:=[0,1,3,7,15,31,63,127,255,511,1023,2047,255,4351,12543,28927,65535,131071,262143,524287]
theorem av.wh : gV .any (opsOf Tryz.f8 4) = av.T4:=by kernel_rfl
theorem av.rD : fQ av.T4.2 av.B4 = true:=by kernel_rfl
def av.T5 : Bool × List (List Nat × List Nat):=(true,[([],[]),([0],[0]),([1],[1]),([2],[2]),([3],[3]),([4,3],[3,4]),([5,3],[3,5]),([6,3],[3,6]),([3],[3]),([8,3],[3,8]),([9,3],[3,9]),([10,3],[3,10]),([7,11,3],[3,7,11]),([3,12],[3,12]),([13,3],[13])])
def av.B5 : List Nat:=[0,1,3,7,15,31,63,127,15,271,783,1807,4095,8191,16383]
theorem av.qG : gV .any (opsOf Tryz.f8 5) = av.T5:=by kernel_rfl
theorem av.mE : fQ av.T5.2 av.B5 = true:=by kernel_rfl
def av.T6 : Bool × List (List Nat × List Nat):=(true,[([],[]),([0],[0]),([1],[1]),([2],[2]),([],[]),([4],[4]),([5],[5]),([6],[6]),([3,7],[3,7]),([8],[8]),([9,8],[9])])
def av.B6 : List Nat:=[0,1,3,7,0,16,48,112,255,511,1023]
theorem av.xK : gV .any (opsOf Tryz.f8 6) = av.T6:=by kernel_rfl
theorem av.tJ : fQ av.T6.2 av.B6 = true:=by kernel_rfl
def av.T7 : Bool × List (List Nat × List Nat):=(true,[([],[]),([],[]),([1],[1]),([2],[2]),([3],[3]),([],[]),([5],[5]),([6],[6]),([7],[7]),([8],[8]),([4,9],[4,9]),([10],[10]),([0,11],[0,11]),([12,12,0,1,2,3,4,5,6,7,8,9,10,11,12],[0,12])])
def av.B7 : List Nat:=[0,0,2,6,14,0,32,96,224,480,1022,2046,4095,8191]
theorem av.AL : gV .any (opsOf Tryz.f8 7) = av.T7:=by kernel_rfl
theorem av.Ad : fQ av.T7.2 av.B7 = true:=by kernel_rfl
def av.T9 : Bool × List (List Nat × List Nat):=(true,[([],[]),([],[]),([1],[1]),([2],[2]),([3],[3]),([],[]),([5],[5]),([6],[6]),([7],[7]),([8],[8]),([4,9],[4,9]),([10],[10]),([0,11],[0,11]),([12,12,0,1,2,3,4,5,6,7,8,9,10,11,12],[0,12])])
def av.B9 : List Nat:=[0,0,2,6,14,0,32,96,224,480,1022,2046,4095,8191]
theorem av.rE : gV .any (opsOf Tryz.f8 9) = av.T9:=by kernel_rfl
theorem av.ni : fQ av.T9.2 av.B9 = true:=by kernel_rfl
def av.T11 : Bool × List (List Nat × List Nat):=(true,[([],[]),([],[]),([1],[1]),([2],[2]),([3],[3]),([],[]),([5],[5]),([6],[6]),([7],[7]),([8],[8]),([4,9],[4,9]),([10],[10]),([0,11],[0,11]),([12,12,0,1,2,3,4,5,6,7,8,9,10,11,12],[0,12])])
def av.B11 : List Nat:=[0,0,2,6,14,0,32,96,224,480,1022,2046,4095,8191]
theorem av.Ae : gV .any (opsOf Tryz.f8 11) = av.T11:=by kernel_rfl
theorem av.zh : fQ av.T11.2 av.B11 = true:=by kernel_rfl
set_option maxHeartbeats 8000000 in
set_option maxRecDepth 100000 in
theorem av.calls (k : Nat) (C8 : Int) (Bw : Nat → Prop) (Ch : Option Addr) (Ci : Nat) (BK : List (S51)) (Dc : Int) (Bz : Nat → Prop) (CY : Option Addr) (CZ : Nat) (BL : List (S51)) (r : List (S30)) (w : World) (LC : Kd.V k51 51 w w.heap.size (fun k_=>Bw k_) (.slice Ch BK.length Ci) BK) (LD : Kd.V k51 51 w w.heap.size (fun k_=>Bz k_) (.slice CY BL.length CZ) BL) (h : av.f k C8 BK Dc BL = some r) :
  Calls Tryz.prog 8 #[.agg #[.int .u64 C8,.slice Ch BK.length Ci],.agg #[.int .u64 Dc,.slice CY BL.length CZ]] w fun e w'=>∃ Od : Value,e = .returned (Od) ∧ Kd.R k30 30 w' w.heap.size (fun k_=>(w.heap.size ≤ k_)) Od r ∧ Below w.heap.size w w':=by
 have Pf:=Tryz.underlying25
 have Pg:=Tryz.underlying49
 have Ph:=Tryz.underlying30
 have CW:=Aside0.mk (show Kd.V k51 51 w w.heap.size (fun k_=>((Bw k_ ∨ Bz k_) ∨ w.heap.size ≤ k_)) (.slice Ch BK.length Ci) BK from Kd.eG LC (fun k_ hk=>.inl (.inl hk)))
 have CX:=Aside0.mk (show Kd.V k51 51 w w.heap.size (fun k_=>((Bw k_ ∨ Bz k_) ∨ w.heap.size ≤ k_)) (.slice CY BL.length CZ) BL from Kd.eG LD (fun k_ hk=>.inl (.inr hk)))
 have HB:=Aside0.mk (Below.refl w.heap.size w)
 have H : (av.l0 k ([] : List (S30)) BK BL) = some r:=h
 clear h
 have H':=Aside0.mk H
 clear H
 go_enter Tryz.func8,Tryz.ntmps8
 try go_wp2_with (first|((with_reducible refine cZ (N:=2) rfl ?_);(try (refine iw (by rfl) ?_;dsimp only));refine dA ?hg (N:=2) ?hd (cs:=#[.int .u64 C8,.slice Ch BK.length Ci]) (t:=25) ?hr ?_;(case hd=>rfl);(case hg=>rfl);(case hr=>first|(go_simp;done)|(go_simp;rfl));intro Bq hg w3 hbox hb;have BN:=Aside0.mk (Kd.eB (Kd.kN (kv_ CW.out) Bq (Nat.le_of_eq hg.symm)) hb);have BO:=Aside0.mk (Kd.eB (Kd.kN (kv_ CX.out) Bq (Nat.le_of_eq hg.symm)) hb);have BP:=Aside0.mk (aK hb_ hb);have BQ:=Aside0.mk (hbox);have BR:=Aside0.mk ((by rw [hg];exact (aM hb_) : w.heap.size ≤ Bq));have BS:=Aside0.mk ((by rw [hg];exact (aM hb_) : w.heap.size ≤ Bq));clear CW;clear CX;clear HB;have CW:=BN;have CX:=BO;have HB:=BP;have Bj:=BQ;have Oe:=BR;have Og:=BS;clear BN BO BP BQ BR BS;clear hb hbox hg)|((with_reducible refine cZ (N:=3) rfl ?_);(try (refine iw (by rfl) ?_;dsimp only));refine dA ?hg (N:=3) ?hd (cs:=#[.int .u64 Dc,.slice CY BL.length CZ]) (t:=25) ?hr ?_;(case hd=>rfl);(case hg=>rfl);(case hr=>first|(go_simp;done)|(go_simp;rfl));intro Br hg w4 hbox hb;have BN:=Aside0.mk (Kd.eB (Kd.kN (kv_ CW.out) Br (Nat.le_of_eq hg.symm)) hb);have BO:=Aside0.mk (Kd.eB (Kd.kN (kv_ CX.out) Br (Nat.le_of_eq hg.symm)) hb);have BP:=Aside0.mk (aN (g:=Bq) (o:=.cells #[.int .u64 C8,.slice Ch BK.length Ci] 25 (0,0)) (bk_ Bj.out) hb);have BQ:=Aside0.mk (aK hb_ hb);have BR:=Aside0.mk (hbox);have BS:=Aside0.mk ((by rw [hg];exact (aM hb_) : w.heap.size ≤ Br));have BU:=Aside0.mk ((by rw [hg];exact (aM hb_) : w.heap.size ≤ Br));have BX:=Aside0.mk ((by rw [hg];exact Nat.ne_of_lt (dh (g:=Bq) (o:=.cells #[.int .u64 C8,.slice Ch BK.length Ci] 25 (0,0)) (bk_ Bj.out)) : Bq ≠ Br));have Dv:=Aside0.mk ((by rw [hg];exact Nat.ne_of_gt (dh (g:=Bq) (o:=.cells #[.int .u64 C8,.slice Ch BK.length Ci] 25 (0,0)) (bk_ Bj.out)) : Br ≠ Bq));clear CW;clear CX;clear Bj;clear HB;have CW:=BN;have CX:=BO;have Bj:=BP;have HB:=BQ;have Bl:=BR;have Oh:=BS;have Oi:=BU;have Lx:=BX;have LA:=Dv;clear BN BO BP BQ BR BS BU BX Dv;clear hb hbox hg))
 have BN:=Aside0.mk (Kd.bH CW.out)
 have BO:=Aside0.mk (Kd.bH CX.out)
 have BP:=Aside0.mk (aG Bj.out)
 have BQ:=Aside0.mk (aG Bl.out)
 have BR:=Aside0.mk (bB HB.out)
 clear CW
 clear CX
 clear Bj
 clear Bl
 clear HB
 have CW:=BN
 have CX:=BO
 have Bj:=BP
 have Bl:=BQ
 have HB:=BR
 clear BN BO BP BQ BR
 refine fU (n:=6) (S:=fun w'=>w'.cell? ⟨Bq,0,none⟩ = some (.int .u64 C8) ∧ w'.cell? ⟨Bq,1,none⟩ = some (.slice Ch BK.length Ci) ∧ w'.cell? ⟨Br,0,none⟩ = some (.int .u64 Dc) ∧ w'.cell? ⟨Br,1,none⟩ = some (.slice CY BL.length CZ)) (ds:=[]) #[O,O,O,O,O,O] (by kernel_rfl) rfl rfl ⟨(ah Bj.out 0).trans rfl,(ah Bj.out 1).trans rfl,(ah Bl.out 0).trans rfl,(ah Bl.out 1).trans rfl⟩ (fun hHeld=>?_)
 generalize w4.drew = w5 at CW CX Bj Bl HB hHeld ⊢
 refine eZ (i:=0) (N:=some 8) (v:=?_) (a':=?_) #[I,O,O,O,O,O] rfl rfl (by kernel_rfl) (fun _ _ _ h=>h) (Or.inl ⟨by rfl,?_⟩) ?_ ?_
 rotate_left
 ·intro w'
  go_simp
  with_reducible rfl
 rotate_left
 ·simp only [Act.put,List.setIfInBounds_toArray,List.set_cons_zero,List.set_cons_succ,bJ,bM]
  rfl
 refine eZ (i:=2) (N:=some 10) (v:=?_) (a':=?_) #[I,O,I,O,O,O] rfl rfl (by kernel_rfl) (fun _ _ _ h=>h) (Or.inl ⟨by rfl,?_⟩) ?_ ?_
 rotate_left
 ·intro w'
  go_simp
  with_reducible rfl
 rotate_left
 ·simp only [Act.put,List.setIfInBounds_toArray,List.set_cons_zero,List.set_cons_succ,bJ,bM]
  rfl
 refine iG (i:=1) (N:=some 9) (v:=?_) (a':=?_) #[I,I,I,O,O,O] rfl rfl (by kernel_rfl) (fun _ _ _ h=>h) (Or.inl ⟨by rfl,?_⟩) hHeld ?_ ?_
 rotate_left
 ·rintro w' ⟨s0,s1,s2,s3⟩
  go_simp
  with_reducible rfl
 rotate_left
 ·simp only [Act.put,List.setIfInBounds_toArray,List.set_cons_zero,List.set_cons_succ,bJ,bM]
  rfl
 refine eZ (i:=4) (N:=some 6) (v:=?_) (a':=?_) #[I,I,I,O,I,O] rfl rfl (by kernel_rfl) (fun _ _ _ h=>h) (Or.inl ⟨by rfl,?_⟩) ?_ ?_
 rotate_left
 ·intro w'
  go_simp
  with_reducible rfl
 rotate_left
 ·simp only [Act.put,List.setIfInBounds_toArray,List.set_cons_zero,List.set_cons_succ,bJ,bM]
  rfl
 refine iG (i:=3) (N:=some 11) (v:=?_) (a':=?_) #[I,I,I,I,I,O] rfl rfl (by kernel_rfl) (fun _ _ _ h=>h) (Or.inl ⟨by rfl,?_⟩) hHeld ?_ ?_
 rotate_left
 ·rintro w' ⟨s0,s1,s2,s3⟩
  go_simp
  with_reducible rfl
 rotate_left
 ·simp only [Act.put,List.setIfInBounds_toArray,List.set_cons_zero,List.set_cons_succ,bJ,bM]
  rfl
 refine eZ (i:=5) (N:=some 7) (v:=?_) (a':=?_) #[I,I,I,I,I,I] rfl rfl (by kernel_rfl) (fun _ _ _ h=>h) (Or.inl ⟨by rfl,?_⟩) ?_ ?_
 rotate_left
 ·intro w'
  go_simp
  with_reducible rfl
 rotate_left
 ·simp only [Act.put,List.setIfInBounds_toArray,List.set_cons_zero,List.set_cons_succ,bJ,bM]
  rfl
 refine gP (by kernel_rfl) ?_
 try go_wp2
 go_loopg [5,6,7] k (fun kq v5 v6 v7 w'=>∃ (BJ : List (S30)) (Bh : List (S51)) (Bg : List (S51)),Aside0 (av.l0 kq BJ Bh Bg = some r) ∧ Aside0 (kq ≤ k) ∧ Aside0 (Kd.R k30 30 w' w.heap.size (fun k_=>(w.heap.size ≤ k_)) v5 BJ) ∧ Aside0 (Kd.V k51 51 w' w.heap.size (fun k_=>((Bw k_ ∨ Bz k_) ∨ w.heap.size ≤ k_) ∧ some k_ ≠ (v5 : Value).ownBlock ∧ k_ ≠ Bq ∧ k_ ≠ Br) v6 Bh) ∧ Aside0 (Kd.V k51 51 w' w.heap.size (fun k_=>((Bw k_ ∨ Bz k_) ∨ w.heap.size ≤ k_) ∧ some k_ ≠ (v5 : Value).ownBlock ∧ k_ ≠ Bq ∧ k_ ≠ Br) v7 Bg) ∧ Aside0 (Kd.V k51 51 w' w.heap.size (fun k_=>((Bw k_ ∨ Bz k_) ∨ w.heap.size ≤ k_) ∧ some k_ ≠ (v5 : Value).ownBlock ∧ k_ ≠ Bq ∧ k_ ≠ Br) (.slice Ch BK.length Ci) BK) ∧ Aside0 (Kd.V k51 51 w' w.heap.size (fun k_=>((Bw k_ ∨ Bz k_) ∨ w.heap.size ≤ k_) ∧ some k_ ≠ (v5 : Value).ownBlock ∧ k_ ≠ Bq ∧ k_ ≠ Br) (.slice CY BL.length CZ) BL) ∧ Aside0 (w'.heap[Bq]? = some (.cells #[.int .u64 C8,(.slice Ch BK.length Ci)] 25 (0,0))) ∧ Aside0 (w'.heap[Br]? = some (.cells #[.int .u64 Dc,(.slice CY BL.length CZ)] 25 (0,0))) ∧ Aside0 (Below w.heap.size w w'))
 case atStart=>exact ⟨(([] : List (S30))),(BK),(BL),H',⟨Nat.le_refl _⟩,⟨by first|exact Kd.kJ _ _ _ _ _|exact Kd.qZ _ _ _ _ _|exact Kd.rA _ _ _ _ _|exact Kd.uY _ _ _ _ _|exact Kd.vo _ _ _ _ _⟩,⟨by (with_reducible repeat (first|apply Kd.bX|apply Kd.bY|apply Kd.bH));exact Kd.eG CW.out (fun _ hk=>⟨hk.1.1,⟨(by simp [Value.ownBlock]),⟨hk.1.2,hk.2⟩⟩⟩)⟩,⟨by (with_reducible repeat (first|apply Kd.bX|apply Kd.bY|apply Kd.bH));exact Kd.eG CX.out (fun _ hk=>⟨hk.1.1,⟨(by simp [Value.ownBlock]),⟨hk.1.2,hk.2⟩⟩⟩)⟩,⟨by (with_reducible repeat (first|apply Kd.bX|apply Kd.bY|apply Kd.bH));exact Kd.eG CW.out (fun _ hk=>⟨hk.1.1,⟨(by simp [Value.ownBlock]),⟨hk.1.2,hk.2⟩⟩⟩)⟩,⟨by (with_reducible repeat (first|apply Kd.bX|apply Kd.bY|apply Kd.bH));exact Kd.eG CX.out (fun _ hk=>⟨hk.1.1,⟨(by simp [Value.ownBlock]),⟨hk.1.2,hk.2⟩⟩⟩)⟩,⟨by (with_reducible repeat (first|apply ay|apply aG|apply aD));exact Bj.out⟩,⟨by (with_reducible repeat (first|apply ay|apply aG|apply aD));exact Bl.out⟩,⟨hb_⟩⟩
 case round =>
  clear H'
  obtain ⟨BJ,Bh,Bg,HA,Gz,Bt,Bo,Bn,AZ,Bf,Bj,Bl,HB⟩:=hrel
  cases gk with
  | zero=>exact absurd HA.out (by simp [av.l0])
  | succ k1 =>
   have H:=HA.out
   clear HA
   simp only [av.l0] at H
   have NJ:=Aside0.mk H
   clear H
   go_upto_region 3 with (fail)
   go_cut [19] (fun v19 wc=>∃ (kq : Nat) (GL : Bool),v19 = .bool GL ∧ Aside0 (av.j1 kq BJ Bh Bg GL = some r) ∧ Aside0 (kq ≤ k1) ∧ Aside0 (Kd.R k30 30 wc w.heap.size (fun k_=>(w.heap.size ≤ k_)) u5 BJ) ∧ Aside0 (Kd.V k51 51 wc w.heap.size (fun k_=>((Bw k_ ∨ Bz k_) ∨ w.heap.size ≤ k_) ∧ some k_ ≠ (u5 : Value).ownBlock ∧ k_ ≠ Bq ∧ k_ ≠ Br) u6 Bh) ∧ Aside0 (Kd.V k51 51 wc w.heap.size (fun k_=>((Bw k_ ∨ Bz k_) ∨ w.heap.size ≤ k_) ∧ some k_ ≠ (u5 : Value).ownBlock ∧ k_ ≠ Bq ∧ k_ ≠ Br) u7 Bg) ∧ Aside0 (Kd.V k51 51 wc w.heap.size (fun k_=>((Bw k_ ∨ Bz k_) ∨ w.heap.size ≤ k_) ∧ some k_ ≠ (u5 : Value).ownBlock ∧ k_ ≠ Bq ∧ k_ ≠ Br) (.slice Ch BK.length Ci) BK) ∧ Aside0 (Kd.V k51 51 wc w.heap.size (fun k_=>((Bw k_ ∨ Bz k_) ∨ w.heap.size ≤ k_) ∧ some k_ ≠ (u5 : Value).ownBlock ∧ k_ ≠ Bq ∧ k_ ≠ Br) (.slice CY BL.length CZ) BL) ∧ Aside0 (wc.heap[Bq]? = some (.cells #[.int .u64 C8,(.slice Ch BK.length Ci)] 25 (0,0))) ∧ Aside0 (wc.heap[Br]? = some (.cells #[.int .u64 Dc,(.slice CY BL.length CZ)] 25 (0,0))) ∧ Aside0 (Below w.heap.size w wc))
   case first =>
    have H:=NJ.out
    clear NJ
    by_cases c7 : (Bh.length : Int) > 0
    ·rw [if_pos c7] at H
     have c7b0 : decide (0 < (Bh.length : Int)) = true:=decide_eq_true c7
     have c7b1 : decide (0 < Bh.length) = true:=decide_eq_true (by omega)
     clear c7
     (first|rw [c7b0]|(simp only [bJ,bM];rw [c7b0])|skip)
     have H':=Aside0.mk H
     clear H
     obtain ⟨Qq,Qr,Pj⟩:=Kd.gG Bo.out
     subst Pj
     go_wp2
     go_meet
     case rel=>exact ⟨_,(true),(by first|rfl|(simp;done)|(simp [*];done)),H',⟨by have:=Gz.out;first|omega|exact Nat.le_refl _⟩,⟨by (with_reducible repeat (first|apply Kd.fG|apply Kd.fH|apply Kd.eD));exact Bt.out⟩,⟨by (with_reducible repeat (first|apply Kd.bX|apply Kd.bY|apply Kd.bH));exact Bo.out⟩,⟨by (with_reducible repeat (first|apply Kd.bX|apply Kd.bY|apply Kd.bH));exact Bn.out⟩,⟨by (with_reducible repeat (first|apply Kd.bX|apply Kd.bY|apply Kd.bH));exact AZ.out⟩,⟨by (with_reducible repeat (first|apply Kd.bX|apply Kd.bY|apply Kd.bH));exact Bf.out⟩,⟨by (with_reducible repeat (first|apply ay|apply aG|apply aD));exact Bj.out⟩,⟨by (with_reducible repeat (first|apply ay|apply aG|apply aD));exact Bl.out⟩,⟨hb_⟩⟩
    ·rw [if_neg c7] at H
     have c7b0 : decide (0 < (Bh.length : Int)) = false:=decide_eq_false c7
     have c7b1 : decide (0 < Bh.length) = false:=decide_eq_false (by omega)
     clear c7
     (first|rw [c7b0]|(simp only [bJ,bM];rw [c7b0])|skip)
     have H':=Aside0.mk H
     clear H
     obtain ⟨Qs,Qt,Pk⟩:=Kd.gG Bo.out
     subst Pk
     obtain ⟨Pm,Pn,NK⟩:=Kd.gG Bn.out
     subst NK
     go_wp2
     go_meet
     case rel=>exact ⟨_,(decide ((Bg.length : Int) > 0)),(by first|rfl|(simp;done)|(simp [*];done)),H',⟨by have:=Gz.out;first|omega|exact Nat.le_refl _⟩,⟨by (with_reducible repeat (first|apply Kd.fG|apply Kd.fH|apply Kd.eD));exact Bt.out⟩,⟨by (with_reducible repeat (first|apply Kd.bX|apply Kd.bY|apply Kd.bH));exact Bo.out⟩,⟨by (with_reducible repeat (first|apply Kd.bX|apply Kd.bY|apply Kd.bH));exact Bn.out⟩,⟨by (with_reducible repeat (first|apply Kd.bX|apply Kd.bY|apply Kd.bH));exact AZ.out⟩,⟨by (with_reducible repeat (first|apply Kd.bX|apply Kd.bY|apply Kd.bH));exact Bf.out⟩,⟨by (with_reducible repeat (first|apply ay|apply aG|apply aD));exact Bj.out⟩,⟨by (with_reducible repeat (first|apply ay|apply aG|apply aD));exact Bl.out⟩,⟨hb_⟩⟩
   case rest =>
    clear NJ
    obtain ⟨kq,GL,rfl,HA,Hw,Bt,Bo,Bn,AZ,Bf,Bj,Bl,HB⟩:=hcut
    cases kq with
    | zero=>exact absurd HA.out (by simp [av.j1])
    | succ MQ =>
     have H:=HA.out
     clear HA
     simp only [av.j1] at H
     by_cases c11 : GL = true
     ·subst c11
      have H1 : (if (Bg.length : Int) = 0 then (av.j2 MQ BJ Bh Bg true) else (if (Bh.length : Int) > 0 then (if 0 < (Bh.length : Int) then (if 0 < (Bg.length : Int) then (av.j2 MQ BJ Bh Bg (Op.bytesLess (((aC Bh 0).f0).toList) (((aC Bg 0).f0).toList))) else (none)) else (none)) else (av.j2 MQ BJ Bh Bg false))) = some r:=by rw [if_pos rfl] at H;exact H
      clear H
      have H:=H1
      clear H1
      have Ku:=Aside0.mk H
      clear H
      go_upto_region 4 with (fail)
      go_cut [20] (fun v20 wc=>∃ (kq : Nat) (Em : Bool),v20 = .bool Em ∧ Aside0 (av.j2 kq BJ Bh Bg Em = some r) ∧ Aside0 (kq ≤ MQ) ∧ Aside0 (Kd.R k30 30 wc w.heap.size (fun k_=>(w.heap.size ≤ k_)) u5 BJ) ∧ Aside0 (Kd.V k51 51 wc w.heap.size (fun k_=>((Bw k_ ∨ Bz k_) ∨ w.heap.size ≤ k_) ∧ some k_ ≠ (u5 : Value).ownBlock ∧ k_ ≠ Bq ∧ k_ ≠ Br) u6 Bh) ∧ Aside0 (Kd.V k51 51 wc w.heap.size (fun k_=>((Bw k_ ∨ Bz k_) ∨ w.heap.size ≤ k_) ∧ some k_ ≠ (u5 : Value).ownBlock ∧ k_ ≠ Bq ∧ k_ ≠ Br) u7 Bg) ∧ Aside0 (Kd.V k51 51 wc w.heap.size (fun k_=>((Bw k_ ∨ Bz k_) ∨ w.heap.size ≤ k_) ∧ some k_ ≠ (u5 : Value).ownBlock ∧ k_ ≠ Bq ∧ k_ ≠ Br) (.slice Ch BK.length Ci) BK) ∧ Aside0 (Kd.V k51 51 wc w.heap.size (fun k_=>((Bw k_ ∨ Bz k_) ∨ w.heap.size ≤ k_) ∧ some k_ ≠ (u5 : Value).ownBlock ∧ k_ ≠ Bq ∧ k_ ≠ Br) (.slice CY BL.length CZ) BL) ∧ Aside0 (wc.heap[Bq]? = some (.cells #[.int .u64 C8,(.slice Ch BK.length Ci)] 25 (0,0))) ∧ Aside0 (wc.heap[Br]? = some (.cells #[.int .u64 Dc,(.slice CY BL.length CZ)] 25 (0,0))) ∧ Aside0 (Below w.heap.size w wc))
      case first =>
       have H:=Ku.out
       clear Ku
       by_cases c13 : (Bg.length : Int) = 0
       ·rw [if_pos c13] at H
        have c13b0 : ((Bg.length : Int) == 0) = true:=beq_iff_eq.mpr c13
        have c13b1 : ((Bg.length : Int) != 0) = false:=bne_eq_false_iff_eq.mpr c13
        clear c13
        (first|rw [c13b0]|(simp only [bJ,bM];rw [c13b0])|skip)
        have H':=Aside0.mk H
        clear H
        try go_wp2
        have BN:=Aside0.mk (Kd.eD Bt.out)
        have BO:=Aside0.mk (Kd.bH Bo.out)
        have BP:=Aside0.mk (Kd.bH Bn.out)
        have BQ:=Aside0.mk (Kd.bH AZ.out)
        have BR:=Aside0.mk (Kd.bH Bf.out)
        have BS:=Aside0.mk (aG Bj.out)
        have BU:=Aside0.mk (aG Bl.out)
        have BX:=Aside0.mk (bB HB.out)
        clear Bt
        clear Bo
        clear Bn
        clear AZ
        clear Bf
        clear Bj
        clear Bl
        clear HB
        have Bt:=BN
        have Bo:=BO
        have Bn:=BP
        have AZ:=BQ
        have Bf:=BR
        have Bj:=BS
        have Bl:=BU
        have HB:=BX
        clear BN BO BP BQ BR BS BU BX
        obtain ⟨Po,Pp,LG⟩:=Kd.gG Bn.out
        (first|subst LG|(injection LG with Cj Dr Ck;have Dt:=Cj.symm;have Du:=Ck.symm;clear Cj Dr Ck;subst Dt;subst Du))
        refine fU (n:=20) (S:=fun w'=>True) (ds:=[]) #[O,O,O,O,O,O,O,O,O,O,O,O,O,O,O,O,O,O,O,O] (by kernel_rfl) rfl rfl trivial (fun hHeld=>?_);refine dY av.wh av.rD (fun HT_ HW_=>?_)
        generalize wc.drew = Qu at Bt Bo Bn AZ Bf Bj Bl HB hHeld ⊢
        refine pu_ 0 21 #[I,O,O,O,O,O,O,O,O,O,O,O,O,O,O,O,O,O,O,O] HT_.out ?_
        refine pu_ 1 22 #[I,I,O,O,O,O,O,O,O,O,O,O,O,O,O,O,O,O,O,O] HT_.out ?_
        refine pu_ 2 23 #[I,I,I,O,O,O,O,O,O,O,O,O,O,O,O,O,O,O,O,O] HT_.out ?_
        refine pu_ 3 24 #[I,I,I,I,O,O,O,O,O,O,O,O,O,O,O,O,O,O,O,O] HT_.out ?_
        refine pz_ 4 25 #[I,I,I,I,I,O,O,O,O,O,O,O,O,O,O,O,O,O,O,O] HT_.out ?_
        refine pz_ 5 26 #[I,I,I,I,I,I,O,O,O,O,O,O,O,O,O,O,O,O,O,O] HT_.out ?_
        refine pz_ 6 27 #[I,I,I,I,I,I,I,O,O,O,O,O,O,O,O,O,O,O,O,O] HT_.out ?_
        refine pz_ 7 28 #[I,I,I,I,I,I,I,I,O,O,O,O,O,O,O,O,O,O,O,O] HT_.out ?_
        refine pz_ 8 29 #[I,I,I,I,I,I,I,I,I,O,O,O,O,O,O,O,O,O,O,O] HT_.out ?_
        refine pz_ 9 30 #[I,I,I,I,I,I,I,I,I,I,O,O,O,O,O,O,O,O,O,O] HT_.out ?_
        refine pz_ 10 31 #[I,I,I,I,I,I,I,I,I,I,I,O,O,O,O,O,O,O,O,O] HT_.out ?_
        refine pz_ 11 32 #[I,I,I,I,I,I,I,I,I,I,I,I,O,O,O,O,O,O,O,O] HT_.out ?_
        refine pz_ 12 33 #[I,I,I,I,I,I,I,I,I,I,I,I,I,O,O,O,O,O,O,O] HT_.out ?_
        refine pz_ 13 34 #[I,I,I,I,I,I,I,I,I,I,I,I,I,I,O,O,O,O,O,O] HT_.out ?_
        refine pz_ 14 35 #[I,I,I,I,I,I,I,I,I,I,I,I,I,I,I,O,O,O,O,O] HT_.out ?_
        refine pz_ 15 36 #[I,I,I,I,I,I,I,I,I,I,I,I,I,I,I,I,O,O,O,O] HT_.out ?_
        refine pz_ 16 37 #[I,I,I,I,I,I,I,I,I,I,I,I,I,I,I,I,I,O,O,O] HT_.out ?_
        refine pz_ 17 38 #[I,I,I,I,I,I,I,I,I,I,I,I,I,I,I,I,I,I,O,O] HT_.out ?_
        refine pu_ 18 39 #[I,I,I,I,I,I,I,I,I,I,I,I,I,I,I,I,I,I,I,O] HT_.out ?_
        refine pu_ 19 20 #[I,I,I,I,I,I,I,I,I,I,I,I,I,I,I,I,I,I,I,I] HT_.out ?_
        refine gP (fF HT_.out (by kernel_rfl)) ?_
        try go_wp2
        go_meet
        case rel=>exact ⟨_,(true),(by first|rfl|(simp;done)|(simp [*];done)),H',⟨by have:=Gz.out;have:=Hw.out;first|omega|exact Nat.le_refl _⟩,⟨by (with_reducible repeat (first|apply Kd.fG|apply Kd.fH|apply Kd.eD));exact Bt.out⟩,⟨by (with_reducible repeat (first|apply Kd.bX|apply Kd.bY|apply Kd.bH));exact Bo.out⟩,⟨by (with_reducible repeat (first|apply Kd.bX|apply Kd.bY|apply Kd.bH));exact Bn.out⟩,⟨by (with_reducible repeat (first|apply Kd.bX|apply Kd.bY|apply Kd.bH));exact AZ.out⟩,⟨by (with_reducible repeat (first|apply Kd.bX|apply Kd.bY|apply Kd.bH));exact Bf.out⟩,⟨by (with_reducible repeat (first|apply ay|apply aG|apply aD));exact Bj.out⟩,⟨by (with_reducible repeat (first|apply ay|apply aG|apply aD));exact Bl.out⟩,⟨hb_⟩⟩
       ·rw [if_neg c13] at H
        have c13b0 : ((Bg.length : Int) == 0) = false:=beq_eq_false_iff_ne.mpr c13
        have c13b1 : ((Bg.length : Int) != 0) = true:=bne_iff_ne.mpr c13
        have c13b2 : ¬ (Bg = []):=fun h_=>c13 (by rw [h_];rfl)
        (first|rw [c13b0]|(simp only [bJ,bM];rw [c13b0])|skip)
        by_cases c16 : (Bh.length : Int) > 0
        ·rw [if_pos c16] at H
         have c16b0 : decide (0 < (Bh.length : Int)) = true:=decide_eq_true c16
         have c16b1 : decide (0 < Bh.length) = true:=decide_eq_true (by omega)
         clear c16
         by_cases c17 : 0 < (Bh.length : Int)
         ·rw [if_pos c17] at H
          have c17b0 : decide (0 < (Bh.length : Int)) = true:=decide_eq_true c17
          have c17b1 : decide (0 < Bh.length) = true:=decide_eq_true (by omega)
          clear c17
          by_cases c18 : 0 < (Bg.length : Int)
          ·rw [if_pos c18] at H
           have c18b0 : decide (0 < (Bg.length : Int)) = true:=decide_eq_true c18
           have c18b1 : decide (0 < Bg.length) = true:=decide_eq_true (by omega)
           clear c18
           have H':=Aside0.mk H
           clear H
           try go_wp2
           have BN:=Aside0.mk (Kd.eD Bt.out)
           have BO:=Aside0.mk (Kd.bH Bo.out)
           have BP:=Aside0.mk (Kd.bH Bn.out)
           have BQ:=Aside0.mk (Kd.bH AZ.out)
           have BR:=Aside0.mk (Kd.bH Bf.out)
           have BS:=Aside0.mk (aG Bj.out)
           have BU:=Aside0.mk (aG Bl.out)
           have BX:=Aside0.mk (bB HB.out)
           clear Bt
           clear Bo
           clear Bn
           clear AZ
           clear Bf
           clear Bj
           clear Bl
           clear HB
           have Bt:=BN
           have Bo:=BO
           have Bn:=BP
           have AZ:=BQ
           have Bf:=BR
           have Bj:=BS
           have Bl:=BU
           have HB:=BX
           clear BN BO BP BQ BR BS BU BX
           obtain ⟨Pq,Pt,LJ⟩:=Kd.gG Bn.out
           (first|subst LJ|(injection LJ with Cj Dr Ck;have Dt:=Cj.symm;have Du:=Ck.symm;clear Cj Dr Ck;subst Dt;subst Du))
           obtain ⟨Pv,Pw,LK⟩:=Kd.gG Bo.out
           (first|subst LK|(injection LK with Cj Dr Ck;have Dt:=Cj.symm;have Du:=Ck.symm;clear Cj Dr Ck;subst Dt;subst Du))
           have I7 : 0 ≤ (0 : Int):=(by omega)
           have I8 : 0 < (Bh.length : Int):=of_decide_eq_true (by first|(with_reducible assumption)|assumption)
           obtain ⟨Cm,Kv,Kw,e127,En,Eo,Ep,Er,Es,Et,Dw,GN,GQ⟩:=iA (Kd.dJ Bo.out).2.2 0 I7 I8
           cases e127
           obtain ⟨Oj,Ky,Kz,H6⟩:=Kd.jK Bo.out z51 0 I7 (by first|exact I8|exact of_decide_eq_true (by first|(with_reducible assumption)|assumption)|(have e_:=(Kd.dJ Bo.out).1;omega))
           obtain ⟨MR,MS,rfl,Eu,Ew⟩:=gN Kz
           have Dx:=H6 6 _ rfl
           rw [bT _ _ 6 (by omega)] at Dx
           replace Dx:=Option.some.inj (Dx.symm.trans Dw)
           injection Dx with hva_ hvn_ hvc_
           rw [hva_] at Ew
           rw [hvc_] at Eu
           have I9:=Aside0.mk (show Kd.V k69 69 _ w.heap.size _ _ ((aC Bh 0).f1.f5) from Kd.iV Eu Ew)
           clear hva_ hvn_ hvc_ Ew Eu
           clear H6 Ky
           have Ol : (0 < Bh.length) = True:=eq_true (by omega)
           (try simp only [show ((0 : Int)).toNat = 0 from rfl,show 0 * 7 = 0 from rfl,Addr.add_zero'] at En Eo Ep Er Es Et Dw)
           have Ja:=Aside0.mk GQ
           have MU:=Aside0.mk GN
           clear GQ GN
           replace I7:=eq_true I7
           replace I8:=eq_true I8
           have Jb : 0 ≤ (0 : Int):=(by omega)
           have Jc : 0 < (Bg.length : Int):=of_decide_eq_true (by first|(with_reducible assumption)|assumption)
           obtain ⟨Cn,KA,KC,e128,Ey,Ez,EA,EB,EC,ED,Dy,GR,GU⟩:=iA (Kd.dJ Bn.out).2.2 0 Jb Jc
           cases e128
           obtain ⟨Om,KD,KE,H7⟩:=Kd.jK Bn.out z51 0 Jb (by first|exact Jc|exact of_decide_eq_true (by first|(with_reducible assumption)|assumption)|(have e_:=(Kd.dJ Bn.out).1;omega))
           obtain ⟨MV,MW,rfl,EF,EG⟩:=gN KE
           have Dz:=H7 6 _ rfl
           rw [bT _ _ 6 (by omega)] at Dz
           replace Dz:=Option.some.inj (Dz.symm.trans Dy)
           injection Dz with hva_ hvn_ hvc_
           rw [hva_] at EG
           rw [hvc_] at EF
           have Jd:=Aside0.mk (show Kd.V k69 69 _ w.heap.size _ _ ((aC Bg 0).f1.f5) from Kd.iV EF EG)
           clear hva_ hvn_ hvc_ EG EF
           clear H7 KD
           have Oo : (0 < Bg.length) = True:=eq_true (by omega)
           (try simp only [show ((0 : Int)).toNat = 0 from rfl,show 0 * 7 = 0 from rfl,Addr.add_zero'] at Ey Ez EA EB EC ED Dy)
           have Je:=Aside0.mk GU
           have MX:=Aside0.mk GR
           clear GU GR
           replace Jb:=eq_true Jb
           replace Jc:=eq_true Jc
           refine fU (n:=20) (S:=fun w'=>w'.cell? Cm = some (.string ((aC Bh 0).f0)) ∧ w'.cell? ⟨Cm.block,Cm.off + 1,none⟩ = some (.string ((aC Bh 0).f1.f0)) ∧ w'.cell? ⟨Cm.block,Cm.off + 2,none⟩ = some (.string ((aC Bh 0).f1.f1)) ∧ w'.cell? ⟨Cm.block,Cm.off + 3,none⟩ = some (.int .i64 ((aC Bh 0).f1.f2)) ∧ w'.cell? ⟨Cm.block,Cm.off + 4,none⟩ = some (.int .i64 ((aC Bh 0).f1.f3)) ∧ w'.cell? ⟨Cm.block,Cm.off + 5,none⟩ = some (.bool ((aC Bh 0).f1.f4)) ∧ w'.cell? ⟨Cm.block,Cm.off + 6,none⟩ = some (.slice Kv ((aC Bh 0).f1.f5).length Kw) ∧ w'.cell? Cn = some (.string ((aC Bg 0).f0)) ∧ w'.cell? ⟨Cn.block,Cn.off + 1,none⟩ = some (.string ((aC Bg 0).f1.f0)) ∧ w'.cell? ⟨Cn.block,Cn.off + 2,none⟩ = some (.string ((aC Bg 0).f1.f1)) ∧ w'.cell? ⟨Cn.block,Cn.off + 3,none⟩ = some (.int .i64 ((aC Bg 0).f1.f2)) ∧ w'.cell? ⟨Cn.block,Cn.off + 4,none⟩ = some (.int .i64 ((aC Bg 0).f1.f3)) ∧ w'.cell? ⟨Cn.block,Cn.off + 5,none⟩ = some (.bool ((aC Bg 0).f1.f4)) ∧ w'.cell? ⟨Cn.block,Cn.off + 6,none⟩ = some (.slice KA ((aC Bg 0).f1.f5).length KC)) (ds:=[]) #[O,O,O,O,O,O,O,O,O,O,O,O,O,O,O,O,O,O,O,O] (by kernel_rfl) rfl rfl ⟨En,Eo,Ep,Er,Es,Et,Dw,Ey,Ez,EA,EB,EC,ED,Dy⟩ (fun hHeld=>?_);refine dY av.wh av.rD (fun HT_ HW_=>?_)
           generalize wc.drew = Qv at Bt Bo Bn AZ Bf Bj Bl HB I9 Jd Ja Je En Eo Ep Er Es Et Dw Ey Ez EA EB EC ED Dy hHeld ⊢
           refine pu_ 0 21 #[I,O,O,O,O,O,O,O,O,O,O,O,O,O,O,O,O,O,O,O] HT_.out ?_
           refine pu_ 1 22 #[I,I,O,O,O,O,O,O,O,O,O,O,O,O,O,O,O,O,O,O] HT_.out ?_
           refine pu_ 2 23 #[I,I,I,O,O,O,O,O,O,O,O,O,O,O,O,O,O,O,O,O] HT_.out ?_
           refine pu_ 3 24 #[I,I,I,I,O,O,O,O,O,O,O,O,O,O,O,O,O,O,O,O] HT_.out ?_
           refine pu_ 4 25 #[I,I,I,I,I,O,O,O,O,O,O,O,O,O,O,O,O,O,O,O] HT_.out ?_
           refine pu_ 5 26 #[I,I,I,I,I,I,O,O,O,O,O,O,O,O,O,O,O,O,O,O] HT_.out ?_
           refine pu_ 6 27 #[I,I,I,I,I,I,I,O,O,O,O,O,O,O,O,O,O,O,O,O] HT_.out ?_
           refine pu_ 7 28 #[I,I,I,I,I,I,I,I,O,O,O,O,O,O,O,O,O,O,O,O] HT_.out ?_
           refine pu_ 8 29 #[I,I,I,I,I,I,I,I,I,O,O,O,O,O,O,O,O,O,O,O] HT_.out ?_
           refine pu_ 9 30 #[I,I,I,I,I,I,I,I,I,I,O,O,O,O,O,O,O,O,O,O] HT_.out ?_
           refine pu_ 10 31 #[I,I,I,I,I,I,I,I,I,I,I,O,O,O,O,O,O,O,O,O] HT_.out ?_
           refine pu_ 12 33 #[I,I,I,I,I,I,I,I,I,I,I,O,I,O,O,O,O,O,O,O] HT_.out ?_
           refine pu_ 13 34 #[I,I,I,I,I,I,I,I,I,I,I,O,I,I,O,O,O,O,O,O] HT_.out ?_
           refine pu_ 14 35 #[I,I,I,I,I,I,I,I,I,I,I,O,I,I,I,O,O,O,O,O] HT_.out ?_
           refine ta_ 11 32 #[I,I,I,I,I,I,I,I,I,I,I,I,I,I,I,O,O,O,O,O] HT_.out HW_.out hHeld ?_
           refine ta_ 15 36 #[I,I,I,I,I,I,I,I,I,I,I,I,I,I,I,I,O,O,O,O] HT_.out HW_.out hHeld ?_
           refine pu_ 16 37 #[I,I,I,I,I,I,I,I,I,I,I,I,I,I,I,I,I,O,O,O] HT_.out ?_
           refine pu_ 17 38 #[I,I,I,I,I,I,I,I,I,I,I,I,I,I,I,I,I,I,O,O] HT_.out ?_
           refine pu_ 18 39 #[I,I,I,I,I,I,I,I,I,I,I,I,I,I,I,I,I,I,I,O] HT_.out ?_
           refine pu_ 19 20 #[I,I,I,I,I,I,I,I,I,I,I,I,I,I,I,I,I,I,I,I] HT_.out ?_
           refine gP (fF HT_.out (by kernel_rfl)) ?_
           try go_wp2
           go_meet
           case rel=>exact ⟨_,((Op.bytesLess (((aC Bh 0).f0).toList) (((aC Bg 0).f0).toList))),(by first|rfl|(simp;done)|(simp [*];done)),H',⟨by have:=Gz.out;have:=Hw.out;first|omega|exact Nat.le_refl _⟩,⟨by (with_reducible repeat (first|apply Kd.fG|apply Kd.fH|apply Kd.eD));exact Bt.out⟩,⟨by (with_reducible repeat (first|apply Kd.bX|apply Kd.bY|apply Kd.bH));exact Bo.out⟩,⟨by (with_reducible repeat (first|apply Kd.bX|apply Kd.bY|apply Kd.bH));exact Bn.out⟩,⟨by (with_reducible repeat (first|apply Kd.bX|apply Kd.bY|apply Kd.bH));exact AZ.out⟩,⟨by (with_reducible repeat (first|apply Kd.bX|apply Kd.bY|apply Kd.bH));exact Bf.out⟩,⟨by (with_reducible repeat (first|apply ay|apply aG|apply aD));exact Bj.out⟩,⟨by (with_reducible repeat (first|apply ay|apply aG|apply aD));exact Bl.out⟩,⟨hb_⟩⟩
          ·rw [if_neg c18] at H
           exact absurd H (by simp)
         ·rw [if_neg c17] at H
          exact absurd H (by simp)
        ·rw [if_neg c16] at H
         have c16b0 : decide (0 < (Bh.length : Int)) = false:=decide_eq_false c16
         have c16b1 : decide (0 < Bh.length) = false:=decide_eq_false (by omega)
         clear c16
         have H':=Aside0.mk H
         clear H
         try go_wp2
         have BN:=Aside0.mk (Kd.eD Bt.out)
         have BO:=Aside0.mk (Kd.bH Bo.out)
         have BP:=Aside0.mk (Kd.bH Bn.out)
         have BQ:=Aside0.mk (Kd.bH AZ.out)
         have BR:=Aside0.mk (Kd.bH Bf.out)
         have BS:=Aside0.mk (aG Bj.out)
         have BU:=Aside0.mk (aG Bl.out)
         have BX:=Aside0.mk (bB HB.out)
         clear Bt
         clear Bo
         clear Bn
         clear AZ
         clear Bf
         clear Bj
         clear Bl
         clear HB
         have Bt:=BN
         have Bo:=BO
         have Bn:=BP
         have AZ:=BQ
         have Bf:=BR
         have Bj:=BS
         have Bl:=BU
         have HB:=BX
         clear BN BO BP BQ BR BS BU BX
         obtain ⟨Px,Py,LP⟩:=Kd.gG Bn.out
         (first|subst LP|(injection LP with Cj Dr Ck;have Dt:=Cj.symm;have Du:=Ck.symm;clear Cj Dr Ck;subst Dt;subst Du))
         obtain ⟨Pz,PD,LQ⟩:=Kd.gG Bo.out
         (first|subst LQ|(injection LQ with Cj Dr Ck;have Dt:=Cj.symm;have Du:=Ck.symm;clear Cj Dr Ck;subst Dt;subst Du))
         refine fU (n:=20) (S:=fun w'=>True) (ds:=[]) #[O,O,O,O,O,O,O,O,O,O,O,O,O,O,O,O,O,O,O,O] (by kernel_rfl) rfl rfl trivial (fun hHeld=>?_);refine dY av.wh av.rD (fun HT_ HW_=>?_)
         generalize wc.drew = Qw at Bt Bo Bn AZ Bf Bj Bl HB hHeld ⊢
         refine pu_ 0 21 #[I,O,O,O,O,O,O,O,O,O,O,O,O,O,O,O,O,O,O,O] HT_.out ?_
         refine pu_ 1 22 #[I,I,O,O,O,O,O,O,O,O,O,O,O,O,O,O,O,O,O,O] HT_.out ?_
         refine pu_ 2 23 #[I,I,I,O,O,O,O,O,O,O,O,O,O,O,O,O,O,O,O,O] HT_.out ?_
         refine pu_ 3 24 #[I,I,I,I,O,O,O,O,O,O,O,O,O,O,O,O,O,O,O,O] HT_.out ?_
         refine pu_ 4 25 #[I,I,I,I,I,O,O,O,O,O,O,O,O,O,O,O,O,O,O,O] HT_.out ?_
         refine pu_ 5 26 #[I,I,I,I,I,I,O,O,O,O,O,O,O,O,O,O,O,O,O,O] HT_.out ?_
         refine pu_ 6 27 #[I,I,I,I,I,I,I,O,O,O,O,O,O,O,O,O,O,O,O,O] HT_.out ?_
         refine pu_ 7 28 #[I,I,I,I,I,I,I,I,O,O,O,O,O,O,O,O,O,O,O,O] HT_.out ?_
         refine pz_ 8 29 #[I,I,I,I,I,I,I,I,I,O,O,O,O,O,O,O,O,O,O,O] HT_.out ?_
         refine pz_ 9 30 #[I,I,I,I,I,I,I,I,I,I,O,O,O,O,O,O,O,O,O,O] HT_.out ?_
         refine pz_ 10 31 #[I,I,I,I,I,I,I,I,I,I,I,O,O,O,O,O,O,O,O,O] HT_.out ?_
         refine pz_ 11 32 #[I,I,I,I,I,I,I,I,I,I,I,I,O,O,O,O,O,O,O,O] HT_.out ?_
         refine pz_ 12 33 #[I,I,I,I,I,I,I,I,I,I,I,I,I,O,O,O,O,O,O,O] HT_.out ?_
         refine pz_ 13 34 #[I,I,I,I,I,I,I,I,I,I,I,I,I,I,O,O,O,O,O,O] HT_.out ?_
         refine pz_ 14 35 #[I,I,I,I,I,I,I,I,I,I,I,I,I,I,I,O,O,O,O,O] HT_.out ?_
         refine pz_ 15 36 #[I,I,I,I,I,I,I,I,I,I,I,I,I,I,I,I,O,O,O,O] HT_.out ?_
         refine pz_ 16 37 #[I,I,I,I,I,I,I,I,I,I,I,I,I,I,I,I,I,O,O,O] HT_.out ?_
         refine pu_ 17 38 #[I,I,I,I,I,I,I,I,I,I,I,I,I,I,I,I,I,I,O,O] HT_.out ?_
         refine pu_ 18 39 #[I,I,I,I,I,I,I,I,I,I,I,I,I,I,I,I,I,I,I,O] HT_.out ?_
         refine pu_ 19 20 #[I,I,I,I,I,I,I,I,I,I,I,I,I,I,I,I,I,I,I,I] HT_.out ?_
         refine gP (fF HT_.out (by kernel_rfl)) ?_
         try go_wp2
         go_meet
         case rel=>exact ⟨_,(false),(by first|rfl|(simp;done)|(simp [*];done)),H',⟨by have:=Gz.out;have:=Hw.out;first|omega|exact Nat.le_refl _⟩,⟨by (with_reducible repeat (first|apply Kd.fG|apply Kd.fH|apply Kd.eD));exact Bt.out⟩,⟨by (with_reducible repeat (first|apply Kd.bX|apply Kd.bY|apply Kd.bH));exact Bo.out⟩,⟨by (with_reducible repeat (first|apply Kd.bX|apply Kd.bY|apply Kd.bH));exact Bn.out⟩,⟨by (with_reducible repeat (first|apply Kd.bX|apply Kd.bY|apply Kd.bH));exact AZ.out⟩,⟨by (with_reducible repeat (first|apply Kd.bX|apply Kd.bY|apply Kd.bH));exact Bf.out⟩,⟨by (with_reducible repeat (first|apply ay|apply aG|apply aD));exact Bj.out⟩,⟨by (with_reducible repeat (first|apply ay|apply aG|apply aD));exact Bl.out⟩,⟨hb_⟩⟩
      case rest =>
       clear Ku
       obtain ⟨kq,Em,rfl,HA,Ei,Bt,Bo,Bn,AZ,Bf,Bj,Bl,HB⟩:=hcut
       cases kq with
       | zero=>exact absurd HA.out (by simp [av.j2])
       | succ GA =>
        have H:=HA.out
        clear HA
        simp only [av.j2] at H
        by_cases MZ : Em = true
        ·subst MZ
         have H1 : (if 0 < (Bh.length : Int) then (if BJ.length < 3518437208883 then (if 1 ≤ (Bh.length : Int) then (av.l0 GA (BJ ++ [(⟨2,(aC Bh 0).f0,(aC Bh 0).f1.f0⟩ : S30)]) (Bh.drop 1) Bg) else (none)) else (none)) else (none)) = some r:=by rw [if_pos rfl] at H;exact H
         clear H
         have H:=H1
         clear H1
         by_cases M0 : 0 < (Bh.length : Int)
         ·rw [if_pos M0] at H
          have c26b0 : decide (0 < (Bh.length : Int)) = true:=decide_eq_true M0
          have c26b1 : decide (0 < Bh.length) = true:=decide_eq_true (by omega)
          clear M0
          by_cases M4 : BJ.length < 3518437208883
          ·rw [if_pos M4] at H
           have LU:=Aside0.mk M4
           clear M4
           obtain ⟨KF,Gq⟩ : ∃ y_ : List (S30),y_ = (BJ ++ [(⟨2,(aC Bh 0).f0,(aC Bh 0).f1.f0⟩ : S30)]):=⟨_,rfl⟩
           replace H : (if 1 ≤ (Bh.length : Int) then (av.l0 GA KF (Bh.drop 1) Bg) else (none)) = some r:=by first|(rw [Gq];with_reducible exact H)|(have C9:=(Option.bind_some _ _).symm.trans H;rw [Gq];with_reducible exact C9)|(have C9:=(Option.bind_some _ _).symm.trans H;with_reducible exact C9)|with_reducible exact H|(rw [Gq];exact H)|exact H
           have LV:=Aside0.mk Gq
           clear Gq
           by_cases c28 : 1 ≤ (Bh.length : Int)
           ·rw [if_pos c28] at H
            have c28b0:=eq_true c28
            have c28b1 : decide (1 ≤ (Bh.length : Int)) = true:=decide_eq_true c28
            clear c28
            obtain ⟨EH,Gr⟩ : ∃ y_ : List (S51),y_ = (Bh.drop 1):=⟨_,rfl⟩
            replace H : (av.l0 GA KF EH Bg) = some r:=by first|(rw [Gr];with_reducible exact H)|(have C9:=(Option.bind_some _ _).symm.trans H;rw [Gr];with_reducible exact C9)|(have C9:=(Option.bind_some _ _).symm.trans H;with_reducible exact C9)|with_reducible exact H|(rw [Gr];exact H)|exact H
            have J2:=Aside0.mk Gr
            clear Gr
            have H':=Aside0.mk H
            clear H
            try go_wp2
            have BN:=Aside0.mk (Kd.eD Bt.out)
            have BO:=Aside0.mk (Kd.bH Bo.out)
            have BP:=Aside0.mk (Kd.bH Bn.out)
            have BQ:=Aside0.mk (Kd.bH AZ.out)
            have BR:=Aside0.mk (Kd.bH Bf.out)
            have BS:=Aside0.mk (aG Bj.out)
            have BU:=Aside0.mk (aG Bl.out)
            have BX:=Aside0.mk (bB HB.out)
            clear Bt
            clear Bo
            clear Bn
            clear AZ
            clear Bf
            clear Bj
            clear Bl
            clear HB
            have Bt:=BN
            have Bo:=BO
            have Bn:=BP
            have AZ:=BQ
            have Bf:=BR
            have Bj:=BS
            have Bl:=BU
            have HB:=BX
            clear BN BO BP BQ BR BS BU BX
            obtain ⟨PE,H8,LW⟩:=Kd.gG Bo.out
            (first|subst LW|(injection LW with Cj Dr Ck;have Dt:=Cj.symm;have Du:=Ck.symm;clear Cj Dr Ck;subst Dt;subst Du))
            have Jf : 0 ≤ (0 : Int):=(by omega)
            have Jg : 0 < (Bh.length : Int):=of_decide_eq_true (by first|(with_reducible assumption)|assumption)
            obtain ⟨BH,H9,Ia,e129,EI,EJ,EK,EL,EM,EN,Df,GV,GX⟩:=iA (Kd.dJ Bo.out).2.2 0 Jf Jg
            cases e129
            obtain ⟨Oq,KG,KH,Ib⟩:=Kd.jK Bo.out z51 0 Jf (by first|exact Jg|exact of_decide_eq_true (by first|(with_reducible assumption)|assumption)|(have e_:=(Kd.dJ Bo.out).1;omega))
            obtain ⟨M5,M6,rfl,EO,EP⟩:=gN KH
            have DC:=Ib 6 _ rfl
            rw [bT _ _ 6 (by omega)] at DC
            replace DC:=Option.some.inj (DC.symm.trans Df)
            injection DC with hva_ hvn_ hvc_
            rw [hva_] at EP
            rw [hvc_] at EO
            have DF:=Aside0.mk (show Kd.V k69 69 _ w.heap.size _ _ ((aC Bh 0).f1.f5) from Kd.iV EO EP)
            clear hva_ hvn_ hvc_ EP EO
            clear Ib KG
            have Ot : (0 < Bh.length) = True:=eq_true (by omega)
            (try simp only [show ((0 : Int)).toNat = 0 from rfl,show 0 * 7 = 0 from rfl,Addr.add_zero'] at EI EJ EK EL EM EN Df)
            have Jh:=Aside0.mk GX
            have M7:=Aside0.mk GV
            clear GX GV
            replace Jf:=eq_true Jf
            replace Jg:=eq_true Jg
            have Ji : 0 ≤ (0 : Int):=(by omega)
            have Jj : 0 < (Bh.length : Int):=of_decide_eq_true (by first|(with_reducible assumption)|assumption)
            obtain ⟨LY,NM,NP,NQ,ER,ES,ET,EU,EW,EX,Dh,GY,GZ⟩:=iA (Kd.dJ Bo.out).2.2 0 Ji Jj
            obtain rfl : BH = LY:=(by injection NQ)
            obtain ⟨Ou,KI,KJ,Ic⟩:=Kd.jK Bo.out z51 0 Ji (by first|exact Jj|exact of_decide_eq_true (by first|(with_reducible assumption)|assumption)|(have e_:=(Kd.dJ Bo.out).1;omega))
            obtain ⟨M8,M9,rfl,EY,EZ⟩:=gN KJ
            have DI:=Ic 6 _ rfl
            rw [bT _ _ 6 (by omega)] at DI
            replace DI:=Option.some.inj (DI.symm.trans Dh)
            injection DI with hva_ hvn_ hvc_
            rw [hva_] at EZ
            rw [hvc_] at EY
            have DJ:=Aside0.mk (show Kd.V k69 69 _ w.heap.size _ _ ((aC Bh 0).f1.f5) from Kd.iV EY EZ)
            clear hva_ hvn_ hvc_ EZ EY
            clear Ic KI
            have Ov : (0 < Bh.length) = True:=eq_true (by omega)
            (try simp only [show ((0 : Int)).toNat = 0 from rfl,show 0 * 7 = 0 from rfl,Addr.add_zero'] at ER ES ET EU EW EX Dh)
            have Jk:=Aside0.mk GZ
            have Na:=Aside0.mk GY
            clear GZ GY
            replace Ji:=eq_true Ji
            replace Jj:=eq_true Jj
            have ea_:=Option.some.inj (Df.symm.trans Dh)
            injection ea_ with ea_ en_ ec_
            subst ea_
            subst ec_
            clear en_
            refine fU (n:=14) (S:=fun w'=>w'.cell? BH = some (.string ((aC Bh 0).f0)) ∧ w'.cell? ⟨BH.block,BH.off + 1,none⟩ = some (.string ((aC Bh 0).f1.f0)) ∧ w'.cell? ⟨BH.block,BH.off + 2,none⟩ = some (.string ((aC Bh 0).f1.f1)) ∧ w'.cell? ⟨BH.block,BH.off + 3,none⟩ = some (.int .i64 ((aC Bh 0).f1.f2)) ∧ w'.cell? ⟨BH.block,BH.off + 4,none⟩ = some (.int .i64 ((aC Bh 0).f1.f3)) ∧ w'.cell? ⟨BH.block,BH.off + 5,none⟩ = some (.bool ((aC Bh 0).f1.f4)) ∧ w'.cell? ⟨BH.block,BH.off + 6,none⟩ = some (.slice H9 ((aC Bh 0).f1.f5).length Ia) ∧ w'.cell? BH = some (.string ((aC Bh 0).f0)) ∧ w'.cell? ⟨BH.block,BH.off + 1,none⟩ = some (.string ((aC Bh 0).f1.f0)) ∧ w'.cell? ⟨BH.block,BH.off + 2,none⟩ = some (.string ((aC Bh 0).f1.f1)) ∧ w'.cell? ⟨BH.block,BH.off + 3,none⟩ = some (.int .i64 ((aC Bh 0).f1.f2)) ∧ w'.cell? ⟨BH.block,BH.off + 4,none⟩ = some (.int .i64 ((aC Bh 0).f1.f3)) ∧ w'.cell? ⟨BH.block,BH.off + 5,none⟩ = some (.bool ((aC Bh 0).f1.f4)) ∧ w'.cell? ⟨BH.block,BH.off + 6,none⟩ = some (.slice H9 ((aC Bh 0).f1.f5).length Ia)) (ds:=[11,12]) #[O,O,O,O,O,O,O,O,O,O,O,O,O,O] (by kernel_rfl) rfl rfl ⟨EI,EJ,EK,EL,EM,EN,Df,ER,ES,ET,EU,EW,EX,Dh⟩ (fun hHeld=>?_);refine dY av.AL av.Ad (fun HT_ HW_=>?_)
            generalize wc.drew = Qx at Bt Bo Bn AZ Bf Bj Bl HB DF DJ Jh Jk EI EJ EK EL EM EN Df ER ES ET EU EW EX Dh hHeld ⊢
            refine pu_ 0 66 #[I,O,O,O,O,O,O,O,O,O,O,O,O,O] HT_.out ?_
            refine pu_ 1 67 #[I,I,O,O,O,O,O,O,O,O,O,O,O,O] HT_.out ?_
            refine pu_ 2 68 #[I,I,I,O,O,O,O,O,O,O,O,O,O,O] HT_.out ?_
            refine pu_ 3 69 #[I,I,I,I,O,O,O,O,O,O,O,O,O,O] HT_.out ?_
            refine pu_ 5 71 #[I,I,I,I,O,I,O,O,O,O,O,O,O,O] HT_.out ?_
            refine pu_ 6 72 #[I,I,I,I,O,I,I,O,O,O,O,O,O,O] HT_.out ?_
            refine pu_ 7 73 #[I,I,I,I,O,I,I,I,O,O,O,O,O,O] HT_.out ?_
            refine pu_ 8 74 #[I,I,I,I,O,I,I,I,I,O,O,O,O,O] HT_.out ?_
            refine ta_ 4 70 #[I,I,I,I,I,I,I,I,I,O,O,O,O,O] HT_.out HW_.out hHeld ?_
            refine ta_ 9 75 #[I,I,I,I,I,I,I,I,I,I,O,O,O,O] HT_.out HW_.out hHeld ?_
            refine pu_ 10 76 #[I,I,I,I,I,I,I,I,I,I,I,O,O,O] HT_.out ?_
            refine jT (i:=11) (N:=some 77) #[I,I,I,I,I,I,I,I,I,I,I,I,O,O] rfl rfl (dD HT_.out (by kernel_rfl)) (by decide) (fun K hK=>?_)
            refine qo (w1:=?_) (v:=?_) (by rfl) rfl ?_ ?_
            rotate_left 2
            ·go_simp
             constructor
             ·rfl
             ·rfl
            refine hK.out _ _ ?_
            clear hK K
            refine dW (a':=?_) ?_ ?_
            rotate_left
            ·show Act.put _ (some 77) _ = _
             simp only [Act.put,List.setIfInBounds_toArray,List.set_cons_zero,List.set_cons_succ,bJ,bM]
             rfl
            refine jT (i:=12) (N:=some 78) #[I,I,I,I,I,I,I,I,I,I,I,I,I,O] rfl rfl (dD HT_.out (by kernel_rfl)) (by decide) (fun K hK=>?_)
            refine Kd.j6 k30 (w0:=w) w.heap.size (by rfl) (.tmp 66) (.tmp 77) 32 30 (.agg #[(.int .i64 0),(.string ⟨#[]⟩),(.string ⟨#[]⟩)]) 40 rfl Tryz.underlying32 sw rfl (by decide) (by omega) u5 BJ (⟨2,(aC Bh 0).f0,(aC Bh 0).f1.f0⟩ : S30) [.int .i64 2,.string ((aC Bh 0).f0),.string ((aC Bh 0).f1.f0)] (fun k_=>(w.heap.size ≤ k_)) (fun _=>False) rfl rfl ?aP (fun _ hk=>hk.elim) ?aF ?aO ?aB ?aS ?aL ?_
            (case aP=>exact qF _ _ _ (⟨2,(aC Bh 0).f0,(aC Bh 0).f1.f0⟩ : S30))
            (case aB=>exact hb_)
            (case aF=>exact (fun k_ hk=>(Nat.le_trans (aM hb_) hk)))
            (case aO=>exact (kr_ Bt.out))
            (case aS=>exact (aM hb_))
            (case aL=>have:=LU.out;omega)
            intro PG Qy ho hb hg hat
            rw [← LV.out] at ho
            have BN:=Aside0.mk (Kd.gD (ok:=(fun k_=>((Bw k_ ∨ Bz k_) ∨ w.heap.size ≤ k_) ∧ k_ ≠ Bq ∧ k_ ≠ Br)) (by (with_reducible repeat (first|apply Kd.bX|apply Kd.bY|apply Kd.bH));exact Kd.eG Bo.out (fun _ hk=>⟨⟨hk.1,⟨hk.2.2.1,hk.2.2.2⟩⟩,hk.2.1⟩)) hg hat)
            have BO:=Aside0.mk (Kd.gD (ok:=(fun k_=>((Bw k_ ∨ Bz k_) ∨ w.heap.size ≤ k_) ∧ k_ ≠ Bq ∧ k_ ≠ Br)) (by (with_reducible repeat (first|apply Kd.bX|apply Kd.bY|apply Kd.bH));exact Kd.eG Bn.out (fun _ hk=>⟨⟨hk.1,⟨hk.2.2.1,hk.2.2.2⟩⟩,hk.2.1⟩)) hg hat)
            have BP:=Aside0.mk (Kd.gD (ok:=(fun k_=>((Bw k_ ∨ Bz k_) ∨ w.heap.size ≤ k_) ∧ k_ ≠ Bq ∧ k_ ≠ Br)) (by (with_reducible repeat (first|apply Kd.bX|apply Kd.bY|apply Kd.bH));exact Kd.eG AZ.out (fun _ hk=>⟨⟨hk.1,⟨hk.2.2.1,hk.2.2.2⟩⟩,hk.2.1⟩)) hg hat)
            have BQ:=Aside0.mk (Kd.gD (ok:=(fun k_=>((Bw k_ ∨ Bz k_) ∨ w.heap.size ≤ k_) ∧ k_ ≠ Bq ∧ k_ ≠ Br)) (by (with_reducible repeat (first|apply Kd.bX|apply Kd.bY|apply Kd.bH));exact Kd.eG Bf.out (fun _ hk=>⟨⟨hk.1,⟨hk.2.2.1,hk.2.2.2⟩⟩,hk.2.1⟩)) hg hat)
            have BR:=Aside0.mk (fD (g:=Bq) (o:=.cells #[.int .u64 C8,.slice Ch BK.length Ci] 25 (0,0)) (bk_ Bj.out) hg (Kd.kK Bt.out Bj.out (by decide)))
            have BS:=Aside0.mk (fD (g:=Br) (o:=.cells #[.int .u64 Dc,.slice CY BL.length CZ] 25 (0,0)) (bk_ Bl.out) hg (Kd.kK Bt.out Bl.out (by decide)))
            have BU:=Aside0.mk (Kd.gD (ok:=(fun k_=>((Bw k_ ∨ Bz k_) ∨ w.heap.size ≤ k_) ∧ k_ ≠ Bq ∧ k_ ≠ Br)) (by (with_reducible repeat (first|apply Kd.bX|apply Kd.bY|apply Kd.bH));exact Kd.eG DF.out (fun _ hk=>⟨⟨hk.1,⟨hk.2.2.1,hk.2.2.2⟩⟩,hk.2.1⟩)) hg hat)
            have BX:=Aside0.mk (Kd.gD (ok:=(fun k_=>((Bw k_ ∨ Bz k_) ∨ w.heap.size ≤ k_) ∧ k_ ≠ Bq ∧ k_ ≠ Br)) (by (with_reducible repeat (first|apply Kd.bX|apply Kd.bY|apply Kd.bH));exact Kd.eG DJ.out (fun _ hk=>⟨⟨hk.1,⟨hk.2.2.1,hk.2.2.2⟩⟩,hk.2.1⟩)) hg hat)
            have Dv:=Aside0.mk (hb)
            have Ea:=Aside0.mk (ho)
            clear Bo
            clear Bn
            clear AZ
            clear Bf
            clear Bj
            clear Bl
            clear DF
            clear DJ
            clear HB
            clear Bt
            have Bo:=BN
            have Bn:=BO
            have AZ:=BP
            have Bf:=BQ
            have Bj:=BR
            have Bl:=BS
            have DF:=BU
            have DJ:=BX
            have HB:=Dv
            have LZ:=Ea
            clear BN BO BP BQ BR BS BU BX Dv Ea
            clear ho hb hg hat
            refine hK.out _ _ ?_
            clear hK K
            refine dW (a':=?_) ?_ ?_
            rotate_left
            ·show Act.put _ (some 78) _ = _
             simp only [Act.put,List.setIfInBounds_toArray,List.set_cons_zero,List.set_cons_succ,bJ,bM]
             rfl
            refine pu_ 13 5 #[I,I,I,I,I,I,I,I,I,I,I,I,I,I] HT_.out ?_
            refine gP (fF HT_.out (by kernel_rfl)) ?_
            have q32 : (1 : Int) ≤ ((Bh.length : Int) : Int):=of_decide_eq_true (by first|(with_reducible assumption)|assumption)
            obtain ⟨PI,J3,_,J4,_⟩:=info_parts mP
            have DK : Bh.length ≤ H8:=(Kd.dJ Bo.out).2.1
            have L6 : Kd.F k51 _ _ (some BH) Bh.length Bh:=(Kd.ou (base:=w.heap.size) Bo.out).2.2
            have KL:=iL (P:=Tryz.prog) 23 51 .i64 Tryz.underlying23 J3 7 J4 (some BH) Bh.length H8 1 (by omega) q32
            have Ie:=Kd.pU (m:=(1 : Int).toNat) (c:=H8) L6 (by omega) DK
            obtain ⟨Ow,Jl⟩ : ∃ A1,A1 = (if H8 = (1 : Int).toNat then (some BH) else ((some BH) : Option Addr).map (·.add ((1 : Int).toNat * 7))):=⟨_,rfl⟩
            obtain ⟨c32,hc32⟩ : ∃ c1,c1 = H8 - (1 : Int).toNat:=⟨_,rfl⟩
            have hy32 : EH.length = Bh.length - (1 : Int).toNat:=(by rw [J2.out,List.length_drop] <;> omega)
            rw [show (Bh).drop (1 : Int).toNat = EH from J2.out.symm] at Ie
            replace Ie : Kd.F k51 _ _ Ow EH.length EH:=(by rw [Jl];exact Ie)
            rw [← hy32,← Jl,← hc32] at KL
            have L8:=Aside0.mk (show Kd.V k51 51 _ w.heap.size _ (.slice Ow EH.length c32) EH from Kd.iV (by rw [hy32,hc32];exact Nat.sub_le_sub_right DK _) Ie)
            have Ox:=Aside0.mk (show EH.length ≤ c32 from by rw [hy32,hc32];exact Nat.sub_le_sub_right DK _)
            clear Ie L6 DK J3 J4 hc32
            have PK:=Aside0.mk hy32
            have PL:=Aside0.mk Jl
            clear hy32 Jl
            replace q32:=eq_true q32
            try go_wp2
            go_roundg GA
            case measure=>have:=Gz.out;have:=Hw.out;have:=Ei.out;omega
            case rel=>exact ⟨(KF),(EH),(Bg),H',⟨by have:=Gz.out;have:=Hw.out;have:=Ei.out;omega⟩,⟨by (with_reducible repeat (first|apply Kd.fG|apply Kd.fH|apply Kd.eD));exact LZ.out⟩,⟨by (with_reducible repeat (first|apply Kd.bX|apply Kd.bY|apply Kd.bH));exact Kd.eG L8.out (fun _ hk=>⟨hk.1.1,⟨hk.2,⟨hk.1.2.1,hk.1.2.2⟩⟩⟩)⟩,⟨by (with_reducible repeat (first|apply Kd.bX|apply Kd.bY|apply Kd.bH));exact Kd.eG Bn.out (fun _ hk=>⟨hk.1.1,⟨hk.2,⟨hk.1.2.1,hk.1.2.2⟩⟩⟩)⟩,⟨by (with_reducible repeat (first|apply Kd.bX|apply Kd.bY|apply Kd.bH));exact Kd.eG AZ.out (fun _ hk=>⟨hk.1.1,⟨hk.2,⟨hk.1.2.1,hk.1.2.2⟩⟩⟩)⟩,⟨by (with_reducible repeat (first|apply Kd.bX|apply Kd.bY|apply Kd.bH));exact Kd.eG Bf.out (fun _ hk=>⟨hk.1.1,⟨hk.2,⟨hk.1.2.1,hk.1.2.2⟩⟩⟩)⟩,⟨by (with_reducible repeat (first|apply ay|apply aG|apply aD));exact Bj.out⟩,⟨by (with_reducible repeat (first|apply ay|apply aG|apply aD));exact Bl.out⟩,⟨hb_⟩⟩
           ·rw [if_neg c28] at H
            exact absurd H (by simp)
          ·rw [if_neg M4] at H
           exact absurd H (by simp)
         ·rw [if_neg M0] at H
          exact absurd H (by simp)
        ·replace MZ:=Bool.eq_false_iff.mpr MZ
         subst MZ
         have H1 : (if (Bh.length : Int) = 0 then (av.j3 GA BJ Bh Bg true) else (if 0 < (Bg.length : Int) then (if 0 < (Bh.length : Int) then (av.j3 GA BJ Bh Bg (Op.bytesLess (((aC Bg 0).f0).toList) (((aC Bh 0).f0).toList))) else (none)) else (none))) = some r:=by rw [if_neg (show ¬ (false = true) by decide)] at H;exact H
         clear H
         have H:=H1
         clear H1
         have KM:=Aside0.mk H
         clear H
         go_upto_region 5 with (fail)
         go_cut [40] (fun v40 wc=>∃ (kq : Nat) (E5 : Bool),v40 = .bool E5 ∧ Aside0 (av.j3 kq BJ Bh Bg E5 = some r) ∧ Aside0 (kq ≤ GA) ∧ Aside0 (Kd.R k30 30 wc w.heap.size (fun k_=>(w.heap.size ≤ k_)) u5 BJ) ∧ Aside0 (Kd.V k51 51 wc w.heap.size (fun k_=>((Bw k_ ∨ Bz k_) ∨ w.heap.size ≤ k_) ∧ some k_ ≠ (u5 : Value).ownBlock ∧ k_ ≠ Bq ∧ k_ ≠ Br) u6 Bh) ∧ Aside0 (Kd.V k51 51 wc w.heap.size (fun k_=>((Bw k_ ∨ Bz k_) ∨ w.heap.size ≤ k_) ∧ some k_ ≠ (u5 : Value).ownBlock ∧ k_ ≠ Bq ∧ k_ ≠ Br) u7 Bg) ∧ Aside0 (Kd.V k51 51 wc w.heap.size (fun k_=>((Bw k_ ∨ Bz k_) ∨ w.heap.size ≤ k_) ∧ some k_ ≠ (u5 : Value).ownBlock ∧ k_ ≠ Bq ∧ k_ ≠ Br) (.slice Ch BK.length Ci) BK) ∧ Aside0 (Kd.V k51 51 wc w.heap.size (fun k_=>((Bw k_ ∨ Bz k_) ∨ w.heap.size ≤ k_) ∧ some k_ ≠ (u5 : Value).ownBlock ∧ k_ ≠ Bq ∧ k_ ≠ Br) (.slice CY BL.length CZ) BL) ∧ Aside0 (wc.heap[Bq]? = some (.cells #[.int .u64 C8,(.slice Ch BK.length Ci)] 25 (0,0))) ∧ Aside0 (wc.heap[Br]? = some (.cells #[.int .u64 Dc,(.slice CY BL.length CZ)] 25 (0,0))) ∧ Aside0 (Below w.heap.size w wc))
         case first =>
          have H:=KM.out
          clear KM
          by_cases c34 : (Bh.length : Int) = 0
          ·rw [if_pos c34] at H
           have c34b0 : ((Bh.length : Int) == 0) = true:=beq_iff_eq.mpr c34
           have c34b1 : ((Bh.length : Int) != 0) = false:=bne_eq_false_iff_eq.mpr c34
           clear c34
           (first|rw [c34b0]|(simp only [bJ,bM];rw [c34b0])|skip)
           have H':=Aside0.mk H
           clear H
           try go_wp2
           have BN:=Aside0.mk (Kd.eD Bt.out)
           have BO:=Aside0.mk (Kd.bH Bo.out)
           have BP:=Aside0.mk (Kd.bH Bn.out)
           have BQ:=Aside0.mk (Kd.bH AZ.out)
           have BR:=Aside0.mk (Kd.bH Bf.out)
           have BS:=Aside0.mk (aG Bj.out)
           have BU:=Aside0.mk (aG Bl.out)
           have BX:=Aside0.mk (bB HB.out)
           clear Bt
           clear Bo
           clear Bn
           clear AZ
           clear Bf
           clear Bj
           clear Bl
           clear HB
           have Bt:=BN
           have Bo:=BO
           have Bn:=BP
           have AZ:=BQ
           have Bf:=BR
           have Bj:=BS
           have Bl:=BU
           have HB:=BX
           clear BN BO BP BQ BR BS BU BX
           obtain ⟨PN,PO,L9⟩:=Kd.gG Bo.out
           (first|subst L9|(injection L9 with Cj Dr Ck;have Dt:=Cj.symm;have Du:=Ck.symm;clear Cj Dr Ck;subst Dt;subst Du))
           refine fU (n:=15) (S:=fun w'=>True) (ds:=[]) #[O,O,O,O,O,O,O,O,O,O,O,O,O,O,O] (by kernel_rfl) rfl rfl trivial (fun hHeld=>?_);refine dY av.qG av.mE (fun HT_ HW_=>?_)
           generalize wc.drew = Qz at Bt Bo Bn AZ Bf Bj Bl HB hHeld ⊢
           refine pu_ 0 41 #[I,O,O,O,O,O,O,O,O,O,O,O,O,O,O] HT_.out ?_
           refine pu_ 1 42 #[I,I,O,O,O,O,O,O,O,O,O,O,O,O,O] HT_.out ?_
           refine pu_ 2 43 #[I,I,I,O,O,O,O,O,O,O,O,O,O,O,O] HT_.out ?_
           refine pu_ 3 44 #[I,I,I,I,O,O,O,O,O,O,O,O,O,O,O] HT_.out ?_
           refine pz_ 4 45 #[I,I,I,I,I,O,O,O,O,O,O,O,O,O,O] HT_.out ?_
           refine pz_ 5 46 #[I,I,I,I,I,I,O,O,O,O,O,O,O,O,O] HT_.out ?_
           refine pz_ 6 47 #[I,I,I,I,I,I,I,O,O,O,O,O,O,O,O] HT_.out ?_
           refine pz_ 7 48 #[I,I,I,I,I,I,I,I,O,O,O,O,O,O,O] HT_.out ?_
           refine pz_ 8 49 #[I,I,I,I,I,I,I,I,I,O,O,O,O,O,O] HT_.out ?_
           refine pz_ 9 50 #[I,I,I,I,I,I,I,I,I,I,O,O,O,O,O] HT_.out ?_
           refine pz_ 10 51 #[I,I,I,I,I,I,I,I,I,I,I,O,O,O,O] HT_.out ?_
           refine pz_ 11 52 #[I,I,I,I,I,I,I,I,I,I,I,I,O,O,O] HT_.out ?_
           refine pz_ 12 53 #[I,I,I,I,I,I,I,I,I,I,I,I,I,O,O] HT_.out ?_
           refine pu_ 13 54 #[I,I,I,I,I,I,I,I,I,I,I,I,I,I,O] HT_.out ?_
           refine pu_ 14 40 #[I,I,I,I,I,I,I,I,I,I,I,I,I,I,I] HT_.out ?_
           refine gP (fF HT_.out (by kernel_rfl)) ?_
           try go_wp2
           go_meet
           case rel=>exact ⟨_,(true),(by first|rfl|(simp;done)|(simp [*];done)),H',⟨by have:=Gz.out;have:=Hw.out;have:=Ei.out;first|omega|exact Nat.le_refl _⟩,⟨by (with_reducible repeat (first|apply Kd.fG|apply Kd.fH|apply Kd.eD));exact Bt.out⟩,⟨by (with_reducible repeat (first|apply Kd.bX|apply Kd.bY|apply Kd.bH));exact Bo.out⟩,⟨by (with_reducible repeat (first|apply Kd.bX|apply Kd.bY|apply Kd.bH));exact Bn.out⟩,⟨by (with_reducible repeat (first|apply Kd.bX|apply Kd.bY|apply Kd.bH));exact AZ.out⟩,⟨by (with_reducible repeat (first|apply Kd.bX|apply Kd.bY|apply Kd.bH));exact Bf.out⟩,⟨by (with_reducible repeat (first|apply ay|apply aG|apply aD));exact Bj.out⟩,⟨by (with_reducible repeat (first|apply ay|apply aG|apply aD));exact Bl.out⟩,⟨hb_⟩⟩
          ·rw [if_neg c34] at H
           have c34b0 : ((Bh.length : Int) == 0) = false:=beq_eq_false_iff_ne.mpr c34
           have c34b1 : ((Bh.length : Int) != 0) = true:=bne_iff_ne.mpr c34
           have c34b2 : ¬ (Bh = []):=fun h_=>c34 (by rw [h_];rfl)
           (first|rw [c34b0]|(simp only [bJ,bM];rw [c34b0])|skip)
           by_cases c37 : 0 < (Bg.length : Int)
           ·rw [if_pos c37] at H
            have c37b0 : decide (0 < (Bg.length : Int)) = true:=decide_eq_true c37
            have c37b1 : decide (0 < Bg.length) = true:=decide_eq_true (by omega)
            clear c37
            by_cases Nb : 0 < (Bh.length : Int)
            ·rw [if_pos Nb] at H
             have c38b0 : decide (0 < (Bh.length : Int)) = true:=decide_eq_true Nb
             have c38b1 : decide (0 < Bh.length) = true:=decide_eq_true (by omega)
             clear Nb
             have H':=Aside0.mk H
             clear H
             try go_wp2
             have BN:=Aside0.mk (Kd.eD Bt.out)
             have BO:=Aside0.mk (Kd.bH Bo.out)
             have BP:=Aside0.mk (Kd.bH Bn.out)
             have BQ:=Aside0.mk (Kd.bH AZ.out)
             have BR:=Aside0.mk (Kd.bH Bf.out)
             have BS:=Aside0.mk (aG Bj.out)
             have BU:=Aside0.mk (aG Bl.out)
             have BX:=Aside0.mk (bB HB.out)
             clear Bt
             clear Bo
             clear Bn
             clear AZ
             clear Bf
             clear Bj
             clear Bl
             clear HB
             have Bt:=BN
             have Bo:=BO
             have Bn:=BP
             have AZ:=BQ
             have Bf:=BR
             have Bj:=BS
             have Bl:=BU
             have HB:=BX
             clear BN BO BP BQ BR BS BU BX
             obtain ⟨PS,PU,Ma⟩:=Kd.gG Bo.out
             (first|subst Ma|(injection Ma with Cj Dr Ck;have Dt:=Cj.symm;have Du:=Ck.symm;clear Cj Dr Ck;subst Dt;subst Du))
             obtain ⟨PV,PW,Md⟩:=Kd.gG Bn.out
             (first|subst Md|(injection Md with Cj Dr Ck;have Dt:=Cj.symm;have Du:=Ck.symm;clear Cj Dr Ck;subst Dt;subst Du))
             have Jm : 0 ≤ (0 : Int):=(by omega)
             have Jo : 0 < (Bg.length : Int):=of_decide_eq_true (by first|(with_reducible assumption)|assumption)
             obtain ⟨Co,KN,KO,NR,E8,E9,Fa,Fb,Fe,Fg,DL,G6,G7⟩:=iA (Kd.dJ Bn.out).2.2 0 Jm Jo
             cases NR
             obtain ⟨Oy,KP,KQ,Ig⟩:=Kd.jK Bn.out z51 0 Jm (by first|exact Jo|exact of_decide_eq_true (by first|(with_reducible assumption)|assumption)|(have e_:=(Kd.dJ Bn.out).1;omega))
             obtain ⟨Nc,Nf,rfl,Fh,Fj⟩:=gN KQ
             have DN:=Ig 6 _ rfl
             rw [bT _ _ 6 (by omega)] at DN
             replace DN:=Option.some.inj (DN.symm.trans DL)
             injection DN with hva_ hvn_ hvc_
             rw [hva_] at Fj
             rw [hvc_] at Fh
             have Jp:=Aside0.mk (show Kd.V k69 69 _ w.heap.size _ _ ((aC Bg 0).f1.f5) from Kd.iV Fh Fj)
             clear hva_ hvn_ hvc_ Fj Fh
             clear Ig KP
             have Oz : (0 < Bg.length) = True:=eq_true (by omega)
             (try simp only [show ((0 : Int)).toNat = 0 from rfl,show 0 * 7 = 0 from rfl,Addr.add_zero'] at E8 E9 Fa Fb Fe Fg DL)
             have Jq:=Aside0.mk G7
             have Ng:=Aside0.mk G6
             clear G7 G6
             replace Jm:=eq_true Jm
             replace Jo:=eq_true Jo
             have Jr : 0 ≤ (0 : Int):=(by omega)
             have Js : 0 < (Bh.length : Int):=of_decide_eq_true (by first|(with_reducible assumption)|assumption)
             obtain ⟨Cq,KR,KS,NS,Fp,Fq,Fu,Fv,Fw,Fx,DR,G8,G9⟩:=iA (Kd.dJ Bo.out).2.2 0 Jr Js
             cases NS
             obtain ⟨OA,KT,KU,Ih⟩:=Kd.jK Bo.out z51 0 Jr (by first|exact Js|exact of_decide_eq_true (by first|(with_reducible assumption)|assumption)|(have e_:=(Kd.dJ Bo.out).1;omega))
             obtain ⟨Nh,Nk,rfl,Fy,Fz⟩:=gN KU
             have DT:=Ih 6 _ rfl
             rw [bT _ _ 6 (by omega)] at DT
             replace DT:=Option.some.inj (DT.symm.trans DR)
             injection DT with hva_ hvn_ hvc_
             rw [hva_] at Fz
             rw [hvc_] at Fy
             have Jt:=Aside0.mk (show Kd.V k69 69 _ w.heap.size _ _ ((aC Bh 0).f1.f5) from Kd.iV Fy Fz)
             clear hva_ hvn_ hvc_ Fz Fy
             clear Ih KT
             have OB : (0 < Bh.length) = True:=eq_true (by omega)
             (try simp only [show ((0 : Int)).toNat = 0 from rfl,show 0 * 7 = 0 from rfl,Addr.add_zero'] at Fp Fq Fu Fv Fw Fx DR)
             have Ju:=Aside0.mk G9
             have Nl:=Aside0.mk G8
             clear G9 G8
             replace Jr:=eq_true Jr
             replace Js:=eq_true Js
             refine fU (n:=15) (S:=fun w'=>w'.cell? Co = some (.string ((aC Bg 0).f0)) ∧ w'.cell? ⟨Co.block,Co.off + 1,none⟩ = some (.string ((aC Bg 0).f1.f0)) ∧ w'.cell? ⟨Co.block,Co.off + 2,none⟩ = some (.string ((aC Bg 0).f1.f1)) ∧ w'.cell? ⟨Co.block,Co.off + 3,none⟩ = some (.int .i64 ((aC Bg 0).f1.f2)) ∧ w'.cell? ⟨Co.block,Co.off + 4,none⟩ = some (.int .i64 ((aC Bg 0).f1.f3)) ∧ w'.cell? ⟨Co.block,Co.off + 5,none⟩ = some (.bool ((aC Bg 0).f1.f4)) ∧ w'.cell? ⟨Co.block,Co.off + 6,none⟩ = some (.slice KN ((aC Bg 0).f1.f5).length KO) ∧ w'.cell? Cq = some (.string ((aC Bh 0).f0)) ∧ w'.cell? ⟨Cq.block,Cq.off + 1,none⟩ = some (.string ((aC Bh 0).f1.f0)) ∧ w'.cell? ⟨Cq.block,Cq.off + 2,none⟩ = some (.string ((aC Bh 0).f1.f1)) ∧ w'.cell? ⟨Cq.block,Cq.off + 3,none⟩ = some (.int .i64 ((aC Bh 0).f1.f2)) ∧ w'.cell? ⟨Cq.block,Cq.off + 4,none⟩ = some (.int .i64 ((aC Bh 0).f1.f3)) ∧ w'.cell? ⟨Cq.block,Cq.off + 5,none⟩ = some (.bool ((aC Bh 0).f1.f4)) ∧ w'.cell? ⟨Cq.block,Cq.off + 6,none⟩ = some (.slice KR ((aC Bh 0).f1.f5).length KS)) (ds:=[]) #[O,O,O,O,O,O,O,O,O,O,O,O,O,O,O] (by kernel_rfl) rfl rfl ⟨E8,E9,Fa,Fb,Fe,Fg,DL,Fp,Fq,Fu,Fv,Fw,Fx,DR⟩ (fun hHeld=>?_);refine dY av.qG av.mE (fun HT_ HW_=>?_)
             generalize wc.drew = QA at Bt Bo Bn AZ Bf Bj Bl HB Jp Jt Jq Ju E8 E9 Fa Fb Fe Fg DL Fp Fq Fu Fv Fw Fx DR hHeld ⊢
             refine pu_ 0 41 #[I,O,O,O,O,O,O,O,O,O,O,O,O,O,O] HT_.out ?_
             refine pu_ 1 42 #[I,I,O,O,O,O,O,O,O,O,O,O,O,O,O] HT_.out ?_
             refine pu_ 2 43 #[I,I,I,O,O,O,O,O,O,O,O,O,O,O,O] HT_.out ?_
             refine pu_ 3 44 #[I,I,I,I,O,O,O,O,O,O,O,O,O,O,O] HT_.out ?_
             refine pu_ 4 45 #[I,I,I,I,I,O,O,O,O,O,O,O,O,O,O] HT_.out ?_
             refine pu_ 5 46 #[I,I,I,I,I,I,O,O,O,O,O,O,O,O,O] HT_.out ?_
             refine pu_ 6 47 #[I,I,I,I,I,I,I,O,O,O,O,O,O,O,O] HT_.out ?_
             refine pu_ 8 49 #[I,I,I,I,I,I,I,O,I,O,O,O,O,O,O] HT_.out ?_
             refine pu_ 9 50 #[I,I,I,I,I,I,I,O,I,I,O,O,O,O,O] HT_.out ?_
             refine pu_ 10 51 #[I,I,I,I,I,I,I,O,I,I,I,O,O,O,O] HT_.out ?_
             refine ta_ 7 48 #[I,I,I,I,I,I,I,I,I,I,I,O,O,O,O] HT_.out HW_.out hHeld ?_
             refine ta_ 11 52 #[I,I,I,I,I,I,I,I,I,I,I,I,O,O,O] HT_.out HW_.out hHeld ?_
             refine pu_ 12 53 #[I,I,I,I,I,I,I,I,I,I,I,I,I,O,O] HT_.out ?_
             refine pu_ 13 54 #[I,I,I,I,I,I,I,I,I,I,I,I,I,I,O] HT_.out ?_
             refine pu_ 14 40 #[I,I,I,I,I,I,I,I,I,I,I,I,I,I,I] HT_.out ?_
             refine gP (fF HT_.out (by kernel_rfl)) ?_
             try go_wp2
             go_meet
             case rel=>exact ⟨_,((Op.bytesLess (((aC Bg 0).f0).toList) (((aC Bh 0).f0).toList))),(by first|rfl|(simp;done)|(simp [*];done)),H',⟨by have:=Gz.out;have:=Hw.out;have:=Ei.out;first|omega|exact Nat.le_refl _⟩,⟨by (with_reducible repeat (first|apply Kd.fG|apply Kd.fH|apply Kd.eD));exact Bt.out⟩,⟨by (with_reducible repeat (first|apply Kd.bX|apply Kd.bY|apply Kd.bH));exact Bo.out⟩,⟨by (with_reducible repeat (first|apply Kd.bX|apply Kd.bY|apply Kd.bH));exact Bn.out⟩,⟨by (with_reducible repeat (first|apply Kd.bX|apply Kd.bY|apply Kd.bH));exact AZ.out⟩,⟨by (with_reducible repeat (first|apply Kd.bX|apply Kd.bY|apply Kd.bH));exact Bf.out⟩,⟨by (with_reducible repeat (first|apply ay|apply aG|apply aD));exact Bj.out⟩,⟨by (with_reducible repeat (first|apply ay|apply aG|apply aD));exact Bl.out⟩,⟨hb_⟩⟩
            ·rw [if_neg Nb] at H
             exact absurd H (by simp)
           ·rw [if_neg c37] at H
            exact absurd H (by simp)
         case rest =>
          clear KM
          obtain ⟨kq,E5,rfl,HA,Hy,Bt,Bo,Bn,AZ,Bf,Bj,Bl,HB⟩:=hcut
          cases kq with
          | zero=>exact absurd HA.out (by simp [av.j3])
          | succ Cr =>
           have H:=HA.out
           clear HA
           simp only [av.j3] at H
           by_cases Nn : E5 = true
           ·subst Nn
            have H1 : (if 0 < (Bg.length : Int) then (if BJ.length < 3518437208883 then (if 1 ≤ (Bg.length : Int) then (av.l0 Cr (BJ ++ [(⟨0,(aC Bg 0).f0,(aC Bg 0).f1.f0⟩ : S30)]) Bh (Bg.drop 1)) else (none)) else (none)) else (none)) = some r:=by rw [if_pos rfl] at H;exact H
            clear H
            have H:=H1
            clear H1
            by_cases Np : 0 < (Bg.length : Int)
            ·rw [if_pos Np] at H
             have c43b0 : decide (0 < (Bg.length : Int)) = true:=decide_eq_true Np
             have c43b1 : decide (0 < Bg.length) = true:=decide_eq_true (by omega)
             clear Np
             by_cases Nq : BJ.length < 3518437208883
             ·rw [if_pos Nq] at H
              have Me:=Aside0.mk Nq
              clear Nq
              obtain ⟨KV,Gs⟩ : ∃ y_ : List (S30),y_ = (BJ ++ [(⟨0,(aC Bg 0).f0,(aC Bg 0).f1.f0⟩ : S30)]):=⟨_,rfl⟩
              replace H : (if 1 ≤ (Bg.length : Int) then (av.l0 Cr KV Bh (Bg.drop 1)) else (none)) = some r:=by first|(rw [Gs];with_reducible exact H)|(have C9:=(Option.bind_some _ _).symm.trans H;rw [Gs];with_reducible exact C9)|(have C9:=(Option.bind_some _ _).symm.trans H;with_reducible exact C9)|with_reducible exact H|(rw [Gs];exact H)|exact H
              have Mf:=Aside0.mk Gs
              clear Gs
              by_cases Mg : 1 ≤ (Bg.length : Int)
              ·rw [if_pos Mg] at H
               have c45b0:=eq_true Mg
               have c45b1 : decide (1 ≤ (Bg.length : Int)) = true:=decide_eq_true Mg
               clear Mg
               obtain ⟨FB,Gt⟩ : ∃ y_ : List (S51),y_ = (Bg.drop 1):=⟨_,rfl⟩
               replace H : (av.l0 Cr KV Bh FB) = some r:=by first|(rw [Gt];with_reducible exact H)|(have C9:=(Option.bind_some _ _).symm.trans H;rw [Gt];with_reducible exact C9)|(have C9:=(Option.bind_some _ _).symm.trans H;with_reducible exact C9)|with_reducible exact H|(rw [Gt];exact H)|exact H
               have J5:=Aside0.mk Gt
               clear Gt
               have H':=Aside0.mk H
               clear H
               try go_wp2
               have BN:=Aside0.mk (Kd.eD Bt.out)
               have BO:=Aside0.mk (Kd.bH Bo.out)
               have BP:=Aside0.mk (Kd.bH Bn.out)
               have BQ:=Aside0.mk (Kd.bH AZ.out)
               have BR:=Aside0.mk (Kd.bH Bf.out)
               have BS:=Aside0.mk (aG Bj.out)
               have BU:=Aside0.mk (aG Bl.out)
               have BX:=Aside0.mk (bB HB.out)
               clear Bt
               clear Bo
               clear Bn
               clear AZ
               clear Bf
               clear Bj
               clear Bl
               clear HB
               have Bt:=BN
               have Bo:=BO
               have Bn:=BP
               have AZ:=BQ
               have Bf:=BR
               have Bj:=BS
               have Bl:=BU
               have HB:=BX
               clear BN BO BP BQ BR BS BU BX
               obtain ⟨PX,Ii,Mh⟩:=Kd.gG Bn.out
               (first|subst Mh|(injection Mh with Cj Dr Ck;have Dt:=Cj.symm;have Du:=Ck.symm;clear Cj Dr Ck;subst Dt;subst Du))
               have Jv : 0 ≤ (0 : Int):=(by omega)
               have Jw : 0 < (Bg.length : Int):=of_decide_eq_true (by first|(with_reducible assumption)|assumption)
               obtain ⟨BI,Ij,Ik,NT,FC,FD,FE,FH,FI,FJ,Di,He,Hf⟩:=iA (Kd.dJ Bn.out).2.2 0 Jv Jw
               cases NT
               obtain ⟨OC,KW,KZ,Il⟩:=Kd.jK Bn.out z51 0 Jv (by first|exact Jw|exact of_decide_eq_true (by first|(with_reducible assumption)|assumption)|(have e_:=(Kd.dJ Bn.out).1;omega))
               obtain ⟨Nr,Ns,rfl,FL,FM⟩:=gN KZ
               have DU:=Il 6 _ rfl
               rw [bT _ _ 6 (by omega)] at DU
               replace DU:=Option.some.inj (DU.symm.trans Di)
               injection DU with hva_ hvn_ hvc_
               rw [hva_] at FM
               rw [hvc_] at FL
               have DV:=Aside0.mk (show Kd.V k69 69 _ w.heap.size _ _ ((aC Bg 0).f1.f5) from Kd.iV FL FM)
               clear hva_ hvn_ hvc_ FM FL
               clear Il KW
               have OD : (0 < Bg.length) = True:=eq_true (by omega)
               (try simp only [show ((0 : Int)).toNat = 0 from rfl,show 0 * 7 = 0 from rfl,Addr.add_zero'] at FC FD FE FH FI FJ Di)
               have Jy:=Aside0.mk Hf
               have Nt:=Aside0.mk He
               clear Hf He
               replace Jv:=eq_true Jv
               replace Jw:=eq_true Jw
               have Jz : 0 ≤ (0 : Int):=(by omega)
               have JA : 0 < (Bg.length : Int):=of_decide_eq_true (by first|(with_reducible assumption)|assumption)
               obtain ⟨Mi,NU,NV,NW,FN,FP,FQ,FR,FT,FU,Dj,Hg,Hl⟩:=iA (Kd.dJ Bn.out).2.2 0 Jz JA
               obtain rfl : BI = Mi:=(by injection NW)
               obtain ⟨OE,K4,K5,Im⟩:=Kd.jK Bn.out z51 0 Jz (by first|exact JA|exact of_decide_eq_true (by first|(with_reducible assumption)|assumption)|(have e_:=(Kd.dJ Bn.out).1;omega))
               obtain ⟨Nu,Nv,rfl,FV,FW⟩:=gN K5
               have DW:=Im 6 _ rfl
               rw [bT _ _ 6 (by omega)] at DW
               replace DW:=Option.some.inj (DW.symm.trans Dj)
               injection DW with hva_ hvn_ hvc_
               rw [hva_] at FW
               rw [hvc_] at FV
               have DX:=Aside0.mk (show Kd.V k69 69 _ w.heap.size _ _ ((aC Bg 0).f1.f5) from Kd.iV FV FW)
               clear hva_ hvn_ hvc_ FW FV
               clear Im K4
               have OG : (0 < Bg.length) = True:=eq_true (by omega)
               (try simp only [show ((0 : Int)).toNat = 0 from rfl,show 0 * 7 = 0 from rfl,Addr.add_zero'] at FN FP FQ FR FT FU Dj)
               have JB:=Aside0.mk Hl
               have Nw:=Aside0.mk Hg
               clear Hl Hg
               replace Jz:=eq_true Jz
               replace JA:=eq_true JA
               have ea_:=Option.some.inj (Di.symm.trans Dj)
               injection ea_ with ea_ en_ ec_
               subst ea_
               subst ec_
               clear en_
               refine fU (n:=14) (S:=fun w'=>w'.cell? BI = some (.string ((aC Bg 0).f0)) ∧ w'.cell? ⟨BI.block,BI.off + 1,none⟩ = some (.string ((aC Bg 0).f1.f0)) ∧ w'.cell? ⟨BI.block,BI.off + 2,none⟩ = some (.string ((aC Bg 0).f1.f1)) ∧ w'.cell? ⟨BI.block,BI.off + 3,none⟩ = some (.int .i64 ((aC Bg 0).f1.f2)) ∧ w'.cell? ⟨BI.block,BI.off + 4,none⟩ = some (.int .i64 ((aC Bg 0).f1.f3)) ∧ w'.cell? ⟨BI.block,BI.off + 5,none⟩ = some (.bool ((aC Bg 0).f1.f4)) ∧ w'.cell? ⟨BI.block,BI.off + 6,none⟩ = some (.slice Ij ((aC Bg 0).f1.f5).length Ik) ∧ w'.cell? BI = some (.string ((aC Bg 0).f0)) ∧ w'.cell? ⟨BI.block,BI.off + 1,none⟩ = some (.string ((aC Bg 0).f1.f0)) ∧ w'.cell? ⟨BI.block,BI.off + 2,none⟩ = some (.string ((aC Bg 0).f1.f1)) ∧ w'.cell? ⟨BI.block,BI.off + 3,none⟩ = some (.int .i64 ((aC Bg 0).f1.f2)) ∧ w'.cell? ⟨BI.block,BI.off + 4,none⟩ = some (.int .i64 ((aC Bg 0).f1.f3)) ∧ w'.cell? ⟨BI.block,BI.off + 5,none⟩ = some (.bool ((aC Bg 0).f1.f4)) ∧ w'.cell? ⟨BI.block,BI.off + 6,none⟩ = some (.slice Ij ((aC Bg 0).f1.f5).length Ik)) (ds:=[11,12]) #[O,O,O,O,O,O,O,O,O,O,O,O,O,O] (by kernel_rfl) rfl rfl ⟨FC,FD,FE,FH,FI,FJ,Di,FN,FP,FQ,FR,FT,FU,Dj⟩ (fun hHeld=>?_);refine dY av.rE av.ni (fun HT_ HW_=>?_)
               generalize wc.drew = QC at Bt Bo Bn AZ Bf Bj Bl HB DV DX Jy JB FC FD FE FH FI FJ Di FN FP FQ FR FT FU Dj hHeld ⊢
               refine pu_ 0 81 #[I,O,O,O,O,O,O,O,O,O,O,O,O,O] HT_.out ?_
               refine pu_ 1 82 #[I,I,O,O,O,O,O,O,O,O,O,O,O,O] HT_.out ?_
               refine pu_ 2 83 #[I,I,I,O,O,O,O,O,O,O,O,O,O,O] HT_.out ?_
               refine pu_ 3 84 #[I,I,I,I,O,O,O,O,O,O,O,O,O,O] HT_.out ?_
               refine pu_ 5 86 #[I,I,I,I,O,I,O,O,O,O,O,O,O,O] HT_.out ?_
               refine pu_ 6 87 #[I,I,I,I,O,I,I,O,O,O,O,O,O,O] HT_.out ?_
               refine pu_ 7 88 #[I,I,I,I,O,I,I,I,O,O,O,O,O,O] HT_.out ?_
               refine pu_ 8 89 #[I,I,I,I,O,I,I,I,I,O,O,O,O,O] HT_.out ?_
               refine ta_ 4 85 #[I,I,I,I,I,I,I,I,I,O,O,O,O,O] HT_.out HW_.out hHeld ?_
               refine ta_ 9 90 #[I,I,I,I,I,I,I,I,I,I,O,O,O,O] HT_.out HW_.out hHeld ?_
               refine pu_ 10 91 #[I,I,I,I,I,I,I,I,I,I,I,O,O,O] HT_.out ?_
               refine jT (i:=11) (N:=some 92) #[I,I,I,I,I,I,I,I,I,I,I,I,O,O] rfl rfl (dD HT_.out (by kernel_rfl)) (by decide) (fun K hK=>?_)
               refine qo (w1:=?_) (v:=?_) (by rfl) rfl ?_ ?_
               rotate_left 2
               ·go_simp
                constructor
                ·rfl
                ·rfl
               refine hK.out _ _ ?_
               clear hK K
               refine dW (a':=?_) ?_ ?_
               rotate_left
               ·show Act.put _ (some 92) _ = _
                simp only [Act.put,List.setIfInBounds_toArray,List.set_cons_zero,List.set_cons_succ,bJ,bM]
                rfl
               refine jT (i:=12) (N:=some 93) #[I,I,I,I,I,I,I,I,I,I,I,I,I,O] rfl rfl (dD HT_.out (by kernel_rfl)) (by decide) (fun K hK=>?_)
               refine Kd.j6 k30 (w0:=w) w.heap.size (by rfl) (.tmp 81) (.tmp 92) 32 30 (.agg #[(.int .i64 0),(.string ⟨#[]⟩),(.string ⟨#[]⟩)]) 40 rfl Tryz.underlying32 sw rfl (by decide) (by omega) u5 BJ (⟨0,(aC Bg 0).f0,(aC Bg 0).f1.f0⟩ : S30) [.int .i64 0,.string ((aC Bg 0).f0),.string ((aC Bg 0).f1.f0)] (fun k_=>(w.heap.size ≤ k_)) (fun _=>False) rfl rfl ?aP (fun _ hk=>hk.elim) ?aF ?aO ?aB ?aS ?aL ?_
               (case aP=>exact qF _ _ _ (⟨0,(aC Bg 0).f0,(aC Bg 0).f1.f0⟩ : S30))
               (case aB=>exact hb_)
               (case aF=>exact (fun k_ hk=>(Nat.le_trans (aM hb_) hk)))
               (case aO=>exact (kr_ Bt.out))
               (case aS=>exact (aM hb_))
               (case aL=>have:=Me.out;omega)
               intro PY QD ho hb hg hat
               rw [← Mf.out] at ho
               have BN:=Aside0.mk (Kd.gD (ok:=(fun k_=>((Bw k_ ∨ Bz k_) ∨ w.heap.size ≤ k_) ∧ k_ ≠ Bq ∧ k_ ≠ Br)) (by (with_reducible repeat (first|apply Kd.bX|apply Kd.bY|apply Kd.bH));exact Kd.eG Bo.out (fun _ hk=>⟨⟨hk.1,⟨hk.2.2.1,hk.2.2.2⟩⟩,hk.2.1⟩)) hg hat)
               have BO:=Aside0.mk (Kd.gD (ok:=(fun k_=>((Bw k_ ∨ Bz k_) ∨ w.heap.size ≤ k_) ∧ k_ ≠ Bq ∧ k_ ≠ Br)) (by (with_reducible repeat (first|apply Kd.bX|apply Kd.bY|apply Kd.bH));exact Kd.eG Bn.out (fun _ hk=>⟨⟨hk.1,⟨hk.2.2.1,hk.2.2.2⟩⟩,hk.2.1⟩)) hg hat)
               have BP:=Aside0.mk (Kd.gD (ok:=(fun k_=>((Bw k_ ∨ Bz k_) ∨ w.heap.size ≤ k_) ∧ k_ ≠ Bq ∧ k_ ≠ Br)) (by (with_reducible repeat (first|apply Kd.bX|apply Kd.bY|apply Kd.bH));exact Kd.eG AZ.out (fun _ hk=>⟨⟨hk.1,⟨hk.2.2.1,hk.2.2.2⟩⟩,hk.2.1⟩)) hg hat)
               have BQ:=Aside0.mk (Kd.gD (ok:=(fun k_=>((Bw k_ ∨ Bz k_) ∨ w.heap.size ≤ k_) ∧ k_ ≠ Bq ∧ k_ ≠ Br)) (by (with_reducible repeat (first|apply Kd.bX|apply Kd.bY|apply Kd.bH));exact Kd.eG Bf.out (fun _ hk=>⟨⟨hk.1,⟨hk.2.2.1,hk.2.2.2⟩⟩,hk.2.1⟩)) hg hat)
               have BR:=Aside0.mk (fD (g:=Bq) (o:=.cells #[.int .u64 C8,.slice Ch BK.length Ci] 25 (0,0)) (bk_ Bj.out) hg (Kd.kK Bt.out Bj.out (by decide)))
               have BS:=Aside0.mk (fD (g:=Br) (o:=.cells #[.int .u64 Dc,.slice CY BL.length CZ] 25 (0,0)) (bk_ Bl.out) hg (Kd.kK Bt.out Bl.out (by decide)))
               have BU:=Aside0.mk (Kd.gD (ok:=(fun k_=>((Bw k_ ∨ Bz k_) ∨ w.heap.size ≤ k_) ∧ k_ ≠ Bq ∧ k_ ≠ Br)) (by (with_reducible repeat (first|apply Kd.bX|apply Kd.bY|apply Kd.bH));exact Kd.eG DV.out (fun _ hk=>⟨⟨hk.1,⟨hk.2.2.1,hk.2.2.2⟩⟩,hk.2.1⟩)) hg hat)
               have BX:=Aside0.mk (Kd.gD (ok:=(fun k_=>((Bw k_ ∨ Bz k_) ∨ w.heap.size ≤ k_) ∧ k_ ≠ Bq ∧ k_ ≠ Br)) (by (with_reducible repeat (first|apply Kd.bX|apply Kd.bY|apply Kd.bH));exact Kd.eG DX.out (fun _ hk=>⟨⟨hk.1,⟨hk.2.2.1,hk.2.2.2⟩⟩,hk.2.1⟩)) hg hat)
               have Dv:=Aside0.mk (hb)
               have Ea:=Aside0.mk (ho)
               clear Bo
               clear Bn
               clear AZ
               clear Bf
               clear Bj
               clear Bl
               clear DV
               clear DX
               clear HB
               clear Bt
               have Bo:=BN
               have Bn:=BO
               have AZ:=BP
               have Bf:=BQ
               have Bj:=BR
               have Bl:=BS
               have DV:=BU
               have DX:=BX
               have HB:=Dv
               have Mj:=Ea
               clear BN BO BP BQ BR BS BU BX Dv Ea
               clear ho hb hg hat
               refine hK.out _ _ ?_
               clear hK K
               refine dW (a':=?_) ?_ ?_
               rotate_left
               ·show Act.put _ (some 93) _ = _
                simp only [Act.put,List.setIfInBounds_toArray,List.set_cons_zero,List.set_cons_succ,bJ,bM]
                rfl
               refine pu_ 13 5 #[I,I,I,I,I,I,I,I,I,I,I,I,I,I] HT_.out ?_
               refine gP (fF HT_.out (by kernel_rfl)) ?_
               have NY : (1 : Int) ≤ ((Bg.length : Int) : Int):=of_decide_eq_true (by first|(with_reducible assumption)|assumption)
               obtain ⟨PZ,J6,_,J7,_⟩:=info_parts mP
               have DY : Bg.length ≤ Ii:=(Kd.dJ Bn.out).2.1
               have Mk : Kd.F k51 _ _ (some BI) Bg.length Bg:=(Kd.ou (base:=w.heap.size) Bn.out).2.2
               have K7:=iL (P:=Tryz.prog) 23 51 .i64 Tryz.underlying23 J6 7 J7 (some BI) Bg.length Ii 1 (by omega) NY
               have Io:=Kd.pU (m:=(1 : Int).toNat) (c:=Ii) Mk (by omega) DY
               obtain ⟨OH,JC⟩ : ∃ A1,A1 = (if Ii = (1 : Int).toNat then (some BI) else ((some BI) : Option Addr).map (·.add ((1 : Int).toNat * 7))):=⟨_,rfl⟩
               obtain ⟨c49,JD⟩ : ∃ c1,c1 = Ii - (1 : Int).toNat:=⟨_,rfl⟩
               have Ip : FB.length = Bg.length - (1 : Int).toNat:=(by rw [J5.out,List.length_drop] <;> omega)
               rw [show (Bg).drop (1 : Int).toNat = FB from J5.out.symm] at Io
               replace Io : Kd.F k51 _ _ OH FB.length FB:=(by rw [JC];exact Io)
               rw [← Ip,← JC,← JD] at K7
               have Ml:=Aside0.mk (show Kd.V k51 51 _ w.heap.size _ (.slice OH FB.length c49) FB from Kd.iV (by rw [Ip,JD];exact Nat.sub_le_sub_right DY _) Io)
               have OI:=Aside0.mk (show FB.length ≤ c49 from by rw [Ip,JD];exact Nat.sub_le_sub_right DY _)
               clear Io Mk DY J6 J7 JD
               have P5:=Aside0.mk Ip
               have P6:=Aside0.mk JC
               clear Ip JC
               replace NY:=eq_true NY
               try go_wp2
               go_roundg Cr
               case measure=>have:=Gz.out;have:=Hw.out;have:=Ei.out;have:=Hy.out;omega
               case rel=>exact ⟨(KV),(Bh),(FB),H',⟨by have:=Gz.out;have:=Hw.out;have:=Ei.out;have:=Hy.out;omega⟩,⟨by (with_reducible repeat (first|apply Kd.fG|apply Kd.fH|apply Kd.eD));exact Mj.out⟩,⟨by (with_reducible repeat (first|apply Kd.bX|apply Kd.bY|apply Kd.bH));exact Kd.eG Bo.out (fun _ hk=>⟨hk.1.1,⟨hk.2,⟨hk.1.2.1,hk.1.2.2⟩⟩⟩)⟩,⟨by (with_reducible repeat (first|apply Kd.bX|apply Kd.bY|apply Kd.bH));exact Kd.eG Ml.out (fun _ hk=>⟨hk.1.1,⟨hk.2,⟨hk.1.2.1,hk.1.2.2⟩⟩⟩)⟩,⟨by (with_reducible repeat (first|apply Kd.bX|apply Kd.bY|apply Kd.bH));exact Kd.eG AZ.out (fun _ hk=>⟨hk.1.1,⟨hk.2,⟨hk.1.2.1,hk.1.2.2⟩⟩⟩)⟩,⟨by (with_reducible repeat (first|apply Kd.bX|apply Kd.bY|apply Kd.bH));exact Kd.eG Bf.out (fun _ hk=>⟨hk.1.1,⟨hk.2,⟨hk.1.2.1,hk.1.2.2⟩⟩⟩)⟩,⟨by (with_reducible repeat (first|apply ay|apply aG|apply aD));exact Bj.out⟩,⟨by (with_reducible repeat (first|apply ay|apply aG|apply aD));exact Bl.out⟩,⟨hb_⟩⟩
              ·rw [if_neg Mg] at H
               exact absurd H (by simp)
             ·rw [if_neg Nq] at H
              exact absurd H (by simp)
            ·rw [if_neg Np] at H
             exact absurd H (by simp)
           ·replace Nn:=Bool.eq_false_iff.mpr Nn
            subst Nn
            have H1 : (if 0 < (Bh.length : Int) then (if 0 < (Bg.length : Int) then ((dK.f Cr ((aC Bh 0).f1.f0) ((aC Bh 0).f1.f1) ((aC Bh 0).f1.f2) ((aC Bh 0).f1.f3) ((aC Bh 0).f1.f4) ((aC Bh 0).f1.f5) ((aC Bg 0).f1.f0) ((aC Bg 0).f1.f1) ((aC Bg 0).f1.f2) ((aC Bg 0).f1.f3) ((aC Bg 0).f1.f4) ((aC Bg 0).f1.f5)).bind fun Hu=>(if Hu = true then (if 1 ≤ (Bh.length : Int) then (if 1 ≤ (Bg.length : Int) then (av.l0 Cr BJ (Bh.drop 1) (Bg.drop 1)) else (none)) else (none)) else (if BJ.length < 3518437208883 then (if 1 ≤ (Bh.length : Int) then (if 1 ≤ (Bg.length : Int) then (av.l0 Cr (BJ ++ [(⟨1,(aC Bg 0).f0,(aC Bg 0).f1.f0⟩ : S30)]) (Bh.drop 1) (Bg.drop 1)) else (none)) else (none)) else (none)))) else (none)) else (none)) = some r:=by rw [if_neg (show ¬ (false = true) by decide)] at H;exact H
            clear H
            have H:=H1
            clear H1
            by_cases Ny : 0 < (Bh.length : Int)
            ·rw [if_pos Ny] at H
             have c50b0 : decide (0 < (Bh.length : Int)) = true:=decide_eq_true Ny
             have c50b1 : decide (0 < Bh.length) = true:=decide_eq_true (by omega)
             clear Ny
             by_cases c51 : 0 < (Bg.length : Int)
             ·rw [if_pos c51] at H
              have c51b0 : decide (0 < (Bg.length : Int)) = true:=decide_eq_true c51
              have c51b1 : decide (0 < Bg.length) = true:=decide_eq_true (by omega)
              clear c51
              replace H:=Option.bind_eq_some_iff.mp H
              obtain ⟨Hu,Mq,H⟩:=H
              replace H : (if Hu = true then (if 1 ≤ (Bh.length : Int) then (if 1 ≤ (Bg.length : Int) then (av.l0 Cr BJ (Bh.drop 1) (Bg.drop 1)) else (none)) else (none)) else (if BJ.length < 3518437208883 then (if 1 ≤ (Bh.length : Int) then (if 1 ≤ (Bg.length : Int) then (av.l0 Cr (BJ ++ [(⟨1,(aC Bg 0).f0,(aC Bg 0).f1.f0⟩ : S30)]) (Bh.drop 1) (Bg.drop 1)) else (none)) else (none)) else (none))) = some r:=H
              have OJ:=Aside0.mk Mq
              clear Mq
              by_cases c53 : Hu = true
              ·subst c53
               have H1 : (if 1 ≤ (Bh.length : Int) then (if 1 ≤ (Bg.length : Int) then (av.l0 Cr BJ (Bh.drop 1) (Bg.drop 1)) else (none)) else (none)) = some r:=by rw [if_pos rfl] at H;exact H
               clear H
               have H:=H1
               clear H1
               by_cases Mr : 1 ≤ (Bh.length : Int)
               ·rw [if_pos Mr] at H
                have c54b0:=eq_true Mr
                have c54b1 : decide (1 ≤ (Bh.length : Int)) = true:=decide_eq_true Mr
                clear Mr
                obtain ⟨Ej,Gu⟩ : ∃ y_ : List (S51),y_ = (Bh.drop 1):=⟨_,rfl⟩
                replace H : (if 1 ≤ (Bg.length : Int) then (av.l0 Cr BJ Ej (Bg.drop 1)) else (none)) = some r:=by first|(rw [Gu];with_reducible exact H)|(have C9:=(Option.bind_some _ _).symm.trans H;rw [Gu];with_reducible exact C9)|(have C9:=(Option.bind_some _ _).symm.trans H;with_reducible exact C9)|with_reducible exact H|(rw [Gu];exact H)|exact H
                have J8:=Aside0.mk Gu
                clear Gu
                by_cases Ms : 1 ≤ (Bg.length : Int)
                ·rw [if_pos Ms] at H
                 have c55b0:=eq_true Ms
                 have c55b1 : decide (1 ≤ (Bg.length : Int)) = true:=decide_eq_true Ms
                 clear Ms
                 obtain ⟨y159,hy159⟩ : ∃ y_ : List (S51),y_ = (Bg.drop 1):=⟨_,rfl⟩
                 replace H : (av.l0 Cr BJ Ej y159) = some r:=by first|(rw [hy159];with_reducible exact H)|(have C9:=(Option.bind_some _ _).symm.trans H;rw [hy159];with_reducible exact C9)|(have C9:=(Option.bind_some _ _).symm.trans H;with_reducible exact C9)|with_reducible exact H|(rw [hy159];exact H)|exact H
                 have J9:=Aside0.mk hy159
                 clear hy159
                 have H':=Aside0.mk H
                 clear H
                 try go_wp2
                 have BN:=Aside0.mk (Kd.eD Bt.out)
                 have BO:=Aside0.mk (Kd.bH Bo.out)
                 have BP:=Aside0.mk (Kd.bH Bn.out)
                 have BQ:=Aside0.mk (Kd.bH AZ.out)
                 have BR:=Aside0.mk (Kd.bH Bf.out)
                 have BS:=Aside0.mk (aG Bj.out)
                 have BU:=Aside0.mk (aG Bl.out)
                 have BX:=Aside0.mk (bB HB.out)
                 clear Bt
                 clear Bo
                 clear Bn
                 clear AZ
                 clear Bf
                 clear Bj
                 clear Bl
                 clear HB
                 have Bt:=BN
                 have Bo:=BO
                 have Bn:=BP
                 have AZ:=BQ
                 have Bf:=BR
                 have Bj:=BS
                 have Bl:=BU
                 have HB:=BX
                 clear BN BO BP BQ BR BS BU BX
                 obtain ⟨P7,Iq,Mt⟩:=Kd.gG Bo.out
                 (first|subst Mt|(injection Mt with Cj Dr Ck;have Dt:=Cj.symm;have Du:=Ck.symm;clear Cj Dr Ck;subst Dt;subst Du))
                 have FX : 0 ≤ (0 : Int):=(by omega)
                 have FY : 0 < (Bh.length : Int):=of_decide_eq_true (by first|(with_reducible assumption)|assumption)
                 obtain ⟨BG,Eb,Ec,K8,Ct,Cu,Cv,Cw,Cz,CB,BZ,Dk,Dl⟩:=iA (Kd.dJ Bo.out).2.2 0 FX FY
                 cases K8
                 obtain ⟨Mv,GD,GI,Ed⟩:=Kd.jK Bo.out z51 0 FX (by first|exact FY|exact of_decide_eq_true (by first|(with_reducible assumption)|assumption)|(have e_:=(Kd.dJ Bo.out).1;omega))
                 obtain ⟨JE,JF,rfl,CF,CG⟩:=gN GI
                 have Ca:=Ed 6 _ rfl
                 rw [bT _ _ 6 (by omega)] at Ca
                 replace Ca:=Option.some.inj (Ca.symm.trans BZ)
                 injection Ca with hva_ hvn_ hvc_
                 rw [hva_] at CG
                 rw [hvc_] at CF
                 have Bu:=Aside0.mk (show Kd.V k69 69 _ w.heap.size _ _ ((aC Bh 0).f1.f5) from Kd.iV CF CG)
                 clear hva_ hvn_ hvc_ CG CF
                 clear Ed GD
                 have Mw : (0 < Bh.length) = True:=eq_true (by omega)
                 (try simp only [show ((0 : Int)).toNat = 0 from rfl,show 0 * 7 = 0 from rfl,Addr.add_zero'] at Ct Cu Cv Cw Cz CB BZ)
                 have BD:=Aside0.mk Dl
                 have FZ:=Aside0.mk Dk
                 clear Dl Dk
                 replace FX:=eq_true FX
                 replace FY:=eq_true FY
                 obtain ⟨P8,Ir,Mx⟩:=Kd.gG Bn.out
                 (first|subst Mx|(injection Mx with Cj Dr Ck;have Dt:=Cj.symm;have Du:=Ck.symm;clear Cj Dr Ck;subst Dt;subst Du))
                 have F3 : 0 ≤ (0 : Int):=(by omega)
                 have F4 : 0 < (Bg.length : Int):=of_decide_eq_true (by first|(with_reducible assumption)|assumption)
                 obtain ⟨Bp,Ee,Ef,e152,CJ,CK,CO,CP,CQ,CS,Cb,Dm,Dn⟩:=iA (Kd.dJ Bn.out).2.2 0 F3 F4
                 cases e152
                 obtain ⟨MB,GJ,GK,Eh⟩:=Kd.jK Bn.out z51 0 F3 (by first|exact F4|exact of_decide_eq_true (by first|(with_reducible assumption)|assumption)|(have e_:=(Kd.dJ Bn.out).1;omega))
                 obtain ⟨JG,JH,rfl,CU,CV⟩:=gN GK
                 have Cc:=Eh 6 _ rfl
                 rw [bT _ _ 6 (by omega)] at Cc
                 replace Cc:=Option.some.inj (Cc.symm.trans Cb)
                 injection Cc with hva_ hvn_ hvc_
                 rw [hva_] at CV
                 rw [hvc_] at CU
                 have Bv:=Aside0.mk (show Kd.V k69 69 _ w.heap.size _ _ ((aC Bg 0).f1.f5) from Kd.iV CU CV)
                 clear hva_ hvn_ hvc_ CV CU
                 clear Eh GJ
                 have MC : (0 < Bg.length) = True:=eq_true (by omega)
                 (try simp only [show ((0 : Int)).toNat = 0 from rfl,show 0 * 7 = 0 from rfl,Addr.add_zero'] at CJ CK CO CP CQ CS Cb)
                 have BF:=Aside0.mk Dn
                 have F5:=Aside0.mk Dm
                 clear Dn Dm
                 replace F3:=eq_true F3
                 replace F4:=eq_true F4
                 refine fU (n:=11) (S:=fun w'=>w'.cell? BG = some (.string ((aC Bh 0).f0)) ∧ w'.cell? ⟨BG.block,BG.off + 1,none⟩ = some (.string ((aC Bh 0).f1.f0)) ∧ w'.cell? ⟨BG.block,BG.off + 2,none⟩ = some (.string ((aC Bh 0).f1.f1)) ∧ w'.cell? ⟨BG.block,BG.off + 3,none⟩ = some (.int .i64 ((aC Bh 0).f1.f2)) ∧ w'.cell? ⟨BG.block,BG.off + 4,none⟩ = some (.int .i64 ((aC Bh 0).f1.f3)) ∧ w'.cell? ⟨BG.block,BG.off + 5,none⟩ = some (.bool ((aC Bh 0).f1.f4)) ∧ w'.cell? ⟨BG.block,BG.off + 6,none⟩ = some (.slice Eb ((aC Bh 0).f1.f5).length Ec) ∧ w'.cell? Bp = some (.string ((aC Bg 0).f0)) ∧ w'.cell? ⟨Bp.block,Bp.off + 1,none⟩ = some (.string ((aC Bg 0).f1.f0)) ∧ w'.cell? ⟨Bp.block,Bp.off + 2,none⟩ = some (.string ((aC Bg 0).f1.f1)) ∧ w'.cell? ⟨Bp.block,Bp.off + 3,none⟩ = some (.int .i64 ((aC Bg 0).f1.f2)) ∧ w'.cell? ⟨Bp.block,Bp.off + 4,none⟩ = some (.int .i64 ((aC Bg 0).f1.f3)) ∧ w'.cell? ⟨Bp.block,Bp.off + 5,none⟩ = some (.bool ((aC Bg 0).f1.f4)) ∧ w'.cell? ⟨Bp.block,Bp.off + 6,none⟩ = some (.slice Ee ((aC Bg 0).f1.f5).length Ef)) (ds:=[]) #[O,O,O,O,O,O,O,O,O,O,O] (by kernel_rfl) rfl rfl ⟨Ct,Cu,Cv,Cw,Cz,CB,BZ,CJ,CK,CO,CP,CQ,CS,Cb⟩ (fun hHeld=>?_);refine dY av.xK av.tJ (fun HT_ HW_=>?_)
                 generalize wc.drew = QE at Bt Bo Bn AZ Bf Bj Bl HB Bu Bv BD BF Ct Cu Cv Cw Cz CB BZ CJ CK CO CP CQ CS Cb hHeld ⊢
                 refine pu_ 0 56 #[I,O,O,O,O,O,O,O,O,O,O] HT_.out ?_
                 refine pu_ 1 57 #[I,I,O,O,O,O,O,O,O,O,O] HT_.out ?_
                 refine pu_ 2 58 #[I,I,I,O,O,O,O,O,O,O,O] HT_.out ?_
                 refine pu_ 4 60 #[I,I,I,O,I,O,O,O,O,O,O] HT_.out ?_
                 refine pu_ 5 61 #[I,I,I,O,I,I,O,O,O,O,O] HT_.out ?_
                 refine pu_ 6 62 #[I,I,I,O,I,I,I,O,O,O,O] HT_.out ?_
                 refine ta_ 3 59 #[I,I,I,I,I,I,I,O,O,O,O] HT_.out HW_.out hHeld ?_
                 refine ta_ 7 63 #[I,I,I,I,I,I,I,I,O,O,O] HT_.out HW_.out hHeld ?_
                 refine gq (i:=8) (N:=some 64) #[I,I,I,I,I,I,I,I,I,O,O] rfl rfl (dD HT_.out (by kernel_rfl)) (by decide) (fun K hK=>?_)
                 refine eX Tryz.func18 (by kernel_rfl) rfl #[.agg #[.string ((aC Bh 0).f1.f0),.string ((aC Bh 0).f1.f1),.int .i64 ((aC Bh 0).f1.f2),.int .i64 ((aC Bh 0).f1.f3),.bool ((aC Bh 0).f1.f4),.slice Eb ((aC Bh 0).f1.f5).length Ec],.agg #[.string ((aC Bg 0).f1.f0),.string ((aC Bg 0).f1.f1),.int .i64 ((aC Bg 0).f1.f2),.int .i64 ((aC Bg 0).f1.f3),.bool ((aC Bg 0).f1.f4),.slice Ee ((aC Bg 0).f1.f5).length Ef]] (by rfl) rfl rfl (by (try simp only [List.map_toArray,List.map_cons,List.map_nil]);first|done|rfl|(simp only [List.length_drop,List.length_take];rfl)) ?_
                 with_reducible refine (dK.calls Cr ((aC Bh 0).f1.f0) ((aC Bh 0).f1.f1) ((aC Bh 0).f1.f2) ((aC Bh 0).f1.f3) ((aC Bh 0).f1.f4) _ _ ((aC Bh 0).f1.f5) ((aC Bg 0).f1.f0) ((aC Bg 0).f1.f1) ((aC Bg 0).f1.f2) ((aC Bg 0).f1.f3) ((aC Bg 0).f1.f4) _ _ ((aC Bg 0).f1.f5) true _ ?Iu ?Iw ?Iy ?Iz OJ.out).mono ?_
                 (case Iu=>repeat (first|exact (by repeat (first|(with_reducible exact BD.out)|(with_reducible refine Kd.bD ?_ _)|(with_reducible refine Kd.bR ?_ _)|(with_reducible refine Kd.bZ ?_)|exact BD.out))|(with_reducible refine Kd.bD ?_ _)|(with_reducible refine Kd.bR ?_ _)|(with_reducible refine Kd.bZ ?_)))
                 (case Iw=>exact FZ.out)
                 (case Iy=>repeat (first|exact (by repeat (first|(with_reducible exact BF.out)|(with_reducible refine Kd.bD ?_ _)|(with_reducible refine Kd.bR ?_ _)|(with_reducible refine Kd.bZ ?_)|exact BF.out))|(with_reducible refine Kd.bD ?_ _)|(with_reducible refine Kd.bR ?_ _)|(with_reducible refine Kd.bZ ?_)))
                 (case Iz=>exact F5.out)
                 rintro e P9 ⟨rfl,hb⟩
                 have K9:=(hb.cell (World.block_lt_of_cell? _ _ (hHeld.1))).trans (hHeld.1)
                 have La:=(hb.cell (World.block_lt_of_cell? _ _ (hHeld.2.1))).trans (hHeld.2.1)
                 have Lb:=(hb.cell (World.block_lt_of_cell? _ _ (hHeld.2.2.1))).trans (hHeld.2.2.1)
                 have Lc:=(hb.cell (World.block_lt_of_cell? _ _ (hHeld.2.2.2.1))).trans (hHeld.2.2.2.1)
                 have Ld:=(hb.cell (World.block_lt_of_cell? _ _ (hHeld.2.2.2.2.1))).trans (hHeld.2.2.2.2.1)
                 have Le:=(hb.cell (World.block_lt_of_cell? _ _ (hHeld.2.2.2.2.2.1))).trans (hHeld.2.2.2.2.2.1)
                 have Lf:=(hb.cell (World.block_lt_of_cell? _ _ (hHeld.2.2.2.2.2.2.1))).trans (hHeld.2.2.2.2.2.2.1)
                 have Lg:=(hb.cell (World.block_lt_of_cell? _ _ (hHeld.2.2.2.2.2.2.2.1))).trans (hHeld.2.2.2.2.2.2.2.1)
                 have Lh:=(hb.cell (World.block_lt_of_cell? _ _ (hHeld.2.2.2.2.2.2.2.2.1))).trans (hHeld.2.2.2.2.2.2.2.2.1)
                 have Li:=(hb.cell (World.block_lt_of_cell? _ _ (hHeld.2.2.2.2.2.2.2.2.2.1))).trans (hHeld.2.2.2.2.2.2.2.2.2.1)
                 have IB:=(hb.cell (World.block_lt_of_cell? _ _ (hHeld.2.2.2.2.2.2.2.2.2.2.1))).trans (hHeld.2.2.2.2.2.2.2.2.2.2.1)
                 have IC:=(hb.cell (World.block_lt_of_cell? _ _ (hHeld.2.2.2.2.2.2.2.2.2.2.2.1))).trans (hHeld.2.2.2.2.2.2.2.2.2.2.2.1)
                 have IE:=(hb.cell (World.block_lt_of_cell? _ _ (hHeld.2.2.2.2.2.2.2.2.2.2.2.2.1))).trans (hHeld.2.2.2.2.2.2.2.2.2.2.2.2.1)
                 have IG:=(hb.cell (World.block_lt_of_cell? _ _ (hHeld.2.2.2.2.2.2.2.2.2.2.2.2.2))).trans (hHeld.2.2.2.2.2.2.2.2.2.2.2.2.2)
                 refine ⟨_,rfl,?_⟩
                 have BN:=Aside0.mk (Kd.fu (kr_ Bt.out) hb)
                 have BO:=Aside0.mk (Kd.eB (kv_ Bo.out) hb)
                 have BP:=Aside0.mk (Kd.eB (kv_ Bn.out) hb)
                 have BQ:=Aside0.mk (Kd.eB (kv_ AZ.out) hb)
                 have BR:=Aside0.mk (Kd.eB (kv_ Bf.out) hb)
                 have BS:=Aside0.mk (Kd.eB (kv_ Bu.out) hb)
                 have BU:=Aside0.mk (Kd.eB (kv_ Bv.out) hb)
                 have BX:=Aside0.mk (aN (g:=Bq) (o:=.cells #[.int .u64 C8,.slice Ch BK.length Ci] 25 (0,0)) (bk_ Bj.out) hb)
                 have Dv:=Aside0.mk (aN (g:=Br) (o:=.cells #[.int .u64 Dc,.slice CY BL.length CZ] 25 (0,0)) (bk_ Bl.out) hb)
                 have Ea:=Aside0.mk (Kd.bO (by repeat (first|(with_reducible exact BD.out)|(with_reducible refine Kd.bD ?_ _)|(with_reducible refine Kd.bR ?_ _)|(with_reducible refine Kd.bZ ?_)|exact BD.out)) hb)
                 have Da:=Aside0.mk (Kd.bO (by repeat (first|(with_reducible exact BF.out)|(with_reducible refine Kd.bD ?_ _)|(with_reducible refine Kd.bR ?_ _)|(with_reducible refine Kd.bZ ?_)|exact BF.out)) hb)
                 have Db:=Aside0.mk (aK hb_ hb)
                 clear Bt
                 clear Bo
                 clear Bn
                 clear AZ
                 clear Bf
                 clear Bu
                 clear Bv
                 clear Bj
                 clear Bl
                 clear BD
                 clear BF
                 clear HB
                 have Bt:=BN
                 have Bo:=BO
                 have Bn:=BP
                 have AZ:=BQ
                 have Bf:=BR
                 have Bu:=BS
                 have Bv:=BU
                 have Bj:=BX
                 have Bl:=Dv
                 have BD:=Ea
                 have BF:=Da
                 have HB:=Db
                 clear BN BO BP BQ BR BS BU BX Dv Ea Da Db
                 refine hK.out _ _ ⟨K9,La,Lb,Lc,Ld,Le,Lf,Lg,Lh,Li,IB,IC,IE,IG⟩ (fun hHeld=>?_)
                 clear hK K
                 refine dW (a':=?_) ?_ ?_
                 rotate_left
                 ·show Act.put _ (some 64) _ = _
                  simp only [Act.put,List.setIfInBounds_toArray,List.set_cons_zero,List.set_cons_succ,bJ,bM]
                  rfl
                 refine pu_ 9 65 #[I,I,I,I,I,I,I,I,I,I,O] HT_.out ?_
                 refine pu_ 10 55 #[I,I,I,I,I,I,I,I,I,I,I] HT_.out ?_
                 refine gP (fF HT_.out (by kernel_rfl)) ?_
                 try go_wp2
                 have BN:=Aside0.mk (Kd.eD Bt.out)
                 have BO:=Aside0.mk (Kd.bH Bo.out)
                 have BP:=Aside0.mk (Kd.bH Bn.out)
                 have BQ:=Aside0.mk (Kd.bH AZ.out)
                 have BR:=Aside0.mk (Kd.bH Bf.out)
                 have BS:=Aside0.mk (Kd.bH Bu.out)
                 have BU:=Aside0.mk (Kd.bH Bv.out)
                 have BX:=Aside0.mk (aG Bj.out)
                 have Dv:=Aside0.mk (aG Bl.out)
                 have Ea:=Aside0.mk (Kd.bZ BD.out)
                 have Da:=Aside0.mk (Kd.bZ BF.out)
                 have Db:=Aside0.mk (bB HB.out)
                 clear Bt
                 clear Bo
                 clear Bn
                 clear AZ
                 clear Bf
                 clear Bu
                 clear Bv
                 clear Bj
                 clear Bl
                 clear BD
                 clear BF
                 clear HB
                 have Bt:=BN
                 have Bo:=BO
                 have Bn:=BP
                 have AZ:=BQ
                 have Bf:=BR
                 have Bu:=BS
                 have Bv:=BU
                 have Bj:=BX
                 have Bl:=Dv
                 have BD:=Ea
                 have BF:=Da
                 have HB:=Db
                 clear BN BO BP BQ BR BS BU BX Dv Ea Da Db
                 have NZ : (1 : Int) ≤ ((Bh.length : Int) : Int):=of_decide_eq_true (by first|(with_reducible assumption)|assumption)
                 obtain ⟨Qa,Ka,_,Ke,_⟩:=info_parts mP
                 have DZ : Bh.length ≤ Iq:=(Kd.dJ Bo.out).2.1
                 have ME : Kd.F k51 _ _ (some BG) Bh.length Bh:=(Kd.ou (base:=w.heap.size) Bo.out).2.2
                 have Lj:=iL (P:=Tryz.prog) 23 51 .i64 Tryz.underlying23 Ka 7 Ke (some BG) Bh.length Iq 1 (by omega) NZ
                 have II:=Kd.pU (m:=(1 : Int).toNat) (c:=Iq) ME (by omega) DZ
                 obtain ⟨OL,JI⟩ : ∃ A1,A1 = (if Iq = (1 : Int).toNat then (some BG) else ((some BG) : Option Addr).map (·.add ((1 : Int).toNat * 7))):=⟨_,rfl⟩
                 obtain ⟨OM,JJ⟩ : ∃ c1,c1 = Iq - (1 : Int).toNat:=⟨_,rfl⟩
                 have IJ : Ej.length = Bh.length - (1 : Int).toNat:=(by rw [J8.out,List.length_drop] <;> omega)
                 rw [show (Bh).drop (1 : Int).toNat = Ej from J8.out.symm] at II
                 replace II : Kd.F k51 _ _ OL Ej.length Ej:=(by rw [JI];exact II)
                 rw [← IJ,← JI,← JJ] at Lj
                 have Kg:=Aside0.mk (show Kd.V k51 51 _ w.heap.size _ (.slice OL Ej.length OM) Ej from Kd.iV (by rw [IJ,JJ];exact Nat.sub_le_sub_right DZ _) II)
                 have OO:=Aside0.mk (show Ej.length ≤ OM from by rw [IJ,JJ];exact Nat.sub_le_sub_right DZ _)
                 clear II ME DZ Ka Ke JJ
                 have Qb:=Aside0.mk IJ
                 have Qc:=Aside0.mk JI
                 clear IJ JI
                 replace NZ:=eq_true NZ
                 have N7 : (1 : Int) ≤ ((Bg.length : Int) : Int):=of_decide_eq_true (by first|(with_reducible assumption)|assumption)
                 obtain ⟨Qd,Kh,_,Ki,_⟩:=info_parts mP
                 have D5 : Bg.length ≤ Ir:=(Kd.dJ Bn.out).2.1
                 have MF : Kd.F k51 _ _ (some Bp) Bg.length Bg:=(Kd.ou (base:=w.heap.size) Bn.out).2.2
                 have Ll:=iL (P:=Tryz.prog) 23 51 .i64 Tryz.underlying23 Kh 7 Ki (some Bp) Bg.length Ir 1 (by omega) N7
                 have IK:=Kd.pU (m:=(1 : Int).toNat) (c:=Ir) MF (by omega) D5
                 obtain ⟨OP,JK⟩ : ∃ A1,A1 = (if Ir = (1 : Int).toNat then (some Bp) else ((some Bp) : Option Addr).map (·.add ((1 : Int).toNat * 7))):=⟨_,rfl⟩
                 obtain ⟨OQ,JL⟩ : ∃ c1,c1 = Ir - (1 : Int).toNat:=⟨_,rfl⟩
                 have IL : y159.length = Bg.length - (1 : Int).toNat:=(by rw [J9.out,List.length_drop] <;> omega)
                 rw [show (Bg).drop (1 : Int).toNat = y159 from J9.out.symm] at IK
                 replace IK : Kd.F k51 _ _ OP y159.length y159:=(by rw [JK];exact IK)
                 rw [← IL,← JK,← JL] at Ll
                 have Kj:=Aside0.mk (show Kd.V k51 51 _ w.heap.size _ (.slice OP y159.length OQ) y159 from Kd.iV (by rw [IL,JL];exact Nat.sub_le_sub_right D5 _) IK)
                 have OT:=Aside0.mk (show y159.length ≤ OQ from by rw [IL,JL];exact Nat.sub_le_sub_right D5 _)
                 clear IK MF D5 Kh Ki JL
                 have Qe:=Aside0.mk IL
                 have Qf:=Aside0.mk JK
                 clear IL JK
                 replace N7:=eq_true N7
                 refine fU (n:=6) (S:=fun w'=>True) (ds:=[]) #[O,O,O,O,O,O] (by kernel_rfl) rfl rfl trivial (fun hHeld=>?_)
                 generalize P9.drew = QF at Bt Bo Bn AZ Bf Bu Bv Bj Bl BD BF HB Kg Kj hHeld ⊢
                 refine eZ (i:=0) (N:=some 109) (v:=?_) (a':=?_) #[I,O,O,O,O,O] rfl rfl (by kernel_rfl) (fun _ _ _ h=>h) (Or.inl ⟨by rfl,?_⟩) ?_ ?_
                 rotate_left
                 ·intro w'
                  go_simp
                  with_reducible rfl
                 rotate_left
                 ·simp only [Act.put,List.setIfInBounds_toArray,List.set_cons_zero,List.set_cons_succ,bJ,bM]
                  rfl
                 refine eZ (i:=1) (N:=some 110) (v:=?_) (a':=?_) #[I,I,O,O,O,O] rfl rfl (by kernel_rfl) (fun _ _ _ h=>h) (Or.inl ⟨by rfl,?_⟩) ?_ ?_
                 rotate_left
                 ·intro w'
                  go_simp
                  with_reducible rfl
                 rotate_left
                 ·simp only [Act.put,List.setIfInBounds_toArray,List.set_cons_zero,List.set_cons_succ,bJ,bM]
                  rfl
                 refine eZ (i:=2) (N:=some 111) (v:=?_) (a':=?_) #[I,I,I,O,O,O] rfl rfl (by kernel_rfl) (fun _ _ _ h=>h) (Or.inl ⟨by rfl,?_⟩) ?_ ?_
                 rotate_left
                 ·intro w'
                  go_simp
                  with_reducible rfl
                 rotate_left
                 ·simp only [Act.put,List.setIfInBounds_toArray,List.set_cons_zero,List.set_cons_succ,bJ,bM]
                  rfl
                 refine eZ (i:=3) (N:=some 112) (v:=?_) (a':=?_) #[I,I,I,I,O,O] rfl rfl (by kernel_rfl) (fun _ _ _ h=>h) (Or.inl ⟨by rfl,?_⟩) ?_ ?_
                 rotate_left
                 ·intro w'
                  go_simp
                  with_reducible rfl
                 rotate_left
                 ·simp only [Act.put,List.setIfInBounds_toArray,List.set_cons_zero,List.set_cons_succ,bJ,bM]
                  rfl
                 refine eZ (i:=4) (N:=some 6) (v:=?_) (a':=?_) #[I,I,I,I,I,O] rfl rfl (by kernel_rfl) (fun _ _ _ h=>h) (Or.inl ⟨by rfl,?_⟩) ?_ ?_
                 rotate_left
                 ·intro w'
                  go_simp
                  with_reducible rfl
                 rotate_left
                 ·simp only [Act.put,List.setIfInBounds_toArray,List.set_cons_zero,List.set_cons_succ,bJ,bM]
                  rfl
                 refine eZ (i:=5) (N:=some 7) (v:=?_) (a':=?_) #[I,I,I,I,I,I] rfl rfl (by kernel_rfl) (fun _ _ _ h=>h) (Or.inl ⟨by rfl,?_⟩) ?_ ?_
                 rotate_left
                 ·intro w'
                  go_simp
                  with_reducible rfl
                 rotate_left
                 ·simp only [Act.put,List.setIfInBounds_toArray,List.set_cons_zero,List.set_cons_succ,bJ,bM]
                  rfl
                 refine gP (by kernel_rfl) ?_
                 try go_wp2
                 go_roundg Cr
                 case measure=>have:=Gz.out;have:=Hw.out;have:=Ei.out;have:=Hy.out;omega
                 case rel=>exact ⟨(BJ),(Ej),(y159),H',⟨by have:=Gz.out;have:=Hw.out;have:=Ei.out;have:=Hy.out;omega⟩,⟨by (with_reducible repeat (first|apply Kd.fG|apply Kd.fH|apply Kd.eD));exact Bt.out⟩,⟨by (with_reducible repeat (first|apply Kd.bX|apply Kd.bY|apply Kd.bH));exact Kg.out⟩,⟨by (with_reducible repeat (first|apply Kd.bX|apply Kd.bY|apply Kd.bH));exact Kj.out⟩,⟨by (with_reducible repeat (first|apply Kd.bX|apply Kd.bY|apply Kd.bH));exact AZ.out⟩,⟨by (with_reducible repeat (first|apply Kd.bX|apply Kd.bY|apply Kd.bH));exact Bf.out⟩,⟨by (with_reducible repeat (first|apply ay|apply aG|apply aD));exact Bj.out⟩,⟨by (with_reducible repeat (first|apply ay|apply aG|apply aD));exact Bl.out⟩,⟨hb_⟩⟩
                ·rw [if_neg Ms] at H
                 exact absurd H (by simp)
               ·rw [if_neg Mr] at H
                exact absurd H (by simp)
              ·replace c53:=Bool.eq_false_iff.mpr c53
               subst c53
               have H1 : (if BJ.length < 3518437208883 then (if 1 ≤ (Bh.length : Int) then (if 1 ≤ (Bg.length : Int) then (av.l0 Cr (BJ ++ [(⟨1,(aC Bg 0).f0,(aC Bg 0).f1.f0⟩ : S30)]) (Bh.drop 1) (Bg.drop 1)) else (none)) else (none)) else (none)) = some r:=by rw [if_neg (show ¬ (false = true) by decide)] at H;exact H
               clear H
               have H:=H1
               clear H1
               by_cases Nz : BJ.length < 3518437208883
               ·rw [if_pos Nz] at H
                have MG:=Aside0.mk Nz
                clear Nz
                obtain ⟨JM,Gv⟩ : ∃ y_ : List (S30),y_ = (BJ ++ [(⟨1,(aC Bg 0).f0,(aC Bg 0).f1.f0⟩ : S30)]):=⟨_,rfl⟩
                replace H : (if 1 ≤ (Bh.length : Int) then (if 1 ≤ (Bg.length : Int) then (av.l0 Cr JM (Bh.drop 1) (Bg.drop 1)) else (none)) else (none)) = some r:=by first|(rw [Gv];with_reducible exact H)|(have C9:=(Option.bind_some _ _).symm.trans H;rw [Gv];with_reducible exact C9)|(have C9:=(Option.bind_some _ _).symm.trans H;with_reducible exact C9)|with_reducible exact H|(rw [Gv];exact H)|exact H
                have MH:=Aside0.mk Gv
                clear Gv
                by_cases c64 : 1 ≤ (Bh.length : Int)
                ·rw [if_pos c64] at H
                 have c64b0:=eq_true c64
                 have c64b1 : decide (1 ≤ (Bh.length : Int)) = true:=decide_eq_true c64
                 clear c64
                 obtain ⟨El,Gw⟩ : ∃ y_ : List (S51),y_ = (Bh.drop 1):=⟨_,rfl⟩
                 replace H : (if 1 ≤ (Bg.length : Int) then (av.l0 Cr JM El (Bg.drop 1)) else (none)) = some r:=by first|(rw [Gw];with_reducible exact H)|(have C9:=(Option.bind_some _ _).symm.trans H;rw [Gw];with_reducible exact C9)|(have C9:=(Option.bind_some _ _).symm.trans H;with_reducible exact C9)|with_reducible exact H|(rw [Gw];exact H)|exact H
                 have Kk:=Aside0.mk Gw
                 clear Gw
                 by_cases MI : 1 ≤ (Bg.length : Int)
                 ·rw [if_pos MI] at H
                  have c65b0:=eq_true MI
                  have c65b1 : decide (1 ≤ (Bg.length : Int)) = true:=decide_eq_true MI
                  clear MI
                  obtain ⟨F6,Gx⟩ : ∃ y_ : List (S51),y_ = (Bg.drop 1):=⟨_,rfl⟩
                  replace H : (av.l0 Cr JM El F6) = some r:=by first|(rw [Gx];with_reducible exact H)|(have C9:=(Option.bind_some _ _).symm.trans H;rw [Gx];with_reducible exact C9)|(have C9:=(Option.bind_some _ _).symm.trans H;with_reducible exact C9)|with_reducible exact H|(rw [Gx];exact H)|exact H
                  have Kl:=Aside0.mk Gx
                  clear Gx
                  have H':=Aside0.mk H
                  clear H
                  try go_wp2
                  have BN:=Aside0.mk (Kd.eD Bt.out)
                  have BO:=Aside0.mk (Kd.bH Bo.out)
                  have BP:=Aside0.mk (Kd.bH Bn.out)
                  have BQ:=Aside0.mk (Kd.bH AZ.out)
                  have BR:=Aside0.mk (Kd.bH Bf.out)
                  have BS:=Aside0.mk (aG Bj.out)
                  have BU:=Aside0.mk (aG Bl.out)
                  have BX:=Aside0.mk (bB HB.out)
                  clear Bt
                  clear Bo
                  clear Bn
                  clear AZ
                  clear Bf
                  clear Bj
                  clear Bl
                  clear HB
                  have Bt:=BN
                  have Bo:=BO
                  have Bn:=BP
                  have AZ:=BQ
                  have Bf:=BR
                  have Bj:=BS
                  have Bl:=BU
                  have HB:=BX
                  clear BN BO BP BQ BR BS BU BX
                  obtain ⟨Qg,IQ,MJ⟩:=Kd.gG Bo.out
                  (first|subst MJ|(injection MJ with Cj Dr Ck;have Dt:=Cj.symm;have Du:=Ck.symm;clear Cj Dr Ck;subst Dt;subst Du))
                  have FX : 0 ≤ (0 : Int):=(by omega)
                  have FY : 0 < (Bh.length : Int):=of_decide_eq_true (by first|(with_reducible assumption)|assumption)
                  obtain ⟨BG,Eb,Ec,K8,Ct,Cu,Cv,Cw,Cz,CB,BZ,Dk,Dl⟩:=iA (Kd.dJ Bo.out).2.2 0 FX FY
                  cases K8
                  obtain ⟨Mv,GD,GI,Ed⟩:=Kd.jK Bo.out z51 0 FX (by first|exact FY|exact of_decide_eq_true (by first|(with_reducible assumption)|assumption)|(have e_:=(Kd.dJ Bo.out).1;omega))
                  obtain ⟨JE,JF,rfl,CF,CG⟩:=gN GI
                  have Ca:=Ed 6 _ rfl
                  rw [bT _ _ 6 (by omega)] at Ca
                  replace Ca:=Option.some.inj (Ca.symm.trans BZ)
                  injection Ca with hva_ hvn_ hvc_
                  rw [hva_] at CG
                  rw [hvc_] at CF
                  have Bu:=Aside0.mk (show Kd.V k69 69 _ w.heap.size _ _ ((aC Bh 0).f1.f5) from Kd.iV CF CG)
                  clear hva_ hvn_ hvc_ CG CF
                  clear Ed GD
                  have Mw : (0 < Bh.length) = True:=eq_true (by omega)
                  (try simp only [show ((0 : Int)).toNat = 0 from rfl,show 0 * 7 = 0 from rfl,Addr.add_zero'] at Ct Cu Cv Cw Cz CB BZ)
                  have BD:=Aside0.mk Dl
                  have FZ:=Aside0.mk Dk
                  clear Dl Dk
                  replace FX:=eq_true FX
                  replace FY:=eq_true FY
                  obtain ⟨Qh,IU,MK⟩:=Kd.gG Bn.out
                  (first|subst MK|(injection MK with Cj Dr Ck;have Dt:=Cj.symm;have Du:=Ck.symm;clear Cj Dr Ck;subst Dt;subst Du))
                  have F3 : 0 ≤ (0 : Int):=(by omega)
                  have F4 : 0 < (Bg.length : Int):=of_decide_eq_true (by first|(with_reducible assumption)|assumption)
                  obtain ⟨Bp,Ee,Ef,e152,CJ,CK,CO,CP,CQ,CS,Cb,Dm,Dn⟩:=iA (Kd.dJ Bn.out).2.2 0 F3 F4
                  cases e152
                  obtain ⟨MB,GJ,GK,Eh⟩:=Kd.jK Bn.out z51 0 F3 (by first|exact F4|exact of_decide_eq_true (by first|(with_reducible assumption)|assumption)|(have e_:=(Kd.dJ Bn.out).1;omega))
                  obtain ⟨JG,JH,rfl,CU,CV⟩:=gN GK
                  have Cc:=Eh 6 _ rfl
                  rw [bT _ _ 6 (by omega)] at Cc
                  replace Cc:=Option.some.inj (Cc.symm.trans Cb)
                  injection Cc with hva_ hvn_ hvc_
                  rw [hva_] at CV
                  rw [hvc_] at CU
                  have Bv:=Aside0.mk (show Kd.V k69 69 _ w.heap.size _ _ ((aC Bg 0).f1.f5) from Kd.iV CU CV)
                  clear hva_ hvn_ hvc_ CV CU
                  clear Eh GJ
                  have MC : (0 < Bg.length) = True:=eq_true (by omega)
                  (try simp only [show ((0 : Int)).toNat = 0 from rfl,show 0 * 7 = 0 from rfl,Addr.add_zero'] at CJ CK CO CP CQ CS Cb)
                  have BF:=Aside0.mk Dn
                  have F5:=Aside0.mk Dm
                  clear Dn Dm
                  replace F3:=eq_true F3
                  replace F4:=eq_true F4
                  refine fU (n:=11) (S:=fun w'=>w'.cell? BG = some (.string ((aC Bh 0).f0)) ∧ w'.cell? ⟨BG.block,BG.off + 1,none⟩ = some (.string ((aC Bh 0).f1.f0)) ∧ w'.cell? ⟨BG.block,BG.off + 2,none⟩ = some (.string ((aC Bh 0).f1.f1)) ∧ w'.cell? ⟨BG.block,BG.off + 3,none⟩ = some (.int .i64 ((aC Bh 0).f1.f2)) ∧ w'.cell? ⟨BG.block,BG.off + 4,none⟩ = some (.int .i64 ((aC Bh 0).f1.f3)) ∧ w'.cell? ⟨BG.block,BG.off + 5,none⟩ = some (.bool ((aC Bh 0).f1.f4)) ∧ w'.cell? ⟨BG.block,BG.off + 6,none⟩ = some (.slice Eb ((aC Bh 0).f1.f5).length Ec) ∧ w'.cell? Bp = some (.string ((aC Bg 0).f0)) ∧ w'.cell? ⟨Bp.block,Bp.off + 1,none⟩ = some (.string ((aC Bg 0).f1.f0)) ∧ w'.cell? ⟨Bp.block,Bp.off + 2,none⟩ = some (.string ((aC Bg 0).f1.f1)) ∧ w'.cell? ⟨Bp.block,Bp.off + 3,none⟩ = some (.int .i64 ((aC Bg 0).f1.f2)) ∧ w'.cell? ⟨Bp.block,Bp.off + 4,none⟩ = some (.int .i64 ((aC Bg 0).f1.f3)) ∧ w'.cell? ⟨Bp.block,Bp.off + 5,none⟩ = some (.bool ((aC Bg 0).f1.f4)) ∧ w'.cell? ⟨Bp.block,Bp.off + 6,none⟩ = some (.slice Ee ((aC Bg 0).f1.f5).length Ef)) (ds:=[]) #[O,O,O,O,O,O,O,O,O,O,O] (by kernel_rfl) rfl rfl ⟨Ct,Cu,Cv,Cw,Cz,CB,BZ,CJ,CK,CO,CP,CQ,CS,Cb⟩ (fun hHeld=>?_);refine dY av.xK av.tJ (fun HT_ HW_=>?_)
                  generalize wc.drew = QG at Bt Bo Bn AZ Bf Bj Bl HB Bu Bv BD BF Ct Cu Cv Cw Cz CB BZ CJ CK CO CP CQ CS Cb hHeld ⊢
                  refine pu_ 0 56 #[I,O,O,O,O,O,O,O,O,O,O] HT_.out ?_
                  refine pu_ 1 57 #[I,I,O,O,O,O,O,O,O,O,O] HT_.out ?_
                  refine pu_ 2 58 #[I,I,I,O,O,O,O,O,O,O,O] HT_.out ?_
                  refine pu_ 4 60 #[I,I,I,O,I,O,O,O,O,O,O] HT_.out ?_
                  refine pu_ 5 61 #[I,I,I,O,I,I,O,O,O,O,O] HT_.out ?_
                  refine pu_ 6 62 #[I,I,I,O,I,I,I,O,O,O,O] HT_.out ?_
                  refine ta_ 3 59 #[I,I,I,I,I,I,I,O,O,O,O] HT_.out HW_.out hHeld ?_
                  refine ta_ 7 63 #[I,I,I,I,I,I,I,I,O,O,O] HT_.out HW_.out hHeld ?_
                  refine gq (i:=8) (N:=some 64) #[I,I,I,I,I,I,I,I,I,O,O] rfl rfl (dD HT_.out (by kernel_rfl)) (by decide) (fun K hK=>?_)
                  refine eX Tryz.func18 (by kernel_rfl) rfl #[.agg #[.string ((aC Bh 0).f1.f0),.string ((aC Bh 0).f1.f1),.int .i64 ((aC Bh 0).f1.f2),.int .i64 ((aC Bh 0).f1.f3),.bool ((aC Bh 0).f1.f4),.slice Eb ((aC Bh 0).f1.f5).length Ec],.agg #[.string ((aC Bg 0).f1.f0),.string ((aC Bg 0).f1.f1),.int .i64 ((aC Bg 0).f1.f2),.int .i64 ((aC Bg 0).f1.f3),.bool ((aC Bg 0).f1.f4),.slice Ee ((aC Bg 0).f1.f5).length Ef]] (by rfl) rfl rfl (by (try simp only [List.map_toArray,List.map_cons,List.map_nil]);first|done|rfl|(simp only [List.length_drop,List.length_take];rfl)) ?_
                  with_reducible refine (dK.calls Cr ((aC Bh 0).f1.f0) ((aC Bh 0).f1.f1) ((aC Bh 0).f1.f2) ((aC Bh 0).f1.f3) ((aC Bh 0).f1.f4) _ _ ((aC Bh 0).f1.f5) ((aC Bg 0).f1.f0) ((aC Bg 0).f1.f1) ((aC Bg 0).f1.f2) ((aC Bg 0).f1.f3) ((aC Bg 0).f1.f4) _ _ ((aC Bg 0).f1.f5) false _ ?Iu ?Iw ?Iy ?Iz OJ.out).mono ?_
                  (case Iu=>repeat (first|exact (by repeat (first|(with_reducible exact BD.out)|(with_reducible refine Kd.bD ?_ _)|(with_reducible refine Kd.bR ?_ _)|(with_reducible refine Kd.bZ ?_)|exact BD.out))|(with_reducible refine Kd.bD ?_ _)|(with_reducible refine Kd.bR ?_ _)|(with_reducible refine Kd.bZ ?_)))
                  (case Iw=>exact FZ.out)
                  (case Iy=>repeat (first|exact (by repeat (first|(with_reducible exact BF.out)|(with_reducible refine Kd.bD ?_ _)|(with_reducible refine Kd.bR ?_ _)|(with_reducible refine Kd.bZ ?_)|exact BF.out))|(with_reducible refine Kd.bD ?_ _)|(with_reducible refine Kd.bR ?_ _)|(with_reducible refine Kd.bZ ?_)))
                  (case Iz=>exact F5.out)
                  rintro e Qi ⟨rfl,hb⟩
                  have K9:=(hb.cell (World.block_lt_of_cell? _ _ (hHeld.1))).trans (hHeld.1)
                  have La:=(hb.cell (World.block_lt_of_cell? _ _ (hHeld.2.1))).trans (hHeld.2.1)
                  have Lb:=(hb.cell (World.block_lt_of_cell? _ _ (hHeld.2.2.1))).trans (hHeld.2.2.1)
                  have Lc:=(hb.cell (World.block_lt_of_cell? _ _ (hHeld.2.2.2.1))).trans (hHeld.2.2.2.1)
                  have Ld:=(hb.cell (World.block_lt_of_cell? _ _ (hHeld.2.2.2.2.1))).trans (hHeld.2.2.2.2.1)
                  have Le:=(hb.cell (World.block_lt_of_cell? _ _ (hHeld.2.2.2.2.2.1))).trans (hHeld.2.2.2.2.2.1)
                  have Lf:=(hb.cell (World.block_lt_of_cell? _ _ (hHeld.2.2.2.2.2.2.1))).trans (hHeld.2.2.2.2.2.2.1)
                  have Lg:=(hb.cell (World.block_lt_of_cell? _ _ (hHeld.2.2.2.2.2.2.2.1))).trans (hHeld.2.2.2.2.2.2.2.1)
                  have Lh:=(hb.cell (World.block_lt_of_cell? _ _ (hHeld.2.2.2.2.2.2.2.2.1))).trans (hHeld.2.2.2.2.2.2.2.2.1)
                  have Li:=(hb.cell (World.block_lt_of_cell? _ _ (hHeld.2.2.2.2.2.2.2.2.2.1))).trans (hHeld.2.2.2.2.2.2.2.2.2.1)
                  have IB:=(hb.cell (World.block_lt_of_cell? _ _ (hHeld.2.2.2.2.2.2.2.2.2.2.1))).trans (hHeld.2.2.2.2.2.2.2.2.2.2.1)
                  have IC:=(hb.cell (World.block_lt_of_cell? _ _ (hHeld.2.2.2.2.2.2.2.2.2.2.2.1))).trans (hHeld.2.2.2.2.2.2.2.2.2.2.2.1)
                  have IE:=(hb.cell (World.block_lt_of_cell? _ _ (hHeld.2.2.2.2.2.2.2.2.2.2.2.2.1))).trans (hHeld.2.2.2.2.2.2.2.2.2.2.2.2.1)
                  have IG:=(hb.cell (World.block_lt_of_cell? _ _ (hHeld.2.2.2.2.2.2.2.2.2.2.2.2.2))).trans (hHeld.2.2.2.2.2.2.2.2.2.2.2.2.2)
                  refine ⟨_,rfl,?_⟩
                  have BN:=Aside0.mk (Kd.fu (kr_ Bt.out) hb)
                  have BO:=Aside0.mk (Kd.eB (kv_ Bo.out) hb)
                  have BP:=Aside0.mk (Kd.eB (kv_ Bn.out) hb)
                  have BQ:=Aside0.mk (Kd.eB (kv_ AZ.out) hb)
                  have BR:=Aside0.mk (Kd.eB (kv_ Bf.out) hb)
                  have BS:=Aside0.mk (Kd.eB (kv_ Bu.out) hb)
                  have BU:=Aside0.mk (Kd.eB (kv_ Bv.out) hb)
                  have BX:=Aside0.mk (aN (g:=Bq) (o:=.cells #[.int .u64 C8,.slice Ch BK.length Ci] 25 (0,0)) (bk_ Bj.out) hb)
                  have Dv:=Aside0.mk (aN (g:=Br) (o:=.cells #[.int .u64 Dc,.slice CY BL.length CZ] 25 (0,0)) (bk_ Bl.out) hb)
                  have Ea:=Aside0.mk (Kd.bO (by repeat (first|(with_reducible exact BD.out)|(with_reducible refine Kd.bD ?_ _)|(with_reducible refine Kd.bR ?_ _)|(with_reducible refine Kd.bZ ?_)|exact BD.out)) hb)
                  have Da:=Aside0.mk (Kd.bO (by repeat (first|(with_reducible exact BF.out)|(with_reducible refine Kd.bD ?_ _)|(with_reducible refine Kd.bR ?_ _)|(with_reducible refine Kd.bZ ?_)|exact BF.out)) hb)
                  have Db:=Aside0.mk (aK hb_ hb)
                  clear Bt
                  clear Bo
                  clear Bn
                  clear AZ
                  clear Bf
                  clear Bu
                  clear Bv
                  clear Bj
                  clear Bl
                  clear BD
                  clear BF
                  clear HB
                  have Bt:=BN
                  have Bo:=BO
                  have Bn:=BP
                  have AZ:=BQ
                  have Bf:=BR
                  have Bu:=BS
                  have Bv:=BU
                  have Bj:=BX
                  have Bl:=Dv
                  have BD:=Ea
                  have BF:=Da
                  have HB:=Db
                  clear BN BO BP BQ BR BS BU BX Dv Ea Da Db
                  refine hK.out _ _ ⟨K9,La,Lb,Lc,Ld,Le,Lf,Lg,Lh,Li,IB,IC,IE,IG⟩ (fun hHeld=>?_)
                  clear hK K
                  refine dW (a':=?_) ?_ ?_
                  rotate_left
                  ·show Act.put _ (some 64) _ = _
                   simp only [Act.put,List.setIfInBounds_toArray,List.set_cons_zero,List.set_cons_succ,bJ,bM]
                   rfl
                  refine pu_ 9 65 #[I,I,I,I,I,I,I,I,I,I,O] HT_.out ?_
                  refine pu_ 10 55 #[I,I,I,I,I,I,I,I,I,I,I] HT_.out ?_
                  refine gP (fF HT_.out (by kernel_rfl)) ?_
                  try go_wp2
                  have BN:=Aside0.mk (Kd.eD Bt.out)
                  have BO:=Aside0.mk (Kd.bH Bo.out)
                  have BP:=Aside0.mk (Kd.bH Bn.out)
                  have BQ:=Aside0.mk (Kd.bH AZ.out)
                  have BR:=Aside0.mk (Kd.bH Bf.out)
                  have BS:=Aside0.mk (Kd.bH Bu.out)
                  have BU:=Aside0.mk (Kd.bH Bv.out)
                  have BX:=Aside0.mk (aG Bj.out)
                  have Dv:=Aside0.mk (aG Bl.out)
                  have Ea:=Aside0.mk (Kd.bZ BD.out)
                  have Da:=Aside0.mk (Kd.bZ BF.out)
                  have Db:=Aside0.mk (bB HB.out)
                  clear Bt
                  clear Bo
                  clear Bn
                  clear AZ
                  clear Bf
                  clear Bu
                  clear Bv
                  clear Bj
                  clear Bl
                  clear BD
                  clear BF
                  clear HB
                  have Bt:=BN
                  have Bo:=BO
                  have Bn:=BP
                  have AZ:=BQ
                  have Bf:=BR
                  have Bu:=BS
                  have Bv:=BU
                  have Bj:=BX
                  have Bl:=Dv
                  have BD:=Ea
                  have BF:=Da
                  have HB:=Db
                  clear BN BO BP BQ BR BS BU BX Dv Ea Da Db
                  have JN : 0 ≤ (0 : Int):=(by omega)
                  have JO : 0 < (Bg.length : Int):=of_decide_eq_true (by first|(with_reducible assumption)|assumption)
                  obtain ⟨ML,IV,IW,N8,F7,F8,F9,Ga,Gb,Gc,Dp,Ho,Hq⟩:=iA (Kd.dJ Bn.out).2.2 0 JN JO
                  obtain rfl : Bp = ML:=(by injection N8)
                  obtain ⟨OU,Lm,Lp,IX⟩:=Kd.jK Bn.out z51 0 JN (by first|exact JO|exact of_decide_eq_true (by first|(with_reducible assumption)|assumption)|(have e_:=(Kd.dJ Bn.out).1;omega))
                  obtain ⟨NA,NC,rfl,Gd,Gf⟩:=gN Lp
                  have D6:=IX 6 _ rfl
                  rw [bT _ _ 6 (by omega)] at D6
                  replace D6:=Option.some.inj (D6.symm.trans Dp)
                  injection D6 with hva_ hvn_ hvc_
                  rw [hva_] at Gf
                  rw [hvc_] at Gd
                  have Ce:=Aside0.mk (show Kd.V k69 69 _ w.heap.size _ _ ((aC Bg 0).f1.f5) from Kd.iV Gd Gf)
                  clear hva_ hvn_ hvc_ Gf Gd
                  clear IX Lm
                  have OV : (0 < Bg.length) = True:=eq_true (by omega)
                  (try simp only [show ((0 : Int)).toNat = 0 from rfl,show 0 * 7 = 0 from rfl,Addr.add_zero'] at F7 F8 F9 Ga Gb Gc Dp)
                  have JQ:=Aside0.mk Hq
                  have ND:=Aside0.mk Ho
                  clear Hq Ho
                  replace JN:=eq_true JN
                  replace JO:=eq_true JO
                  have JR : 0 ≤ (0 : Int):=(by omega)
                  have JU : 0 < (Bg.length : Int):=of_decide_eq_true (by first|(with_reducible assumption)|assumption)
                  obtain ⟨MN,N9,Oa,e165,Gg,Gh,Gi,Gj,Gl,Gm,Dq,Hr,Ht⟩:=iA (Kd.dJ Bn.out).2.2 0 JR JU
                  obtain rfl : Bp = MN:=(by injection e165)
                  obtain ⟨OW,Lr,Ls,IY⟩:=Kd.jK Bn.out z51 0 JR (by first|exact JU|exact of_decide_eq_true (by first|(with_reducible assumption)|assumption)|(have e_:=(Kd.dJ Bn.out).1;omega))
                  obtain ⟨NG,NH,rfl,Gn,Gp⟩:=gN Ls
                  have D7:=IY 6 _ rfl
                  rw [bT _ _ 6 (by omega)] at D7
                  replace D7:=Option.some.inj (D7.symm.trans Dq)
                  injection D7 with hva_ hvn_ hvc_
                  rw [hva_] at Gp
                  rw [hvc_] at Gn
                  have Cg:=Aside0.mk (show Kd.V k69 69 _ w.heap.size _ _ ((aC Bg 0).f1.f5) from Kd.iV Gn Gp)
                  clear hva_ hvn_ hvc_ Gp Gn
                  clear IY Lr
                  have OX : (0 < Bg.length) = True:=eq_true (by omega)
                  (try simp only [show ((0 : Int)).toNat = 0 from rfl,show 0 * 7 = 0 from rfl,Addr.add_zero'] at Gg Gh Gi Gj Gl Gm Dq)
                  have JV:=Aside0.mk Ht
                  have NI:=Aside0.mk Hr
                  clear Ht Hr
                  replace JR:=eq_true JR
                  replace JU:=eq_true JU
                  have ea_:=Option.some.inj (Dp.symm.trans Dq)
                  injection ea_ with ea_ en_ ec_
                  subst ea_
                  subst ec_
                  clear en_
                  refine fU (n:=14) (S:=fun w'=>w'.cell? Bp = some (.string ((aC Bg 0).f0)) ∧ w'.cell? ⟨Bp.block,Bp.off + 1,none⟩ = some (.string ((aC Bg 0).f1.f0)) ∧ w'.cell? ⟨Bp.block,Bp.off + 2,none⟩ = some (.string ((aC Bg 0).f1.f1)) ∧ w'.cell? ⟨Bp.block,Bp.off + 3,none⟩ = some (.int .i64 ((aC Bg 0).f1.f2)) ∧ w'.cell? ⟨Bp.block,Bp.off + 4,none⟩ = some (.int .i64 ((aC Bg 0).f1.f3)) ∧ w'.cell? ⟨Bp.block,Bp.off + 5,none⟩ = some (.bool ((aC Bg 0).f1.f4)) ∧ w'.cell? ⟨Bp.block,Bp.off + 6,none⟩ = some (.slice IV ((aC Bg 0).f1.f5).length IW) ∧ w'.cell? Bp = some (.string ((aC Bg 0).f0)) ∧ w'.cell? ⟨Bp.block,Bp.off + 1,none⟩ = some (.string ((aC Bg 0).f1.f0)) ∧ w'.cell? ⟨Bp.block,Bp.off + 2,none⟩ = some (.string ((aC Bg 0).f1.f1)) ∧ w'.cell? ⟨Bp.block,Bp.off + 3,none⟩ = some (.int .i64 ((aC Bg 0).f1.f2)) ∧ w'.cell? ⟨Bp.block,Bp.off + 4,none⟩ = some (.int .i64 ((aC Bg 0).f1.f3)) ∧ w'.cell? ⟨Bp.block,Bp.off + 5,none⟩ = some (.bool ((aC Bg 0).f1.f4)) ∧ w'.cell? ⟨Bp.block,Bp.off + 6,none⟩ = some (.slice IV ((aC Bg 0).f1.f5).length IW)) (ds:=[11,12]) #[O,O,O,O,O,O,O,O,O,O,O,O,O,O] (by kernel_rfl) rfl rfl ⟨F7,F8,F9,Ga,Gb,Gc,Dp,Gg,Gh,Gi,Gj,Gl,Gm,Dq⟩ (fun hHeld=>?_);refine dY av.Ae av.zh (fun HT_ HW_=>?_)
                  generalize Qi.drew = QH at Bt Bo Bn AZ Bf Bu Bv Bj Bl BD BF HB Ce Cg JQ JV F7 F8 F9 Ga Gb Gc Dp Gg Gh Gi Gj Gl Gm Dq hHeld ⊢
                  refine pu_ 0 96 #[I,O,O,O,O,O,O,O,O,O,O,O,O,O] HT_.out ?_
                  refine pu_ 1 97 #[I,I,O,O,O,O,O,O,O,O,O,O,O,O] HT_.out ?_
                  refine pu_ 2 98 #[I,I,I,O,O,O,O,O,O,O,O,O,O,O] HT_.out ?_
                  refine pu_ 3 99 #[I,I,I,I,O,O,O,O,O,O,O,O,O,O] HT_.out ?_
                  refine pu_ 5 101 #[I,I,I,I,O,I,O,O,O,O,O,O,O,O] HT_.out ?_
                  refine pu_ 6 102 #[I,I,I,I,O,I,I,O,O,O,O,O,O,O] HT_.out ?_
                  refine pu_ 7 103 #[I,I,I,I,O,I,I,I,O,O,O,O,O,O] HT_.out ?_
                  refine pu_ 8 104 #[I,I,I,I,O,I,I,I,I,O,O,O,O,O] HT_.out ?_
                  refine ta_ 4 100 #[I,I,I,I,I,I,I,I,I,O,O,O,O,O] HT_.out HW_.out hHeld ?_
                  refine ta_ 9 105 #[I,I,I,I,I,I,I,I,I,I,O,O,O,O] HT_.out HW_.out hHeld ?_
                  refine pu_ 10 106 #[I,I,I,I,I,I,I,I,I,I,I,O,O,O] HT_.out ?_
                  refine jT (i:=11) (N:=some 107) #[I,I,I,I,I,I,I,I,I,I,I,I,O,O] rfl rfl (dD HT_.out (by kernel_rfl)) (by decide) (fun K hK=>?_)
                  refine qo (w1:=?_) (v:=?_) (by rfl) rfl ?_ ?_
                  rotate_left 2
                  ·go_simp
                   constructor
                   ·rfl
                   ·rfl
                  refine hK.out _ _ ?_
                  clear hK K
                  refine dW (a':=?_) ?_ ?_
                  rotate_left
                  ·show Act.put _ (some 107) _ = _
                   simp only [Act.put,List.setIfInBounds_toArray,List.set_cons_zero,List.set_cons_succ,bJ,bM]
                   rfl
                  refine jT (i:=12) (N:=some 108) #[I,I,I,I,I,I,I,I,I,I,I,I,I,O] rfl rfl (dD HT_.out (by kernel_rfl)) (by decide) (fun K hK=>?_)
                  refine Kd.j6 k30 (w0:=w) w.heap.size (by rfl) (.tmp 96) (.tmp 107) 32 30 (.agg #[(.int .i64 0),(.string ⟨#[]⟩),(.string ⟨#[]⟩)]) 40 rfl Tryz.underlying32 sw rfl (by decide) (by omega) u5 BJ (⟨1,(aC Bg 0).f0,(aC Bg 0).f1.f0⟩ : S30) [.int .i64 1,.string ((aC Bg 0).f0),.string ((aC Bg 0).f1.f0)] (fun k_=>(w.heap.size ≤ k_)) (fun _=>False) rfl rfl ?aP (fun _ hk=>hk.elim) ?aF ?aO ?aB ?aS ?aL ?_
                  (case aP=>exact qF _ _ _ (⟨1,(aC Bg 0).f0,(aC Bg 0).f1.f0⟩ : S30))
                  (case aB=>exact hb_)
                  (case aF=>exact (fun k_ hk=>(Nat.le_trans (aM hb_) hk)))
                  (case aO=>exact (kr_ Bt.out))
                  (case aS=>exact (aM hb_))
                  (case aL=>have:=MG.out;omega)
                  intro v167 Qj ho hb hg hat
                  rw [← MH.out] at ho
                  have BN:=Aside0.mk (Kd.gD (ok:=(fun k_=>((Bw k_ ∨ Bz k_) ∨ w.heap.size ≤ k_) ∧ k_ ≠ Bq ∧ k_ ≠ Br)) (by (with_reducible repeat (first|apply Kd.bX|apply Kd.bY|apply Kd.bH));exact Kd.eG Bo.out (fun _ hk=>⟨⟨hk.1,⟨hk.2.2.1,hk.2.2.2⟩⟩,hk.2.1⟩)) hg hat)
                  have BO:=Aside0.mk (Kd.gD (ok:=(fun k_=>((Bw k_ ∨ Bz k_) ∨ w.heap.size ≤ k_) ∧ k_ ≠ Bq ∧ k_ ≠ Br)) (by (with_reducible repeat (first|apply Kd.bX|apply Kd.bY|apply Kd.bH));exact Kd.eG Bn.out (fun _ hk=>⟨⟨hk.1,⟨hk.2.2.1,hk.2.2.2⟩⟩,hk.2.1⟩)) hg hat)
                  have BP:=Aside0.mk (Kd.gD (ok:=(fun k_=>((Bw k_ ∨ Bz k_) ∨ w.heap.size ≤ k_) ∧ k_ ≠ Bq ∧ k_ ≠ Br)) (by (with_reducible repeat (first|apply Kd.bX|apply Kd.bY|apply Kd.bH));exact Kd.eG AZ.out (fun _ hk=>⟨⟨hk.1,⟨hk.2.2.1,hk.2.2.2⟩⟩,hk.2.1⟩)) hg hat)
                  have BQ:=Aside0.mk (Kd.gD (ok:=(fun k_=>((Bw k_ ∨ Bz k_) ∨ w.heap.size ≤ k_) ∧ k_ ≠ Bq ∧ k_ ≠ Br)) (by (with_reducible repeat (first|apply Kd.bX|apply Kd.bY|apply Kd.bH));exact Kd.eG Bf.out (fun _ hk=>⟨⟨hk.1,⟨hk.2.2.1,hk.2.2.2⟩⟩,hk.2.1⟩)) hg hat)
                  have BR:=Aside0.mk (fD (g:=Bq) (o:=.cells #[.int .u64 C8,.slice Ch BK.length Ci] 25 (0,0)) (bk_ Bj.out) hg (Kd.kK Bt.out Bj.out (by decide)))
                  have BS:=Aside0.mk (fD (g:=Br) (o:=.cells #[.int .u64 Dc,.slice CY BL.length CZ] 25 (0,0)) (bk_ Bl.out) hg (Kd.kK Bt.out Bl.out (by decide)))
                  have BU:=Aside0.mk (Kd.gD (ok:=(fun k_=>((Bw k_ ∨ Bz k_) ∨ w.heap.size ≤ k_) ∧ k_ ≠ Bq ∧ k_ ≠ Br)) (by (with_reducible repeat (first|apply Kd.bX|apply Kd.bY|apply Kd.bH));exact Kd.eG Bu.out (fun _ hk=>⟨⟨hk.1,⟨hk.2.2.1,hk.2.2.2⟩⟩,hk.2.1⟩)) hg hat)
                  have BX:=Aside0.mk (Kd.gD (ok:=(fun k_=>((Bw k_ ∨ Bz k_) ∨ w.heap.size ≤ k_) ∧ k_ ≠ Bq ∧ k_ ≠ Br)) (by (with_reducible repeat (first|apply Kd.bX|apply Kd.bY|apply Kd.bH));exact Kd.eG Bv.out (fun _ hk=>⟨⟨hk.1,⟨hk.2.2.1,hk.2.2.2⟩⟩,hk.2.1⟩)) hg hat)
                  have Dv:=Aside0.mk (Kd.gD (ok:=(fun k_=>((Bw k_ ∨ Bz k_) ∨ w.heap.size ≤ k_) ∧ k_ ≠ Bq ∧ k_ ≠ Br)) (by (with_reducible repeat (first|apply Kd.bX|apply Kd.bY|apply Kd.bH));exact Kd.eG Ce.out (fun _ hk=>⟨⟨hk.1,⟨hk.2.2.1,hk.2.2.2⟩⟩,hk.2.1⟩)) hg hat)
                  have Ea:=Aside0.mk (Kd.gD (ok:=(fun k_=>((Bw k_ ∨ Bz k_) ∨ w.heap.size ≤ k_) ∧ k_ ≠ Bq ∧ k_ ≠ Br)) (by (with_reducible repeat (first|apply Kd.bX|apply Kd.bY|apply Kd.bH));exact Kd.eG Cg.out (fun _ hk=>⟨⟨hk.1,⟨hk.2.2.1,hk.2.2.2⟩⟩,hk.2.1⟩)) hg hat)
                  have Da:=Aside0.mk (hb)
                  have Db:=Aside0.mk (ho)
                  clear Bo
                  clear Bn
                  clear AZ
                  clear Bf
                  clear Bj
                  clear Bl
                  clear Bu
                  clear Bv
                  clear Ce
                  clear Cg
                  clear HB
                  clear Bt
                  have Bo:=BN
                  have Bn:=BO
                  have AZ:=BP
                  have Bf:=BQ
                  have Bj:=BR
                  have Bl:=BS
                  have Bu:=BU
                  have Bv:=BX
                  have Ce:=Dv
                  have Cg:=Ea
                  have HB:=Da
                  have Gy:=Db
                  clear BN BO BP BQ BR BS BU BX Dv Ea Da Db
                  clear ho hb hg hat
                  refine hK.out _ _ ?_
                  clear hK K
                  refine dW (a':=?_) ?_ ?_
                  rotate_left
                  ·show Act.put _ (some 108) _ = _
                   simp only [Act.put,List.setIfInBounds_toArray,List.set_cons_zero,List.set_cons_succ,bJ,bM]
                   rfl
                  refine pu_ 13 5 #[I,I,I,I,I,I,I,I,I,I,I,I,I,I] HT_.out ?_
                  refine gP (fF HT_.out (by kernel_rfl)) ?_
                  try go_wp2
                  have BN:=Aside0.mk (Kd.bH Bo.out)
                  have BO:=Aside0.mk (Kd.bH Bn.out)
                  have BP:=Aside0.mk (Kd.bH AZ.out)
                  have BQ:=Aside0.mk (Kd.bH Bf.out)
                  have BR:=Aside0.mk (Kd.bH Bu.out)
                  have BS:=Aside0.mk (Kd.bH Bv.out)
                  have BU:=Aside0.mk (Kd.bH Ce.out)
                  have BX:=Aside0.mk (Kd.bH Cg.out)
                  have Dv:=Aside0.mk (Kd.eD Gy.out)
                  have Ea:=Aside0.mk (aG Bj.out)
                  have Da:=Aside0.mk (aG Bl.out)
                  have Db:=Aside0.mk (bB HB.out)
                  clear Bo
                  clear Bn
                  clear AZ
                  clear Bf
                  clear Bu
                  clear Bv
                  clear Ce
                  clear Cg
                  clear Gy
                  clear Bj
                  clear Bl
                  clear HB
                  have Bo:=BN
                  have Bn:=BO
                  have AZ:=BP
                  have Bf:=BQ
                  have Bu:=BR
                  have Bv:=BS
                  have Ce:=BU
                  have Cg:=BX
                  have Gy:=Dv
                  have Bj:=Ea
                  have Bl:=Da
                  have HB:=Db
                  clear BN BO BP BQ BR BS BU BX Dv Ea Da Db
                  have Ob : (1 : Int) ≤ ((Bh.length : Int) : Int):=of_decide_eq_true (by first|(with_reducible assumption)|assumption)
                  obtain ⟨Qk,Km,_,Kn,_⟩:=info_parts mP
                  have D8 : Bh.length ≤ IQ:=(Kd.dJ Bo.out).2.1
                  have MO : Kd.F k51 _ _ (some BG) Bh.length Bh:=(Kd.ou (base:=w.heap.size) Bo.out).2.2
                  have Lu:=iL (P:=Tryz.prog) 23 51 .i64 Tryz.underlying23 Km 7 Kn (some BG) Bh.length IQ 1 (by omega) Ob
                  have IZ:=Kd.pU (m:=(1 : Int).toNat) (c:=IQ) MO (by omega) D8
                  obtain ⟨OY,JW⟩ : ∃ A1,A1 = (if IQ = (1 : Int).toNat then (some BG) else ((some BG) : Option Addr).map (·.add ((1 : Int).toNat * 7))):=⟨_,rfl⟩
                  obtain ⟨OZ,JX⟩ : ∃ c1,c1 = IQ - (1 : Int).toNat:=⟨_,rfl⟩
                  have I4 : El.length = Bh.length - (1 : Int).toNat:=(by rw [Kk.out,List.length_drop] <;> omega)
                  rw [show (Bh).drop (1 : Int).toNat = El from Kk.out.symm] at IZ
                  replace IZ : Kd.F k51 _ _ OY El.length El:=(by rw [JW];exact IZ)
                  rw [← I4,← JW,← JX] at Lu
                  have Ko:=Aside0.mk (show Kd.V k51 51 _ w.heap.size _ (.slice OY El.length OZ) El from Kd.iV (by rw [I4,JX];exact Nat.sub_le_sub_right D8 _) IZ)
                  have O1:=Aside0.mk (show El.length ≤ OZ from by rw [I4,JX];exact Nat.sub_le_sub_right D8 _)
                  clear IZ MO D8 Km Kn JX
                  have Ql:=Aside0.mk I4
                  have Qm:=Aside0.mk JW
                  clear I4 JW
                  replace Ob:=eq_true Ob
                  have Oc : (1 : Int) ≤ ((Bg.length : Int) : Int):=of_decide_eq_true (by first|(with_reducible assumption)|assumption)
                  obtain ⟨Qn,Kq,_,Kr,_⟩:=info_parts mP
                  have D9 : Bg.length ≤ IU:=(Kd.dJ Bn.out).2.1
                  have MP : Kd.F k51 _ _ (some Bp) Bg.length Bg:=(Kd.ou (base:=w.heap.size) Bn.out).2.2
                  have Lv:=iL (P:=Tryz.prog) 23 51 .i64 Tryz.underlying23 Kq 7 Kr (some Bp) Bg.length IU 1 (by omega) Oc
                  have I5:=Kd.pU (m:=(1 : Int).toNat) (c:=IU) MP (by omega) D9
                  obtain ⟨O6,JY⟩ : ∃ A1,A1 = (if IU = (1 : Int).toNat then (some Bp) else ((some Bp) : Option Addr).map (·.add ((1 : Int).toNat * 7))):=⟨_,rfl⟩
                  obtain ⟨O7,JZ⟩ : ∃ c1,c1 = IU - (1 : Int).toNat:=⟨_,rfl⟩
                  have I6 : F6.length = Bg.length - (1 : Int).toNat:=(by rw [Kl.out,List.length_drop] <;> omega)
                  rw [show (Bg).drop (1 : Int).toNat = F6 from Kl.out.symm] at I5
                  replace I5 : Kd.F k51 _ _ O6 F6.length F6:=(by rw [JY];exact I5)
                  rw [← I6,← JY,← JZ] at Lv
                  have Kt:=Aside0.mk (show Kd.V k51 51 _ w.heap.size _ (.slice O6 F6.length O7) F6 from Kd.iV (by rw [I6,JZ];exact Nat.sub_le_sub_right D9 _) I5)
                  have O8:=Aside0.mk (show F6.length ≤ O7 from by rw [I6,JZ];exact Nat.sub_le_sub_right D9 _)
                  clear I5 MP D9 Kq Kr JZ
                  have Qo:=Aside0.mk I6
                  have Qp:=Aside0.mk JY
                  clear I6 JY
                  replace Oc:=eq_true Oc
                  refine fU (n:=6) (S:=fun w'=>True) (ds:=[]) #[O,O,O,O,O,O] (by kernel_rfl) rfl rfl trivial (fun hHeld=>?_)
                  generalize Qj.drew = QI at Bo Bn AZ Bf Bu Bv Ce Cg Gy Bj Bl HB Ko Kt hHeld ⊢
                  refine eZ (i:=0) (N:=some 109) (v:=?_) (a':=?_) #[I,O,O,O,O,O] rfl rfl (by kernel_rfl) (fun _ _ _ h=>h) (Or.inl ⟨by rfl,?_⟩) ?_ ?_
                  rotate_left
                  ·intro w'
                   go_simp
                   with_reducible rfl
                  rotate_left
                  ·simp only [Act.put,List.setIfInBounds_toArray,List.set_cons_zero,List.set_cons_succ,bJ,bM]
                   rfl
                  refine eZ (i:=1) (N:=some 110) (v:=?_) (a':=?_) #[I,I,O,O,O,O] rfl rfl (by kernel_rfl) (fun _ _ _ h=>h) (Or.inl ⟨by rfl,?_⟩) ?_ ?_
                  rotate_left
                  ·intro w'
                   go_simp
                   with_reducible rfl
                  rotate_left
                  ·simp only [Act.put,List.setIfInBounds_toArray,List.set_cons_zero,List.set_cons_succ,bJ,bM]
                   rfl
                  refine eZ (i:=2) (N:=some 111) (v:=?_) (a':=?_) #[I,I,I,O,O,O] rfl rfl (by kernel_rfl) (fun _ _ _ h=>h) (Or.inl ⟨by rfl,?_⟩) ?_ ?_
                  rotate_left
                  ·intro w'
                   go_simp
                   with_reducible rfl
                  rotate_left
                  ·simp only [Act.put,List.setIfInBounds_toArray,List.set_cons_zero,List.set_cons_succ,bJ,bM]
                   rfl
                  refine eZ (i:=3) (N:=some 112) (v:=?_) (a':=?_) #[I,I,I,I,O,O] rfl rfl (by kernel_rfl) (fun _ _ _ h=>h) (Or.inl ⟨by rfl,?_⟩) ?_ ?_
                  rotate_left
                  ·intro w'
                   go_simp
                   with_reducible rfl
                  rotate_left
                  ·simp only [Act.put,List.setIfInBounds_toArray,List.set_cons_zero,List.set_cons_succ,bJ,bM]
                   rfl
                  refine eZ (i:=4) (N:=some 6) (v:=?_) (a':=?_) #[I,I,I,I,I,O] rfl rfl (by kernel_rfl) (fun _ _ _ h=>h) (Or.inl ⟨by rfl,?_⟩) ?_ ?_
                  rotate_left
                  ·intro w'
                   go_simp
                   with_reducible rfl
                  rotate_left
                  ·simp only [Act.put,List.setIfInBounds_toArray,List.set_cons_zero,List.set_cons_succ,bJ,bM]
                   rfl
                  refine eZ (i:=5) (N:=some 7) (v:=?_) (a':=?_) #[I,I,I,I,I,I] rfl rfl (by kernel_rfl) (fun _ _ _ h=>h) (Or.inl ⟨by rfl,?_⟩) ?_ ?_
                  rotate_left
                  ·intro w'
                   go_simp
                   with_reducible rfl
                  rotate_left
                  ·simp only [Act.put,List.setIfInBounds_toArray,List.set_cons_zero,List.set_cons_succ,bJ,bM]
                   rfl
                  refine gP (by kernel_rfl) ?_
                  try go_wp2
                  go_roundg Cr
                  case measure=>have:=Gz.out;have:=Hw.out;have:=Ei.out;have:=Hy.out;omega
                  case rel=>exact ⟨(JM),(El),(F6),H',⟨by have:=Gz.out;have:=Hw.out;have:=Ei.out;have:=Hy.out;omega⟩,⟨by (with_reducible repeat (first|apply Kd.fG|apply Kd.fH|apply Kd.eD));exact Gy.out⟩,⟨by (with_reducible repeat (first|apply Kd.bX|apply Kd.bY|apply Kd.bH));exact Kd.eG Ko.out (fun _ hk=>⟨hk.1.1,⟨hk.2,⟨hk.1.2.1,hk.1.2.2⟩⟩⟩)⟩,⟨by (with_reducible repeat (first|apply Kd.bX|apply Kd.bY|apply Kd.bH));exact Kd.eG Kt.out (fun _ hk=>⟨hk.1.1,⟨hk.2,⟨hk.1.2.1,hk.1.2.2⟩⟩⟩)⟩,⟨by (with_reducible repeat (first|apply Kd.bX|apply Kd.bY|apply Kd.bH));exact Kd.eG AZ.out (fun _ hk=>⟨hk.1.1,⟨hk.2,⟨hk.1.2.1,hk.1.2.2⟩⟩⟩)⟩,⟨by (with_reducible repeat (first|apply Kd.bX|apply Kd.bY|apply Kd.bH));exact Kd.eG Bf.out (fun _ hk=>⟨hk.1.1,⟨hk.2,⟨hk.1.2.1,hk.1.2.2⟩⟩⟩)⟩,⟨by (with_reducible repeat (first|apply ay|apply aG|apply aD));exact Bj.out⟩,⟨by (with_reducible repeat (first|apply ay|apply aG|apply aD));exact Bl.out⟩,⟨hb_⟩⟩
                 ·rw [if_neg MI] at H
                  exact absurd H (by simp)
                ·rw [if_neg c64] at H
                 exact absurd H (by simp)
               ·rw [if_neg Nz] at H
                exact absurd H (by simp)
             ·rw [if_neg c51] at H
              exact absurd H (by simp)
            ·rw [if_neg Ny] at H
             exact absurd H (by simp)
     ·replace c11:=Bool.eq_false_iff.mpr c11
      subst c11
      have H1 : (some BJ) = some r:=by rw [if_neg (show ¬ (false = true) by decide)] at H;exact H
      clear H
      have H:=H1
      clear H1
      obtain rfl:=Option.some.inj H
      go_wp2
      go_ret
      exact ⟨_,by first|rfl|(simp [aY,aZ] <;> rfl)|(simp [*,aY,aZ] <;> rfl),by (with_reducible repeat (first|apply Kd.fG|apply Kd.fH|apply Kd.eD));exact Bt.out,hb_⟩
end Go.Proofs.YtpflenjhmeaeoaaGreatDoor.GUt
