/- Written by this session's own program (wip/gen.py) out of the translation: plain Lean functions of the Go functions, and proofs that the calls come to their answers. No conditions beside those in the statements. -/
import Derived.Test.YtpmbdcljphpcnaaDoorGC2x0
import Derived.Test.YtpmbdcljphpcnaaDoorGC2x12
namespace Go.Proofs.YtpmbdcljphpcnaaDoor.GC2
open Go.RowKit Go.Proofs.YtpmbdcljphpcnaaDoorW.PrintWords Go.Proofs.YtpmbdcljphpcnaaDoorW.PrintLast Go.Proofs.YtpmbdcljphpcnaaDoorW.PrintMore
attribute [local go_sem] eY eZ fJ fK eP eT fq fu
set_option linter.unusedVariables false
set_option linter.unusedSimpArgs false
mutual
def aN.l0 : Nat → ByteArray → Int → Int → List (S103) → Option (ByteArray)
 | 0,_,_,_,_=>none
 | k + 1,x3,x4,zl,yt=>if x4 < (yt.length : Int) then (if 0 ≤ x4 then ((bJ.f k ((ah yt x4).f0)).bind fun t208=>(if x3.size + t208.size ≤ 9223372036854775807 then ((bJ.f k ((ah yt x4).f1)).bind fun xV=>(if (x3 ++ t208).size + xV.size ≤ 9223372036854775807 then ((bJ.f k ((ah yt x4).f2)).bind fun t210=>(if ((x3 ++ t208) ++ xV).size + t210.size ≤ 9223372036854775807 then ((some (([(ah yt x4).f3] : List Int) : List Int)).bind fun xZ=>(if (((x3 ++ t208) ++ xV) ++ t210).size + (strOfNums xZ).size ≤ 9223372036854775807 then ((aT.f k 2 (IntKind.u64.wrap ((ah yt x4).f4))).bind fun yw=>(if ((((x3 ++ t208) ++ xV) ++ t210) ++ (strOfNums xZ)).size + yw.size ≤ 9223372036854775807 then ((aT.f k 1 (IntKind.u64.wrap ((((ah yt x4).f5).length : Int)))).bind fun yB=>(if (((((x3 ++ t208) ++ xV) ++ t210) ++ (strOfNums xZ)) ++ yw).size + yB.size ≤ 9223372036854775807 then (aN.l1 k ((((((x3 ++ t208) ++ xV) ++ t210) ++ (strOfNums xZ)) ++ yw) ++ yB) x4 0 zl yt ((ah yt x4).f0) ((ah yt x4).f1) ((ah yt x4).f2) ((ah yt x4).f3) ((ah yt x4).f4) ((ah yt x4).f5)) else (none))) else (none))) else (none))) else (none))) else (none))) else (none))) else (none)) else (some x3)
def aN.l1 : Nat → ByteArray → Int → Int → Int → List (S103) → ByteArray → ByteArray → ByteArray → Int → Int → List (S104) → Option (ByteArray)
 | 0,_,_,_,_,_,_,_,_,_,_,_=>none
 | k + 1,x3,x4,x6,zl,yt,zW,zX,zY,zZ,z8,zm=>if x6 < (zm.length : Int) then (if 0 ≤ x6 then ((bJ.f k ((dD zm x6).f0)).bind fun yJ=>(if x3.size + yJ.size ≤ 9223372036854775807 then ((bJ.f k ((dD zm x6).f1)).bind fun zf=>(if (x3 ++ yJ).size + zf.size ≤ 9223372036854775807 then (aN.l1 k ((x3 ++ yJ) ++ zf) x4 (wrap64 (x6 + 1)) zl yt zW zX zY zZ z8 zm) else (none))) else (none))) else (none)) else (aN.l0 k x3 (wrap64 (x4 + 1)) zl yt)
end
def aN.f (k : Nat) (xX : Int) (xI : List (S103)) : Option (ByteArray):=(aT.f k 8 xX).bind fun yX=>((aT.f k 2 (IntKind.u64.wrap ((xI.length : Int)))).bind fun yT=>(if yX.size + yT.size ≤ 9223372036854775807 then (aN.l0 k (yX ++ yT) 0 xX xI) else (none)))
theorem aN.dO : ∀ k,(∀ y0 y1 y2 y3,LeO (aN.l0 k y0 y1 y2 y3) (aN.l0 (k + 1) y0 y1 y2 y3)) ∧ (∀ y0 y1 y2 y3 y4 y5 y6 y7 y8 y9 Cn,LeO (aN.l1 k y0 y1 y2 y3 y4 y5 y6 y7 y8 y9 Cn) (aN.l1 (k + 1) y0 y1 y2 y3 y4 y5 y6 y7 y8 y9 Cn))
 | 0=>⟨fun _ _ _ _ r h=>by simp [aN.l0] at h,fun _ _ _ _ _ _ _ _ _ _ _ r h=>by simp [aN.l1] at h⟩
 | k + 1=>by
  obtain ⟨Ah,ih1⟩:=aN.dO k
  refine ⟨?_,?_⟩
  ·intro y0 y1 y2 y3
   unfold aN.l0
   repeat' first
   | (with_reducible exact Ah _ _ _ _)
   | (with_reducible exact ih1 _ _ _ _ _ _ _ _ _ _ _)
   | (with_reducible exact aT.mono _ _ _)
   | (with_reducible exact bJ.mono _ _)
   | (with_reducible exact LeO.refl _)
   | (with_reducible exact LeO.none _)
   | (with_reducible refine LeO.ite ?_ ?_)
   | (with_reducible refine LeO.bind ?_ (fun _=>?_))
   | exact Ah _ _ _ _
   | exact ih1 _ _ _ _ _ _ _ _ _ _ _
   | exact aT.mono _ _ _
   | exact bJ.mono _ _
   | exact LeO.none _
   | refine LeO.ite ?_ ?_
   | refine LeO.bind ?_ (fun _=>?_)
  ·intro y0 y1 y2 y3 y4 y5 y6 y7 y8 y9 Cn
   unfold aN.l1
   repeat' first
   | (with_reducible exact Ah _ _ _ _)
   | (with_reducible exact ih1 _ _ _ _ _ _ _ _ _ _ _)
   | (with_reducible exact aT.mono _ _ _)
   | (with_reducible exact bJ.mono _ _)
   | (with_reducible exact LeO.refl _)
   | (with_reducible exact LeO.none _)
   | (with_reducible refine LeO.ite ?_ ?_)
   | (with_reducible refine LeO.bind ?_ (fun _=>?_))
   | exact Ah _ _ _ _
   | exact ih1 _ _ _ _ _ _ _ _ _ _ _
   | exact aT.mono _ _ _
   | exact bJ.mono _ _
   | exact LeO.none _
   | refine LeO.ite ?_ ?_
   | refine LeO.bind ?_ (fun _=>?_)
theorem aN.mono : ∀ a0 a1 k,LeO (aN.f k a0 a1) (aN.f (k + 1) a0 a1):=by
 intro a0 a1 k
 obtain ⟨Ah,ih1⟩:=aN.dO k
 unfold aN.f
 repeat' first
   | (with_reducible exact Ah _ _ _ _)
   | (with_reducible exact ih1 _ _ _ _ _ _ _ _ _ _ _)
   | (with_reducible exact aT.mono _ _ _)
   | (with_reducible exact bJ.mono _ _)
   | (with_reducible exact LeO.refl _)
   | (with_reducible exact LeO.none _)
   | (with_reducible refine LeO.ite ?_ ?_)
   | (with_reducible refine LeO.bind ?_ (fun _=>?_))
   | exact Ah _ _ _ _
   | exact ih1 _ _ _ _ _ _ _ _ _ _ _
   | exact aT.mono _ _ _
   | exact bJ.mono _ _
   | exact LeO.none _
   | refine LeO.ite ?_ ?_
   | refine LeO.bind ?_ (fun _=>?_)
def aN.T1 : Bool × List (List Nat × List Nat):=(true,[([],[]),([0],[0]),([1],[1]),([],[]),([3],[3]),([4],[4]),([5],[5]),([6,2],[6]),([2,7],[2,7]),([8,7,0,1,2,3,4,5,6,7,8],[8])])
def aN.B1 : List Nat:=[0,1,3,0,8,24,56,127,255,511]
theorem aN.xu : gM .any (opsOf Tryd.f28 1) = aN.T1:=by kernel_rfl
theorem aN.vR : gJ aN.T1.2 aN.B1 = true:=by kernel_rfl
def aN.T6 : Bool × List (List Nat × List Nat):=(true,[([],[]),([],[]),([1],[1]),([2],[2]),([0,3],[0,3]),([],[]),([5],[5]),([6,3],[6]),([4,7],[4,7]),([],[]),([9],[9]),([10,7],[10]),([8,11],[8,11]),([],[]),([13],[13]),([14],[14]),([15],[15]),([12,16],[12,16]),([],[]),([18],[18]),([19],[19]),([20,11],[20]),([17,21],[17,21]),([],[]),([23],[23]),([24],[24]),([25],[25]),([26,21],[26]),([22,27],[22,27]),([28,27,0,1,2,3,4,5,6,7,8,9,10,11,12,13,14,15,16,17,18,19,20,21,22,23,24,25,26,27,28],[0,28])])
def aN.B6 : List Nat:=[0,0,2,6,15,0,32,110,255,0,512,1774,4095,0,8192,24576,57344,131071,0,262144,786432,1838830,4194303,0,8388608,25165824,58720256,129765102,268435455,536870911]
theorem aN.uM : gM .any (opsOf Tryd.f28 6) = aN.T6:=by kernel_rfl
theorem aN.rJ : gJ aN.T6.2 aN.B6 = true:=by kernel_rfl
def aN.T10 : Bool × List (List Nat × List Nat):=(true,[([],[]),([],[]),([1],[1]),([],[]),([2,3],[2,3]),([4],[4]),([5],[5]),([6],[6]),([0,7],[0,7]),([],[]),([9],[9]),([],[]),([10,11],[10,11]),([12],[12]),([13],[13]),([14,7],[14]),([8,15],[8,15]),([16,15,0,1,2,3,4,5,6,7,8,9,10,11,12,13,14,15,16],[0,16])])
def aN.B10 : List Nat:=[0,0,2,0,14,30,62,126,255,0,512,0,3584,7680,15872,32510,65535,131071]
theorem aN.vS : gM .any (opsOf Tryd.f28 10) = aN.T10:=by kernel_rfl
theorem aN.uO : gJ aN.T10.2 aN.B10 = true:=by kernel_rfl
set_option maxHeartbeats 8000000 in
set_option maxRecDepth 100000 in
theorem aN.calls (k : Nat) (xX : Int) (zx : Option Addr) (yh : Nat) (xI : List (S103)) (r : ByteArray) (w : World) (Ac : Kd.C fA w zx xI.length xI) (Ad : xI.length ≤ yh) (h : aN.f k xX xI = some r) :
  Calls Tryd.prog 28 #[.agg #[.int .u64 xX,.slice zx xI.length yh]] w fun e w'=>e = .returned (.string r) ∧ Below w.heap.size w w':=by
 have CW:=Tryd.underlying53
 have Cx:=Tryd.underlying103
 have Ar:=Aside0.mk Ac
 have Cy:=Aside0.mk Ad
 clear Ac Ad
 have HB:=Aside0.mk (Below.refl w.heap.size w)
 have H : ((aT.f k 8 xX).bind fun yX=>((aT.f k 2 (IntKind.u64.wrap ((xI.length : Int)))).bind fun yT=>(if yX.size + yT.size ≤ 9223372036854775807 then (aN.l0 k (yX ++ yT) 0 xX xI) else (none)))) = some r:=h
 clear h
 replace H:=Option.bind_eq_some_iff.mp H
 obtain ⟨yX,Ap,H⟩:=H
 replace H : ((aT.f k 2 (IntKind.u64.wrap ((xI.length : Int)))).bind fun yT=>(if yX.size + yT.size ≤ 9223372036854775807 then (aN.l0 k (yX ++ yT) 0 xX xI) else (none))) = some r:=H
 have A2:=Aside0.mk Ap
 clear Ap
 replace H:=Option.bind_eq_some_iff.mp H
 obtain ⟨yT,Cz,H⟩:=H
 replace H : (if yX.size + yT.size ≤ 9223372036854775807 then (aN.l0 k (yX ++ yT) 0 xX xI) else (none)) = some r:=H
 have A3:=Aside0.mk Cz
 clear Cz
 by_cases c4 : yX.size + yT.size ≤ 9223372036854775807
 ·rw [if_pos c4] at H
  have c4b0:=eq_true c4
  have c4b1 : decide (yX.size + yT.size ≤ 9223372036854775807) = true:=decide_eq_true c4
  try have c4b2 : (9223372036854775807 < yX.size + yT.size) = False:=eq_false (Nat.not_lt.2 c4)
  have H':=Aside0.mk H
  clear H
  go_enter Tryd.func28,Tryd.ntmps28
  try go_wp2_with (first|((with_reducible refine dN (N:=1) rfl ?_);refine dK ?hg (N:=1) ?hd (cs:=#[.int .u64 xX,.slice zx xI.length yh]) (t:=53) ?hr ?_;(case hd=>rfl);(case hg=>rfl);(case hr=>first|(go_simp;done)|(go_simp;rfl));intro xQ hg w5 hbox hb;have yc:=Aside0.mk (aQ (by repeat (first|(with_reducible first|exact HB.out|apply ay|apply aj|apply av)|exact HB.out)) hb);have yg:=Aside0.mk (hbox);have yj:=Aside0.mk ((by rw [hg];exact (aV (by repeat (first|(with_reducible first|exact HB.out|apply ay|apply aj|apply av)|exact HB.out))) : w.heap.size ≤ xQ));have yu:=Aside0.mk ((by rw [hg];exact (aV (by repeat (first|(with_reducible first|exact HB.out|apply ay|apply aj|apply av)|exact HB.out))) : w.heap.size ≤ xQ));clear HB;have HB:=yc;have xM:=yg;have CB:=yj;have xS:=yu;clear yc yg yj yu;clear hb hbox hg))
  have yc:=Aside0.mk (aG xM.out)
  have yg:=Aside0.mk (av HB.out)
  clear xM
  clear HB
  have xM:=yc
  have HB:=yg
  clear yc yg
  refine iM (n:=10) (S:=fun w'=>w'.cell? ⟨xQ,0,none⟩ = some (.int .u64 xX) ∧ w'.cell? ⟨xQ,1,none⟩ = some (.slice zx xI.length yh)) (ds:=[]) #[false,false,false,false,false,false,false,false,false,false] (by kernel_rfl) rfl rfl ⟨(au xM.out 0).trans rfl,(au xM.out 1).trans rfl⟩ (fun hHeld=>?_);refine fP aN.xu aN.vR (fun HT_ HW_=>?_)
  generalize w5.drew = w6 at xM HB hHeld ⊢
  refine cZ (i:=0) (N:=some 7) (v:=?_) (a':=?_) #[true,false,false,false,false,false,false,false,false,false] rfl rfl (cB HT_.out (by kernel_rfl)) (fun _ _ _ h=>h) (Or.inl ⟨by rfl,?_⟩) ?_ ?_
  rotate_left
  ·intro w'
   go_simp
   with_reducible rfl
  rotate_left
  ·simp only [Act.put,List.setIfInBounds_toArray,List.set_cons_zero,List.set_cons_succ,bD,bG]
   rfl
  refine cZ (i:=3) (N:=some 10) (v:=?_) (a':=?_) #[true,false,false,true,false,false,false,false,false,false] rfl rfl (cB HT_.out (by kernel_rfl)) (fun _ _ _ h=>h) (Or.inl ⟨by rfl,?_⟩) ?_ ?_
  rotate_left
  ·intro w'
   go_simp
   with_reducible rfl
  rotate_left
  ·simp only [Act.put,List.setIfInBounds_toArray,List.set_cons_zero,List.set_cons_succ,bD,bG]
   rfl
  refine eX (i:=1) (N:=some 8) (v:=?_) (a':=?_) #[true,true,false,true,false,false,false,false,false,false] rfl rfl (dR HT_.out HW_.out (by kernel_rfl)) (fun _ _ _ h=>h) (Or.inl ⟨by rfl,?_⟩) hHeld ?_ ?_
  rotate_left
  ·rintro w' ⟨s0,s1⟩
   go_simp
   with_reducible rfl
  rotate_left
  ·simp only [Act.put,List.setIfInBounds_toArray,List.set_cons_zero,List.set_cons_succ,bD,bG]
   rfl
  refine eX (i:=4) (N:=some 11) (v:=?_) (a':=?_) #[true,true,false,true,true,false,false,false,false,false] rfl rfl (dR HT_.out HW_.out (by kernel_rfl)) (fun _ _ _ h=>h) (Or.inl ⟨by rfl,?_⟩) hHeld ?_ ?_
  rotate_left
  ·rintro w' ⟨s0,s1⟩
   go_simp
   with_reducible rfl
  rotate_left
  ·simp only [Act.put,List.setIfInBounds_toArray,List.set_cons_zero,List.set_cons_succ,bD,bG]
   rfl
  refine cZ (i:=5) (N:=some 12) (v:=?_) (a':=?_) #[true,true,false,true,true,true,false,false,false,false] rfl rfl (cB HT_.out (by kernel_rfl)) (fun _ _ _ h=>h) (Or.inl ⟨by rfl,?_⟩) ?_ ?_
  rotate_left
  ·intro w'
   go_simp
   with_reducible rfl
  rotate_left
  ·simp only [Act.put,List.setIfInBounds_toArray,List.set_cons_zero,List.set_cons_succ,bD,bG]
   rfl
  refine cZ (i:=6) (N:=some 13) (v:=?_) (a':=?_) #[true,true,false,true,true,true,true,false,false,false] rfl rfl (cB HT_.out (by kernel_rfl)) (fun _ _ _ h=>h) (Or.inl ⟨by rfl,?_⟩) ?_ ?_
  rotate_left
  ·intro w'
   go_simp
   with_reducible rfl
  rotate_left
  ·simp only [Act.put,List.setIfInBounds_toArray,List.set_cons_zero,List.set_cons_succ,bD,bG]
   rfl
  refine fV (i:=2) (N:=some 9) #[true,true,true,true,true,true,true,false,false,false] rfl rfl (eB HT_.out (by kernel_rfl)) (by decide) (fun K hK=>?_)
  refine eD Tryd.func43 (by kernel_rfl) rfl #[.int .i64 8,.int .u64 xX] (by rfl) rfl rfl (by (try simp only [List.map_toArray,List.map_cons,List.map_nil]);first|done|rfl|(simp only [List.length_drop,List.length_take];rfl)) ?_
  with_reducible refine (aT.calls k 8 xX yX _ A2.out).mono ?_
  rintro e w7 ⟨rfl,hb⟩
  refine ⟨_,rfl,?_⟩
  have yc:=Aside0.mk (aK (g:=xQ) (o:=.cells #[.int .u64 xX,.slice zx xI.length yh] 53 (0,0)) (bk_ xM.out) hb)
  have yg:=Aside0.mk (aQ (by repeat (first|(with_reducible first|exact HB.out|apply ay|apply aj|apply av|refine ak ?_ xS.out)|exact HB.out)) hb)
  clear xM
  clear HB
  have xM:=yc
  have HB:=yg
  clear yc yg
  (try clear hb)
  (try clear hb2)
  (try clear hk)
  (try clear hi)
  refine hK.out _ _ ⟨(au xM.out 0).trans rfl,(au xM.out 1).trans rfl⟩ (fun hHeld=>?_)
  clear hK K
  refine bV (a':=?_) ?_ ?_
  rotate_left
  ·show Act.put _ (some 9) _ = _
   simp only [Act.put,List.setIfInBounds_toArray,List.set_cons_zero,List.set_cons_succ,bD,bG]
   rfl
  refine fV (i:=7) (N:=some 14) #[true,true,true,true,true,true,true,true,false,false] rfl rfl (eB HT_.out (by kernel_rfl)) (by decide) (fun K hK=>?_)
  refine eD Tryd.func43 (by kernel_rfl) rfl #[.int .i64 2,.int .u64 (IntKind.u64.wrap ((xI.length : Int)))] (by rfl) rfl rfl (by (try simp only [List.map_toArray,List.map_cons,List.map_nil]);first|done|rfl|(simp only [List.length_drop,List.length_take];rfl)) ?_
  with_reducible refine (aT.calls k 2 (IntKind.u64.wrap ((xI.length : Int))) yT _ A3.out).mono ?_
  rintro e w8 ⟨rfl,hb⟩
  refine ⟨_,rfl,?_⟩
  have yc:=Aside0.mk (aK (g:=xQ) (o:=.cells #[.int .u64 xX,.slice zx xI.length yh] 53 (0,0)) (bk_ xM.out) hb)
  have yg:=Aside0.mk (aQ (by repeat (first|(with_reducible first|exact HB.out|apply ay|apply aj|apply av|refine ak ?_ xS.out)|exact HB.out)) hb)
  clear xM
  clear HB
  have xM:=yc
  have HB:=yg
  clear yc yg
  (try clear hb)
  (try clear hb2)
  (try clear hk)
  (try clear hi)
  refine hK.out _ _ ⟨(au xM.out 0).trans rfl,(au xM.out 1).trans rfl⟩ (fun hHeld=>?_)
  clear hK K
  refine bV (a':=?_) ?_ ?_
  rotate_left
  ·show Act.put _ (some 14) _ = _
   simp only [Act.put,List.setIfInBounds_toArray,List.set_cons_zero,List.set_cons_succ,bD,bG]
   rfl
  refine cZ (i:=8) (N:=some 15) (v:=?_) (a':=?_) #[true,true,true,true,true,true,true,true,true,false] rfl rfl (cB HT_.out (by kernel_rfl)) (fun _ _ _ h=>h) (Or.inl ⟨by rfl,?_⟩) ?_ ?_
  rotate_left
  ·intro w'
   go_simp
   with_reducible rfl
  rotate_left
  ·simp only [Act.put,List.setIfInBounds_toArray,List.set_cons_zero,List.set_cons_succ,bD,bG]
   rfl
  refine cZ (i:=9) (N:=some 3) (v:=?_) (a':=?_) #[true,true,true,true,true,true,true,true,true,true] rfl rfl (cB HT_.out (by kernel_rfl)) (fun _ _ _ h=>h) (Or.inl ⟨by rfl,?_⟩) ?_ ?_
  rotate_left
  ·intro w'
   go_simp
   with_reducible rfl
  rotate_left
  ·simp only [Act.put,List.setIfInBounds_toArray,List.set_cons_zero,List.set_cons_succ,bD,bG]
   rfl
  refine jv (gX HT_.out (by kernel_rfl)) ?_
  try go_wp2
  go_loopg [3,4] k (fun kq v3 v4 w'=>∃ (xY : ByteArray) (xJ : Int),v3 = .string xY ∧ v4 = .int .i64 xJ ∧ Aside0 (aN.l0 kq xY xJ xX xI = some r) ∧ Aside0 (kq ≤ k) ∧ Aside0 (w'.heap[xQ]? = some (.cells #[.int .u64 xX,(.slice zx xI.length yh)] 53 (0,0))) ∧ Aside0 (Below w.heap.size w w'))
  case atStart=>exact ⟨(yX ++ yT),(0),(by first|rfl|(simp;done)|(simp [*];done)),(by first|rfl|(simp;done)|(simp [*];done)),H',⟨Nat.le_refl _⟩,⟨by (with_reducible repeat (first|apply aC|apply aG|apply aA));exact xM.out⟩,⟨by repeat (first|(with_reducible first|exact HB.out|apply ay|apply aj|apply av|refine ak ?_ xS.out)|exact HB.out)⟩⟩
  case round =>
   clear H'
   try clear c2
   try clear p2
   try clear c4
   try clear c4b0
   try clear c4b1
   try clear c4b2
   obtain ⟨xY,xJ,rfl,rfl,HA,AU,xM,HB⟩:=hrel
   cases gk with
   | zero=>exact absurd HA.out (by simp [aN.l0])
   | succ k1 =>
    have H:=HA.out
    clear HA
    simp only [aN.l0] at H
    by_cases c9 : xJ < (xI.length : Int)
    ·rw [if_pos c9] at H
     have c9b0 : decide (xJ < (xI.length : Int)) = true:=decide_eq_true c9
     clear c9
     by_cases c10 : 0 ≤ xJ
     ·rw [if_pos c10] at H
      have c10b0 : decide (0 ≤ xJ) = true:=decide_eq_true c10
      clear c10
      replace H:=Option.bind_eq_some_iff.mp H
      obtain ⟨t208,Au,H⟩:=H
      replace H : (if xY.size + t208.size ≤ 9223372036854775807 then ((bJ.f k1 ((ah xI xJ).f1)).bind fun xV=>(if (xY ++ t208).size + xV.size ≤ 9223372036854775807 then ((bJ.f k1 ((ah xI xJ).f2)).bind fun t210=>(if ((xY ++ t208) ++ xV).size + t210.size ≤ 9223372036854775807 then ((some (([(ah xI xJ).f3] : List Int) : List Int)).bind fun xZ=>(if (((xY ++ t208) ++ xV) ++ t210).size + (strOfNums xZ).size ≤ 9223372036854775807 then ((aT.f k1 2 (IntKind.u64.wrap ((ah xI xJ).f4))).bind fun yw=>(if ((((xY ++ t208) ++ xV) ++ t210) ++ (strOfNums xZ)).size + yw.size ≤ 9223372036854775807 then ((aT.f k1 1 (IntKind.u64.wrap ((((ah xI xJ).f5).length : Int)))).bind fun yB=>(if (((((xY ++ t208) ++ xV) ++ t210) ++ (strOfNums xZ)) ++ yw).size + yB.size ≤ 9223372036854775807 then (aN.l1 k1 ((((((xY ++ t208) ++ xV) ++ t210) ++ (strOfNums xZ)) ++ yw) ++ yB) xJ 0 xX xI ((ah xI xJ).f0) ((ah xI xJ).f1) ((ah xI xJ).f2) ((ah xI xJ).f3) ((ah xI xJ).f4) ((ah xI xJ).f5)) else (none))) else (none))) else (none))) else (none))) else (none))) else (none)) = some r:=H
      have Co:=Aside0.mk Au
      clear Au
      by_cases c12 : xY.size + t208.size ≤ 9223372036854775807
      ·rw [if_pos c12] at H
       have c12b0:=eq_true c12
       have c12b1 : decide (xY.size + t208.size ≤ 9223372036854775807) = true:=decide_eq_true c12
       try have c12b2 : (9223372036854775807 < xY.size + t208.size) = False:=eq_false (Nat.not_lt.2 c12)
       replace H:=Option.bind_eq_some_iff.mp H
       obtain ⟨xV,Av,H⟩:=H
       replace H : (if (xY ++ t208).size + xV.size ≤ 9223372036854775807 then ((bJ.f k1 ((ah xI xJ).f2)).bind fun t210=>(if ((xY ++ t208) ++ xV).size + t210.size ≤ 9223372036854775807 then ((some (([(ah xI xJ).f3] : List Int) : List Int)).bind fun xZ=>(if (((xY ++ t208) ++ xV) ++ t210).size + (strOfNums xZ).size ≤ 9223372036854775807 then ((aT.f k1 2 (IntKind.u64.wrap ((ah xI xJ).f4))).bind fun yw=>(if ((((xY ++ t208) ++ xV) ++ t210) ++ (strOfNums xZ)).size + yw.size ≤ 9223372036854775807 then ((aT.f k1 1 (IntKind.u64.wrap ((((ah xI xJ).f5).length : Int)))).bind fun yB=>(if (((((xY ++ t208) ++ xV) ++ t210) ++ (strOfNums xZ)) ++ yw).size + yB.size ≤ 9223372036854775807 then (aN.l1 k1 ((((((xY ++ t208) ++ xV) ++ t210) ++ (strOfNums xZ)) ++ yw) ++ yB) xJ 0 xX xI ((ah xI xJ).f0) ((ah xI xJ).f1) ((ah xI xJ).f2) ((ah xI xJ).f3) ((ah xI xJ).f4) ((ah xI xJ).f5)) else (none))) else (none))) else (none))) else (none))) else (none)) = some r:=H
       have Cq:=Aside0.mk Av
       clear Av
       by_cases c14 : (xY ++ t208).size + xV.size ≤ 9223372036854775807
       ·rw [if_pos c14] at H
        have c14b0:=eq_true c14
        have c14b1 : decide ((xY ++ t208).size + xV.size ≤ 9223372036854775807) = true:=decide_eq_true c14
        try have c14b2 : (9223372036854775807 < (xY ++ t208).size + xV.size) = False:=eq_false (Nat.not_lt.2 c14)
        have c14s:=c14
        try simp only [ByteArray.size_append] at c14s
        try have c14s0:=eq_false (Nat.not_lt.2 c14s)
        try have c14s1:=eq_true c14s
        replace H:=Option.bind_eq_some_iff.mp H
        obtain ⟨t210,Aw,H⟩:=H
        replace H : (if ((xY ++ t208) ++ xV).size + t210.size ≤ 9223372036854775807 then ((some (([(ah xI xJ).f3] : List Int) : List Int)).bind fun xZ=>(if (((xY ++ t208) ++ xV) ++ t210).size + (strOfNums xZ).size ≤ 9223372036854775807 then ((aT.f k1 2 (IntKind.u64.wrap ((ah xI xJ).f4))).bind fun yw=>(if ((((xY ++ t208) ++ xV) ++ t210) ++ (strOfNums xZ)).size + yw.size ≤ 9223372036854775807 then ((aT.f k1 1 (IntKind.u64.wrap ((((ah xI xJ).f5).length : Int)))).bind fun yB=>(if (((((xY ++ t208) ++ xV) ++ t210) ++ (strOfNums xZ)) ++ yw).size + yB.size ≤ 9223372036854775807 then (aN.l1 k1 ((((((xY ++ t208) ++ xV) ++ t210) ++ (strOfNums xZ)) ++ yw) ++ yB) xJ 0 xX xI ((ah xI xJ).f0) ((ah xI xJ).f1) ((ah xI xJ).f2) ((ah xI xJ).f3) ((ah xI xJ).f4) ((ah xI xJ).f5)) else (none))) else (none))) else (none))) else (none)) = some r:=H
        have Cr:=Aside0.mk Aw
        clear Aw
        by_cases c16 : ((xY ++ t208) ++ xV).size + t210.size ≤ 9223372036854775807
        ·rw [if_pos c16] at H
         have c16b0:=eq_true c16
         have c16b1 : decide (((xY ++ t208) ++ xV).size + t210.size ≤ 9223372036854775807) = true:=decide_eq_true c16
         try have c16b2 : (9223372036854775807 < ((xY ++ t208) ++ xV).size + t210.size) = False:=eq_false (Nat.not_lt.2 c16)
         have c16s:=c16
         try simp only [ByteArray.size_append] at c16s
         try have c16s0:=eq_false (Nat.not_lt.2 c16s)
         try have c16s1:=eq_true c16s
         obtain ⟨xZ,zG⟩ : ∃ y_ : List Int,y_ = (([(ah xI xJ).f3] : List Int)):=⟨_,rfl⟩
         replace H : (if (((xY ++ t208) ++ xV) ++ t210).size + (strOfNums xZ).size ≤ 9223372036854775807 then ((aT.f k1 2 (IntKind.u64.wrap ((ah xI xJ).f4))).bind fun yw=>(if ((((xY ++ t208) ++ xV) ++ t210) ++ (strOfNums xZ)).size + yw.size ≤ 9223372036854775807 then ((aT.f k1 1 (IntKind.u64.wrap ((((ah xI xJ).f5).length : Int)))).bind fun yB=>(if (((((xY ++ t208) ++ xV) ++ t210) ++ (strOfNums xZ)) ++ yw).size + yB.size ≤ 9223372036854775807 then (aN.l1 k1 ((((((xY ++ t208) ++ xV) ++ t210) ++ (strOfNums xZ)) ++ yw) ++ yB) xJ 0 xX xI ((ah xI xJ).f0) ((ah xI xJ).f1) ((ah xI xJ).f2) ((ah xI xJ).f3) ((ah xI xJ).f4) ((ah xI xJ).f5)) else (none))) else (none))) else (none)) = some r:=by first|(rw [zG];with_reducible exact H)|(have Ct:=(Option.bind_some _ _).symm.trans H;rw [zG];with_reducible exact Ct)|(have Ct:=(Option.bind_some _ _).symm.trans H;with_reducible exact Ct)|with_reducible exact H|(rw [zG];exact H)|exact H
         have yI:=Aside0.mk zG
         clear zG
         by_cases c17 : (((xY ++ t208) ++ xV) ++ t210).size + (strOfNums xZ).size ≤ 9223372036854775807
         ·rw [if_pos c17] at H
          have c17b0:=eq_true c17
          have c17b1 : decide ((((xY ++ t208) ++ xV) ++ t210).size + (strOfNums xZ).size ≤ 9223372036854775807) = true:=decide_eq_true c17
          try have c17b2 : (9223372036854775807 < (((xY ++ t208) ++ xV) ++ t210).size + (strOfNums xZ).size) = False:=eq_false (Nat.not_lt.2 c17)
          have c17s:=c17
          try simp only [ByteArray.size_append] at c17s
          try have c17s0:=eq_false (Nat.not_lt.2 c17s)
          try have c17s1:=eq_true c17s
          replace H:=Option.bind_eq_some_iff.mp H
          obtain ⟨yw,Ay,H⟩:=H
          replace H : (if ((((xY ++ t208) ++ xV) ++ t210) ++ (strOfNums xZ)).size + yw.size ≤ 9223372036854775807 then ((aT.f k1 1 (IntKind.u64.wrap ((((ah xI xJ).f5).length : Int)))).bind fun yB=>(if (((((xY ++ t208) ++ xV) ++ t210) ++ (strOfNums xZ)) ++ yw).size + yB.size ≤ 9223372036854775807 then (aN.l1 k1 ((((((xY ++ t208) ++ xV) ++ t210) ++ (strOfNums xZ)) ++ yw) ++ yB) xJ 0 xX xI ((ah xI xJ).f0) ((ah xI xJ).f1) ((ah xI xJ).f2) ((ah xI xJ).f3) ((ah xI xJ).f4) ((ah xI xJ).f5)) else (none))) else (none)) = some r:=H
          have Cu:=Aside0.mk Ay
          clear Ay
          by_cases c19 : ((((xY ++ t208) ++ xV) ++ t210) ++ (strOfNums xZ)).size + yw.size ≤ 9223372036854775807
          ·rw [if_pos c19] at H
           have c19b0:=eq_true c19
           have c19b1 : decide (((((xY ++ t208) ++ xV) ++ t210) ++ (strOfNums xZ)).size + yw.size ≤ 9223372036854775807) = true:=decide_eq_true c19
           try have c19b2 : (9223372036854775807 < ((((xY ++ t208) ++ xV) ++ t210) ++ (strOfNums xZ)).size + yw.size) = False:=eq_false (Nat.not_lt.2 c19)
           have c19s:=c19
           try simp only [ByteArray.size_append] at c19s
           try have c19s0:=eq_false (Nat.not_lt.2 c19s)
           try have c19s1:=eq_true c19s
           replace H:=Option.bind_eq_some_iff.mp H
           obtain ⟨yB,Az,H⟩:=H
           replace H : (if (((((xY ++ t208) ++ xV) ++ t210) ++ (strOfNums xZ)) ++ yw).size + yB.size ≤ 9223372036854775807 then (aN.l1 k1 ((((((xY ++ t208) ++ xV) ++ t210) ++ (strOfNums xZ)) ++ yw) ++ yB) xJ 0 xX xI ((ah xI xJ).f0) ((ah xI xJ).f1) ((ah xI xJ).f2) ((ah xI xJ).f3) ((ah xI xJ).f4) ((ah xI xJ).f5)) else (none)) = some r:=H
           have Ap:=Aside0.mk Az
           clear Az
           by_cases c21 : (((((xY ++ t208) ++ xV) ++ t210) ++ (strOfNums xZ)) ++ yw).size + yB.size ≤ 9223372036854775807
           ·rw [if_pos c21] at H
            have c21b0:=eq_true c21
            have c21b1 : decide ((((((xY ++ t208) ++ xV) ++ t210) ++ (strOfNums xZ)) ++ yw).size + yB.size ≤ 9223372036854775807) = true:=decide_eq_true c21
            try have c21b2 : (9223372036854775807 < (((((xY ++ t208) ++ xV) ++ t210) ++ (strOfNums xZ)) ++ yw).size + yB.size) = False:=eq_false (Nat.not_lt.2 c21)
            have c21s:=c21
            try simp only [ByteArray.size_append] at c21s
            try have c21s0:=eq_false (Nat.not_lt.2 c21s)
            try have c21s1:=eq_true c21s
            have H':=Aside0.mk H
            clear H
            have AV : wr.cell? ⟨xQ,0,none⟩ = some (.int .u64 xX):=(au xM.out 0).trans rfl
            have AX : wr.cell? ⟨xQ,1,none⟩ = some (.slice zx xI.length yh):=(au xM.out 1).trans rfl
            have AY:=aH xM.out 0
            have AZ:=aH xM.out 1
            have Ai : 0 ≤ (xJ : Int):=of_decide_eq_true (by first|(with_reducible assumption)|assumption)
            have Aj : xJ < (xI.length : Int):=of_decide_eq_true (by first|(with_reducible assumption)|assumption)
            obtain ⟨xU,xP,xO,e206,zy,zA,zB,zC,zD,zF,zJ,zK⟩:=jM Ar.out xJ Ai Aj
            cases e206
            replace zy:=(HB.out.cell (World.block_lt_of_cell? w _ zy)).trans zy
            replace zA:=(HB.out.cell (World.block_lt_of_cell? w _ zA)).trans zA
            replace zB:=(HB.out.cell (World.block_lt_of_cell? w _ zB)).trans zB
            replace zC:=(HB.out.cell (World.block_lt_of_cell? w _ zC)).trans zC
            replace zD:=(HB.out.cell (World.block_lt_of_cell? w _ zD)).trans zD
            replace zF:=(HB.out.cell (World.block_lt_of_cell? w _ zF)).trans zF
            have zL:=Aside0.mk zK
            have A9:=Aside0.mk zJ
            clear zK zJ
            replace Ai:=eq_true Ai
            replace Aj:=eq_true Aj
            try go_wp2_with (first|((with_reducible refine dN (N:=5) rfl ?_);refine dK ?hg (N:=5) ?hd (cs:=#[.string (⟨#[]⟩ : ByteArray),.string (⟨#[]⟩ : ByteArray),.string (⟨#[]⟩ : ByteArray),.int .u8 0,.int .u16 0,.slice none 0 0]) (t:=103) ?hr ?_;(case hd=>rfl);(case hg=>rfl);(case hr=>first|(go_simp;done)|(go_simp;rfl));intro xL hg zV hbox hb;have yc:=Aside0.mk (aK (g:=xQ) (o:=.cells #[.int .u64 xX,.slice (some xU) xI.length yh] 53 (0,0)) (bk_ xM.out) hb);have yg:=Aside0.mk (aQ (by repeat (first|(with_reducible first|exact HB.out|apply ay|apply aj|apply av|refine ak ?_ xS.out)|exact HB.out)) hb);have yj:=Aside0.mk (hbox);have yu:=Aside0.mk ((by rw [hg];exact (aV (by repeat (first|(with_reducible first|exact HB.out|apply ay|apply aj|apply av|refine ak ?_ xS.out)|exact HB.out))) : w.heap.size ≤ xL));have CF:=Aside0.mk ((by rw [hg];exact (aV (by repeat (first|(with_reducible first|exact HB.out|apply ay|apply aj|apply av|refine ak ?_ xS.out)|exact HB.out))) : w.heap.size ≤ xL));have CG:=Aside0.mk ((by rw [hg];exact Nat.ne_of_lt (bP (g:=xQ) (o:=.cells #[.int .u64 xX,.slice (some xU) xI.length yh] 53 (0,0)) (bk_ xM.out)) : xQ ≠ xL));have CJ:=Aside0.mk ((by rw [hg];exact Nat.ne_of_gt (bP (g:=xQ) (o:=.cells #[.int .u64 xX,.slice (some xU) xI.length yh] 53 (0,0)) (bk_ xM.out)) : xL ≠ xQ));clear xM;clear HB;have xM:=yc;have HB:=yg;have xK:=yj;have CK:=yu;have xW:=CF;have yx:=CG;have zh:=CJ;clear yc yg yj yu CF CG CJ;clear hb hbox hg;have CO:=zh.out;have CP:=yx.out;have Bf : zV.cell? ⟨xL,0,none⟩ = some (.string (⟨#[]⟩ : ByteArray)):=(au xK.out 0).trans rfl;have Bg : zV.cell? ⟨xL,1,none⟩ = some (.string (⟨#[]⟩ : ByteArray)):=(au xK.out 1).trans rfl;have Bh : zV.cell? ⟨xL,2,none⟩ = some (.string (⟨#[]⟩ : ByteArray)):=(au xK.out 2).trans rfl;have Bj : zV.cell? ⟨xL,3,none⟩ = some (.int .u8 0):=(au xK.out 3).trans rfl;have Bl : zV.cell? ⟨xL,4,none⟩ = some (.int .u16 0):=(au xK.out 4).trans rfl;have Bn : zV.cell? ⟨xL,5,none⟩ = some (.slice none 0 0):=(au xK.out 5).trans rfl;have Bo:=aH xK.out 0;have Bp:=aH xK.out 1;have Bq:=aH xK.out 2;have Br:=aH xK.out 3;have Bt:=aH xK.out 4;have Bu:=aH xK.out 5))
            have yc : Aside0 (((((((zV.setCell ⟨xL,0,none⟩ (.string ((ah xI xJ).f0))).setCell ⟨xL,1,none⟩ (.string ((ah xI xJ).f1))).setCell ⟨xL,2,none⟩ (.string ((ah xI xJ).f2))).setCell ⟨xL,3,none⟩ (.int .u8 ((ah xI xJ).f3))).setCell ⟨xL,4,none⟩ (.int .u16 ((ah xI xJ).f4))).setCell ⟨xL,5,none⟩ (.slice xP ((ah xI xJ).f5).length xO)).heap[xQ]? = some (.cells #[.int .u64 xX,.slice (some xU) xI.length yh] 53 (0,0))):=⟨by (with_reducible repeat (first|apply aC|apply aG|apply aA));refine aU ?_ yx.out _;(with_reducible repeat (first|apply aC|apply aG|apply aA));refine aU ?_ yx.out _;(with_reducible repeat (first|apply aC|apply aG|apply aA));refine aU ?_ yx.out _;(with_reducible repeat (first|apply aC|apply aG|apply aA));refine aU ?_ yx.out _;(with_reducible repeat (first|apply aC|apply aG|apply aA));refine aU ?_ yx.out _;(with_reducible repeat (first|apply aC|apply aG|apply aA));refine aU ?_ yx.out _;(with_reducible repeat (first|apply aC|apply aG|apply aA));exact xM.out⟩
            have yg : Aside0 (((((((zV.setCell ⟨xL,0,none⟩ (.string ((ah xI xJ).f0))).setCell ⟨xL,1,none⟩ (.string ((ah xI xJ).f1))).setCell ⟨xL,2,none⟩ (.string ((ah xI xJ).f2))).setCell ⟨xL,3,none⟩ (.int .u8 ((ah xI xJ).f3))).setCell ⟨xL,4,none⟩ (.int .u16 ((ah xI xJ).f4))).setCell ⟨xL,5,none⟩ (.slice xP ((ah xI xJ).f5).length xO)).heap[xL]? = some (.cells #[.string ((ah xI xJ).f0),.string ((ah xI xJ).f1),.string ((ah xI xJ).f2),.int .u8 ((ah xI xJ).f3),.int .u16 ((ah xI xJ).f4),.slice xP ((ah xI xJ).f5).length xO] 103 (0,0))):=⟨by (with_reducible repeat (first|apply aC|apply aG|apply aA));refine bE (cs:=#[.string ((ah xI xJ).f0),.string ((ah xI xJ).f1),.string ((ah xI xJ).f2),.int .u8 ((ah xI xJ).f3),.int .u16 ((ah xI xJ).f4),.slice none 0 0]) ?_ 5 _ rfl;(with_reducible repeat (first|apply aC|apply aG|apply aA));refine bE (cs:=#[.string ((ah xI xJ).f0),.string ((ah xI xJ).f1),.string ((ah xI xJ).f2),.int .u8 ((ah xI xJ).f3),.int .u16 0,.slice none 0 0]) ?_ 4 _ rfl;(with_reducible repeat (first|apply aC|apply aG|apply aA));refine bE (cs:=#[.string ((ah xI xJ).f0),.string ((ah xI xJ).f1),.string ((ah xI xJ).f2),.int .u8 0,.int .u16 0,.slice none 0 0]) ?_ 3 _ rfl;(with_reducible repeat (first|apply aC|apply aG|apply aA));refine bE (cs:=#[.string ((ah xI xJ).f0),.string ((ah xI xJ).f1),.string (⟨#[]⟩ : ByteArray),.int .u8 0,.int .u16 0,.slice none 0 0]) ?_ 2 _ rfl;(with_reducible repeat (first|apply aC|apply aG|apply aA));refine bE (cs:=#[.string ((ah xI xJ).f0),.string (⟨#[]⟩ : ByteArray),.string (⟨#[]⟩ : ByteArray),.int .u8 0,.int .u16 0,.slice none 0 0]) ?_ 1 _ rfl;(with_reducible repeat (first|apply aC|apply aG|apply aA));refine bE (cs:=#[.string (⟨#[]⟩ : ByteArray),.string (⟨#[]⟩ : ByteArray),.string (⟨#[]⟩ : ByteArray),.int .u8 0,.int .u16 0,.slice none 0 0]) ?_ 0 _ rfl;(with_reducible repeat (first|apply aC|apply aG|apply aA));exact xK.out⟩
            have yj : Aside0 (Below w.heap.size w ((((((zV.setCell ⟨xL,0,none⟩ (.string ((ah xI xJ).f0))).setCell ⟨xL,1,none⟩ (.string ((ah xI xJ).f1))).setCell ⟨xL,2,none⟩ (.string ((ah xI xJ).f2))).setCell ⟨xL,3,none⟩ (.int .u8 ((ah xI xJ).f3))).setCell ⟨xL,4,none⟩ (.int .u16 ((ah xI xJ).f4))).setCell ⟨xL,5,none⟩ (.slice xP ((ah xI xJ).f5).length xO))):=⟨by repeat (first|(with_reducible first|exact HB.out|apply ay|apply aj|apply av|refine ak ?_ xS.out|refine ak ?_ xW.out)|exact HB.out)⟩
            (try clear xM)
            (try clear xK)
            (try clear HB)
            generalize ((((((zV.setCell ⟨xL,0,none⟩ (.string ((ah xI xJ).f0))).setCell ⟨xL,1,none⟩ (.string ((ah xI xJ).f1))).setCell ⟨xL,2,none⟩ (.string ((ah xI xJ).f2))).setCell ⟨xL,3,none⟩ (.int .u8 ((ah xI xJ).f3))).setCell ⟨xL,4,none⟩ (.int .u16 ((ah xI xJ).f4))).setCell ⟨xL,5,none⟩ (.slice xP ((ah xI xJ).f5).length xO)) = CX at yc yg yj ⊢
            have xM:=yc
            have xK:=yg
            have HB:=yj
            clear yc yg yj
            have yc:=Aside0.mk (aG xM.out)
            have yg:=Aside0.mk (aG xK.out)
            have yj:=Aside0.mk (av HB.out)
            clear xM
            clear xK
            clear HB
            have xM:=yc
            have xK:=yg
            have HB:=yj
            clear yc yg yj
            refine iM (n:=30) (S:=fun w'=>w'.cell? ⟨xL,0,none⟩ = some (.string ((ah xI xJ).f0)) ∧ w'.cell? ⟨xL,1,none⟩ = some (.string ((ah xI xJ).f1)) ∧ w'.cell? ⟨xL,2,none⟩ = some (.string ((ah xI xJ).f2)) ∧ w'.cell? ⟨xL,3,none⟩ = some (.int .u8 ((ah xI xJ).f3)) ∧ w'.cell? ⟨xL,4,none⟩ = some (.int .u16 ((ah xI xJ).f4)) ∧ w'.cell? ⟨xL,5,none⟩ = some (.slice xP ((ah xI xJ).f5).length xO)) (ds:=[]) #[false,false,false,false,false,false,false,false,false,false,false,false,false,false,false,false,false,false,false,false,false,false,false,false,false,false,false,false,false,false] (by kernel_rfl) rfl rfl ⟨(au xK.out 0).trans rfl,(au xK.out 1).trans rfl,(au xK.out 2).trans rfl,(au xK.out 3).trans rfl,(au xK.out 4).trans rfl,(au xK.out 5).trans rfl⟩ (fun hHeld=>?_);refine fP aN.uM aN.rJ (fun HT_ HW_=>?_)
            generalize CX.drew = Da at xM xK HB hHeld ⊢
            refine cZ (i:=0) (N:=some 28) (v:=?_) (a':=?_) #[true,false,false,false,false,false,false,false,false,false,false,false,false,false,false,false,false,false,false,false,false,false,false,false,false,false,false,false,false,false] rfl rfl (cB HT_.out (by kernel_rfl)) (fun _ _ _ h=>h) (Or.inl ⟨by rfl,?_⟩) ?_ ?_
            rotate_left
            ·intro w'
             go_simp
             with_reducible rfl
            rotate_left
            ·simp only [Act.put,List.setIfInBounds_toArray,List.set_cons_zero,List.set_cons_succ,bD,bG]
             rfl
            refine cZ (i:=1) (N:=some 29) (v:=?_) (a':=?_) #[true,true,false,false,false,false,false,false,false,false,false,false,false,false,false,false,false,false,false,false,false,false,false,false,false,false,false,false,false,false] rfl rfl (cB HT_.out (by kernel_rfl)) (fun _ _ _ h=>h) (Or.inl ⟨by rfl,?_⟩) ?_ ?_
            rotate_left
            ·intro w'
             go_simp
             with_reducible rfl
            rotate_left
            ·simp only [Act.put,List.setIfInBounds_toArray,List.set_cons_zero,List.set_cons_succ,bD,bG]
             rfl
            refine cZ (i:=5) (N:=some 33) (v:=?_) (a':=?_) #[true,true,false,false,false,true,false,false,false,false,false,false,false,false,false,false,false,false,false,false,false,false,false,false,false,false,false,false,false,false] rfl rfl (cB HT_.out (by kernel_rfl)) (fun _ _ _ h=>h) (Or.inl ⟨by rfl,?_⟩) ?_ ?_
            rotate_left
            ·intro w'
             go_simp
             with_reducible rfl
            rotate_left
            ·simp only [Act.put,List.setIfInBounds_toArray,List.set_cons_zero,List.set_cons_succ,bD,bG]
             rfl
            refine cZ (i:=9) (N:=some 37) (v:=?_) (a':=?_) #[true,true,false,false,false,true,false,false,false,true,false,false,false,false,false,false,false,false,false,false,false,false,false,false,false,false,false,false,false,false] rfl rfl (cB HT_.out (by kernel_rfl)) (fun _ _ _ h=>h) (Or.inl ⟨by rfl,?_⟩) ?_ ?_
            rotate_left
            ·intro w'
             go_simp
             with_reducible rfl
            rotate_left
            ·simp only [Act.put,List.setIfInBounds_toArray,List.set_cons_zero,List.set_cons_succ,bD,bG]
             rfl
            refine cZ (i:=13) (N:=some 41) (v:=?_) (a':=?_) #[true,true,false,false,false,true,false,false,false,true,false,false,false,true,false,false,false,false,false,false,false,false,false,false,false,false,false,false,false,false] rfl rfl (cB HT_.out (by kernel_rfl)) (fun _ _ _ h=>h) (Or.inl ⟨by rfl,?_⟩) ?_ ?_
            rotate_left
            ·intro w'
             go_simp
             with_reducible rfl
            rotate_left
            ·simp only [Act.put,List.setIfInBounds_toArray,List.set_cons_zero,List.set_cons_succ,bD,bG]
             rfl
            refine cZ (i:=18) (N:=some 46) (v:=?_) (a':=?_) #[true,true,false,false,false,true,false,false,false,true,false,false,false,true,false,false,false,false,true,false,false,false,false,false,false,false,false,false,false,false] rfl rfl (cB HT_.out (by kernel_rfl)) (fun _ _ _ h=>h) (Or.inl ⟨by rfl,?_⟩) ?_ ?_
            rotate_left
            ·intro w'
             go_simp
             with_reducible rfl
            rotate_left
            ·simp only [Act.put,List.setIfInBounds_toArray,List.set_cons_zero,List.set_cons_succ,bD,bG]
             rfl
            refine cZ (i:=23) (N:=some 51) (v:=?_) (a':=?_) #[true,true,false,false,false,true,false,false,false,true,false,false,false,true,false,false,false,false,true,false,false,false,false,true,false,false,false,false,false,false] rfl rfl (cB HT_.out (by kernel_rfl)) (fun _ _ _ h=>h) (Or.inl ⟨by rfl,?_⟩) ?_ ?_
            rotate_left
            ·intro w'
             go_simp
             with_reducible rfl
            rotate_left
            ·simp only [Act.put,List.setIfInBounds_toArray,List.set_cons_zero,List.set_cons_succ,bD,bG]
             rfl
            refine eX (i:=2) (N:=some 30) (v:=?_) (a':=?_) #[true,true,true,false,false,true,false,false,false,true,false,false,false,true,false,false,false,false,true,false,false,false,false,true,false,false,false,false,false,false] rfl rfl (dR HT_.out HW_.out (by kernel_rfl)) (fun _ _ _ h=>h) (Or.inl ⟨by rfl,?_⟩) hHeld ?_ ?_
            rotate_left
            ·rintro w' ⟨s0,s1,s2,s3,s4,s5⟩
             go_simp
             with_reducible rfl
            rotate_left
            ·simp only [Act.put,List.setIfInBounds_toArray,List.set_cons_zero,List.set_cons_succ,bD,bG]
             rfl
            refine eX (i:=6) (N:=some 34) (v:=?_) (a':=?_) #[true,true,true,false,false,true,true,false,false,true,false,false,false,true,false,false,false,false,true,false,false,false,false,true,false,false,false,false,false,false] rfl rfl (dR HT_.out HW_.out (by kernel_rfl)) (fun _ _ _ h=>h) (Or.inl ⟨by rfl,?_⟩) hHeld ?_ ?_
            rotate_left
            ·rintro w' ⟨s0,s1,s2,s3,s4,s5⟩
             go_simp
             with_reducible rfl
            rotate_left
            ·simp only [Act.put,List.setIfInBounds_toArray,List.set_cons_zero,List.set_cons_succ,bD,bG]
             rfl
            refine eX (i:=10) (N:=some 38) (v:=?_) (a':=?_) #[true,true,true,false,false,true,true,false,false,true,true,false,false,true,false,false,false,false,true,false,false,false,false,true,false,false,false,false,false,false] rfl rfl (dR HT_.out HW_.out (by kernel_rfl)) (fun _ _ _ h=>h) (Or.inl ⟨by rfl,?_⟩) hHeld ?_ ?_
            rotate_left
            ·rintro w' ⟨s0,s1,s2,s3,s4,s5⟩
             go_simp
             with_reducible rfl
            rotate_left
            ·simp only [Act.put,List.setIfInBounds_toArray,List.set_cons_zero,List.set_cons_succ,bD,bG]
             rfl
            refine eX (i:=14) (N:=some 42) (v:=?_) (a':=?_) #[true,true,true,false,false,true,true,false,false,true,true,false,false,true,true,false,false,false,true,false,false,false,false,true,false,false,false,false,false,false] rfl rfl (dR HT_.out HW_.out (by kernel_rfl)) (fun _ _ _ h=>h) (Or.inl ⟨by rfl,?_⟩) hHeld ?_ ?_
            rotate_left
            ·rintro w' ⟨s0,s1,s2,s3,s4,s5⟩
             go_simp
             with_reducible rfl
            rotate_left
            ·simp only [Act.put,List.setIfInBounds_toArray,List.set_cons_zero,List.set_cons_succ,bD,bG]
             rfl
            refine eX (i:=19) (N:=some 47) (v:=?_) (a':=?_) #[true,true,true,false,false,true,true,false,false,true,true,false,false,true,true,false,false,false,true,true,false,false,false,true,false,false,false,false,false,false] rfl rfl (dR HT_.out HW_.out (by kernel_rfl)) (fun _ _ _ h=>h) (Or.inl ⟨by rfl,?_⟩) hHeld ?_ ?_
            rotate_left
            ·rintro w' ⟨s0,s1,s2,s3,s4,s5⟩
             go_simp
             with_reducible rfl
            rotate_left
            ·simp only [Act.put,List.setIfInBounds_toArray,List.set_cons_zero,List.set_cons_succ,bD,bG]
             rfl
            refine cZ (i:=20) (N:=some 48) (v:=?_) (a':=?_) #[true,true,true,false,false,true,true,false,false,true,true,false,false,true,true,false,false,false,true,true,true,false,false,true,false,false,false,false,false,false] rfl rfl (cB HT_.out (by kernel_rfl)) (fun _ _ _ h=>h) (Or.inl ⟨by rfl,?_⟩) ?_ ?_
            rotate_left
            ·intro w'
             go_simp
             with_reducible rfl
            rotate_left
            ·simp only [Act.put,List.setIfInBounds_toArray,List.set_cons_zero,List.set_cons_succ,bD,bG]
             rfl
            refine eX (i:=24) (N:=some 52) (v:=?_) (a':=?_) #[true,true,true,false,false,true,true,false,false,true,true,false,false,true,true,false,false,false,true,true,true,false,false,true,true,false,false,false,false,false] rfl rfl (dR HT_.out HW_.out (by kernel_rfl)) (fun _ _ _ h=>h) (Or.inl ⟨by rfl,?_⟩) hHeld ?_ ?_
            rotate_left
            ·rintro w' ⟨s0,s1,s2,s3,s4,s5⟩
             go_simp
             with_reducible rfl
            rotate_left
            ·simp only [Act.put,List.setIfInBounds_toArray,List.set_cons_zero,List.set_cons_succ,bD,bG]
             rfl
            refine cZ (i:=25) (N:=some 53) (v:=?_) (a':=?_) #[true,true,true,false,false,true,true,false,false,true,true,false,false,true,true,false,false,false,true,true,true,false,false,true,true,true,false,false,false,false] rfl rfl (cB HT_.out (by kernel_rfl)) (fun _ _ _ h=>h) (Or.inl ⟨by rfl,?_⟩) ?_ ?_
            rotate_left
            ·intro w'
             go_simp
             with_reducible rfl
            rotate_left
            ·simp only [Act.put,List.setIfInBounds_toArray,List.set_cons_zero,List.set_cons_succ,bD,bG]
             rfl
            refine cZ (i:=26) (N:=some 54) (v:=?_) (a':=?_) #[true,true,true,false,false,true,true,false,false,true,true,false,false,true,true,false,false,false,true,true,true,false,false,true,true,true,true,false,false,false] rfl rfl (cB HT_.out (by kernel_rfl)) (fun _ _ _ h=>h) (Or.inl ⟨by rfl,?_⟩) ?_ ?_
            rotate_left
            ·intro w'
             go_simp
             with_reducible rfl
            rotate_left
            ·simp only [Act.put,List.setIfInBounds_toArray,List.set_cons_zero,List.set_cons_succ,bD,bG]
             rfl
            refine fE (σ:=Value) 2 #[true,true,true,true,true,true,true,true,true,true,true,true,true,true,true,true,true,true,true,true,true,true,true,true,true,true,true,true,false,false] (fun s_=>[(31,.string t208),(35,.string xV),(39,.string t210),(43,s_),(44,.string (strOfNums xZ)),(49,.string yw),(55,.string yB),(32,.string (xY ++ t208)),(36,.string ((xY ++ t208) ++ xV)),(40,.string (((xY ++ t208) ++ xV) ++ t210)),(45,.string ((((xY ++ t208) ++ xV) ++ t210) ++ (strOfNums xZ))),(50,.string (((((xY ++ t208) ++ xV) ++ t210) ++ (strOfNums xZ)) ++ yw))]) (fun s_ w'=>(w'.cell? ⟨xL,0,none⟩ = some (.string ((ah xI xJ).f0)) ∧ w'.cell? ⟨xL,1,none⟩ = some (.string ((ah xI xJ).f1)) ∧ w'.cell? ⟨xL,2,none⟩ = some (.string ((ah xI xJ).f2)) ∧ w'.cell? ⟨xL,3,none⟩ = some (.int .u8 ((ah xI xJ).f3)) ∧ w'.cell? ⟨xL,4,none⟩ = some (.int .u16 ((ah xI xJ).f4)) ∧ w'.cell? ⟨xL,5,none⟩ = some (.slice xP ((ah xI xJ).f5).length xO)) ∧ (Kd.R (Kd.int .u8) 5 w' w.heap.size (fun _=>True) s_ xZ) ∧ (w'.heap[xQ]? = some (.cells #[.int .u64 xX,.slice (some xU) xI.length yh] 53 (0,0))) ∧ (w'.heap[xL]? = some (.cells #[.string ((ah xI xJ).f0),.string ((ah xI xJ).f1),.string ((ah xI xJ).f2),.int .u8 ((ah xI xJ).f3),.int .u16 ((ah xI xJ).f4),.slice xP ((ah xI xJ).f5).length xO] 103 (0,0))) ∧ (Below w.heap.size w w')) ?_ ?_
            rotate_left
            ·intro yC
             refine fE (σ:=Value) 3 #[true,true,true,true,true,true,true,true,true,true,true,true,true,true,true,true,true,true,true,true,true,true,true,true,true,true,true,false,false,false] (fun s_=>[(31,.string t208),(35,.string xV),(39,.string t210),(43,s_),(44,.string (strOfNums xZ)),(49,.string yw),(32,.string (xY ++ t208)),(36,.string ((xY ++ t208) ++ xV)),(40,.string (((xY ++ t208) ++ xV) ++ t210)),(45,.string ((((xY ++ t208) ++ xV) ++ t210) ++ (strOfNums xZ))),(50,.string (((((xY ++ t208) ++ xV) ++ t210) ++ (strOfNums xZ)) ++ yw))]) (fun s_ w'=>(w'.cell? ⟨xL,0,none⟩ = some (.string ((ah xI xJ).f0)) ∧ w'.cell? ⟨xL,1,none⟩ = some (.string ((ah xI xJ).f1)) ∧ w'.cell? ⟨xL,2,none⟩ = some (.string ((ah xI xJ).f2)) ∧ w'.cell? ⟨xL,3,none⟩ = some (.int .u8 ((ah xI xJ).f3)) ∧ w'.cell? ⟨xL,4,none⟩ = some (.int .u16 ((ah xI xJ).f4)) ∧ w'.cell? ⟨xL,5,none⟩ = some (.slice xP ((ah xI xJ).f5).length xO)) ∧ (Kd.R (Kd.int .u8) 5 w' w.heap.size (fun _=>True) s_ xZ) ∧ (w'.heap[xQ]? = some (.cells #[.int .u64 xX,.slice (some xU) xI.length yh] 53 (0,0))) ∧ (w'.heap[xL]? = some (.cells #[.string ((ah xI xJ).f0),.string ((ah xI xJ).f1),.string ((ah xI xJ).f2),.int .u8 ((ah xI xJ).f3),.int .u16 ((ah xI xJ).f4),.slice xP ((ah xI xJ).f5).length xO] 103 (0,0))) ∧ (Below w.heap.size w w')) ?_ ?_
             rotate_left
             ·intro yG
              refine fE (σ:=Value) 5 #[true,true,true,true,true,true,true,true,true,true,true,true,true,true,true,true,false,false,true,true,true,true,false,true,true,true,true,true,false,false] (fun s_=>[(31,.string t208),(35,.string xV),(39,.string t210),(43,s_),(49,.string yw),(55,.string yB),(32,.string (xY ++ t208)),(36,.string ((xY ++ t208) ++ xV)),(40,.string (((xY ++ t208) ++ xV) ++ t210))]) (fun s_ w'=>(w'.cell? ⟨xL,0,none⟩ = some (.string ((ah xI xJ).f0)) ∧ w'.cell? ⟨xL,1,none⟩ = some (.string ((ah xI xJ).f1)) ∧ w'.cell? ⟨xL,2,none⟩ = some (.string ((ah xI xJ).f2)) ∧ w'.cell? ⟨xL,3,none⟩ = some (.int .u8 ((ah xI xJ).f3)) ∧ w'.cell? ⟨xL,4,none⟩ = some (.int .u16 ((ah xI xJ).f4)) ∧ w'.cell? ⟨xL,5,none⟩ = some (.slice xP ((ah xI xJ).f5).length xO)) ∧ (Kd.R (Kd.int .u8) 5 w' w.heap.size (fun _=>True) s_ xZ) ∧ (w'.heap[xQ]? = some (.cells #[.int .u64 xX,.slice (some xU) xI.length yh] 53 (0,0))) ∧ (w'.heap[xL]? = some (.cells #[.string ((ah xI xJ).f0),.string ((ah xI xJ).f1),.string ((ah xI xJ).f2),.int .u8 ((ah xI xJ).f3),.int .u16 ((ah xI xJ).f4),.slice xP ((ah xI xJ).f5).length xO] 103 (0,0))) ∧ (Below w.heap.size w w')) ?_ ?_
              rotate_left
              ·intro yH
               refine fE (σ:=Value) 5 #[true,true,true,true,true,true,true,true,true,true,true,true,true,true,true,true,true,true,true,true,true,false,false,true,true,true,true,false,false,false] (fun s_=>[(31,.string t208),(35,.string xV),(39,.string t210),(43,s_),(44,.string (strOfNums xZ)),(32,.string (xY ++ t208)),(36,.string ((xY ++ t208) ++ xV)),(40,.string (((xY ++ t208) ++ xV) ++ t210)),(45,.string ((((xY ++ t208) ++ xV) ++ t210) ++ (strOfNums xZ)))]) (fun s_ w'=>(w'.cell? ⟨xL,0,none⟩ = some (.string ((ah xI xJ).f0)) ∧ w'.cell? ⟨xL,1,none⟩ = some (.string ((ah xI xJ).f1)) ∧ w'.cell? ⟨xL,2,none⟩ = some (.string ((ah xI xJ).f2)) ∧ w'.cell? ⟨xL,3,none⟩ = some (.int .u8 ((ah xI xJ).f3)) ∧ w'.cell? ⟨xL,4,none⟩ = some (.int .u16 ((ah xI xJ).f4)) ∧ w'.cell? ⟨xL,5,none⟩ = some (.slice xP ((ah xI xJ).f5).length xO)) ∧ (Kd.R (Kd.int .u8) 5 w' w.heap.size (fun _=>True) s_ xZ) ∧ (w'.heap[xQ]? = some (.cells #[.int .u64 xX,.slice (some xU) xI.length yh] 53 (0,0))) ∧ (w'.heap[xL]? = some (.cells #[.string ((ah xI xJ).f0),.string ((ah xI xJ).f1),.string ((ah xI xJ).f2),.int .u8 ((ah xI xJ).f3),.int .u16 ((ah xI xJ).f4),.slice xP ((ah xI xJ).f5).length xO] 103 (0,0))) ∧ (Below w.heap.size w w')) ?_ ?_
               rotate_left
               ·intro yK
                refine fE (σ:=Value) 6 #[true,true,true,true,true,true,true,true,true,true,true,true,true,true,true,true,false,false,true,true,true,true,false,true,true,true,true,false,false,false] (fun s_=>[(31,.string t208),(35,.string xV),(39,.string t210),(43,s_),(49,.string yw),(32,.string (xY ++ t208)),(36,.string ((xY ++ t208) ++ xV)),(40,.string (((xY ++ t208) ++ xV) ++ t210))]) (fun s_ w'=>(w'.cell? ⟨xL,0,none⟩ = some (.string ((ah xI xJ).f0)) ∧ w'.cell? ⟨xL,1,none⟩ = some (.string ((ah xI xJ).f1)) ∧ w'.cell? ⟨xL,2,none⟩ = some (.string ((ah xI xJ).f2)) ∧ w'.cell? ⟨xL,3,none⟩ = some (.int .u8 ((ah xI xJ).f3)) ∧ w'.cell? ⟨xL,4,none⟩ = some (.int .u16 ((ah xI xJ).f4)) ∧ w'.cell? ⟨xL,5,none⟩ = some (.slice xP ((ah xI xJ).f5).length xO)) ∧ (Kd.R (Kd.int .u8) 5 w' w.heap.size (fun _=>True) s_ xZ) ∧ (w'.heap[xQ]? = some (.cells #[.int .u64 xX,.slice (some xU) xI.length yh] 53 (0,0))) ∧ (w'.heap[xL]? = some (.cells #[.string ((ah xI xJ).f0),.string ((ah xI xJ).f1),.string ((ah xI xJ).f2),.int .u8 ((ah xI xJ).f3),.int .u16 ((ah xI xJ).f4),.slice xP ((ah xI xJ).f5).length xO] 103 (0,0))) ∧ (Below w.heap.size w w')) ?_ ?_
                rotate_left
                ·intro yL
                 refine fE (σ:=Unit) 6 #[true,true,true,true,true,true,true,true,true,true,true,true,true,true,true,false,false,false,true,true,true,true,false,true,true,true,true,true,false,false] (fun s_=>[(31,.string t208),(35,.string xV),(39,.string t210),(49,.string yw),(55,.string yB),(32,.string (xY ++ t208)),(36,.string ((xY ++ t208) ++ xV)),(40,.string (((xY ++ t208) ++ xV) ++ t210))]) (fun s_ w'=>(w'.cell? ⟨xL,0,none⟩ = some (.string ((ah xI xJ).f0)) ∧ w'.cell? ⟨xL,1,none⟩ = some (.string ((ah xI xJ).f1)) ∧ w'.cell? ⟨xL,2,none⟩ = some (.string ((ah xI xJ).f2)) ∧ w'.cell? ⟨xL,3,none⟩ = some (.int .u8 ((ah xI xJ).f3)) ∧ w'.cell? ⟨xL,4,none⟩ = some (.int .u16 ((ah xI xJ).f4)) ∧ w'.cell? ⟨xL,5,none⟩ = some (.slice xP ((ah xI xJ).f5).length xO)) ∧ (w'.heap[xQ]? = some (.cells #[.int .u64 xX,.slice (some xU) xI.length yh] 53 (0,0))) ∧ (w'.heap[xL]? = some (.cells #[.string ((ah xI xJ).f0),.string ((ah xI xJ).f1),.string ((ah xI xJ).f2),.int .u8 ((ah xI xJ).f3),.int .u16 ((ah xI xJ).f4),.slice xP ((ah xI xJ).f5).length xO] 103 (0,0))) ∧ (Below w.heap.size w w')) ?_ ?_
                 rotate_left
                 ·intro zo
                  refine fE (σ:=Value) 7 #[true,true,true,true,true,true,true,true,true,true,true,true,true,true,true,true,false,false,true,true,true,false,false,true,true,true,true,false,false,false] (fun s_=>[(31,.string t208),(35,.string xV),(39,.string t210),(43,s_),(32,.string (xY ++ t208)),(36,.string ((xY ++ t208) ++ xV)),(40,.string (((xY ++ t208) ++ xV) ++ t210))]) (fun s_ w'=>(w'.cell? ⟨xL,0,none⟩ = some (.string ((ah xI xJ).f0)) ∧ w'.cell? ⟨xL,1,none⟩ = some (.string ((ah xI xJ).f1)) ∧ w'.cell? ⟨xL,2,none⟩ = some (.string ((ah xI xJ).f2)) ∧ w'.cell? ⟨xL,3,none⟩ = some (.int .u8 ((ah xI xJ).f3)) ∧ w'.cell? ⟨xL,4,none⟩ = some (.int .u16 ((ah xI xJ).f4)) ∧ w'.cell? ⟨xL,5,none⟩ = some (.slice xP ((ah xI xJ).f5).length xO)) ∧ (Kd.R (Kd.int .u8) 5 w' w.heap.size (fun _=>True) s_ xZ) ∧ (w'.heap[xQ]? = some (.cells #[.int .u64 xX,.slice (some xU) xI.length yh] 53 (0,0))) ∧ (w'.heap[xL]? = some (.cells #[.string ((ah xI xJ).f0),.string ((ah xI xJ).f1),.string ((ah xI xJ).f2),.int .u8 ((ah xI xJ).f3),.int .u16 ((ah xI xJ).f4),.slice xP ((ah xI xJ).f5).length xO] 103 (0,0))) ∧ (Below w.heap.size w w')) ?_ ?_
                  rotate_left
                  ·intro zi
                   refine fE (σ:=Unit) 7 #[true,true,true,true,true,true,true,true,true,true,true,true,true,true,true,false,false,false,true,true,true,true,false,true,true,true,true,false,false,false] (fun s_=>[(31,.string t208),(35,.string xV),(39,.string t210),(49,.string yw),(32,.string (xY ++ t208)),(36,.string ((xY ++ t208) ++ xV)),(40,.string (((xY ++ t208) ++ xV) ++ t210))]) (fun s_ w'=>(w'.cell? ⟨xL,0,none⟩ = some (.string ((ah xI xJ).f0)) ∧ w'.cell? ⟨xL,1,none⟩ = some (.string ((ah xI xJ).f1)) ∧ w'.cell? ⟨xL,2,none⟩ = some (.string ((ah xI xJ).f2)) ∧ w'.cell? ⟨xL,3,none⟩ = some (.int .u8 ((ah xI xJ).f3)) ∧ w'.cell? ⟨xL,4,none⟩ = some (.int .u16 ((ah xI xJ).f4)) ∧ w'.cell? ⟨xL,5,none⟩ = some (.slice xP ((ah xI xJ).f5).length xO)) ∧ (w'.heap[xQ]? = some (.cells #[.int .u64 xX,.slice (some xU) xI.length yh] 53 (0,0))) ∧ (w'.heap[xL]? = some (.cells #[.string ((ah xI xJ).f0),.string ((ah xI xJ).f1),.string ((ah xI xJ).f2),.int .u8 ((ah xI xJ).f3),.int .u16 ((ah xI xJ).f4),.slice xP ((ah xI xJ).f5).length xO] 103 (0,0))) ∧ (Below w.heap.size w w')) ?_ ?_
                   rotate_left
                   ·intro zH
                    refine fE (σ:=Value) 8 #[true,true,true,true,true,true,true,true,true,true,true,false,false,true,true,true,true,false,true,true,true,false,false,true,true,true,true,false,false,false] (fun s_=>[(31,.string t208),(35,.string xV),(43,s_),(44,.string (strOfNums xZ)),(32,.string (xY ++ t208)),(36,.string ((xY ++ t208) ++ xV))]) (fun s_ w'=>(w'.cell? ⟨xL,0,none⟩ = some (.string ((ah xI xJ).f0)) ∧ w'.cell? ⟨xL,1,none⟩ = some (.string ((ah xI xJ).f1)) ∧ w'.cell? ⟨xL,2,none⟩ = some (.string ((ah xI xJ).f2)) ∧ w'.cell? ⟨xL,3,none⟩ = some (.int .u8 ((ah xI xJ).f3)) ∧ w'.cell? ⟨xL,4,none⟩ = some (.int .u16 ((ah xI xJ).f4)) ∧ w'.cell? ⟨xL,5,none⟩ = some (.slice xP ((ah xI xJ).f5).length xO)) ∧ (Kd.R (Kd.int .u8) 5 w' w.heap.size (fun _=>True) s_ xZ) ∧ (w'.heap[xQ]? = some (.cells #[.int .u64 xX,.slice (some xU) xI.length yh] 53 (0,0))) ∧ (w'.heap[xL]? = some (.cells #[.string ((ah xI xJ).f0),.string ((ah xI xJ).f1),.string ((ah xI xJ).f2),.int .u8 ((ah xI xJ).f3),.int .u16 ((ah xI xJ).f4),.slice xP ((ah xI xJ).f5).length xO] 103 (0,0))) ∧ (Below w.heap.size w w')) ?_ ?_
                    rotate_left
                    ·intro zk
                     refine fE (σ:=Unit) 8 #[true,true,true,true,true,true,true,true,true,true,true,true,true,true,true,false,false,false,true,true,true,false,false,true,true,true,true,false,false,false] (fun s_=>[(31,.string t208),(35,.string xV),(39,.string t210),(32,.string (xY ++ t208)),(36,.string ((xY ++ t208) ++ xV)),(40,.string (((xY ++ t208) ++ xV) ++ t210))]) (fun s_ w'=>(w'.cell? ⟨xL,0,none⟩ = some (.string ((ah xI xJ).f0)) ∧ w'.cell? ⟨xL,1,none⟩ = some (.string ((ah xI xJ).f1)) ∧ w'.cell? ⟨xL,2,none⟩ = some (.string ((ah xI xJ).f2)) ∧ w'.cell? ⟨xL,3,none⟩ = some (.int .u8 ((ah xI xJ).f3)) ∧ w'.cell? ⟨xL,4,none⟩ = some (.int .u16 ((ah xI xJ).f4)) ∧ w'.cell? ⟨xL,5,none⟩ = some (.slice xP ((ah xI xJ).f5).length xO)) ∧ (w'.heap[xQ]? = some (.cells #[.int .u64 xX,.slice (some xU) xI.length yh] 53 (0,0))) ∧ (w'.heap[xL]? = some (.cells #[.string ((ah xI xJ).f0),.string ((ah xI xJ).f1),.string ((ah xI xJ).f2),.int .u8 ((ah xI xJ).f3),.int .u16 ((ah xI xJ).f4),.slice xP ((ah xI xJ).f5).length xO] 103 (0,0))) ∧ (Below w.heap.size w w')) ?_ ?_
                     rotate_left
                     ·intro zM
                      refine fE (σ:=Value) 9 #[true,true,true,true,true,true,true,true,true,true,true,false,false,true,true,true,false,false,true,true,true,false,false,true,true,true,true,false,false,false] (fun s_=>[(31,.string t208),(35,.string xV),(43,s_),(32,.string (xY ++ t208)),(36,.string ((xY ++ t208) ++ xV))]) (fun s_ w'=>(w'.cell? ⟨xL,0,none⟩ = some (.string ((ah xI xJ).f0)) ∧ w'.cell? ⟨xL,1,none⟩ = some (.string ((ah xI xJ).f1)) ∧ w'.cell? ⟨xL,2,none⟩ = some (.string ((ah xI xJ).f2)) ∧ w'.cell? ⟨xL,3,none⟩ = some (.int .u8 ((ah xI xJ).f3)) ∧ w'.cell? ⟨xL,4,none⟩ = some (.int .u16 ((ah xI xJ).f4)) ∧ w'.cell? ⟨xL,5,none⟩ = some (.slice xP ((ah xI xJ).f5).length xO)) ∧ (Kd.R (Kd.int .u8) 5 w' w.heap.size (fun _=>True) s_ xZ) ∧ (w'.heap[xQ]? = some (.cells #[.int .u64 xX,.slice (some xU) xI.length yh] 53 (0,0))) ∧ (w'.heap[xL]? = some (.cells #[.string ((ah xI xJ).f0),.string ((ah xI xJ).f1),.string ((ah xI xJ).f2),.int .u8 ((ah xI xJ).f3),.int .u16 ((ah xI xJ).f4),.slice xP ((ah xI xJ).f5).length xO] 103 (0,0))) ∧ (Below w.heap.size w w')) ?_ ?_
                      rotate_left
                      ·intro zI
                       refine fE (σ:=Value) 10 #[true,true,true,true,true,true,true,false,false,true,true,false,false,true,true,true,true,false,true,true,true,false,false,true,true,true,true,false,false,false] (fun s_=>[(31,.string t208),(43,s_),(44,.string (strOfNums xZ)),(32,.string (xY ++ t208))]) (fun s_ w'=>(w'.cell? ⟨xL,0,none⟩ = some (.string ((ah xI xJ).f0)) ∧ w'.cell? ⟨xL,1,none⟩ = some (.string ((ah xI xJ).f1)) ∧ w'.cell? ⟨xL,2,none⟩ = some (.string ((ah xI xJ).f2)) ∧ w'.cell? ⟨xL,3,none⟩ = some (.int .u8 ((ah xI xJ).f3)) ∧ w'.cell? ⟨xL,4,none⟩ = some (.int .u16 ((ah xI xJ).f4)) ∧ w'.cell? ⟨xL,5,none⟩ = some (.slice xP ((ah xI xJ).f5).length xO)) ∧ (Kd.R (Kd.int .u8) 5 w' w.heap.size (fun _=>True) s_ xZ) ∧ (w'.heap[xQ]? = some (.cells #[.int .u64 xX,.slice (some xU) xI.length yh] 53 (0,0))) ∧ (w'.heap[xL]? = some (.cells #[.string ((ah xI xJ).f0),.string ((ah xI xJ).f1),.string ((ah xI xJ).f2),.int .u8 ((ah xI xJ).f3),.int .u16 ((ah xI xJ).f4),.slice xP ((ah xI xJ).f5).length xO] 103 (0,0))) ∧ (Below w.heap.size w w')) ?_ ?_
                       rotate_left
                       ·intro zw
                        refine fE (σ:=Unit) 10 #[true,true,true,true,true,true,true,true,true,true,true,false,false,true,true,false,false,false,true,true,true,false,false,true,true,true,true,false,false,false] (fun s_=>[(31,.string t208),(35,.string xV),(32,.string (xY ++ t208)),(36,.string ((xY ++ t208) ++ xV))]) (fun s_ w'=>(w'.cell? ⟨xL,0,none⟩ = some (.string ((ah xI xJ).f0)) ∧ w'.cell? ⟨xL,1,none⟩ = some (.string ((ah xI xJ).f1)) ∧ w'.cell? ⟨xL,2,none⟩ = some (.string ((ah xI xJ).f2)) ∧ w'.cell? ⟨xL,3,none⟩ = some (.int .u8 ((ah xI xJ).f3)) ∧ w'.cell? ⟨xL,4,none⟩ = some (.int .u16 ((ah xI xJ).f4)) ∧ w'.cell? ⟨xL,5,none⟩ = some (.slice xP ((ah xI xJ).f5).length xO)) ∧ (w'.heap[xQ]? = some (.cells #[.int .u64 xX,.slice (some xU) xI.length yh] 53 (0,0))) ∧ (w'.heap[xL]? = some (.cells #[.string ((ah xI xJ).f0),.string ((ah xI xJ).f1),.string ((ah xI xJ).f2),.int .u8 ((ah xI xJ).f3),.int .u16 ((ah xI xJ).f4),.slice xP ((ah xI xJ).f5).length xO] 103 (0,0))) ∧ (Below w.heap.size w w')) ?_ ?_
                        rotate_left
                        ·intro AA
                         refine fE (σ:=Value) 11 #[true,true,true,true,true,true,true,false,false,true,true,false,false,true,true,true,false,false,true,true,true,false,false,true,true,true,true,false,false,false] (fun s_=>[(31,.string t208),(43,s_),(32,.string (xY ++ t208))]) (fun s_ w'=>(w'.cell? ⟨xL,0,none⟩ = some (.string ((ah xI xJ).f0)) ∧ w'.cell? ⟨xL,1,none⟩ = some (.string ((ah xI xJ).f1)) ∧ w'.cell? ⟨xL,2,none⟩ = some (.string ((ah xI xJ).f2)) ∧ w'.cell? ⟨xL,3,none⟩ = some (.int .u8 ((ah xI xJ).f3)) ∧ w'.cell? ⟨xL,4,none⟩ = some (.int .u16 ((ah xI xJ).f4)) ∧ w'.cell? ⟨xL,5,none⟩ = some (.slice xP ((ah xI xJ).f5).length xO)) ∧ (Kd.R (Kd.int .u8) 5 w' w.heap.size (fun _=>True) s_ xZ) ∧ (w'.heap[xQ]? = some (.cells #[.int .u64 xX,.slice (some xU) xI.length yh] 53 (0,0))) ∧ (w'.heap[xL]? = some (.cells #[.string ((ah xI xJ).f0),.string ((ah xI xJ).f1),.string ((ah xI xJ).f2),.int .u8 ((ah xI xJ).f3),.int .u16 ((ah xI xJ).f4),.slice xP ((ah xI xJ).f5).length xO] 103 (0,0))) ∧ (Below w.heap.size w w')) ?_ ?_
                         rotate_left
                         ·intro zN
                          refine fE (σ:=Value) 12 #[true,true,true,false,false,true,true,false,false,true,true,false,false,true,true,true,true,false,true,true,true,false,false,true,true,true,true,false,false,false] (fun s_=>[(43,s_),(44,.string (strOfNums xZ))]) (fun s_ w'=>(w'.cell? ⟨xL,0,none⟩ = some (.string ((ah xI xJ).f0)) ∧ w'.cell? ⟨xL,1,none⟩ = some (.string ((ah xI xJ).f1)) ∧ w'.cell? ⟨xL,2,none⟩ = some (.string ((ah xI xJ).f2)) ∧ w'.cell? ⟨xL,3,none⟩ = some (.int .u8 ((ah xI xJ).f3)) ∧ w'.cell? ⟨xL,4,none⟩ = some (.int .u16 ((ah xI xJ).f4)) ∧ w'.cell? ⟨xL,5,none⟩ = some (.slice xP ((ah xI xJ).f5).length xO)) ∧ (Kd.R (Kd.int .u8) 5 w' w.heap.size (fun _=>True) s_ xZ) ∧ (w'.heap[xQ]? = some (.cells #[.int .u64 xX,.slice (some xU) xI.length yh] 53 (0,0))) ∧ (w'.heap[xL]? = some (.cells #[.string ((ah xI xJ).f0),.string ((ah xI xJ).f1),.string ((ah xI xJ).f2),.int .u8 ((ah xI xJ).f3),.int .u16 ((ah xI xJ).f4),.slice xP ((ah xI xJ).f5).length xO] 103 (0,0))) ∧ (Below w.heap.size w w')) ?_ ?_
                          rotate_left
                          ·intro Aa
                           refine fE (σ:=Unit) 12 #[true,true,true,true,true,true,true,false,false,true,true,false,false,true,true,false,false,false,true,true,true,false,false,true,true,true,true,false,false,false] (fun s_=>[(31,.string t208),(32,.string (xY ++ t208))]) (fun s_ w'=>(w'.cell? ⟨xL,0,none⟩ = some (.string ((ah xI xJ).f0)) ∧ w'.cell? ⟨xL,1,none⟩ = some (.string ((ah xI xJ).f1)) ∧ w'.cell? ⟨xL,2,none⟩ = some (.string ((ah xI xJ).f2)) ∧ w'.cell? ⟨xL,3,none⟩ = some (.int .u8 ((ah xI xJ).f3)) ∧ w'.cell? ⟨xL,4,none⟩ = some (.int .u16 ((ah xI xJ).f4)) ∧ w'.cell? ⟨xL,5,none⟩ = some (.slice xP ((ah xI xJ).f5).length xO)) ∧ (w'.heap[xQ]? = some (.cells #[.int .u64 xX,.slice (some xU) xI.length yh] 53 (0,0))) ∧ (w'.heap[xL]? = some (.cells #[.string ((ah xI xJ).f0),.string ((ah xI xJ).f1),.string ((ah xI xJ).f2),.int .u8 ((ah xI xJ).f3),.int .u16 ((ah xI xJ).f4),.slice xP ((ah xI xJ).f5).length xO] 103 (0,0))) ∧ (Below w.heap.size w w')) ?_ ?_
                           rotate_left
                           ·intro hJ3
                            refine fE (σ:=Value) 13 #[true,true,true,false,false,true,true,false,false,true,true,false,false,true,true,true,false,false,true,true,true,false,false,true,true,true,true,false,false,false] (fun s_=>[(43,s_)]) (fun s_ w'=>(w'.cell? ⟨xL,0,none⟩ = some (.string ((ah xI xJ).f0)) ∧ w'.cell? ⟨xL,1,none⟩ = some (.string ((ah xI xJ).f1)) ∧ w'.cell? ⟨xL,2,none⟩ = some (.string ((ah xI xJ).f2)) ∧ w'.cell? ⟨xL,3,none⟩ = some (.int .u8 ((ah xI xJ).f3)) ∧ w'.cell? ⟨xL,4,none⟩ = some (.int .u16 ((ah xI xJ).f4)) ∧ w'.cell? ⟨xL,5,none⟩ = some (.slice xP ((ah xI xJ).f5).length xO)) ∧ (Kd.R (Kd.int .u8) 5 w' w.heap.size (fun _=>True) s_ xZ) ∧ (w'.heap[xQ]? = some (.cells #[.int .u64 xX,.slice (some xU) xI.length yh] 53 (0,0))) ∧ (w'.heap[xL]? = some (.cells #[.string ((ah xI xJ).f0),.string ((ah xI xJ).f1),.string ((ah xI xJ).f2),.int .u8 ((ah xI xJ).f3),.int .u16 ((ah xI xJ).f4),.slice xP ((ah xI xJ).f5).length xO] 103 (0,0))) ∧ (Below w.heap.size w w')) ?_ ?_
                            rotate_left
                            ·intro Cv
                             refine jB (i:=3) (j:=15) (Ni:=some 31) (Nj:=some 43) #[true,true,true,true,false,true,true,false,false,true,true,false,false,true,true,false,false,false,true,true,true,false,false,true,true,true,true,false,false,false] #[true,true,true,false,false,true,true,false,false,true,true,false,false,true,true,true,false,false,true,true,true,false,false,true,true,true,true,false,false,false] rfl rfl rfl rfl (gL HT_.out (by kernel_rfl)) (by decide) (by decide) (fun K hK=>?_) (fun K hK=>?_)
                             ·skip
                              refine eD Tryd.func44 (by kernel_rfl) rfl #[.string ((ah xI xJ).f0)] (by rfl) rfl rfl (by (try simp only [List.map_toArray,List.map_cons,List.map_nil]);first|done|rfl|(simp only [List.length_drop,List.length_take];rfl)) ?_
                              with_reducible refine (bJ.calls k1 ((ah xI xJ).f0) t208 _ Co.out).mono ?_
                              rintro e CY ⟨rfl,hb⟩
                              refine ⟨_,rfl,?_⟩
                              have yc:=Aside0.mk (aK (g:=xQ) (o:=.cells #[.int .u64 xX,.slice (some xU) xI.length yh] 53 (0,0)) (bk_ xM.out) hb)
                              have yg:=Aside0.mk (aK (g:=xL) (o:=.cells #[.string ((ah xI xJ).f0),.string ((ah xI xJ).f1),.string ((ah xI xJ).f2),.int .u8 ((ah xI xJ).f3),.int .u16 ((ah xI xJ).f4),.slice xP ((ah xI xJ).f5).length xO] 103 (0,0)) (bk_ xK.out) hb)
                              have yj:=Aside0.mk (aQ (by repeat (first|(with_reducible first|exact HB.out|apply ay|apply aj|apply av|refine ak ?_ xS.out|refine ak ?_ xW.out)|exact HB.out)) hb)
                              clear xM
                              clear xK
                              clear HB
                              have xM:=yc
                              have xK:=yg
                              have HB:=yj
                              clear yc yg yj
                              (try clear hb)
                              (try clear hb2)
                              (try clear hk)
                              (try clear hi)
                              refine hK.out _ _ ⟨(au xK.out 0).trans rfl,(au xK.out 1).trans rfl,(au xK.out 2).trans rfl,(au xK.out 3).trans rfl,(au xK.out 4).trans rfl,(au xK.out 5).trans rfl⟩ (fun hHeld=>?_)
                              clear hK K
                              refine bV (a':=?_) ?_ ?_
                              rotate_left
                              ·show Act.put _ (some 31) _ = _
                               simp only [Act.put,List.setIfInBounds_toArray,List.set_cons_zero,List.set_cons_succ,bD,bG]
                               rfl
                              refine cZ (i:=4) (N:=some 32) (v:=?_) (a':=?_) #[true,true,true,true,true,true,true,false,false,true,true,false,false,true,true,false,false,false,true,true,true,false,false,true,true,true,true,false,false,false] rfl rfl (cB HT_.out (by kernel_rfl)) (fun _ _ _ h=>h) (Or.inl ⟨by rfl,?_⟩) ?_ ?_
                              rotate_left
                              ·intro w'
                               go_simp
                               with_reducible rfl
                              rotate_left
                              ·simp only [Act.put,List.setIfInBounds_toArray,List.set_cons_zero,List.set_cons_succ,bD,bG]
                               rfl
                              exact bV (by first|(simp only [bL,Act.put,List.setIfInBounds_toArray,List.set_cons_zero,List.set_cons_succ];done)|(simp only [bL,Act.put,List.setIfInBounds_toArray,List.set_cons_zero,List.set_cons_succ];rfl)) (hJ3 () _ ⟨hHeld,(bk_ xM.out),(bk_ xK.out),(by repeat (first|(with_reducible first|exact HB.out|apply ay|apply aj|apply av|refine ak ?_ xS.out|refine ak ?_ xW.out)|exact HB.out))⟩)
                             ·skip
                              refine Kd.gU (Kd.int .u8) _ 5 ?hg (N:=43) ?hd (xs:=([(ah xI xJ).f3] : List Int)) (inner:=[.int .u8 ((ah xI xJ).f3)]) (ok:=fun _=>True) (okp:=fun _=>True) ?hr ?hp (fun _ hk=>hk) trivial (Below.refl _ _) (Nat.le_refl _) (by simp) ?_;(case hd=>rfl);(case hg=>rfl);(case hr=>first|(go_simp;done)|(go_simp;rfl));(case hp=>exact (dZ.one (show Kd.M (Kd.int .u8) _ _ _ ((ah xI xJ).f3) [.int .u8 ((ah xI xJ).f3)] from rfl) (dZ.none _ _)))
                              intro v212 CY zO hb hg_ hnew_
                              clear hg_ hnew_
                              (first|rw [← yI.out] at zO|(simp only [Int.reduceToNat] at zO;rw [← yI.out] at zO))
                              have yc:=Aside0.mk (Kd.gP zO (aV (by repeat (first|(with_reducible first|exact HB.out|apply ay|apply aj|apply av|refine ak ?_ xS.out|refine ak ?_ xW.out)|exact HB.out))))
                              have yg:=Aside0.mk (aK (g:=xQ) (o:=.cells #[.int .u64 xX,.slice (some xU) xI.length yh] 53 (0,0)) (bk_ xM.out) hb)
                              have yj:=Aside0.mk (aK (g:=xL) (o:=.cells #[.string ((ah xI xJ).f0),.string ((ah xI xJ).f1),.string ((ah xI xJ).f2),.int .u8 ((ah xI xJ).f3),.int .u16 ((ah xI xJ).f4),.slice xP ((ah xI xJ).f5).length xO] 103 (0,0)) (bk_ xK.out) hb)
                              have yu:=Aside0.mk (aQ (by repeat (first|(with_reducible first|exact HB.out|apply ay|apply aj|apply av|refine ak ?_ xS.out|refine ak ?_ xW.out)|exact HB.out)) hb)
                              clear xM
                              clear xK
                              clear HB
                              have xR:=yc
                              have xM:=yg
                              have xK:=yj
                              have HB:=yu
                              clear yc yg yj yu
                              clear hb zO
                              refine hK.out _ _ ⟨(au xK.out 0).trans rfl,(au xK.out 1).trans rfl,(au xK.out 2).trans rfl,(au xK.out 3).trans rfl,(au xK.out 4).trans rfl,(au xK.out 5).trans rfl⟩ (fun hHeld=>?_)
                              clear hK K
                              refine bV (a':=?_) ?_ ?_
                              rotate_left
                              ·show Act.put _ (some 43) _ = _
                               simp only [Act.put,List.setIfInBounds_toArray,List.set_cons_zero,List.set_cons_succ,bD,bG]
                               rfl
                              exact bV (by first|(simp only [bL,Act.put,List.setIfInBounds_toArray,List.set_cons_zero,List.set_cons_succ];done)|(simp only [bL,Act.put,List.setIfInBounds_toArray,List.set_cons_zero,List.set_cons_succ];rfl)) (Cv (v212) _ ⟨hHeld,(by (with_reducible repeat (first|apply Kd.dI|apply Kd.dJ|apply Kd.dU));exact xR.out),(bk_ xM.out),(bk_ xK.out),(by repeat (first|(with_reducible first|exact HB.out|apply ay|apply aj|apply av|refine ak ?_ xS.out|refine ak ?_ xW.out)|exact HB.out))⟩)
                            ·skip
                             rintro v212 zu ⟨hS_,yD,yE,yF,yM⟩
                             have yc : Aside0 (Kd.R (Kd.int .u8) 5 zu w.heap.size (fun _=>True) v212 xZ):=⟨yD⟩
                             have yg : Aside0 (zu.heap[xQ]? = some (.cells #[.int .u64 xX,.slice (some xU) xI.length yh] 53 (0,0))):=⟨yE⟩
                             have yj : Aside0 (zu.heap[xL]? = some (.cells #[.string ((ah xI xJ).f0),.string ((ah xI xJ).f1),.string ((ah xI xJ).f2),.int .u8 ((ah xI xJ).f3),.int .u16 ((ah xI xJ).f4),.slice xP ((ah xI xJ).f5).length xO] 103 (0,0))):=⟨yF⟩
                             have yu : Aside0 (Below w.heap.size w zu):=⟨yM⟩
                             clear xM
                             clear xK
                             clear HB
                             clear yD yE yF yM
                             have xR:=yc
                             have xM:=yg
                             have xK:=yj
                             have HB:=yu
                             clear yc yg yj yu
                             have hHeld : zu.cell? ⟨xL,0,none⟩ = some (.string ((ah xI xJ).f0)) ∧ zu.cell? ⟨xL,1,none⟩ = some (.string ((ah xI xJ).f1)) ∧ zu.cell? ⟨xL,2,none⟩ = some (.string ((ah xI xJ).f2)) ∧ zu.cell? ⟨xL,3,none⟩ = some (.int .u8 ((ah xI xJ).f3)) ∧ zu.cell? ⟨xL,4,none⟩ = some (.int .u16 ((ah xI xJ).f4)) ∧ zu.cell? ⟨xL,5,none⟩ = some (.slice xP ((ah xI xJ).f5).length xO):=hS_
                             refine bV (a':=?_) ?_ ?_
                             rotate_left
                             ·simp only [bL,Act.put,List.setIfInBounds_toArray,List.set_cons_zero,List.set_cons_succ]
                              rfl
                             refine jB (i:=3) (j:=16) (Ni:=some 31) (Nj:=some 44) #[true,true,true,true,false,true,true,false,false,true,true,false,false,true,true,true,false,false,true,true,true,false,false,true,true,true,true,false,false,false] #[true,true,true,false,false,true,true,false,false,true,true,false,false,true,true,true,true,false,true,true,true,false,false,true,true,true,true,false,false,false] rfl rfl rfl rfl (gL HT_.out (by kernel_rfl)) (by decide) (by decide) (fun K hK=>?_) (fun K hK=>?_)
                             ·skip
                              refine eD Tryd.func44 (by kernel_rfl) rfl #[.string ((ah xI xJ).f0)] (by rfl) rfl rfl (by (try simp only [List.map_toArray,List.map_cons,List.map_nil]);first|done|rfl|(simp only [List.length_drop,List.length_take];rfl)) ?_
                              with_reducible refine (bJ.calls k1 ((ah xI xJ).f0) t208 _ Co.out).mono ?_
                              rintro e yO ⟨rfl,hb⟩
                              refine ⟨_,rfl,?_⟩
                              have yc:=Aside0.mk (Kd.fT (by (with_reducible repeat (first|apply Kd.dI|apply Kd.dJ|apply Kd.dU));exact xR.out) hb)
                              have yg:=Aside0.mk (aK (g:=xQ) (o:=.cells #[.int .u64 xX,.slice (some xU) xI.length yh] 53 (0,0)) (bk_ xM.out) hb)
                              have yj:=Aside0.mk (aK (g:=xL) (o:=.cells #[.string ((ah xI xJ).f0),.string ((ah xI xJ).f1),.string ((ah xI xJ).f2),.int .u8 ((ah xI xJ).f3),.int .u16 ((ah xI xJ).f4),.slice xP ((ah xI xJ).f5).length xO] 103 (0,0)) (bk_ xK.out) hb)
                              have yu:=Aside0.mk (aQ (by repeat (first|(with_reducible first|exact HB.out|apply ay|apply aj|apply av|refine ak ?_ xS.out|refine ak ?_ xW.out)|exact HB.out)) hb)
                              clear xR
                              clear xM
                              clear xK
                              clear HB
                              have xR:=yc
                              have xM:=yg
                              have xK:=yj
                              have HB:=yu
                              clear yc yg yj yu
                              (try clear hb)
                              (try clear hb2)
                              (try clear hk)
                              (try clear hi)
                              refine hK.out _ _ ⟨(au xK.out 0).trans rfl,(au xK.out 1).trans rfl,(au xK.out 2).trans rfl,(au xK.out 3).trans rfl,(au xK.out 4).trans rfl,(au xK.out 5).trans rfl⟩ (fun hHeld=>?_)
                              clear hK K
                              refine bV (a':=?_) ?_ ?_
                              rotate_left
                              ·show Act.put _ (some 31) _ = _
                               simp only [Act.put,List.setIfInBounds_toArray,List.set_cons_zero,List.set_cons_succ,bD,bG]
                               rfl
                              refine cZ (i:=4) (N:=some 32) (v:=?_) (a':=?_) #[true,true,true,true,true,true,true,false,false,true,true,false,false,true,true,true,false,false,true,true,true,false,false,true,true,true,true,false,false,false] rfl rfl (cB HT_.out (by kernel_rfl)) (fun _ _ _ h=>h) (Or.inl ⟨by rfl,?_⟩) ?_ ?_
                              rotate_left
                              ·intro w'
                               go_simp
                               with_reducible rfl
                              rotate_left
                              ·simp only [Act.put,List.setIfInBounds_toArray,List.set_cons_zero,List.set_cons_succ,bD,bG]
                               rfl
                              exact bV (by first|(simp only [bL,Act.put,List.setIfInBounds_toArray,List.set_cons_zero,List.set_cons_succ];done)|(simp only [bL,Act.put,List.setIfInBounds_toArray,List.set_cons_zero,List.set_cons_succ];rfl)) (zN (v212) _ ⟨hHeld,(by (with_reducible repeat (first|apply Kd.dI|apply Kd.dJ|apply Kd.dU));exact xR.out),(bk_ xM.out),(bk_ xK.out),(by repeat (first|(with_reducible first|exact HB.out|apply ay|apply aj|apply av|refine ak ?_ xS.out|refine ak ?_ xW.out)|exact HB.out))⟩)
                             ·skip
                              have AB:=fU (P:=Tryd.prog) Tryd.underlying69 Tryd.underlying5 Tryd.underlying9 (Kd.gF xR.out)
                              refine jU (w1:=?_) (v:=?_) (by rfl) rfl ?_ ?_
                              rotate_left 2
                              ·go_simp
                               constructor
                               ·rfl
                               ·rfl
                              clear AB
                              refine hK.out _ _ ⟨(au xK.out 0).trans rfl,(au xK.out 1).trans rfl,(au xK.out 2).trans rfl,(au xK.out 3).trans rfl,(au xK.out 4).trans rfl,(au xK.out 5).trans rfl⟩ (fun hHeld=>?_)
                              clear hK K
                              refine bV (a':=?_) ?_ ?_
                              rotate_left
                              ·show Act.put _ (some 44) _ = _
                               simp only [Act.put,List.setIfInBounds_toArray,List.set_cons_zero,List.set_cons_succ,bD,bG]
                               rfl
                              exact bV (by first|(simp only [bL,Act.put,List.setIfInBounds_toArray,List.set_cons_zero,List.set_cons_succ];done)|(simp only [bL,Act.put,List.setIfInBounds_toArray,List.set_cons_zero,List.set_cons_succ];rfl)) (Aa (v212) _ ⟨hHeld,(by (with_reducible repeat (first|apply Kd.dI|apply Kd.dJ|apply Kd.dU));exact xR.out),(bk_ xM.out),(bk_ xK.out),(by repeat (first|(with_reducible first|exact HB.out|apply ay|apply aj|apply av|refine ak ?_ xS.out|refine ak ?_ xW.out)|exact HB.out))⟩)
                           ·skip
                            rintro _ Ab ⟨hS_,yD,yE,yF⟩
                            have yc : Aside0 (Ab.heap[xQ]? = some (.cells #[.int .u64 xX,.slice (some xU) xI.length yh] 53 (0,0))):=⟨yD⟩
                            have yg : Aside0 (Ab.heap[xL]? = some (.cells #[.string ((ah xI xJ).f0),.string ((ah xI xJ).f1),.string ((ah xI xJ).f2),.int .u8 ((ah xI xJ).f3),.int .u16 ((ah xI xJ).f4),.slice xP ((ah xI xJ).f5).length xO] 103 (0,0))):=⟨yE⟩
                            have yj : Aside0 (Below w.heap.size w Ab):=⟨yF⟩
                            clear xM
                            clear xK
                            clear HB
                            clear yD yE yF
                            have xM:=yc
                            have xK:=yg
                            have HB:=yj
                            clear yc yg yj
                            have hHeld : Ab.cell? ⟨xL,0,none⟩ = some (.string ((ah xI xJ).f0)) ∧ Ab.cell? ⟨xL,1,none⟩ = some (.string ((ah xI xJ).f1)) ∧ Ab.cell? ⟨xL,2,none⟩ = some (.string ((ah xI xJ).f2)) ∧ Ab.cell? ⟨xL,3,none⟩ = some (.int .u8 ((ah xI xJ).f3)) ∧ Ab.cell? ⟨xL,4,none⟩ = some (.int .u16 ((ah xI xJ).f4)) ∧ Ab.cell? ⟨xL,5,none⟩ = some (.slice xP ((ah xI xJ).f5).length xO):=hS_
                            refine bV (a':=?_) ?_ ?_
                            rotate_left
                            ·simp only [bL,Act.put,List.setIfInBounds_toArray,List.set_cons_zero,List.set_cons_succ]
                             rfl
                            refine jB (i:=7) (j:=15) (Ni:=some 35) (Nj:=some 43) #[true,true,true,true,true,true,true,true,false,true,true,false,false,true,true,false,false,false,true,true,true,false,false,true,true,true,true,false,false,false] #[true,true,true,true,true,true,true,false,false,true,true,false,false,true,true,true,false,false,true,true,true,false,false,true,true,true,true,false,false,false] rfl rfl rfl rfl (gL HT_.out (by kernel_rfl)) (by decide) (by decide) (fun K hK=>?_) (fun K hK=>?_)
                            ·skip
                             refine eD Tryd.func44 (by kernel_rfl) rfl #[.string ((ah xI xJ).f1)] (by rfl) rfl rfl (by (try simp only [List.map_toArray,List.map_cons,List.map_nil]);first|done|rfl|(simp only [List.length_drop,List.length_take];rfl)) ?_
                             with_reducible refine (bJ.calls k1 ((ah xI xJ).f1) xV _ Cq.out).mono ?_
                             rintro e zu ⟨rfl,hb⟩
                             refine ⟨_,rfl,?_⟩
                             have yc:=Aside0.mk (aK (g:=xQ) (o:=.cells #[.int .u64 xX,.slice (some xU) xI.length yh] 53 (0,0)) (bk_ xM.out) hb)
                             have yg:=Aside0.mk (aK (g:=xL) (o:=.cells #[.string ((ah xI xJ).f0),.string ((ah xI xJ).f1),.string ((ah xI xJ).f2),.int .u8 ((ah xI xJ).f3),.int .u16 ((ah xI xJ).f4),.slice xP ((ah xI xJ).f5).length xO] 103 (0,0)) (bk_ xK.out) hb)
                             have yj:=Aside0.mk (aQ (by repeat (first|(with_reducible first|exact HB.out|apply ay|apply aj|apply av|refine ak ?_ xS.out|refine ak ?_ xW.out)|exact HB.out)) hb)
                             clear xM
                             clear xK
                             clear HB
                             have xM:=yc
                             have xK:=yg
                             have HB:=yj
                             clear yc yg yj
                             (try clear hb)
                             (try clear hb2)
                             (try clear hk)
                             (try clear hi)
                             refine hK.out _ _ ⟨(au xK.out 0).trans rfl,(au xK.out 1).trans rfl,(au xK.out 2).trans rfl,(au xK.out 3).trans rfl,(au xK.out 4).trans rfl,(au xK.out 5).trans rfl⟩ (fun hHeld=>?_)
                             clear hK K
                             refine bV (a':=?_) ?_ ?_
                             rotate_left
                             ·show Act.put _ (some 35) _ = _
                              simp only [Act.put,List.setIfInBounds_toArray,List.set_cons_zero,List.set_cons_succ,bD,bG]
                              rfl
                             refine cZ (i:=8) (N:=some 36) (v:=?_) (a':=?_) #[true,true,true,true,true,true,true,true,true,true,true,false,false,true,true,false,false,false,true,true,true,false,false,true,true,true,true,false,false,false] rfl rfl (cB HT_.out (by kernel_rfl)) (fun _ _ _ h=>h) (Or.inl ⟨by rfl,?_⟩) ?_ ?_
                             rotate_left
                             ·intro w'
                              go_simp
                              with_reducible rfl
                             rotate_left
                             ·simp only [Act.put,List.setIfInBounds_toArray,List.set_cons_zero,List.set_cons_succ,bD,bG]
                              rfl
                             exact bV (by first|(simp only [bL,Act.put,List.setIfInBounds_toArray,List.set_cons_zero,List.set_cons_succ];done)|(simp only [bL,Act.put,List.setIfInBounds_toArray,List.set_cons_zero,List.set_cons_succ];rfl)) (AA () _ ⟨hHeld,(bk_ xM.out),(bk_ xK.out),(by repeat (first|(with_reducible first|exact HB.out|apply ay|apply aj|apply av|refine ak ?_ xS.out|refine ak ?_ xW.out)|exact HB.out))⟩)
                            ·skip
                             refine Kd.gU (Kd.int .u8) _ 5 ?hg (N:=43) ?hd (xs:=([(ah xI xJ).f3] : List Int)) (inner:=[.int .u8 ((ah xI xJ).f3)]) (ok:=fun _=>True) (okp:=fun _=>True) ?hr ?hp (fun _ hk=>hk) trivial (Below.refl _ _) (Nat.le_refl _) (by simp) ?_;(case hd=>rfl);(case hg=>rfl);(case hr=>first|(go_simp;done)|(go_simp;rfl));(case hp=>exact (dZ.one (show Kd.M (Kd.int .u8) _ _ _ ((ah xI xJ).f3) [.int .u8 ((ah xI xJ).f3)] from rfl) (dZ.none _ _)))
                             intro v212 zu zP hb hg_ hnew_
                             clear hg_ hnew_
                             (first|rw [← yI.out] at zP|(simp only [Int.reduceToNat] at zP;rw [← yI.out] at zP))
                             have yc:=Aside0.mk (Kd.gP zP (aV (by repeat (first|(with_reducible first|exact HB.out|apply ay|apply aj|apply av|refine ak ?_ xS.out|refine ak ?_ xW.out)|exact HB.out))))
                             have yg:=Aside0.mk (aK (g:=xQ) (o:=.cells #[.int .u64 xX,.slice (some xU) xI.length yh] 53 (0,0)) (bk_ xM.out) hb)
                             have yj:=Aside0.mk (aK (g:=xL) (o:=.cells #[.string ((ah xI xJ).f0),.string ((ah xI xJ).f1),.string ((ah xI xJ).f2),.int .u8 ((ah xI xJ).f3),.int .u16 ((ah xI xJ).f4),.slice xP ((ah xI xJ).f5).length xO] 103 (0,0)) (bk_ xK.out) hb)
                             have yu:=Aside0.mk (aQ (by repeat (first|(with_reducible first|exact HB.out|apply ay|apply aj|apply av|refine ak ?_ xS.out|refine ak ?_ xW.out)|exact HB.out)) hb)
                             clear xM
                             clear xK
                             clear HB
                             have xR:=yc
                             have xM:=yg
                             have xK:=yj
                             have HB:=yu
                             clear yc yg yj yu
                             clear hb zP
                             refine hK.out _ _ ⟨(au xK.out 0).trans rfl,(au xK.out 1).trans rfl,(au xK.out 2).trans rfl,(au xK.out 3).trans rfl,(au xK.out 4).trans rfl,(au xK.out 5).trans rfl⟩ (fun hHeld=>?_)
                             clear hK K
                             refine bV (a':=?_) ?_ ?_
                             rotate_left
                             ·show Act.put _ (some 43) _ = _
                              simp only [Act.put,List.setIfInBounds_toArray,List.set_cons_zero,List.set_cons_succ,bD,bG]
                              rfl
                             exact bV (by first|(simp only [bL,Act.put,List.setIfInBounds_toArray,List.set_cons_zero,List.set_cons_succ];done)|(simp only [bL,Act.put,List.setIfInBounds_toArray,List.set_cons_zero,List.set_cons_succ];rfl)) (zN (v212) _ ⟨hHeld,(by (with_reducible repeat (first|apply Kd.dI|apply Kd.dJ|apply Kd.dU));exact xR.out),(bk_ xM.out),(bk_ xK.out),(by repeat (first|(with_reducible first|exact HB.out|apply ay|apply aj|apply av|refine ak ?_ xS.out|refine ak ?_ xW.out)|exact HB.out))⟩)
                          ·skip
                           rintro v212 yO ⟨hS_,yD,yE,yF,yM⟩
                           have yc : Aside0 (Kd.R (Kd.int .u8) 5 yO w.heap.size (fun _=>True) v212 xZ):=⟨yD⟩
                           have yg : Aside0 (yO.heap[xQ]? = some (.cells #[.int .u64 xX,.slice (some xU) xI.length yh] 53 (0,0))):=⟨yE⟩
                           have yj : Aside0 (yO.heap[xL]? = some (.cells #[.string ((ah xI xJ).f0),.string ((ah xI xJ).f1),.string ((ah xI xJ).f2),.int .u8 ((ah xI xJ).f3),.int .u16 ((ah xI xJ).f4),.slice xP ((ah xI xJ).f5).length xO] 103 (0,0))):=⟨yF⟩
                           have yu : Aside0 (Below w.heap.size w yO):=⟨yM⟩
                           clear xM
                           clear xK
                           clear HB
                           clear yD yE yF yM
                           have xR:=yc
                           have xM:=yg
                           have xK:=yj
                           have HB:=yu
                           clear yc yg yj yu
                           have hHeld : yO.cell? ⟨xL,0,none⟩ = some (.string ((ah xI xJ).f0)) ∧ yO.cell? ⟨xL,1,none⟩ = some (.string ((ah xI xJ).f1)) ∧ yO.cell? ⟨xL,2,none⟩ = some (.string ((ah xI xJ).f2)) ∧ yO.cell? ⟨xL,3,none⟩ = some (.int .u8 ((ah xI xJ).f3)) ∧ yO.cell? ⟨xL,4,none⟩ = some (.int .u16 ((ah xI xJ).f4)) ∧ yO.cell? ⟨xL,5,none⟩ = some (.slice xP ((ah xI xJ).f5).length xO):=hS_
                           refine bV (a':=?_) ?_ ?_
                           rotate_left
                           ·simp only [bL,Act.put,List.setIfInBounds_toArray,List.set_cons_zero,List.set_cons_succ]
                            rfl
                           refine fV (i:=3) (N:=some 31) #[true,true,true,true,false,true,true,false,false,true,true,false,false,true,true,true,true,false,true,true,true,false,false,true,true,true,true,false,false,false] rfl rfl (eB HT_.out (by kernel_rfl)) (by decide) (fun K hK=>?_)
                           refine eD Tryd.func44 (by kernel_rfl) rfl #[.string ((ah xI xJ).f0)] (by rfl) rfl rfl (by (try simp only [List.map_toArray,List.map_cons,List.map_nil]);first|done|rfl|(simp only [List.length_drop,List.length_take];rfl)) ?_
                           with_reducible refine (bJ.calls k1 ((ah xI xJ).f0) t208 _ Co.out).mono ?_
                           rintro e w32 ⟨rfl,hb⟩
                           refine ⟨_,rfl,?_⟩
                           have yc:=Aside0.mk (Kd.fT (by (with_reducible repeat (first|apply Kd.dI|apply Kd.dJ|apply Kd.dU));exact xR.out) hb)
                           have yg:=Aside0.mk (aK (g:=xQ) (o:=.cells #[.int .u64 xX,.slice (some xU) xI.length yh] 53 (0,0)) (bk_ xM.out) hb)
                           have yj:=Aside0.mk (aK (g:=xL) (o:=.cells #[.string ((ah xI xJ).f0),.string ((ah xI xJ).f1),.string ((ah xI xJ).f2),.int .u8 ((ah xI xJ).f3),.int .u16 ((ah xI xJ).f4),.slice xP ((ah xI xJ).f5).length xO] 103 (0,0)) (bk_ xK.out) hb)
                           have yu:=Aside0.mk (aQ (by repeat (first|(with_reducible first|exact HB.out|apply ay|apply aj|apply av|refine ak ?_ xS.out|refine ak ?_ xW.out)|exact HB.out)) hb)
                           clear xR
                           clear xM
                           clear xK
                           clear HB
                           have xR:=yc
                           have xM:=yg
                           have xK:=yj
                           have HB:=yu
                           clear yc yg yj yu
                           (try clear hb)
                           (try clear hb2)
                           (try clear hk)
                           (try clear hi)
                           refine hK.out _ _ ⟨(au xK.out 0).trans rfl,(au xK.out 1).trans rfl,(au xK.out 2).trans rfl,(au xK.out 3).trans rfl,(au xK.out 4).trans rfl,(au xK.out 5).trans rfl⟩ (fun hHeld=>?_)
                           clear hK K
                           refine bV (a':=?_) ?_ ?_
                           rotate_left
                           ·show Act.put _ (some 31) _ = _
                            simp only [Act.put,List.setIfInBounds_toArray,List.set_cons_zero,List.set_cons_succ,bD,bG]
                            rfl
                           refine cZ (i:=4) (N:=some 32) (v:=?_) (a':=?_) #[true,true,true,true,true,true,true,false,false,true,true,false,false,true,true,true,true,false,true,true,true,false,false,true,true,true,true,false,false,false] rfl rfl (cB HT_.out (by kernel_rfl)) (fun _ _ _ h=>h) (Or.inl ⟨by rfl,?_⟩) ?_ ?_
                           rotate_left
                           ·intro w'
                            go_simp
                            with_reducible rfl
                           rotate_left
                           ·simp only [Act.put,List.setIfInBounds_toArray,List.set_cons_zero,List.set_cons_succ,bD,bG]
                            rfl
                           exact bV (by first|(simp only [bL,Act.put,List.setIfInBounds_toArray,List.set_cons_zero,List.set_cons_succ];done)|(simp only [bL,Act.put,List.setIfInBounds_toArray,List.set_cons_zero,List.set_cons_succ];rfl)) (zw (v212) _ ⟨hHeld,(by (with_reducible repeat (first|apply Kd.dI|apply Kd.dJ|apply Kd.dU));exact xR.out),(bk_ xM.out),(bk_ xK.out),(by repeat (first|(with_reducible first|exact HB.out|apply ay|apply aj|apply av|refine ak ?_ xS.out|refine ak ?_ xW.out)|exact HB.out))⟩)
                         ·skip
                          rintro v212 yO ⟨hS_,yD,yE,yF,yM⟩
                          have yc : Aside0 (Kd.R (Kd.int .u8) 5 yO w.heap.size (fun _=>True) v212 xZ):=⟨yD⟩
                          have yg : Aside0 (yO.heap[xQ]? = some (.cells #[.int .u64 xX,.slice (some xU) xI.length yh] 53 (0,0))):=⟨yE⟩
                          have yj : Aside0 (yO.heap[xL]? = some (.cells #[.string ((ah xI xJ).f0),.string ((ah xI xJ).f1),.string ((ah xI xJ).f2),.int .u8 ((ah xI xJ).f3),.int .u16 ((ah xI xJ).f4),.slice xP ((ah xI xJ).f5).length xO] 103 (0,0))):=⟨yF⟩
                          have yu : Aside0 (Below w.heap.size w yO):=⟨yM⟩
                          clear xM
                          clear xK
                          clear HB
                          clear yD yE yF yM
                          have xR:=yc
                          have xM:=yg
                          have xK:=yj
                          have HB:=yu
                          clear yc yg yj yu
                          have hHeld : yO.cell? ⟨xL,0,none⟩ = some (.string ((ah xI xJ).f0)) ∧ yO.cell? ⟨xL,1,none⟩ = some (.string ((ah xI xJ).f1)) ∧ yO.cell? ⟨xL,2,none⟩ = some (.string ((ah xI xJ).f2)) ∧ yO.cell? ⟨xL,3,none⟩ = some (.int .u8 ((ah xI xJ).f3)) ∧ yO.cell? ⟨xL,4,none⟩ = some (.int .u16 ((ah xI xJ).f4)) ∧ yO.cell? ⟨xL,5,none⟩ = some (.slice xP ((ah xI xJ).f5).length xO):=hS_
                          refine bV (a':=?_) ?_ ?_
                          rotate_left
                          ·simp only [bL,Act.put,List.setIfInBounds_toArray,List.set_cons_zero,List.set_cons_succ]
                           rfl
                          refine jB (i:=7) (j:=16) (Ni:=some 35) (Nj:=some 44) #[true,true,true,true,true,true,true,true,false,true,true,false,false,true,true,true,false,false,true,true,true,false,false,true,true,true,true,false,false,false] #[true,true,true,true,true,true,true,false,false,true,true,false,false,true,true,true,true,false,true,true,true,false,false,true,true,true,true,false,false,false] rfl rfl rfl rfl (gL HT_.out (by kernel_rfl)) (by decide) (by decide) (fun K hK=>?_) (fun K hK=>?_)
                          ·skip
                           refine eD Tryd.func44 (by kernel_rfl) rfl #[.string ((ah xI xJ).f1)] (by rfl) rfl rfl (by (try simp only [List.map_toArray,List.map_cons,List.map_nil]);first|done|rfl|(simp only [List.length_drop,List.length_take];rfl)) ?_
                           with_reducible refine (bJ.calls k1 ((ah xI xJ).f1) xV _ Cq.out).mono ?_
                           rintro e w32 ⟨rfl,hb⟩
                           refine ⟨_,rfl,?_⟩
                           have yc:=Aside0.mk (Kd.fT (by (with_reducible repeat (first|apply Kd.dI|apply Kd.dJ|apply Kd.dU));exact xR.out) hb)
                           have yg:=Aside0.mk (aK (g:=xQ) (o:=.cells #[.int .u64 xX,.slice (some xU) xI.length yh] 53 (0,0)) (bk_ xM.out) hb)
                           have yj:=Aside0.mk (aK (g:=xL) (o:=.cells #[.string ((ah xI xJ).f0),.string ((ah xI xJ).f1),.string ((ah xI xJ).f2),.int .u8 ((ah xI xJ).f3),.int .u16 ((ah xI xJ).f4),.slice xP ((ah xI xJ).f5).length xO] 103 (0,0)) (bk_ xK.out) hb)
                           have yu:=Aside0.mk (aQ (by repeat (first|(with_reducible first|exact HB.out|apply ay|apply aj|apply av|refine ak ?_ xS.out|refine ak ?_ xW.out)|exact HB.out)) hb)
                           clear xR
                           clear xM
                           clear xK
                           clear HB
                           have xR:=yc
                           have xM:=yg
                           have xK:=yj
                           have HB:=yu
                           clear yc yg yj yu
                           (try clear hb)
                           (try clear hb2)
                           (try clear hk)
                           (try clear hi)
                           refine hK.out _ _ ⟨(au xK.out 0).trans rfl,(au xK.out 1).trans rfl,(au xK.out 2).trans rfl,(au xK.out 3).trans rfl,(au xK.out 4).trans rfl,(au xK.out 5).trans rfl⟩ (fun hHeld=>?_)
                           clear hK K
                           refine bV (a':=?_) ?_ ?_
                           rotate_left
                           ·show Act.put _ (some 35) _ = _
                            simp only [Act.put,List.setIfInBounds_toArray,List.set_cons_zero,List.set_cons_succ,bD,bG]
                            rfl
                           refine cZ (i:=8) (N:=some 36) (v:=?_) (a':=?_) #[true,true,true,true,true,true,true,true,true,true,true,false,false,true,true,true,false,false,true,true,true,false,false,true,true,true,true,false,false,false] rfl rfl (cB HT_.out (by kernel_rfl)) (fun _ _ _ h=>h) (Or.inl ⟨by rfl,?_⟩) ?_ ?_
                           rotate_left
                           ·intro w'
                            go_simp
                            with_reducible rfl
                           rotate_left
                           ·simp only [Act.put,List.setIfInBounds_toArray,List.set_cons_zero,List.set_cons_succ,bD,bG]
                            rfl
                           exact bV (by first|(simp only [bL,Act.put,List.setIfInBounds_toArray,List.set_cons_zero,List.set_cons_succ];done)|(simp only [bL,Act.put,List.setIfInBounds_toArray,List.set_cons_zero,List.set_cons_succ];rfl)) (zI (v212) _ ⟨hHeld,(by (with_reducible repeat (first|apply Kd.dI|apply Kd.dJ|apply Kd.dU));exact xR.out),(bk_ xM.out),(bk_ xK.out),(by repeat (first|(with_reducible first|exact HB.out|apply ay|apply aj|apply av|refine ak ?_ xS.out|refine ak ?_ xW.out)|exact HB.out))⟩)
                          ·skip
                           have AJ:=fU (P:=Tryd.prog) Tryd.underlying69 Tryd.underlying5 Tryd.underlying9 (Kd.gF xR.out)
                           refine jU (w1:=?_) (v:=?_) (by rfl) rfl ?_ ?_
                           rotate_left 2
                           ·go_simp
                            constructor
                            ·rfl
                            ·rfl
                           clear AJ
                           refine hK.out _ _ ⟨(au xK.out 0).trans rfl,(au xK.out 1).trans rfl,(au xK.out 2).trans rfl,(au xK.out 3).trans rfl,(au xK.out 4).trans rfl,(au xK.out 5).trans rfl⟩ (fun hHeld=>?_)
                           clear hK K
                           refine bV (a':=?_) ?_ ?_
                           rotate_left
                           ·show Act.put _ (some 44) _ = _
                            simp only [Act.put,List.setIfInBounds_toArray,List.set_cons_zero,List.set_cons_succ,bD,bG]
                            rfl
                           exact bV (by first|(simp only [bL,Act.put,List.setIfInBounds_toArray,List.set_cons_zero,List.set_cons_succ];done)|(simp only [bL,Act.put,List.setIfInBounds_toArray,List.set_cons_zero,List.set_cons_succ];rfl)) (zw (v212) _ ⟨hHeld,(by (with_reducible repeat (first|apply Kd.dI|apply Kd.dJ|apply Kd.dU));exact xR.out),(bk_ xM.out),(bk_ xK.out),(by repeat (first|(with_reducible first|exact HB.out|apply ay|apply aj|apply av|refine ak ?_ xS.out|refine ak ?_ xW.out)|exact HB.out))⟩)
                        ·skip
                         rintro _ zu ⟨hS_,yD,yE,yF⟩
                         have yc : Aside0 (zu.heap[xQ]? = some (.cells #[.int .u64 xX,.slice (some xU) xI.length yh] 53 (0,0))):=⟨yD⟩
                         have yg : Aside0 (zu.heap[xL]? = some (.cells #[.string ((ah xI xJ).f0),.string ((ah xI xJ).f1),.string ((ah xI xJ).f2),.int .u8 ((ah xI xJ).f3),.int .u16 ((ah xI xJ).f4),.slice xP ((ah xI xJ).f5).length xO] 103 (0,0))):=⟨yE⟩
                         have yj : Aside0 (Below w.heap.size w zu):=⟨yF⟩
                         clear xM
                         clear xK
                         clear HB
                         clear yD yE yF
                         have xM:=yc
                         have xK:=yg
                         have HB:=yj
                         clear yc yg yj
                         have hHeld : zu.cell? ⟨xL,0,none⟩ = some (.string ((ah xI xJ).f0)) ∧ zu.cell? ⟨xL,1,none⟩ = some (.string ((ah xI xJ).f1)) ∧ zu.cell? ⟨xL,2,none⟩ = some (.string ((ah xI xJ).f2)) ∧ zu.cell? ⟨xL,3,none⟩ = some (.int .u8 ((ah xI xJ).f3)) ∧ zu.cell? ⟨xL,4,none⟩ = some (.int .u16 ((ah xI xJ).f4)) ∧ zu.cell? ⟨xL,5,none⟩ = some (.slice xP ((ah xI xJ).f5).length xO):=hS_
                         refine bV (a':=?_) ?_ ?_
                         rotate_left
                         ·simp only [bL,Act.put,List.setIfInBounds_toArray,List.set_cons_zero,List.set_cons_succ]
                          rfl
                         refine jB (i:=11) (j:=15) (Ni:=some 39) (Nj:=some 43) #[true,true,true,true,true,true,true,true,true,true,true,true,false,true,true,false,false,false,true,true,true,false,false,true,true,true,true,false,false,false] #[true,true,true,true,true,true,true,true,true,true,true,false,false,true,true,true,false,false,true,true,true,false,false,true,true,true,true,false,false,false] rfl rfl rfl rfl (gL HT_.out (by kernel_rfl)) (by decide) (by decide) (fun K hK=>?_) (fun K hK=>?_)
                         ·skip
                          refine eD Tryd.func44 (by kernel_rfl) rfl #[.string ((ah xI xJ).f2)] (by rfl) rfl rfl (by (try simp only [List.map_toArray,List.map_cons,List.map_nil]);first|done|rfl|(simp only [List.length_drop,List.length_take];rfl)) ?_
                          with_reducible refine (bJ.calls k1 ((ah xI xJ).f2) t210 _ Cr.out).mono ?_
                          rintro e yO ⟨rfl,hb⟩
                          refine ⟨_,rfl,?_⟩
                          have yc:=Aside0.mk (aK (g:=xQ) (o:=.cells #[.int .u64 xX,.slice (some xU) xI.length yh] 53 (0,0)) (bk_ xM.out) hb)
                          have yg:=Aside0.mk (aK (g:=xL) (o:=.cells #[.string ((ah xI xJ).f0),.string ((ah xI xJ).f1),.string ((ah xI xJ).f2),.int .u8 ((ah xI xJ).f3),.int .u16 ((ah xI xJ).f4),.slice xP ((ah xI xJ).f5).length xO] 103 (0,0)) (bk_ xK.out) hb)
                          have yj:=Aside0.mk (aQ (by repeat (first|(with_reducible first|exact HB.out|apply ay|apply aj|apply av|refine ak ?_ xS.out|refine ak ?_ xW.out)|exact HB.out)) hb)
                          clear xM
                          clear xK
                          clear HB
                          have xM:=yc
                          have xK:=yg
                          have HB:=yj
                          clear yc yg yj
                          (try clear hb)
                          (try clear hb2)
                          (try clear hk)
                          (try clear hi)
                          refine hK.out _ _ ⟨(au xK.out 0).trans rfl,(au xK.out 1).trans rfl,(au xK.out 2).trans rfl,(au xK.out 3).trans rfl,(au xK.out 4).trans rfl,(au xK.out 5).trans rfl⟩ (fun hHeld=>?_)
                          clear hK K
                          refine bV (a':=?_) ?_ ?_
                          rotate_left
                          ·show Act.put _ (some 39) _ = _
                           simp only [Act.put,List.setIfInBounds_toArray,List.set_cons_zero,List.set_cons_succ,bD,bG]
                           rfl
                          refine cZ (i:=12) (N:=some 40) (v:=?_) (a':=?_) #[true,true,true,true,true,true,true,true,true,true,true,true,true,true,true,false,false,false,true,true,true,false,false,true,true,true,true,false,false,false] rfl rfl (cB HT_.out (by kernel_rfl)) (fun _ _ _ h=>h) (Or.inl ⟨by rfl,?_⟩) ?_ ?_
                          rotate_left
                          ·intro w'
                           go_simp
                           with_reducible rfl
                          rotate_left
                          ·simp only [Act.put,List.setIfInBounds_toArray,List.set_cons_zero,List.set_cons_succ,bD,bG]
                           rfl
                          exact bV (by first|(simp only [bL,Act.put,List.setIfInBounds_toArray,List.set_cons_zero,List.set_cons_succ];done)|(simp only [bL,Act.put,List.setIfInBounds_toArray,List.set_cons_zero,List.set_cons_succ];rfl)) (zM () _ ⟨hHeld,(bk_ xM.out),(bk_ xK.out),(by repeat (first|(with_reducible first|exact HB.out|apply ay|apply aj|apply av|refine ak ?_ xS.out|refine ak ?_ xW.out)|exact HB.out))⟩)
                         ·skip
                          refine Kd.gU (Kd.int .u8) _ 5 ?hg (N:=43) ?hd (xs:=([(ah xI xJ).f3] : List Int)) (inner:=[.int .u8 ((ah xI xJ).f3)]) (ok:=fun _=>True) (okp:=fun _=>True) ?hr ?hp (fun _ hk=>hk) trivial (Below.refl _ _) (Nat.le_refl _) (by simp) ?_;(case hd=>rfl);(case hg=>rfl);(case hr=>first|(go_simp;done)|(go_simp;rfl));(case hp=>exact (dZ.one (show Kd.M (Kd.int .u8) _ _ _ ((ah xI xJ).f3) [.int .u8 ((ah xI xJ).f3)] from rfl) (dZ.none _ _)))
                          intro v212 yO zQ hb hg_ hnew_
                          clear hg_ hnew_
                          (first|rw [← yI.out] at zQ|(simp only [Int.reduceToNat] at zQ;rw [← yI.out] at zQ))
                          have yc:=Aside0.mk (Kd.gP zQ (aV (by repeat (first|(with_reducible first|exact HB.out|apply ay|apply aj|apply av|refine ak ?_ xS.out|refine ak ?_ xW.out)|exact HB.out))))
                          have yg:=Aside0.mk (aK (g:=xQ) (o:=.cells #[.int .u64 xX,.slice (some xU) xI.length yh] 53 (0,0)) (bk_ xM.out) hb)
                          have yj:=Aside0.mk (aK (g:=xL) (o:=.cells #[.string ((ah xI xJ).f0),.string ((ah xI xJ).f1),.string ((ah xI xJ).f2),.int .u8 ((ah xI xJ).f3),.int .u16 ((ah xI xJ).f4),.slice xP ((ah xI xJ).f5).length xO] 103 (0,0)) (bk_ xK.out) hb)
                          have yu:=Aside0.mk (aQ (by repeat (first|(with_reducible first|exact HB.out|apply ay|apply aj|apply av|refine ak ?_ xS.out|refine ak ?_ xW.out)|exact HB.out)) hb)
                          clear xM
                          clear xK
                          clear HB
                          have xR:=yc
                          have xM:=yg
                          have xK:=yj
                          have HB:=yu
                          clear yc yg yj yu
                          clear hb zQ
                          refine hK.out _ _ ⟨(au xK.out 0).trans rfl,(au xK.out 1).trans rfl,(au xK.out 2).trans rfl,(au xK.out 3).trans rfl,(au xK.out 4).trans rfl,(au xK.out 5).trans rfl⟩ (fun hHeld=>?_)
                          clear hK K
                          refine bV (a':=?_) ?_ ?_
                          rotate_left
                          ·show Act.put _ (some 43) _ = _
                           simp only [Act.put,List.setIfInBounds_toArray,List.set_cons_zero,List.set_cons_succ,bD,bG]
                           rfl
                          exact bV (by first|(simp only [bL,Act.put,List.setIfInBounds_toArray,List.set_cons_zero,List.set_cons_succ];done)|(simp only [bL,Act.put,List.setIfInBounds_toArray,List.set_cons_zero,List.set_cons_succ];rfl)) (zI (v212) _ ⟨hHeld,(by (with_reducible repeat (first|apply Kd.dI|apply Kd.dJ|apply Kd.dU));exact xR.out),(bk_ xM.out),(bk_ xK.out),(by repeat (first|(with_reducible first|exact HB.out|apply ay|apply aj|apply av|refine ak ?_ xS.out|refine ak ?_ xW.out)|exact HB.out))⟩)
                       ·skip
                        rintro v212 w32 ⟨hS_,yD,yE,yF,yM⟩
                        have yc : Aside0 (Kd.R (Kd.int .u8) 5 w32 w.heap.size (fun _=>True) v212 xZ):=⟨yD⟩
                        have yg : Aside0 (w32.heap[xQ]? = some (.cells #[.int .u64 xX,.slice (some xU) xI.length yh] 53 (0,0))):=⟨yE⟩
                        have yj : Aside0 (w32.heap[xL]? = some (.cells #[.string ((ah xI xJ).f0),.string ((ah xI xJ).f1),.string ((ah xI xJ).f2),.int .u8 ((ah xI xJ).f3),.int .u16 ((ah xI xJ).f4),.slice xP ((ah xI xJ).f5).length xO] 103 (0,0))):=⟨yF⟩
                        have yu : Aside0 (Below w.heap.size w w32):=⟨yM⟩
                        clear xM
                        clear xK
                        clear HB
                        clear yD yE yF yM
                        have xR:=yc
                        have xM:=yg
                        have xK:=yj
                        have HB:=yu
                        clear yc yg yj yu
                        have hHeld : w32.cell? ⟨xL,0,none⟩ = some (.string ((ah xI xJ).f0)) ∧ w32.cell? ⟨xL,1,none⟩ = some (.string ((ah xI xJ).f1)) ∧ w32.cell? ⟨xL,2,none⟩ = some (.string ((ah xI xJ).f2)) ∧ w32.cell? ⟨xL,3,none⟩ = some (.int .u8 ((ah xI xJ).f3)) ∧ w32.cell? ⟨xL,4,none⟩ = some (.int .u16 ((ah xI xJ).f4)) ∧ w32.cell? ⟨xL,5,none⟩ = some (.slice xP ((ah xI xJ).f5).length xO):=hS_
                        refine bV (a':=?_) ?_ ?_
                        rotate_left
                        ·simp only [bL,Act.put,List.setIfInBounds_toArray,List.set_cons_zero,List.set_cons_succ]
                         rfl
                        refine fV (i:=7) (N:=some 35) #[true,true,true,true,true,true,true,true,false,true,true,false,false,true,true,true,true,false,true,true,true,false,false,true,true,true,true,false,false,false] rfl rfl (eB HT_.out (by kernel_rfl)) (by decide) (fun K hK=>?_)
                        refine eD Tryd.func44 (by kernel_rfl) rfl #[.string ((ah xI xJ).f1)] (by rfl) rfl rfl (by (try simp only [List.map_toArray,List.map_cons,List.map_nil]);first|done|rfl|(simp only [List.length_drop,List.length_take];rfl)) ?_
                        with_reducible refine (bJ.calls k1 ((ah xI xJ).f1) xV _ Cq.out).mono ?_
                        rintro e yN ⟨rfl,hb⟩
                        refine ⟨_,rfl,?_⟩
                        have yc:=Aside0.mk (Kd.fT (by (with_reducible repeat (first|apply Kd.dI|apply Kd.dJ|apply Kd.dU));exact xR.out) hb)
                        have yg:=Aside0.mk (aK (g:=xQ) (o:=.cells #[.int .u64 xX,.slice (some xU) xI.length yh] 53 (0,0)) (bk_ xM.out) hb)
                        have yj:=Aside0.mk (aK (g:=xL) (o:=.cells #[.string ((ah xI xJ).f0),.string ((ah xI xJ).f1),.string ((ah xI xJ).f2),.int .u8 ((ah xI xJ).f3),.int .u16 ((ah xI xJ).f4),.slice xP ((ah xI xJ).f5).length xO] 103 (0,0)) (bk_ xK.out) hb)
                        have yu:=Aside0.mk (aQ (by repeat (first|(with_reducible first|exact HB.out|apply ay|apply aj|apply av|refine ak ?_ xS.out|refine ak ?_ xW.out)|exact HB.out)) hb)
                        clear xR
                        clear xM
                        clear xK
                        clear HB
                        have xR:=yc
                        have xM:=yg
                        have xK:=yj
                        have HB:=yu
                        clear yc yg yj yu
                        (try clear hb)
                        (try clear hb2)
                        (try clear hk)
                        (try clear hi)
                        refine hK.out _ _ ⟨(au xK.out 0).trans rfl,(au xK.out 1).trans rfl,(au xK.out 2).trans rfl,(au xK.out 3).trans rfl,(au xK.out 4).trans rfl,(au xK.out 5).trans rfl⟩ (fun hHeld=>?_)
                        clear hK K
                        refine bV (a':=?_) ?_ ?_
                        rotate_left
                        ·show Act.put _ (some 35) _ = _
                         simp only [Act.put,List.setIfInBounds_toArray,List.set_cons_zero,List.set_cons_succ,bD,bG]
                         rfl
                        refine cZ (i:=8) (N:=some 36) (v:=?_) (a':=?_) #[true,true,true,true,true,true,true,true,true,true,true,false,false,true,true,true,true,false,true,true,true,false,false,true,true,true,true,false,false,false] rfl rfl (cB HT_.out (by kernel_rfl)) (fun _ _ _ h=>h) (Or.inl ⟨by rfl,?_⟩) ?_ ?_
                        rotate_left
                        ·intro w'
                         go_simp
                         with_reducible rfl
                        rotate_left
                        ·simp only [Act.put,List.setIfInBounds_toArray,List.set_cons_zero,List.set_cons_succ,bD,bG]
                         rfl
                        exact bV (by first|(simp only [bL,Act.put,List.setIfInBounds_toArray,List.set_cons_zero,List.set_cons_succ];done)|(simp only [bL,Act.put,List.setIfInBounds_toArray,List.set_cons_zero,List.set_cons_succ];rfl)) (zk (v212) _ ⟨hHeld,(by (with_reducible repeat (first|apply Kd.dI|apply Kd.dJ|apply Kd.dU));exact xR.out),(bk_ xM.out),(bk_ xK.out),(by repeat (first|(with_reducible first|exact HB.out|apply ay|apply aj|apply av|refine ak ?_ xS.out|refine ak ?_ xW.out)|exact HB.out))⟩)
                      ·skip
                       rintro v212 w32 ⟨hS_,yD,yE,yF,yM⟩
                       have yc : Aside0 (Kd.R (Kd.int .u8) 5 w32 w.heap.size (fun _=>True) v212 xZ):=⟨yD⟩
                       have yg : Aside0 (w32.heap[xQ]? = some (.cells #[.int .u64 xX,.slice (some xU) xI.length yh] 53 (0,0))):=⟨yE⟩
                       have yj : Aside0 (w32.heap[xL]? = some (.cells #[.string ((ah xI xJ).f0),.string ((ah xI xJ).f1),.string ((ah xI xJ).f2),.int .u8 ((ah xI xJ).f3),.int .u16 ((ah xI xJ).f4),.slice xP ((ah xI xJ).f5).length xO] 103 (0,0))):=⟨yF⟩
                       have yu : Aside0 (Below w.heap.size w w32):=⟨yM⟩
                       clear xM
                       clear xK
                       clear HB
                       clear yD yE yF yM
                       have xR:=yc
                       have xM:=yg
                       have xK:=yj
                       have HB:=yu
                       clear yc yg yj yu
                       have hHeld : w32.cell? ⟨xL,0,none⟩ = some (.string ((ah xI xJ).f0)) ∧ w32.cell? ⟨xL,1,none⟩ = some (.string ((ah xI xJ).f1)) ∧ w32.cell? ⟨xL,2,none⟩ = some (.string ((ah xI xJ).f2)) ∧ w32.cell? ⟨xL,3,none⟩ = some (.int .u8 ((ah xI xJ).f3)) ∧ w32.cell? ⟨xL,4,none⟩ = some (.int .u16 ((ah xI xJ).f4)) ∧ w32.cell? ⟨xL,5,none⟩ = some (.slice xP ((ah xI xJ).f5).length xO):=hS_
                       refine bV (a':=?_) ?_ ?_
                       rotate_left
                       ·simp only [bL,Act.put,List.setIfInBounds_toArray,List.set_cons_zero,List.set_cons_succ]
                        rfl
                       refine jB (i:=11) (j:=16) (Ni:=some 39) (Nj:=some 44) #[true,true,true,true,true,true,true,true,true,true,true,true,false,true,true,true,false,false,true,true,true,false,false,true,true,true,true,false,false,false] #[true,true,true,true,true,true,true,true,true,true,true,false,false,true,true,true,true,false,true,true,true,false,false,true,true,true,true,false,false,false] rfl rfl rfl rfl (gL HT_.out (by kernel_rfl)) (by decide) (by decide) (fun K hK=>?_) (fun K hK=>?_)
                       ·skip
                        refine eD Tryd.func44 (by kernel_rfl) rfl #[.string ((ah xI xJ).f2)] (by rfl) rfl rfl (by (try simp only [List.map_toArray,List.map_cons,List.map_nil]);first|done|rfl|(simp only [List.length_drop,List.length_take];rfl)) ?_
                        with_reducible refine (bJ.calls k1 ((ah xI xJ).f2) t210 _ Cr.out).mono ?_
                        rintro e yN ⟨rfl,hb⟩
                        refine ⟨_,rfl,?_⟩
                        have yc:=Aside0.mk (Kd.fT (by (with_reducible repeat (first|apply Kd.dI|apply Kd.dJ|apply Kd.dU));exact xR.out) hb)
                        have yg:=Aside0.mk (aK (g:=xQ) (o:=.cells #[.int .u64 xX,.slice (some xU) xI.length yh] 53 (0,0)) (bk_ xM.out) hb)
                        have yj:=Aside0.mk (aK (g:=xL) (o:=.cells #[.string ((ah xI xJ).f0),.string ((ah xI xJ).f1),.string ((ah xI xJ).f2),.int .u8 ((ah xI xJ).f3),.int .u16 ((ah xI xJ).f4),.slice xP ((ah xI xJ).f5).length xO] 103 (0,0)) (bk_ xK.out) hb)
                        have yu:=Aside0.mk (aQ (by repeat (first|(with_reducible first|exact HB.out|apply ay|apply aj|apply av|refine ak ?_ xS.out|refine ak ?_ xW.out)|exact HB.out)) hb)
                        clear xR
                        clear xM
                        clear xK
                        clear HB
                        have xR:=yc
                        have xM:=yg
                        have xK:=yj
                        have HB:=yu
                        clear yc yg yj yu
                        (try clear hb)
                        (try clear hb2)
                        (try clear hk)
                        (try clear hi)
                        refine hK.out _ _ ⟨(au xK.out 0).trans rfl,(au xK.out 1).trans rfl,(au xK.out 2).trans rfl,(au xK.out 3).trans rfl,(au xK.out 4).trans rfl,(au xK.out 5).trans rfl⟩ (fun hHeld=>?_)
                        clear hK K
                        refine bV (a':=?_) ?_ ?_
                        rotate_left
                        ·show Act.put _ (some 39) _ = _
                         simp only [Act.put,List.setIfInBounds_toArray,List.set_cons_zero,List.set_cons_succ,bD,bG]
                         rfl
                        refine cZ (i:=12) (N:=some 40) (v:=?_) (a':=?_) #[true,true,true,true,true,true,true,true,true,true,true,true,true,true,true,true,false,false,true,true,true,false,false,true,true,true,true,false,false,false] rfl rfl (cB HT_.out (by kernel_rfl)) (fun _ _ _ h=>h) (Or.inl ⟨by rfl,?_⟩) ?_ ?_
                        rotate_left
                        ·intro w'
                         go_simp
                         with_reducible rfl
                        rotate_left
                        ·simp only [Act.put,List.setIfInBounds_toArray,List.set_cons_zero,List.set_cons_succ,bD,bG]
                         rfl
                        exact bV (by first|(simp only [bL,Act.put,List.setIfInBounds_toArray,List.set_cons_zero,List.set_cons_succ];done)|(simp only [bL,Act.put,List.setIfInBounds_toArray,List.set_cons_zero,List.set_cons_succ];rfl)) (zi (v212) _ ⟨hHeld,(by (with_reducible repeat (first|apply Kd.dI|apply Kd.dJ|apply Kd.dU));exact xR.out),(bk_ xM.out),(bk_ xK.out),(by repeat (first|(with_reducible first|exact HB.out|apply ay|apply aj|apply av|refine ak ?_ xS.out|refine ak ?_ xW.out)|exact HB.out))⟩)
                       ·skip
                        have AL:=fU (P:=Tryd.prog) Tryd.underlying69 Tryd.underlying5 Tryd.underlying9 (Kd.gF xR.out)
                        refine jU (w1:=?_) (v:=?_) (by rfl) rfl ?_ ?_
                        rotate_left 2
                        ·go_simp
                         constructor
                         ·rfl
                         ·rfl
                        clear AL
                        refine hK.out _ _ ⟨(au xK.out 0).trans rfl,(au xK.out 1).trans rfl,(au xK.out 2).trans rfl,(au xK.out 3).trans rfl,(au xK.out 4).trans rfl,(au xK.out 5).trans rfl⟩ (fun hHeld=>?_)
                        clear hK K
                        refine bV (a':=?_) ?_ ?_
                        rotate_left
                        ·show Act.put _ (some 44) _ = _
                         simp only [Act.put,List.setIfInBounds_toArray,List.set_cons_zero,List.set_cons_succ,bD,bG]
                         rfl
                        exact bV (by first|(simp only [bL,Act.put,List.setIfInBounds_toArray,List.set_cons_zero,List.set_cons_succ];done)|(simp only [bL,Act.put,List.setIfInBounds_toArray,List.set_cons_zero,List.set_cons_succ];rfl)) (zk (v212) _ ⟨hHeld,(by (with_reducible repeat (first|apply Kd.dI|apply Kd.dJ|apply Kd.dU));exact xR.out),(bk_ xM.out),(bk_ xK.out),(by repeat (first|(with_reducible first|exact HB.out|apply ay|apply aj|apply av|refine ak ?_ xS.out|refine ak ?_ xW.out)|exact HB.out))⟩)
                     ·skip
                      rintro _ yO ⟨hS_,yD,yE,yF⟩
                      have yc : Aside0 (yO.heap[xQ]? = some (.cells #[.int .u64 xX,.slice (some xU) xI.length yh] 53 (0,0))):=⟨yD⟩
                      have yg : Aside0 (yO.heap[xL]? = some (.cells #[.string ((ah xI xJ).f0),.string ((ah xI xJ).f1),.string ((ah xI xJ).f2),.int .u8 ((ah xI xJ).f3),.int .u16 ((ah xI xJ).f4),.slice xP ((ah xI xJ).f5).length xO] 103 (0,0))):=⟨yE⟩
                      have yj : Aside0 (Below w.heap.size w yO):=⟨yF⟩
                      clear xM
                      clear xK
                      clear HB
                      clear yD yE yF
                      have xM:=yc
                      have xK:=yg
                      have HB:=yj
                      clear yc yg yj
                      have hHeld : yO.cell? ⟨xL,0,none⟩ = some (.string ((ah xI xJ).f0)) ∧ yO.cell? ⟨xL,1,none⟩ = some (.string ((ah xI xJ).f1)) ∧ yO.cell? ⟨xL,2,none⟩ = some (.string ((ah xI xJ).f2)) ∧ yO.cell? ⟨xL,3,none⟩ = some (.int .u8 ((ah xI xJ).f3)) ∧ yO.cell? ⟨xL,4,none⟩ = some (.int .u16 ((ah xI xJ).f4)) ∧ yO.cell? ⟨xL,5,none⟩ = some (.slice xP ((ah xI xJ).f5).length xO):=hS_
                      refine bV (a':=?_) ?_ ?_
                      rotate_left
                      ·simp only [bL,Act.put,List.setIfInBounds_toArray,List.set_cons_zero,List.set_cons_succ]
                       rfl
                      refine jB (i:=15) (j:=21) (Ni:=some 43) (Nj:=some 49) #[true,true,true,true,true,true,true,true,true,true,true,true,true,true,true,true,false,false,true,true,true,false,false,true,true,true,true,false,false,false] #[true,true,true,true,true,true,true,true,true,true,true,true,true,true,true,false,false,false,true,true,true,true,false,true,true,true,true,false,false,false] rfl rfl rfl rfl (gL HT_.out (by kernel_rfl)) (by decide) (by decide) (fun K hK=>?_) (fun K hK=>?_)
                      ·skip
                       refine Kd.gU (Kd.int .u8) _ 5 ?hg (N:=43) ?hd (xs:=([(ah xI xJ).f3] : List Int)) (inner:=[.int .u8 ((ah xI xJ).f3)]) (ok:=fun _=>True) (okp:=fun _=>True) ?hr ?hp (fun _ hk=>hk) trivial (Below.refl _ _) (Nat.le_refl _) (by simp) ?_;(case hd=>rfl);(case hg=>rfl);(case hr=>first|(go_simp;done)|(go_simp;rfl));(case hp=>exact (dZ.one (show Kd.M (Kd.int .u8) _ _ _ ((ah xI xJ).f3) [.int .u8 ((ah xI xJ).f3)] from rfl) (dZ.none _ _)))
                       intro v212 w32 zR hb hg_ hnew_
                       clear hg_ hnew_
                       (first|rw [← yI.out] at zR|(simp only [Int.reduceToNat] at zR;rw [← yI.out] at zR))
                       have yc:=Aside0.mk (Kd.gP zR (aV (by repeat (first|(with_reducible first|exact HB.out|apply ay|apply aj|apply av|refine ak ?_ xS.out|refine ak ?_ xW.out)|exact HB.out))))
                       have yg:=Aside0.mk (aK (g:=xQ) (o:=.cells #[.int .u64 xX,.slice (some xU) xI.length yh] 53 (0,0)) (bk_ xM.out) hb)
                       have yj:=Aside0.mk (aK (g:=xL) (o:=.cells #[.string ((ah xI xJ).f0),.string ((ah xI xJ).f1),.string ((ah xI xJ).f2),.int .u8 ((ah xI xJ).f3),.int .u16 ((ah xI xJ).f4),.slice xP ((ah xI xJ).f5).length xO] 103 (0,0)) (bk_ xK.out) hb)
                       have yu:=Aside0.mk (aQ (by repeat (first|(with_reducible first|exact HB.out|apply ay|apply aj|apply av|refine ak ?_ xS.out|refine ak ?_ xW.out)|exact HB.out)) hb)
                       clear xM
                       clear xK
                       clear HB
                       have xR:=yc
                       have xM:=yg
                       have xK:=yj
                       have HB:=yu
                       clear yc yg yj yu
                       clear hb zR
                       refine hK.out _ _ ⟨(au xK.out 0).trans rfl,(au xK.out 1).trans rfl,(au xK.out 2).trans rfl,(au xK.out 3).trans rfl,(au xK.out 4).trans rfl,(au xK.out 5).trans rfl⟩ (fun hHeld=>?_)
                       clear hK K
                       refine bV (a':=?_) ?_ ?_
                       rotate_left
                       ·show Act.put _ (some 43) _ = _
                        simp only [Act.put,List.setIfInBounds_toArray,List.set_cons_zero,List.set_cons_succ,bD,bG]
                        rfl
                       exact bV (by first|(simp only [bL,Act.put,List.setIfInBounds_toArray,List.set_cons_zero,List.set_cons_succ];done)|(simp only [bL,Act.put,List.setIfInBounds_toArray,List.set_cons_zero,List.set_cons_succ];rfl)) (zi (v212) _ ⟨hHeld,(by (with_reducible repeat (first|apply Kd.dI|apply Kd.dJ|apply Kd.dU));exact xR.out),(bk_ xM.out),(bk_ xK.out),(by repeat (first|(with_reducible first|exact HB.out|apply ay|apply aj|apply av|refine ak ?_ xS.out|refine ak ?_ xW.out)|exact HB.out))⟩)
                      ·skip
                       refine eD Tryd.func43 (by kernel_rfl) rfl #[.int .i64 2,.int .u64 (IntKind.u64.wrap ((ah xI xJ).f4))] (by rfl) rfl rfl (by (try simp only [List.map_toArray,List.map_cons,List.map_nil]);first|done|rfl|(simp only [List.length_drop,List.length_take];rfl)) ?_
                       with_reducible refine (aT.calls k1 2 (IntKind.u64.wrap ((ah xI xJ).f4)) yw _ Cu.out).mono ?_
                       rintro e w32 ⟨rfl,hb⟩
                       refine ⟨_,rfl,?_⟩
                       have yc:=Aside0.mk (aK (g:=xQ) (o:=.cells #[.int .u64 xX,.slice (some xU) xI.length yh] 53 (0,0)) (bk_ xM.out) hb)
                       have yg:=Aside0.mk (aK (g:=xL) (o:=.cells #[.string ((ah xI xJ).f0),.string ((ah xI xJ).f1),.string ((ah xI xJ).f2),.int .u8 ((ah xI xJ).f3),.int .u16 ((ah xI xJ).f4),.slice xP ((ah xI xJ).f5).length xO] 103 (0,0)) (bk_ xK.out) hb)
                       have yj:=Aside0.mk (aQ (by repeat (first|(with_reducible first|exact HB.out|apply ay|apply aj|apply av|refine ak ?_ xS.out|refine ak ?_ xW.out)|exact HB.out)) hb)
                       clear xM
                       clear xK
                       clear HB
                       have xM:=yc
                       have xK:=yg
                       have HB:=yj
                       clear yc yg yj
                       (try clear hb)
                       (try clear hb2)
                       (try clear hk)
                       (try clear hi)
                       refine hK.out _ _ ⟨(au xK.out 0).trans rfl,(au xK.out 1).trans rfl,(au xK.out 2).trans rfl,(au xK.out 3).trans rfl,(au xK.out 4).trans rfl,(au xK.out 5).trans rfl⟩ (fun hHeld=>?_)
                       clear hK K
                       refine bV (a':=?_) ?_ ?_
                       rotate_left
                       ·show Act.put _ (some 49) _ = _
                        simp only [Act.put,List.setIfInBounds_toArray,List.set_cons_zero,List.set_cons_succ,bD,bG]
                        rfl
                       exact bV (by first|(simp only [bL,Act.put,List.setIfInBounds_toArray,List.set_cons_zero,List.set_cons_succ];done)|(simp only [bL,Act.put,List.setIfInBounds_toArray,List.set_cons_zero,List.set_cons_succ];rfl)) (zH () _ ⟨hHeld,(bk_ xM.out),(bk_ xK.out),(by repeat (first|(with_reducible first|exact HB.out|apply ay|apply aj|apply av|refine ak ?_ xS.out|refine ak ?_ xW.out)|exact HB.out))⟩)
                    ·skip
                     rintro v212 yN ⟨hS_,yD,yE,yF,yM⟩
                     have yc : Aside0 (Kd.R (Kd.int .u8) 5 yN w.heap.size (fun _=>True) v212 xZ):=⟨yD⟩
                     have yg : Aside0 (yN.heap[xQ]? = some (.cells #[.int .u64 xX,.slice (some xU) xI.length yh] 53 (0,0))):=⟨yE⟩
                     have yj : Aside0 (yN.heap[xL]? = some (.cells #[.string ((ah xI xJ).f0),.string ((ah xI xJ).f1),.string ((ah xI xJ).f2),.int .u8 ((ah xI xJ).f3),.int .u16 ((ah xI xJ).f4),.slice xP ((ah xI xJ).f5).length xO] 103 (0,0))):=⟨yF⟩
                     have yu : Aside0 (Below w.heap.size w yN):=⟨yM⟩
                     clear xM
                     clear xK
                     clear HB
                     clear yD yE yF yM
                     have xR:=yc
                     have xM:=yg
                     have xK:=yj
                     have HB:=yu
                     clear yc yg yj yu
                     have hHeld : yN.cell? ⟨xL,0,none⟩ = some (.string ((ah xI xJ).f0)) ∧ yN.cell? ⟨xL,1,none⟩ = some (.string ((ah xI xJ).f1)) ∧ yN.cell? ⟨xL,2,none⟩ = some (.string ((ah xI xJ).f2)) ∧ yN.cell? ⟨xL,3,none⟩ = some (.int .u8 ((ah xI xJ).f3)) ∧ yN.cell? ⟨xL,4,none⟩ = some (.int .u16 ((ah xI xJ).f4)) ∧ yN.cell? ⟨xL,5,none⟩ = some (.slice xP ((ah xI xJ).f5).length xO):=hS_
                     refine bV (a':=?_) ?_ ?_
                     rotate_left
                     ·simp only [bL,Act.put,List.setIfInBounds_toArray,List.set_cons_zero,List.set_cons_succ]
                      rfl
                     refine fV (i:=11) (N:=some 39) #[true,true,true,true,true,true,true,true,true,true,true,true,false,true,true,true,true,false,true,true,true,false,false,true,true,true,true,false,false,false] rfl rfl (eB HT_.out (by kernel_rfl)) (by decide) (fun K hK=>?_)
                     refine eD Tryd.func44 (by kernel_rfl) rfl #[.string ((ah xI xJ).f2)] (by rfl) rfl rfl (by (try simp only [List.map_toArray,List.map_cons,List.map_nil]);first|done|rfl|(simp only [List.length_drop,List.length_take];rfl)) ?_
                     with_reducible refine (bJ.calls k1 ((ah xI xJ).f2) t210 _ Cr.out).mono ?_
                     rintro e zn ⟨rfl,hb⟩
                     refine ⟨_,rfl,?_⟩
                     have yc:=Aside0.mk (Kd.fT (by (with_reducible repeat (first|apply Kd.dI|apply Kd.dJ|apply Kd.dU));exact xR.out) hb)
                     have yg:=Aside0.mk (aK (g:=xQ) (o:=.cells #[.int .u64 xX,.slice (some xU) xI.length yh] 53 (0,0)) (bk_ xM.out) hb)
                     have yj:=Aside0.mk (aK (g:=xL) (o:=.cells #[.string ((ah xI xJ).f0),.string ((ah xI xJ).f1),.string ((ah xI xJ).f2),.int .u8 ((ah xI xJ).f3),.int .u16 ((ah xI xJ).f4),.slice xP ((ah xI xJ).f5).length xO] 103 (0,0)) (bk_ xK.out) hb)
                     have yu:=Aside0.mk (aQ (by repeat (first|(with_reducible first|exact HB.out|apply ay|apply aj|apply av|refine ak ?_ xS.out|refine ak ?_ xW.out)|exact HB.out)) hb)
                     clear xR
                     clear xM
                     clear xK
                     clear HB
                     have xR:=yc
                     have xM:=yg
                     have xK:=yj
                     have HB:=yu
                     clear yc yg yj yu
                     (try clear hb)
                     (try clear hb2)
                     (try clear hk)
                     (try clear hi)
                     refine hK.out _ _ ⟨(au xK.out 0).trans rfl,(au xK.out 1).trans rfl,(au xK.out 2).trans rfl,(au xK.out 3).trans rfl,(au xK.out 4).trans rfl,(au xK.out 5).trans rfl⟩ (fun hHeld=>?_)
                     clear hK K
                     refine bV (a':=?_) ?_ ?_
                     rotate_left
                     ·show Act.put _ (some 39) _ = _
                      simp only [Act.put,List.setIfInBounds_toArray,List.set_cons_zero,List.set_cons_succ,bD,bG]
                      rfl
                     refine cZ (i:=12) (N:=some 40) (v:=?_) (a':=?_) #[true,true,true,true,true,true,true,true,true,true,true,true,true,true,true,true,true,false,true,true,true,false,false,true,true,true,true,false,false,false] rfl rfl (cB HT_.out (by kernel_rfl)) (fun _ _ _ h=>h) (Or.inl ⟨by rfl,?_⟩) ?_ ?_
                     rotate_left
                     ·intro w'
                      go_simp
                      with_reducible rfl
                     rotate_left
                     ·simp only [Act.put,List.setIfInBounds_toArray,List.set_cons_zero,List.set_cons_succ,bD,bG]
                      rfl
                     refine cZ (i:=17) (N:=some 45) (v:=?_) (a':=?_) #[true,true,true,true,true,true,true,true,true,true,true,true,true,true,true,true,true,true,true,true,true,false,false,true,true,true,true,false,false,false] rfl rfl (cB HT_.out (by kernel_rfl)) (fun _ _ _ h=>h) (Or.inl ⟨by rfl,?_⟩) ?_ ?_
                     rotate_left
                     ·intro w'
                      go_simp
                      with_reducible rfl
                     rotate_left
                     ·simp only [Act.put,List.setIfInBounds_toArray,List.set_cons_zero,List.set_cons_succ,bD,bG]
                      rfl
                     exact bV (by first|(simp only [bL,Act.put,List.setIfInBounds_toArray,List.set_cons_zero,List.set_cons_succ];done)|(simp only [bL,Act.put,List.setIfInBounds_toArray,List.set_cons_zero,List.set_cons_succ];rfl)) (yK (v212) _ ⟨hHeld,(by (with_reducible repeat (first|apply Kd.dI|apply Kd.dJ|apply Kd.dU));exact xR.out),(bk_ xM.out),(bk_ xK.out),(by repeat (first|(with_reducible first|exact HB.out|apply ay|apply aj|apply av|refine ak ?_ xS.out|refine ak ?_ xW.out)|exact HB.out))⟩)
                   ·skip
                    rintro _ w32 ⟨hS_,yD,yE,yF⟩
                    have yc : Aside0 (w32.heap[xQ]? = some (.cells #[.int .u64 xX,.slice (some xU) xI.length yh] 53 (0,0))):=⟨yD⟩
                    have yg : Aside0 (w32.heap[xL]? = some (.cells #[.string ((ah xI xJ).f0),.string ((ah xI xJ).f1),.string ((ah xI xJ).f2),.int .u8 ((ah xI xJ).f3),.int .u16 ((ah xI xJ).f4),.slice xP ((ah xI xJ).f5).length xO] 103 (0,0))):=⟨yE⟩
                    have yj : Aside0 (Below w.heap.size w w32):=⟨yF⟩
                    clear xM
                    clear xK
                    clear HB
                    clear yD yE yF
                    have xM:=yc
                    have xK:=yg
                    have HB:=yj
                    clear yc yg yj
                    have hHeld : w32.cell? ⟨xL,0,none⟩ = some (.string ((ah xI xJ).f0)) ∧ w32.cell? ⟨xL,1,none⟩ = some (.string ((ah xI xJ).f1)) ∧ w32.cell? ⟨xL,2,none⟩ = some (.string ((ah xI xJ).f2)) ∧ w32.cell? ⟨xL,3,none⟩ = some (.int .u8 ((ah xI xJ).f3)) ∧ w32.cell? ⟨xL,4,none⟩ = some (.int .u16 ((ah xI xJ).f4)) ∧ w32.cell? ⟨xL,5,none⟩ = some (.slice xP ((ah xI xJ).f5).length xO):=hS_
                    refine bV (a':=?_) ?_ ?_
                    rotate_left
                    ·simp only [bL,Act.put,List.setIfInBounds_toArray,List.set_cons_zero,List.set_cons_succ]
                     rfl
                    refine jB (i:=15) (j:=27) (Ni:=some 43) (Nj:=some 55) #[true,true,true,true,true,true,true,true,true,true,true,true,true,true,true,true,false,false,true,true,true,true,false,true,true,true,true,false,false,false] #[true,true,true,true,true,true,true,true,true,true,true,true,true,true,true,false,false,false,true,true,true,true,false,true,true,true,true,true,false,false] rfl rfl rfl rfl (gL HT_.out (by kernel_rfl)) (by decide) (by decide) (fun K hK=>?_) (fun K hK=>?_)
                    ·skip
                     refine Kd.gU (Kd.int .u8) _ 5 ?hg (N:=43) ?hd (xs:=([(ah xI xJ).f3] : List Int)) (inner:=[.int .u8 ((ah xI xJ).f3)]) (ok:=fun _=>True) (okp:=fun _=>True) ?hr ?hp (fun _ hk=>hk) trivial (Below.refl _ _) (Nat.le_refl _) (by simp) ?_;(case hd=>rfl);(case hg=>rfl);(case hr=>first|(go_simp;done)|(go_simp;rfl));(case hp=>exact (dZ.one (show Kd.M (Kd.int .u8) _ _ _ ((ah xI xJ).f3) [.int .u8 ((ah xI xJ).f3)] from rfl) (dZ.none _ _)))
                     intro v212 yN zS hb hg_ hnew_
                     clear hg_ hnew_
                     (first|rw [← yI.out] at zS|(simp only [Int.reduceToNat] at zS;rw [← yI.out] at zS))
                     have yc:=Aside0.mk (Kd.gP zS (aV (by repeat (first|(with_reducible first|exact HB.out|apply ay|apply aj|apply av|refine ak ?_ xS.out|refine ak ?_ xW.out)|exact HB.out))))
                     have yg:=Aside0.mk (aK (g:=xQ) (o:=.cells #[.int .u64 xX,.slice (some xU) xI.length yh] 53 (0,0)) (bk_ xM.out) hb)
                     have yj:=Aside0.mk (aK (g:=xL) (o:=.cells #[.string ((ah xI xJ).f0),.string ((ah xI xJ).f1),.string ((ah xI xJ).f2),.int .u8 ((ah xI xJ).f3),.int .u16 ((ah xI xJ).f4),.slice xP ((ah xI xJ).f5).length xO] 103 (0,0)) (bk_ xK.out) hb)
                     have yu:=Aside0.mk (aQ (by repeat (first|(with_reducible first|exact HB.out|apply ay|apply aj|apply av|refine ak ?_ xS.out|refine ak ?_ xW.out)|exact HB.out)) hb)
                     clear xM
                     clear xK
                     clear HB
                     have xR:=yc
                     have xM:=yg
                     have xK:=yj
                     have HB:=yu
                     clear yc yg yj yu
                     clear hb zS
                     refine hK.out _ _ ⟨(au xK.out 0).trans rfl,(au xK.out 1).trans rfl,(au xK.out 2).trans rfl,(au xK.out 3).trans rfl,(au xK.out 4).trans rfl,(au xK.out 5).trans rfl⟩ (fun hHeld=>?_)
                     clear hK K
                     refine bV (a':=?_) ?_ ?_
                     rotate_left
                     ·show Act.put _ (some 43) _ = _
                      simp only [Act.put,List.setIfInBounds_toArray,List.set_cons_zero,List.set_cons_succ,bD,bG]
                      rfl
                     exact bV (by first|(simp only [bL,Act.put,List.setIfInBounds_toArray,List.set_cons_zero,List.set_cons_succ];done)|(simp only [bL,Act.put,List.setIfInBounds_toArray,List.set_cons_zero,List.set_cons_succ];rfl)) (yL (v212) _ ⟨hHeld,(by (with_reducible repeat (first|apply Kd.dI|apply Kd.dJ|apply Kd.dU));exact xR.out),(bk_ xM.out),(bk_ xK.out),(by repeat (first|(with_reducible first|exact HB.out|apply ay|apply aj|apply av|refine ak ?_ xS.out|refine ak ?_ xW.out)|exact HB.out))⟩)
                    ·skip
                     refine eD Tryd.func43 (by kernel_rfl) rfl #[.int .i64 1,.int .u64 (IntKind.u64.wrap ((((ah xI xJ).f5).length : Int)))] (by rfl) rfl rfl (by (try simp only [List.map_toArray,List.map_cons,List.map_nil]);first|done|rfl|(simp only [List.length_drop,List.length_take];rfl)) ?_
                     with_reducible refine (aT.calls k1 1 (IntKind.u64.wrap ((((ah xI xJ).f5).length : Int))) yB _ Ap.out).mono ?_
                     rintro e yN ⟨rfl,hb⟩
                     refine ⟨_,rfl,?_⟩
                     have yc:=Aside0.mk (aK (g:=xQ) (o:=.cells #[.int .u64 xX,.slice (some xU) xI.length yh] 53 (0,0)) (bk_ xM.out) hb)
                     have yg:=Aside0.mk (aK (g:=xL) (o:=.cells #[.string ((ah xI xJ).f0),.string ((ah xI xJ).f1),.string ((ah xI xJ).f2),.int .u8 ((ah xI xJ).f3),.int .u16 ((ah xI xJ).f4),.slice xP ((ah xI xJ).f5).length xO] 103 (0,0)) (bk_ xK.out) hb)
                     have yj:=Aside0.mk (aQ (by repeat (first|(with_reducible first|exact HB.out|apply ay|apply aj|apply av|refine ak ?_ xS.out|refine ak ?_ xW.out)|exact HB.out)) hb)
                     clear xM
                     clear xK
                     clear HB
                     have xM:=yc
                     have xK:=yg
                     have HB:=yj
                     clear yc yg yj
                     (try clear hb)
                     (try clear hb2)
                     (try clear hk)
                     (try clear hi)
                     refine hK.out _ _ ⟨(au xK.out 0).trans rfl,(au xK.out 1).trans rfl,(au xK.out 2).trans rfl,(au xK.out 3).trans rfl,(au xK.out 4).trans rfl,(au xK.out 5).trans rfl⟩ (fun hHeld=>?_)
                     clear hK K
                     refine bV (a':=?_) ?_ ?_
                     rotate_left
                     ·show Act.put _ (some 55) _ = _
                      simp only [Act.put,List.setIfInBounds_toArray,List.set_cons_zero,List.set_cons_succ,bD,bG]
                      rfl
                     exact bV (by first|(simp only [bL,Act.put,List.setIfInBounds_toArray,List.set_cons_zero,List.set_cons_succ];done)|(simp only [bL,Act.put,List.setIfInBounds_toArray,List.set_cons_zero,List.set_cons_succ];rfl)) (zo () _ ⟨hHeld,(bk_ xM.out),(bk_ xK.out),(by repeat (first|(with_reducible first|exact HB.out|apply ay|apply aj|apply av|refine ak ?_ xS.out|refine ak ?_ xW.out)|exact HB.out))⟩)
                  ·skip
                   rintro v212 yN ⟨hS_,yD,yE,yF,yM⟩
                   have yc : Aside0 (Kd.R (Kd.int .u8) 5 yN w.heap.size (fun _=>True) v212 xZ):=⟨yD⟩
                   have yg : Aside0 (yN.heap[xQ]? = some (.cells #[.int .u64 xX,.slice (some xU) xI.length yh] 53 (0,0))):=⟨yE⟩
                   have yj : Aside0 (yN.heap[xL]? = some (.cells #[.string ((ah xI xJ).f0),.string ((ah xI xJ).f1),.string ((ah xI xJ).f2),.int .u8 ((ah xI xJ).f3),.int .u16 ((ah xI xJ).f4),.slice xP ((ah xI xJ).f5).length xO] 103 (0,0))):=⟨yF⟩
                   have yu : Aside0 (Below w.heap.size w yN):=⟨yM⟩
                   clear xM
                   clear xK
                   clear HB
                   clear yD yE yF yM
                   have xR:=yc
                   have xM:=yg
                   have xK:=yj
                   have HB:=yu
                   clear yc yg yj yu
                   have hHeld : yN.cell? ⟨xL,0,none⟩ = some (.string ((ah xI xJ).f0)) ∧ yN.cell? ⟨xL,1,none⟩ = some (.string ((ah xI xJ).f1)) ∧ yN.cell? ⟨xL,2,none⟩ = some (.string ((ah xI xJ).f2)) ∧ yN.cell? ⟨xL,3,none⟩ = some (.int .u8 ((ah xI xJ).f3)) ∧ yN.cell? ⟨xL,4,none⟩ = some (.int .u16 ((ah xI xJ).f4)) ∧ yN.cell? ⟨xL,5,none⟩ = some (.slice xP ((ah xI xJ).f5).length xO):=hS_
                   refine bV (a':=?_) ?_ ?_
                   rotate_left
                   ·simp only [bL,Act.put,List.setIfInBounds_toArray,List.set_cons_zero,List.set_cons_succ]
                    rfl
                   refine jB (i:=16) (j:=21) (Ni:=some 44) (Nj:=some 49) #[true,true,true,true,true,true,true,true,true,true,true,true,true,true,true,true,true,false,true,true,true,false,false,true,true,true,true,false,false,false] #[true,true,true,true,true,true,true,true,true,true,true,true,true,true,true,true,false,false,true,true,true,true,false,true,true,true,true,false,false,false] rfl rfl rfl rfl (gL HT_.out (by kernel_rfl)) (by decide) (by decide) (fun K hK=>?_) (fun K hK=>?_)
                   ·skip
                    have Ae:=fU (P:=Tryd.prog) Tryd.underlying69 Tryd.underlying5 Tryd.underlying9 (Kd.gF xR.out)
                    refine jU (w1:=?_) (v:=?_) (by rfl) rfl ?_ ?_
                    rotate_left 2
                    ·go_simp
                     constructor
                     ·rfl
                     ·rfl
                    clear Ae
                    refine hK.out _ _ ⟨(au xK.out 0).trans rfl,(au xK.out 1).trans rfl,(au xK.out 2).trans rfl,(au xK.out 3).trans rfl,(au xK.out 4).trans rfl,(au xK.out 5).trans rfl⟩ (fun hHeld=>?_)
                    clear hK K
                    refine bV (a':=?_) ?_ ?_
                    rotate_left
                    ·show Act.put _ (some 44) _ = _
                     simp only [Act.put,List.setIfInBounds_toArray,List.set_cons_zero,List.set_cons_succ,bD,bG]
                     rfl
                    refine cZ (i:=17) (N:=some 45) (v:=?_) (a':=?_) #[true,true,true,true,true,true,true,true,true,true,true,true,true,true,true,true,true,true,true,true,true,false,false,true,true,true,true,false,false,false] rfl rfl (cB HT_.out (by kernel_rfl)) (fun _ _ _ h=>h) (Or.inl ⟨by rfl,?_⟩) ?_ ?_
                    rotate_left
                    ·intro w'
                     go_simp
                     with_reducible rfl
                    rotate_left
                    ·simp only [Act.put,List.setIfInBounds_toArray,List.set_cons_zero,List.set_cons_succ,bD,bG]
                     rfl
                    exact bV (by first|(simp only [bL,Act.put,List.setIfInBounds_toArray,List.set_cons_zero,List.set_cons_succ];done)|(simp only [bL,Act.put,List.setIfInBounds_toArray,List.set_cons_zero,List.set_cons_succ];rfl)) (yK (v212) _ ⟨hHeld,(by (with_reducible repeat (first|apply Kd.dI|apply Kd.dJ|apply Kd.dU));exact xR.out),(bk_ xM.out),(bk_ xK.out),(by repeat (first|(with_reducible first|exact HB.out|apply ay|apply aj|apply av|refine ak ?_ xS.out|refine ak ?_ xW.out)|exact HB.out))⟩)
                   ·skip
                    refine eD Tryd.func43 (by kernel_rfl) rfl #[.int .i64 2,.int .u64 (IntKind.u64.wrap ((ah xI xJ).f4))] (by rfl) rfl rfl (by (try simp only [List.map_toArray,List.map_cons,List.map_nil]);first|done|rfl|(simp only [List.length_drop,List.length_take];rfl)) ?_
                    with_reducible refine (aT.calls k1 2 (IntKind.u64.wrap ((ah xI xJ).f4)) yw _ Cu.out).mono ?_
                    rintro e zn ⟨rfl,hb⟩
                    refine ⟨_,rfl,?_⟩
                    have yc:=Aside0.mk (Kd.fT (by (with_reducible repeat (first|apply Kd.dI|apply Kd.dJ|apply Kd.dU));exact xR.out) hb)
                    have yg:=Aside0.mk (aK (g:=xQ) (o:=.cells #[.int .u64 xX,.slice (some xU) xI.length yh] 53 (0,0)) (bk_ xM.out) hb)
                    have yj:=Aside0.mk (aK (g:=xL) (o:=.cells #[.string ((ah xI xJ).f0),.string ((ah xI xJ).f1),.string ((ah xI xJ).f2),.int .u8 ((ah xI xJ).f3),.int .u16 ((ah xI xJ).f4),.slice xP ((ah xI xJ).f5).length xO] 103 (0,0)) (bk_ xK.out) hb)
                    have yu:=Aside0.mk (aQ (by repeat (first|(with_reducible first|exact HB.out|apply ay|apply aj|apply av|refine ak ?_ xS.out|refine ak ?_ xW.out)|exact HB.out)) hb)
                    clear xR
                    clear xM
                    clear xK
                    clear HB
                    have xR:=yc
                    have xM:=yg
                    have xK:=yj
                    have HB:=yu
                    clear yc yg yj yu
                    (try clear hb)
                    (try clear hb2)
                    (try clear hk)
                    (try clear hi)
                    refine hK.out _ _ ⟨(au xK.out 0).trans rfl,(au xK.out 1).trans rfl,(au xK.out 2).trans rfl,(au xK.out 3).trans rfl,(au xK.out 4).trans rfl,(au xK.out 5).trans rfl⟩ (fun hHeld=>?_)
                    clear hK K
                    refine bV (a':=?_) ?_ ?_
                    rotate_left
                    ·show Act.put _ (some 49) _ = _
                     simp only [Act.put,List.setIfInBounds_toArray,List.set_cons_zero,List.set_cons_succ,bD,bG]
                     rfl
                    exact bV (by first|(simp only [bL,Act.put,List.setIfInBounds_toArray,List.set_cons_zero,List.set_cons_succ];done)|(simp only [bL,Act.put,List.setIfInBounds_toArray,List.set_cons_zero,List.set_cons_succ];rfl)) (yL (v212) _ ⟨hHeld,(by (with_reducible repeat (first|apply Kd.dI|apply Kd.dJ|apply Kd.dU));exact xR.out),(bk_ xM.out),(bk_ xK.out),(by repeat (first|(with_reducible first|exact HB.out|apply ay|apply aj|apply av|refine ak ?_ xS.out|refine ak ?_ xW.out)|exact HB.out))⟩)
                 ·skip
                  rintro _ yN ⟨hS_,yD,yE,yF⟩
                  have yc : Aside0 (yN.heap[xQ]? = some (.cells #[.int .u64 xX,.slice (some xU) xI.length yh] 53 (0,0))):=⟨yD⟩
                  have yg : Aside0 (yN.heap[xL]? = some (.cells #[.string ((ah xI xJ).f0),.string ((ah xI xJ).f1),.string ((ah xI xJ).f2),.int .u8 ((ah xI xJ).f3),.int .u16 ((ah xI xJ).f4),.slice xP ((ah xI xJ).f5).length xO] 103 (0,0))):=⟨yE⟩
                  have yj : Aside0 (Below w.heap.size w yN):=⟨yF⟩
                  clear xM
                  clear xK
                  clear HB
                  clear yD yE yF
                  have xM:=yc
                  have xK:=yg
                  have HB:=yj
                  clear yc yg yj
                  have hHeld : yN.cell? ⟨xL,0,none⟩ = some (.string ((ah xI xJ).f0)) ∧ yN.cell? ⟨xL,1,none⟩ = some (.string ((ah xI xJ).f1)) ∧ yN.cell? ⟨xL,2,none⟩ = some (.string ((ah xI xJ).f2)) ∧ yN.cell? ⟨xL,3,none⟩ = some (.int .u8 ((ah xI xJ).f3)) ∧ yN.cell? ⟨xL,4,none⟩ = some (.int .u16 ((ah xI xJ).f4)) ∧ yN.cell? ⟨xL,5,none⟩ = some (.slice xP ((ah xI xJ).f5).length xO):=hS_
                  refine bV (a':=?_) ?_ ?_
                  rotate_left
                  ·simp only [bL,Act.put,List.setIfInBounds_toArray,List.set_cons_zero,List.set_cons_succ]
                   rfl
                  refine fV (i:=15) (N:=some 43) #[true,true,true,true,true,true,true,true,true,true,true,true,true,true,true,true,false,false,true,true,true,true,false,true,true,true,true,true,false,false] rfl rfl (eB HT_.out (by kernel_rfl)) (by decide) (fun K hK=>?_)
                  refine Kd.gU (Kd.int .u8) _ 5 ?hg (N:=43) ?hd (xs:=([(ah xI xJ).f3] : List Int)) (inner:=[.int .u8 ((ah xI xJ).f3)]) (ok:=fun _=>True) (okp:=fun _=>True) ?hr ?hp (fun _ hk=>hk) trivial (Below.refl _ _) (Nat.le_refl _) (by simp) ?_;(case hd=>rfl);(case hg=>rfl);(case hr=>first|(go_simp;done)|(go_simp;rfl));(case hp=>exact (dZ.one (show Kd.M (Kd.int .u8) _ _ _ ((ah xI xJ).f3) [.int .u8 ((ah xI xJ).f3)] from rfl) (dZ.none _ _)))
                  intro v212 zn zT hb hg_ hnew_
                  clear hg_ hnew_
                  (first|rw [← yI.out] at zT|(simp only [Int.reduceToNat] at zT;rw [← yI.out] at zT))
                  have yc:=Aside0.mk (Kd.gP zT (aV (by repeat (first|(with_reducible first|exact HB.out|apply ay|apply aj|apply av|refine ak ?_ xS.out|refine ak ?_ xW.out)|exact HB.out))))
                  have yg:=Aside0.mk (aK (g:=xQ) (o:=.cells #[.int .u64 xX,.slice (some xU) xI.length yh] 53 (0,0)) (bk_ xM.out) hb)
                  have yj:=Aside0.mk (aK (g:=xL) (o:=.cells #[.string ((ah xI xJ).f0),.string ((ah xI xJ).f1),.string ((ah xI xJ).f2),.int .u8 ((ah xI xJ).f3),.int .u16 ((ah xI xJ).f4),.slice xP ((ah xI xJ).f5).length xO] 103 (0,0)) (bk_ xK.out) hb)
                  have yu:=Aside0.mk (aQ (by repeat (first|(with_reducible first|exact HB.out|apply ay|apply aj|apply av|refine ak ?_ xS.out|refine ak ?_ xW.out)|exact HB.out)) hb)
                  clear xM
                  clear xK
                  clear HB
                  have xR:=yc
                  have xM:=yg
                  have xK:=yj
                  have HB:=yu
                  clear yc yg yj yu
                  clear hb zT
                  refine hK.out _ _ ⟨(au xK.out 0).trans rfl,(au xK.out 1).trans rfl,(au xK.out 2).trans rfl,(au xK.out 3).trans rfl,(au xK.out 4).trans rfl,(au xK.out 5).trans rfl⟩ (fun hHeld=>?_)
                  clear hK K
                  refine bV (a':=?_) ?_ ?_
                  rotate_left
                  ·show Act.put _ (some 43) _ = _
                   simp only [Act.put,List.setIfInBounds_toArray,List.set_cons_zero,List.set_cons_succ,bD,bG]
                   rfl
                  exact bV (by first|(simp only [bL,Act.put,List.setIfInBounds_toArray,List.set_cons_zero,List.set_cons_succ];done)|(simp only [bL,Act.put,List.setIfInBounds_toArray,List.set_cons_zero,List.set_cons_succ];rfl)) (yH (v212) _ ⟨hHeld,(by (with_reducible repeat (first|apply Kd.dI|apply Kd.dJ|apply Kd.dU));exact xR.out),(bk_ xM.out),(bk_ xK.out),(by repeat (first|(with_reducible first|exact HB.out|apply ay|apply aj|apply av|refine ak ?_ xS.out|refine ak ?_ xW.out)|exact HB.out))⟩)
                ·skip
                 rintro v212 zn ⟨hS_,yD,yE,yF,yM⟩
                 have yc : Aside0 (Kd.R (Kd.int .u8) 5 zn w.heap.size (fun _=>True) v212 xZ):=⟨yD⟩
                 have yg : Aside0 (zn.heap[xQ]? = some (.cells #[.int .u64 xX,.slice (some xU) xI.length yh] 53 (0,0))):=⟨yE⟩
                 have yj : Aside0 (zn.heap[xL]? = some (.cells #[.string ((ah xI xJ).f0),.string ((ah xI xJ).f1),.string ((ah xI xJ).f2),.int .u8 ((ah xI xJ).f3),.int .u16 ((ah xI xJ).f4),.slice xP ((ah xI xJ).f5).length xO] 103 (0,0))):=⟨yF⟩
                 have yu : Aside0 (Below w.heap.size w zn):=⟨yM⟩
                 clear xM
                 clear xK
                 clear HB
                 clear yD yE yF yM
                 have xR:=yc
                 have xM:=yg
                 have xK:=yj
                 have HB:=yu
                 clear yc yg yj yu
                 have hHeld : zn.cell? ⟨xL,0,none⟩ = some (.string ((ah xI xJ).f0)) ∧ zn.cell? ⟨xL,1,none⟩ = some (.string ((ah xI xJ).f1)) ∧ zn.cell? ⟨xL,2,none⟩ = some (.string ((ah xI xJ).f2)) ∧ zn.cell? ⟨xL,3,none⟩ = some (.int .u8 ((ah xI xJ).f3)) ∧ zn.cell? ⟨xL,4,none⟩ = some (.int .u16 ((ah xI xJ).f4)) ∧ zn.cell? ⟨xL,5,none⟩ = some (.slice xP ((ah xI xJ).f5).length xO):=hS_
                 refine bV (a':=?_) ?_ ?_
                 rotate_left
                 ·simp only [bL,Act.put,List.setIfInBounds_toArray,List.set_cons_zero,List.set_cons_succ]
                  rfl
                 refine jB (i:=16) (j:=27) (Ni:=some 44) (Nj:=some 55) #[true,true,true,true,true,true,true,true,true,true,true,true,true,true,true,true,true,false,true,true,true,true,false,true,true,true,true,false,false,false] #[true,true,true,true,true,true,true,true,true,true,true,true,true,true,true,true,false,false,true,true,true,true,false,true,true,true,true,true,false,false] rfl rfl rfl rfl (gL HT_.out (by kernel_rfl)) (by decide) (by decide) (fun K hK=>?_) (fun K hK=>?_)
                 ·skip
                  have Af:=fU (P:=Tryd.prog) Tryd.underlying69 Tryd.underlying5 Tryd.underlying9 (Kd.gF xR.out)
                  refine jU (w1:=?_) (v:=?_) (by rfl) rfl ?_ ?_
                  rotate_left 2
                  ·go_simp
                   constructor
                   ·rfl
                   ·rfl
                  clear Af
                  refine hK.out _ _ ⟨(au xK.out 0).trans rfl,(au xK.out 1).trans rfl,(au xK.out 2).trans rfl,(au xK.out 3).trans rfl,(au xK.out 4).trans rfl,(au xK.out 5).trans rfl⟩ (fun hHeld=>?_)
                  clear hK K
                  refine bV (a':=?_) ?_ ?_
                  rotate_left
                  ·show Act.put _ (some 44) _ = _
                   simp only [Act.put,List.setIfInBounds_toArray,List.set_cons_zero,List.set_cons_succ,bD,bG]
                   rfl
                  refine cZ (i:=17) (N:=some 45) (v:=?_) (a':=?_) #[true,true,true,true,true,true,true,true,true,true,true,true,true,true,true,true,true,true,true,true,true,true,false,true,true,true,true,false,false,false] rfl rfl (cB HT_.out (by kernel_rfl)) (fun _ _ _ h=>h) (Or.inl ⟨by rfl,?_⟩) ?_ ?_
                  rotate_left
                  ·intro w'
                   go_simp
                   with_reducible rfl
                  rotate_left
                  ·simp only [Act.put,List.setIfInBounds_toArray,List.set_cons_zero,List.set_cons_succ,bD,bG]
                   rfl
                  refine cZ (i:=22) (N:=some 50) (v:=?_) (a':=?_) #[true,true,true,true,true,true,true,true,true,true,true,true,true,true,true,true,true,true,true,true,true,true,true,true,true,true,true,false,false,false] rfl rfl (cB HT_.out (by kernel_rfl)) (fun _ _ _ h=>h) (Or.inl ⟨by rfl,?_⟩) ?_ ?_
                  rotate_left
                  ·intro w'
                   go_simp
                   with_reducible rfl
                  rotate_left
                  ·simp only [Act.put,List.setIfInBounds_toArray,List.set_cons_zero,List.set_cons_succ,bD,bG]
                   rfl
                  exact bV (by first|(simp only [bL,Act.put,List.setIfInBounds_toArray,List.set_cons_zero,List.set_cons_succ];done)|(simp only [bL,Act.put,List.setIfInBounds_toArray,List.set_cons_zero,List.set_cons_succ];rfl)) (yG (v212) _ ⟨hHeld,(by (with_reducible repeat (first|apply Kd.dI|apply Kd.dJ|apply Kd.dU));exact xR.out),(bk_ xM.out),(bk_ xK.out),(by repeat (first|(with_reducible first|exact HB.out|apply ay|apply aj|apply av|refine ak ?_ xS.out|refine ak ?_ xW.out)|exact HB.out))⟩)
                 ·skip
                  refine eD Tryd.func43 (by kernel_rfl) rfl #[.int .i64 1,.int .u64 (IntKind.u64.wrap ((((ah xI xJ).f5).length : Int)))] (by rfl) rfl rfl (by (try simp only [List.map_toArray,List.map_cons,List.map_nil]);first|done|rfl|(simp only [List.length_drop,List.length_take];rfl)) ?_
                  with_reducible refine (aT.calls k1 1 (IntKind.u64.wrap ((((ah xI xJ).f5).length : Int))) yB _ Ap.out).mono ?_
                  rintro e zq ⟨rfl,hb⟩
                  refine ⟨_,rfl,?_⟩
                  have yc:=Aside0.mk (Kd.fT (by (with_reducible repeat (first|apply Kd.dI|apply Kd.dJ|apply Kd.dU));exact xR.out) hb)
                  have yg:=Aside0.mk (aK (g:=xQ) (o:=.cells #[.int .u64 xX,.slice (some xU) xI.length yh] 53 (0,0)) (bk_ xM.out) hb)
                  have yj:=Aside0.mk (aK (g:=xL) (o:=.cells #[.string ((ah xI xJ).f0),.string ((ah xI xJ).f1),.string ((ah xI xJ).f2),.int .u8 ((ah xI xJ).f3),.int .u16 ((ah xI xJ).f4),.slice xP ((ah xI xJ).f5).length xO] 103 (0,0)) (bk_ xK.out) hb)
                  have yu:=Aside0.mk (aQ (by repeat (first|(with_reducible first|exact HB.out|apply ay|apply aj|apply av|refine ak ?_ xS.out|refine ak ?_ xW.out)|exact HB.out)) hb)
                  clear xR
                  clear xM
                  clear xK
                  clear HB
                  have xR:=yc
                  have xM:=yg
                  have xK:=yj
                  have HB:=yu
                  clear yc yg yj yu
                  (try clear hb)
                  (try clear hb2)
                  (try clear hk)
                  (try clear hi)
                  refine hK.out _ _ ⟨(au xK.out 0).trans rfl,(au xK.out 1).trans rfl,(au xK.out 2).trans rfl,(au xK.out 3).trans rfl,(au xK.out 4).trans rfl,(au xK.out 5).trans rfl⟩ (fun hHeld=>?_)
                  clear hK K
                  refine bV (a':=?_) ?_ ?_
                  rotate_left
                  ·show Act.put _ (some 55) _ = _
                   simp only [Act.put,List.setIfInBounds_toArray,List.set_cons_zero,List.set_cons_succ,bD,bG]
                   rfl
                  exact bV (by first|(simp only [bL,Act.put,List.setIfInBounds_toArray,List.set_cons_zero,List.set_cons_succ];done)|(simp only [bL,Act.put,List.setIfInBounds_toArray,List.set_cons_zero,List.set_cons_succ];rfl)) (yH (v212) _ ⟨hHeld,(by (with_reducible repeat (first|apply Kd.dI|apply Kd.dJ|apply Kd.dU));exact xR.out),(bk_ xM.out),(bk_ xK.out),(by repeat (first|(with_reducible first|exact HB.out|apply ay|apply aj|apply av|refine ak ?_ xS.out|refine ak ?_ xW.out)|exact HB.out))⟩)
               ·skip
                rintro v212 zn ⟨hS_,yD,yE,yF,yM⟩
                have yc : Aside0 (Kd.R (Kd.int .u8) 5 zn w.heap.size (fun _=>True) v212 xZ):=⟨yD⟩
                have yg : Aside0 (zn.heap[xQ]? = some (.cells #[.int .u64 xX,.slice (some xU) xI.length yh] 53 (0,0))):=⟨yE⟩
                have yj : Aside0 (zn.heap[xL]? = some (.cells #[.string ((ah xI xJ).f0),.string ((ah xI xJ).f1),.string ((ah xI xJ).f2),.int .u8 ((ah xI xJ).f3),.int .u16 ((ah xI xJ).f4),.slice xP ((ah xI xJ).f5).length xO] 103 (0,0))):=⟨yF⟩
                have yu : Aside0 (Below w.heap.size w zn):=⟨yM⟩
                clear xM
                clear xK
                clear HB
                clear yD yE yF yM
                have xR:=yc
                have xM:=yg
                have xK:=yj
                have HB:=yu
                clear yc yg yj yu
                have hHeld : zn.cell? ⟨xL,0,none⟩ = some (.string ((ah xI xJ).f0)) ∧ zn.cell? ⟨xL,1,none⟩ = some (.string ((ah xI xJ).f1)) ∧ zn.cell? ⟨xL,2,none⟩ = some (.string ((ah xI xJ).f2)) ∧ zn.cell? ⟨xL,3,none⟩ = some (.int .u8 ((ah xI xJ).f3)) ∧ zn.cell? ⟨xL,4,none⟩ = some (.int .u16 ((ah xI xJ).f4)) ∧ zn.cell? ⟨xL,5,none⟩ = some (.slice xP ((ah xI xJ).f5).length xO):=hS_
                refine bV (a':=?_) ?_ ?_
                rotate_left
                ·simp only [bL,Act.put,List.setIfInBounds_toArray,List.set_cons_zero,List.set_cons_succ]
                 rfl
                refine fV (i:=21) (N:=some 49) #[true,true,true,true,true,true,true,true,true,true,true,true,true,true,true,true,true,true,true,true,true,true,false,true,true,true,true,false,false,false] rfl rfl (eB HT_.out (by kernel_rfl)) (by decide) (fun K hK=>?_)
                refine eD Tryd.func43 (by kernel_rfl) rfl #[.int .i64 2,.int .u64 (IntKind.u64.wrap ((ah xI xJ).f4))] (by rfl) rfl rfl (by (try simp only [List.map_toArray,List.map_cons,List.map_nil]);first|done|rfl|(simp only [List.length_drop,List.length_take];rfl)) ?_
                with_reducible refine (aT.calls k1 2 (IntKind.u64.wrap ((ah xI xJ).f4)) yw _ Cu.out).mono ?_
                rintro e zq ⟨rfl,hb⟩
                refine ⟨_,rfl,?_⟩
                have yc:=Aside0.mk (Kd.fT (by (with_reducible repeat (first|apply Kd.dI|apply Kd.dJ|apply Kd.dU));exact xR.out) hb)
                have yg:=Aside0.mk (aK (g:=xQ) (o:=.cells #[.int .u64 xX,.slice (some xU) xI.length yh] 53 (0,0)) (bk_ xM.out) hb)
                have yj:=Aside0.mk (aK (g:=xL) (o:=.cells #[.string ((ah xI xJ).f0),.string ((ah xI xJ).f1),.string ((ah xI xJ).f2),.int .u8 ((ah xI xJ).f3),.int .u16 ((ah xI xJ).f4),.slice xP ((ah xI xJ).f5).length xO] 103 (0,0)) (bk_ xK.out) hb)
                have yu:=Aside0.mk (aQ (by repeat (first|(with_reducible first|exact HB.out|apply ay|apply aj|apply av|refine ak ?_ xS.out|refine ak ?_ xW.out)|exact HB.out)) hb)
                clear xR
                clear xM
                clear xK
                clear HB
                have xR:=yc
                have xM:=yg
                have xK:=yj
                have HB:=yu
                clear yc yg yj yu
                (try clear hb)
                (try clear hb2)
                (try clear hk)
                (try clear hi)
                refine hK.out _ _ ⟨(au xK.out 0).trans rfl,(au xK.out 1).trans rfl,(au xK.out 2).trans rfl,(au xK.out 3).trans rfl,(au xK.out 4).trans rfl,(au xK.out 5).trans rfl⟩ (fun hHeld=>?_)
                clear hK K
                refine bV (a':=?_) ?_ ?_
                rotate_left
                ·show Act.put _ (some 49) _ = _
                 simp only [Act.put,List.setIfInBounds_toArray,List.set_cons_zero,List.set_cons_succ,bD,bG]
                 rfl
                refine cZ (i:=22) (N:=some 50) (v:=?_) (a':=?_) #[true,true,true,true,true,true,true,true,true,true,true,true,true,true,true,true,true,true,true,true,true,true,true,true,true,true,true,false,false,false] rfl rfl (cB HT_.out (by kernel_rfl)) (fun _ _ _ h=>h) (Or.inl ⟨by rfl,?_⟩) ?_ ?_
                rotate_left
                ·intro w'
                 go_simp
                 with_reducible rfl
                rotate_left
                ·simp only [Act.put,List.setIfInBounds_toArray,List.set_cons_zero,List.set_cons_succ,bD,bG]
                 rfl
                exact bV (by first|(simp only [bL,Act.put,List.setIfInBounds_toArray,List.set_cons_zero,List.set_cons_succ];done)|(simp only [bL,Act.put,List.setIfInBounds_toArray,List.set_cons_zero,List.set_cons_succ];rfl)) (yG (v212) _ ⟨hHeld,(by (with_reducible repeat (first|apply Kd.dI|apply Kd.dJ|apply Kd.dU));exact xR.out),(bk_ xM.out),(bk_ xK.out),(by repeat (first|(with_reducible first|exact HB.out|apply ay|apply aj|apply av|refine ak ?_ xS.out|refine ak ?_ xW.out)|exact HB.out))⟩)
              ·skip
               rintro v212 zq ⟨hS_,yD,yE,yF,yM⟩
               have yc : Aside0 (Kd.R (Kd.int .u8) 5 zq w.heap.size (fun _=>True) v212 xZ):=⟨yD⟩
               have yg : Aside0 (zq.heap[xQ]? = some (.cells #[.int .u64 xX,.slice (some xU) xI.length yh] 53 (0,0))):=⟨yE⟩
               have yj : Aside0 (zq.heap[xL]? = some (.cells #[.string ((ah xI xJ).f0),.string ((ah xI xJ).f1),.string ((ah xI xJ).f2),.int .u8 ((ah xI xJ).f3),.int .u16 ((ah xI xJ).f4),.slice xP ((ah xI xJ).f5).length xO] 103 (0,0))):=⟨yF⟩
               have yu : Aside0 (Below w.heap.size w zq):=⟨yM⟩
               clear xM
               clear xK
               clear HB
               clear yD yE yF yM
               have xR:=yc
               have xM:=yg
               have xK:=yj
               have HB:=yu
               clear yc yg yj yu
               have hHeld : zq.cell? ⟨xL,0,none⟩ = some (.string ((ah xI xJ).f0)) ∧ zq.cell? ⟨xL,1,none⟩ = some (.string ((ah xI xJ).f1)) ∧ zq.cell? ⟨xL,2,none⟩ = some (.string ((ah xI xJ).f2)) ∧ zq.cell? ⟨xL,3,none⟩ = some (.int .u8 ((ah xI xJ).f3)) ∧ zq.cell? ⟨xL,4,none⟩ = some (.int .u16 ((ah xI xJ).f4)) ∧ zq.cell? ⟨xL,5,none⟩ = some (.slice xP ((ah xI xJ).f5).length xO):=hS_
               refine bV (a':=?_) ?_ ?_
               rotate_left
               ·simp only [bL,Act.put,List.setIfInBounds_toArray,List.set_cons_zero,List.set_cons_succ]
                rfl
               refine fV (i:=16) (N:=some 44) #[true,true,true,true,true,true,true,true,true,true,true,true,true,true,true,true,true,false,true,true,true,true,false,true,true,true,true,true,false,false] rfl rfl (eB HT_.out (by kernel_rfl)) (by decide) (fun K hK=>?_)
               have Ag:=fU (P:=Tryd.prog) Tryd.underlying69 Tryd.underlying5 Tryd.underlying9 (Kd.gF xR.out)
               refine jU (w1:=?_) (v:=?_) (by rfl) rfl ?_ ?_
               rotate_left 2
               ·go_simp
                constructor
                ·rfl
                ·rfl
               clear Ag
               refine hK.out _ _ ⟨(au xK.out 0).trans rfl,(au xK.out 1).trans rfl,(au xK.out 2).trans rfl,(au xK.out 3).trans rfl,(au xK.out 4).trans rfl,(au xK.out 5).trans rfl⟩ (fun hHeld=>?_)
               clear hK K
               refine bV (a':=?_) ?_ ?_
               rotate_left
               ·show Act.put _ (some 44) _ = _
                simp only [Act.put,List.setIfInBounds_toArray,List.set_cons_zero,List.set_cons_succ,bD,bG]
                rfl
               refine cZ (i:=17) (N:=some 45) (v:=?_) (a':=?_) #[true,true,true,true,true,true,true,true,true,true,true,true,true,true,true,true,true,true,true,true,true,true,false,true,true,true,true,true,false,false] rfl rfl (cB HT_.out (by kernel_rfl)) (fun _ _ _ h=>h) (Or.inl ⟨by rfl,?_⟩) ?_ ?_
               rotate_left
               ·intro w'
                go_simp
                with_reducible rfl
               rotate_left
               ·simp only [Act.put,List.setIfInBounds_toArray,List.set_cons_zero,List.set_cons_succ,bD,bG]
                rfl
               refine cZ (i:=22) (N:=some 50) (v:=?_) (a':=?_) #[true,true,true,true,true,true,true,true,true,true,true,true,true,true,true,true,true,true,true,true,true,true,true,true,true,true,true,true,false,false] rfl rfl (cB HT_.out (by kernel_rfl)) (fun _ _ _ h=>h) (Or.inl ⟨by rfl,?_⟩) ?_ ?_
               rotate_left
               ·intro w'
                go_simp
                with_reducible rfl
               rotate_left
               ·simp only [Act.put,List.setIfInBounds_toArray,List.set_cons_zero,List.set_cons_succ,bD,bG]
                rfl
               exact bV (by first|(simp only [bL,Act.put,List.setIfInBounds_toArray,List.set_cons_zero,List.set_cons_succ];done)|(simp only [bL,Act.put,List.setIfInBounds_toArray,List.set_cons_zero,List.set_cons_succ];rfl)) (yC (v212) _ ⟨hHeld,(by (with_reducible repeat (first|apply Kd.dI|apply Kd.dJ|apply Kd.dU));exact xR.out),(bk_ xM.out),(bk_ xK.out),(by repeat (first|(with_reducible first|exact HB.out|apply ay|apply aj|apply av|refine ak ?_ xS.out|refine ak ?_ xW.out)|exact HB.out))⟩)
             ·skip
              rintro v212 zq ⟨hS_,yD,yE,yF,yM⟩
              have yc : Aside0 (Kd.R (Kd.int .u8) 5 zq w.heap.size (fun _=>True) v212 xZ):=⟨yD⟩
              have yg : Aside0 (zq.heap[xQ]? = some (.cells #[.int .u64 xX,.slice (some xU) xI.length yh] 53 (0,0))):=⟨yE⟩
              have yj : Aside0 (zq.heap[xL]? = some (.cells #[.string ((ah xI xJ).f0),.string ((ah xI xJ).f1),.string ((ah xI xJ).f2),.int .u8 ((ah xI xJ).f3),.int .u16 ((ah xI xJ).f4),.slice xP ((ah xI xJ).f5).length xO] 103 (0,0))):=⟨yF⟩
              have yu : Aside0 (Below w.heap.size w zq):=⟨yM⟩
              clear xM
              clear xK
              clear HB
              clear yD yE yF yM
              have xR:=yc
              have xM:=yg
              have xK:=yj
              have HB:=yu
              clear yc yg yj yu
              have hHeld : zq.cell? ⟨xL,0,none⟩ = some (.string ((ah xI xJ).f0)) ∧ zq.cell? ⟨xL,1,none⟩ = some (.string ((ah xI xJ).f1)) ∧ zq.cell? ⟨xL,2,none⟩ = some (.string ((ah xI xJ).f2)) ∧ zq.cell? ⟨xL,3,none⟩ = some (.int .u8 ((ah xI xJ).f3)) ∧ zq.cell? ⟨xL,4,none⟩ = some (.int .u16 ((ah xI xJ).f4)) ∧ zq.cell? ⟨xL,5,none⟩ = some (.slice xP ((ah xI xJ).f5).length xO):=hS_
              refine bV (a':=?_) ?_ ?_
              rotate_left
              ·simp only [bL,Act.put,List.setIfInBounds_toArray,List.set_cons_zero,List.set_cons_succ]
               rfl
              refine fV (i:=27) (N:=some 55) #[true,true,true,true,true,true,true,true,true,true,true,true,true,true,true,true,true,true,true,true,true,true,true,true,true,true,true,true,false,false] rfl rfl (eB HT_.out (by kernel_rfl)) (by decide) (fun K hK=>?_)
              refine eD Tryd.func43 (by kernel_rfl) rfl #[.int .i64 1,.int .u64 (IntKind.u64.wrap ((((ah xI xJ).f5).length : Int)))] (by rfl) rfl rfl (by (try simp only [List.map_toArray,List.map_cons,List.map_nil]);first|done|rfl|(simp only [List.length_drop,List.length_take];rfl)) ?_
              with_reducible refine (aT.calls k1 1 (IntKind.u64.wrap ((((ah xI xJ).f5).length : Int))) yB _ Ap.out).mono ?_
              rintro e zU ⟨rfl,hb⟩
              refine ⟨_,rfl,?_⟩
              have yc:=Aside0.mk (Kd.fT (by (with_reducible repeat (first|apply Kd.dI|apply Kd.dJ|apply Kd.dU));exact xR.out) hb)
              have yg:=Aside0.mk (aK (g:=xQ) (o:=.cells #[.int .u64 xX,.slice (some xU) xI.length yh] 53 (0,0)) (bk_ xM.out) hb)
              have yj:=Aside0.mk (aK (g:=xL) (o:=.cells #[.string ((ah xI xJ).f0),.string ((ah xI xJ).f1),.string ((ah xI xJ).f2),.int .u8 ((ah xI xJ).f3),.int .u16 ((ah xI xJ).f4),.slice xP ((ah xI xJ).f5).length xO] 103 (0,0)) (bk_ xK.out) hb)
              have yu:=Aside0.mk (aQ (by repeat (first|(with_reducible first|exact HB.out|apply ay|apply aj|apply av|refine ak ?_ xS.out|refine ak ?_ xW.out)|exact HB.out)) hb)
              clear xR
              clear xM
              clear xK
              clear HB
              have xR:=yc
              have xM:=yg
              have xK:=yj
              have HB:=yu
              clear yc yg yj yu
              (try clear hb)
              (try clear hb2)
              (try clear hk)
              (try clear hi)
              refine hK.out _ _ ⟨(au xK.out 0).trans rfl,(au xK.out 1).trans rfl,(au xK.out 2).trans rfl,(au xK.out 3).trans rfl,(au xK.out 4).trans rfl,(au xK.out 5).trans rfl⟩ (fun hHeld=>?_)
              clear hK K
              refine bV (a':=?_) ?_ ?_
              rotate_left
              ·show Act.put _ (some 55) _ = _
               simp only [Act.put,List.setIfInBounds_toArray,List.set_cons_zero,List.set_cons_succ,bD,bG]
               rfl
              exact bV (by first|(simp only [bL,Act.put,List.setIfInBounds_toArray,List.set_cons_zero,List.set_cons_succ];done)|(simp only [bL,Act.put,List.setIfInBounds_toArray,List.set_cons_zero,List.set_cons_succ];rfl)) (yC (v212) _ ⟨hHeld,(by (with_reducible repeat (first|apply Kd.dI|apply Kd.dJ|apply Kd.dU));exact xR.out),(bk_ xM.out),(bk_ xK.out),(by repeat (first|(with_reducible first|exact HB.out|apply ay|apply aj|apply av|refine ak ?_ xS.out|refine ak ?_ xW.out)|exact HB.out))⟩)
            rintro v212 zU ⟨hS_,yD,yE,yF,yM⟩
            have yc : Aside0 (Kd.R (Kd.int .u8) 5 zU w.heap.size (fun _=>True) v212 xZ):=⟨yD⟩
            have yg : Aside0 (zU.heap[xQ]? = some (.cells #[.int .u64 xX,.slice (some xU) xI.length yh] 53 (0,0))):=⟨yE⟩
            have yj : Aside0 (zU.heap[xL]? = some (.cells #[.string ((ah xI xJ).f0),.string ((ah xI xJ).f1),.string ((ah xI xJ).f2),.int .u8 ((ah xI xJ).f3),.int .u16 ((ah xI xJ).f4),.slice xP ((ah xI xJ).f5).length xO] 103 (0,0))):=⟨yF⟩
            have yu : Aside0 (Below w.heap.size w zU):=⟨yM⟩
            clear xM
            clear xK
            clear HB
            clear yD yE yF yM
            have xR:=yc
            have xM:=yg
            have xK:=yj
            have HB:=yu
            clear yc yg yj yu
            have hHeld : zU.cell? ⟨xL,0,none⟩ = some (.string ((ah xI xJ).f0)) ∧ zU.cell? ⟨xL,1,none⟩ = some (.string ((ah xI xJ).f1)) ∧ zU.cell? ⟨xL,2,none⟩ = some (.string ((ah xI xJ).f2)) ∧ zU.cell? ⟨xL,3,none⟩ = some (.int .u8 ((ah xI xJ).f3)) ∧ zU.cell? ⟨xL,4,none⟩ = some (.int .u16 ((ah xI xJ).f4)) ∧ zU.cell? ⟨xL,5,none⟩ = some (.slice xP ((ah xI xJ).f5).length xO):=hS_
            refine bV (a':=?_) ?_ ?_
            rotate_left
            ·simp only [bL,Act.put,List.setIfInBounds_toArray,List.set_cons_zero,List.set_cons_succ]
             rfl
            refine cZ (i:=28) (N:=some 56) (v:=?_) (a':=?_) #[true,true,true,true,true,true,true,true,true,true,true,true,true,true,true,true,true,true,true,true,true,true,true,true,true,true,true,true,true,false] rfl rfl (cB HT_.out (by kernel_rfl)) (fun _ _ _ h=>h) (Or.inl ⟨by rfl,?_⟩) ?_ ?_
            rotate_left
            ·intro w'
             go_simp
             with_reducible rfl
            rotate_left
            ·simp only [Act.put,List.setIfInBounds_toArray,List.set_cons_zero,List.set_cons_succ,bD,bG]
             rfl
            refine cZ (i:=29) (N:=some 3) (v:=?_) (a':=?_) #[true,true,true,true,true,true,true,true,true,true,true,true,true,true,true,true,true,true,true,true,true,true,true,true,true,true,true,true,true,true] rfl rfl (cB HT_.out (by kernel_rfl)) (fun _ _ _ h=>h) (Or.inl ⟨by rfl,?_⟩) ?_ ?_
            rotate_left
            ·intro w'
             go_simp
             with_reducible rfl
            rotate_left
            ·simp only [Act.put,List.setIfInBounds_toArray,List.set_cons_zero,List.set_cons_succ,bD,bG]
             rfl
            refine jv (gX HT_.out (by kernel_rfl)) ?_
            try go_wp2
            go_loopg [3,6] k1 (fun kq v3 v6 w'=>∃ (yU : ByteArray) (yA : Int),v3 = .string yU ∧ v6 = .int .i64 yA ∧ Aside0 (aN.l1 kq yU xJ yA xX xI ((ah xI xJ).f0) ((ah xI xJ).f1) ((ah xI xJ).f2) ((ah xI xJ).f3) ((ah xI xJ).f4) ((ah xI xJ).f5) = some r) ∧ Aside0 (kq ≤ k1) ∧ Aside0 (w'.heap[xQ]? = some (.cells #[.int .u64 xX,(.slice (some xU) xI.length yh)] 53 (0,0))) ∧ Aside0 (w'.heap[xL]? = some (.cells #[.string ((ah xI xJ).f0),.string ((ah xI xJ).f1),.string ((ah xI xJ).f2),.int .u8 ((ah xI xJ).f3),.int .u16 ((ah xI xJ).f4),(.slice xP ((ah xI xJ).f5).length xO)] 103 (0,0))) ∧ Aside0 (Below w.heap.size w w'))
            case atStart=>exact ⟨((((((xY ++ t208) ++ xV) ++ t210) ++ (strOfNums xZ)) ++ yw) ++ yB),(0),(by first|rfl|(simp;done)|(simp [*];done)),(by first|rfl|(simp;done)|(simp [*];done)),H',⟨Nat.le_refl _⟩,⟨by (with_reducible repeat (first|apply aC|apply aG|apply aA));exact xM.out⟩,⟨by (with_reducible repeat (first|apply aC|apply aG|apply aA));exact xK.out⟩,⟨by repeat (first|(with_reducible first|exact HB.out|apply ay|apply aj|apply av|refine ak ?_ xS.out|refine ak ?_ xW.out)|exact HB.out)⟩⟩
            case round =>
             clear H'
             try clear c2
             try clear p2
             try clear CZ
             try clear c4
             try clear c20
             try clear Ae
             try clear Af
             try clear Ag
             obtain ⟨yU,yA,rfl,rfl,HA,Bv,xM,xK,HB⟩:=hrel
             cases gk with
             | zero=>exact absurd HA.out (by simp [aN.l1])
             | succ k2 =>
              have H:=HA.out
              clear HA
              simp only [aN.l1] at H
              by_cases c37 : yA < (((ah xI xJ).f5).length : Int)
              ·rw [if_pos c37] at H
               have c37b0 : decide (yA < (((ah xI xJ).f5).length : Int)) = true:=decide_eq_true c37
               clear c37
               by_cases Bw : 0 ≤ yA
               ·rw [if_pos Bw] at H
                have c38b0 : decide (0 ≤ yA) = true:=decide_eq_true Bw
                clear Bw
                replace H:=Option.bind_eq_some_iff.mp H
                obtain ⟨yJ,AO,H⟩:=H
                replace H : (if yU.size + yJ.size ≤ 9223372036854775807 then ((bJ.f k2 ((dD ((ah xI xJ).f5) yA).f1)).bind fun zf=>(if (yU ++ yJ).size + zf.size ≤ 9223372036854775807 then (aN.l1 k2 ((yU ++ yJ) ++ zf) xJ (wrap64 (yA + 1)) xX xI ((ah xI xJ).f0) ((ah xI xJ).f1) ((ah xI xJ).f2) ((ah xI xJ).f3) ((ah xI xJ).f4) ((ah xI xJ).f5)) else (none))) else (none)) = some r:=H
                have C8:=Aside0.mk AO
                clear AO
                by_cases c40 : yU.size + yJ.size ≤ 9223372036854775807
                ·rw [if_pos c40] at H
                 have c40b0:=eq_true c40
                 have c40b1 : decide (yU.size + yJ.size ≤ 9223372036854775807) = true:=decide_eq_true c40
                 try have c40b2 : (9223372036854775807 < yU.size + yJ.size) = False:=eq_false (Nat.not_lt.2 c40)
                 replace H:=Option.bind_eq_some_iff.mp H
                 obtain ⟨zf,AP,H⟩:=H
                 replace H : (if (yU ++ yJ).size + zf.size ≤ 9223372036854775807 then (aN.l1 k2 ((yU ++ yJ) ++ zf) xJ (wrap64 (yA + 1)) xX xI ((ah xI xJ).f0) ((ah xI xJ).f1) ((ah xI xJ).f2) ((ah xI xJ).f3) ((ah xI xJ).f4) ((ah xI xJ).f5)) else (none)) = some r:=H
                 have C9:=Aside0.mk AP
                 clear AP
                 by_cases Aq : (yU ++ yJ).size + zf.size ≤ 9223372036854775807
                 ·rw [if_pos Aq] at H
                  have c42b0:=eq_true Aq
                  have c42b1 : decide ((yU ++ yJ).size + zf.size ≤ 9223372036854775807) = true:=decide_eq_true Aq
                  try have c42b2 : (9223372036854775807 < (yU ++ yJ).size + zf.size) = False:=eq_false (Nat.not_lt.2 Aq)
                  have c42s:=Aq
                  try simp only [ByteArray.size_append] at c42s
                  try have c42s0:=eq_false (Nat.not_lt.2 c42s)
                  try have c42s1:=eq_true c42s
                  have H':=Aside0.mk H
                  clear H
                  have CQ:=zh.out
                  have CS:=yx.out
                  have Bz : wr.cell? ⟨xL,0,none⟩ = some (.string ((ah xI xJ).f0)):=(au xK.out 0).trans rfl
                  have BA : wr.cell? ⟨xL,1,none⟩ = some (.string ((ah xI xJ).f1)):=(au xK.out 1).trans rfl
                  have BF : wr.cell? ⟨xL,2,none⟩ = some (.string ((ah xI xJ).f2)):=(au xK.out 2).trans rfl
                  have BG : wr.cell? ⟨xL,3,none⟩ = some (.int .u8 ((ah xI xJ).f3)):=(au xK.out 3).trans rfl
                  have BH : wr.cell? ⟨xL,4,none⟩ = some (.int .u16 ((ah xI xJ).f4)):=(au xK.out 4).trans rfl
                  have BI : wr.cell? ⟨xL,5,none⟩ = some (.slice xP ((ah xI xJ).f5).length xO):=(au xK.out 5).trans rfl
                  have BJ:=aH xK.out 0
                  have BK:=aH xK.out 1
                  have BL:=aH xK.out 2
                  have BM:=aH xK.out 3
                  have BN:=aH xK.out 4
                  have BO:=aH xK.out 5
                  try go_wp2
                  have yc:=Aside0.mk (aG xM.out)
                  have yg:=Aside0.mk (aG xK.out)
                  have yj:=Aside0.mk (av HB.out)
                  clear xM
                  clear xK
                  clear HB
                  have xM:=yc
                  have xK:=yg
                  have HB:=yj
                  clear yc yg yj
                  have Ak : 0 ≤ (yA : Int):=of_decide_eq_true (by first|(with_reducible assumption)|assumption)
                  have Al : yA < (((ah xI xJ).f5).length : Int):=of_decide_eq_true (by first|(with_reducible assumption)|assumption)
                  obtain ⟨yV,e216,yY,yZ⟩:=gK zL.out yA Ak Al
                  have yP:=yZ
                  have yQ:=yY
                  cases e216
                  replace yY:=(HB.out.cell (World.block_lt_of_cell? w _ yY)).trans yY
                  replace yZ:=(HB.out.cell (World.block_lt_of_cell? w _ yZ)).trans yZ
                  replace Ak:=eq_true Ak
                  replace Al:=eq_true Al
                  have Am : 0 ≤ (yA : Int):=of_decide_eq_true (by first|(with_reducible assumption)|assumption)
                  have Ao : yA < (((ah xI xJ).f5).length : Int):=of_decide_eq_true (by first|(with_reducible assumption)|assumption)
                  obtain ⟨AQ,Cw,za,ze⟩:=gK zL.out yA Am Ao
                  have yR:=ze
                  have yS:=za
                  obtain rfl : yV = AQ:=(by injection Cw)
                  replace za:=(HB.out.cell (World.block_lt_of_cell? w _ za)).trans za
                  replace ze:=(HB.out.cell (World.block_lt_of_cell? w _ ze)).trans ze
                  replace Am:=eq_true Am
                  replace Ao:=eq_true Ao
                  refine iM (n:=18) (S:=fun w'=>w'.cell? ⟨xL,0,none⟩ = some (.string ((ah xI xJ).f0)) ∧ w'.cell? ⟨xL,1,none⟩ = some (.string ((ah xI xJ).f1)) ∧ w'.cell? ⟨xL,2,none⟩ = some (.string ((ah xI xJ).f2)) ∧ w'.cell? ⟨xL,3,none⟩ = some (.int .u8 ((ah xI xJ).f3)) ∧ w'.cell? ⟨xL,4,none⟩ = some (.int .u16 ((ah xI xJ).f4)) ∧ w'.cell? ⟨xL,5,none⟩ = some (.slice (some yV) ((ah xI xJ).f5).length xO) ∧ w'.cell? (yV.add ((yA).toNat * 2)) = some (.string ((dD ((ah xI xJ).f5) yA).f0)) ∧ w'.cell? ⟨(yV.add ((yA).toNat * 2)).block,(yV.add ((yA).toNat * 2)).off + 1,none⟩ = some (.string ((dD ((ah xI xJ).f5) yA).f1)) ∧ w'.cell? (yV.add ((yA).toNat * 2)) = some (.string ((dD ((ah xI xJ).f5) yA).f0)) ∧ w'.cell? ⟨(yV.add ((yA).toNat * 2)).block,(yV.add ((yA).toNat * 2)).off + 1,none⟩ = some (.string ((dD ((ah xI xJ).f5) yA).f1))) (ds:=[]) #[false,false,false,false,false,false,false,false,false,false,false,false,false,false,false,false,false,false] (by kernel_rfl) rfl rfl ⟨(au xK.out 0).trans rfl,(au xK.out 1).trans rfl,(au xK.out 2).trans rfl,(au xK.out 3).trans rfl,(au xK.out 4).trans rfl,(au xK.out 5).trans rfl,((HB.out.cell (World.block_lt_of_cell? w _ yQ)).trans yQ),((HB.out.cell (World.block_lt_of_cell? w _ yP)).trans yP),((HB.out.cell (World.block_lt_of_cell? w _ yS)).trans yS),((HB.out.cell (World.block_lt_of_cell? w _ yR)).trans yR)⟩ (fun hHeld=>?_);refine fP aN.vS aN.uO (fun HT_ HW_=>?_)
                  generalize wr.drew = Db at xM xK HB yY yZ za ze hHeld ⊢
                  refine cZ (i:=0) (N:=some 64) (v:=?_) (a':=?_) #[true,false,false,false,false,false,false,false,false,false,false,false,false,false,false,false,false,false] rfl rfl (cB HT_.out (by kernel_rfl)) (fun _ _ _ h=>h) (Or.inl ⟨by rfl,?_⟩) ?_ ?_
                  rotate_left
                  ·intro w'
                   go_simp
                   with_reducible rfl
                  rotate_left
                  ·simp only [Act.put,List.setIfInBounds_toArray,List.set_cons_zero,List.set_cons_succ,bD,bG]
                   rfl
                  refine cZ (i:=1) (N:=some 65) (v:=?_) (a':=?_) #[true,true,false,false,false,false,false,false,false,false,false,false,false,false,false,false,false,false] rfl rfl (cB HT_.out (by kernel_rfl)) (fun _ _ _ h=>h) (Or.inl ⟨by rfl,?_⟩) ?_ ?_
                  rotate_left
                  ·intro w'
                   go_simp
                   with_reducible rfl
                  rotate_left
                  ·simp only [Act.put,List.setIfInBounds_toArray,List.set_cons_zero,List.set_cons_succ,bD,bG]
                   rfl
                  refine cZ (i:=3) (N:=some 67) (v:=?_) (a':=?_) #[true,true,false,true,false,false,false,false,false,false,false,false,false,false,false,false,false,false] rfl rfl (cB HT_.out (by kernel_rfl)) (fun _ _ _ h=>h) (Or.inl ⟨by rfl,?_⟩) ?_ ?_
                  rotate_left
                  ·intro w'
                   go_simp
                   with_reducible rfl
                  rotate_left
                  ·simp only [Act.put,List.setIfInBounds_toArray,List.set_cons_zero,List.set_cons_succ,bD,bG]
                   rfl
                  refine cZ (i:=9) (N:=some 73) (v:=?_) (a':=?_) #[true,true,false,true,false,false,false,false,false,true,false,false,false,false,false,false,false,false] rfl rfl (cB HT_.out (by kernel_rfl)) (fun _ _ _ h=>h) (Or.inl ⟨by rfl,?_⟩) ?_ ?_
                  rotate_left
                  ·intro w'
                   go_simp
                   with_reducible rfl
                  rotate_left
                  ·simp only [Act.put,List.setIfInBounds_toArray,List.set_cons_zero,List.set_cons_succ,bD,bG]
                   rfl
                  refine cZ (i:=11) (N:=some 75) (v:=?_) (a':=?_) #[true,true,false,true,false,false,false,false,false,true,false,true,false,false,false,false,false,false] rfl rfl (cB HT_.out (by kernel_rfl)) (fun _ _ _ h=>h) (Or.inl ⟨by rfl,?_⟩) ?_ ?_
                  rotate_left
                  ·intro w'
                   go_simp
                   with_reducible rfl
                  rotate_left
                  ·simp only [Act.put,List.setIfInBounds_toArray,List.set_cons_zero,List.set_cons_succ,bD,bG]
                   rfl
                  refine eX (i:=2) (N:=some 66) (v:=?_) (a':=?_) #[true,true,true,true,false,false,false,false,false,true,false,true,false,false,false,false,false,false] rfl rfl (dR HT_.out HW_.out (by kernel_rfl)) (fun _ _ _ h=>h) (Or.inl ⟨by rfl,?_⟩) hHeld ?_ ?_
                  rotate_left
                  ·rintro w' ⟨s0,s1,s2,s3,s4,s5,s6,s7,s8,s9⟩
                   go_simp
                   with_reducible rfl
                  rotate_left
                  ·simp only [Act.put,List.setIfInBounds_toArray,List.set_cons_zero,List.set_cons_succ,bD,bG]
                   rfl
                  refine cZ (i:=4) (N:=some 68) (v:=?_) (a':=?_) #[true,true,true,true,true,false,false,false,false,true,false,true,false,false,false,false,false,false] rfl rfl (cB HT_.out (by kernel_rfl)) (fun _ _ _ h=>h) (Or.inl ⟨by rfl,?_⟩) ?_ ?_
                  rotate_left
                  ·intro w'
                   go_simp
                   with_reducible rfl
                  rotate_left
                  ·simp only [Act.put,List.setIfInBounds_toArray,List.set_cons_zero,List.set_cons_succ,bD,bG]
                   rfl
                  refine cZ (i:=5) (N:=some 69) (v:=?_) (a':=?_) #[true,true,true,true,true,true,false,false,false,true,false,true,false,false,false,false,false,false] rfl rfl (cB HT_.out (by kernel_rfl)) (fun _ _ _ h=>h) (Or.inl ⟨by rfl,?_⟩) ?_ ?_
                  rotate_left
                  ·intro w'
                   go_simp
                   with_reducible rfl
                  rotate_left
                  ·simp only [Act.put,List.setIfInBounds_toArray,List.set_cons_zero,List.set_cons_succ,bD,bG]
                   rfl
                  refine eX (i:=6) (N:=some 70) (v:=?_) (a':=?_) #[true,true,true,true,true,true,true,false,false,true,false,true,false,false,false,false,false,false] rfl rfl (dR HT_.out HW_.out (by kernel_rfl)) (fun _ _ _ h=>h) (Or.inl ⟨by rfl,?_⟩) hHeld ?_ ?_
                  rotate_left
                  ·rintro w' ⟨s0,s1,s2,s3,s4,s5,s6,s7,s8,s9⟩
                   go_simp
                   with_reducible rfl
                  rotate_left
                  ·simp only [Act.put,List.setIfInBounds_toArray,List.set_cons_zero,List.set_cons_succ,bD,bG]
                   rfl
                  refine eX (i:=10) (N:=some 74) (v:=?_) (a':=?_) #[true,true,true,true,true,true,true,false,false,true,true,true,false,false,false,false,false,false] rfl rfl (dR HT_.out HW_.out (by kernel_rfl)) (fun _ _ _ h=>h) (Or.inl ⟨by rfl,?_⟩) hHeld ?_ ?_
                  rotate_left
                  ·rintro w' ⟨s0,s1,s2,s3,s4,s5,s6,s7,s8,s9⟩
                   go_simp
                   with_reducible rfl
                  rotate_left
                  ·simp only [Act.put,List.setIfInBounds_toArray,List.set_cons_zero,List.set_cons_succ,bD,bG]
                   rfl
                  refine cZ (i:=12) (N:=some 76) (v:=?_) (a':=?_) #[true,true,true,true,true,true,true,false,false,true,true,true,true,false,false,false,false,false] rfl rfl (cB HT_.out (by kernel_rfl)) (fun _ _ _ h=>h) (Or.inl ⟨by rfl,?_⟩) ?_ ?_
                  rotate_left
                  ·intro w'
                   go_simp
                   with_reducible rfl
                  rotate_left
                  ·simp only [Act.put,List.setIfInBounds_toArray,List.set_cons_zero,List.set_cons_succ,bD,bG]
                   rfl
                  refine cZ (i:=13) (N:=some 77) (v:=?_) (a':=?_) #[true,true,true,true,true,true,true,false,false,true,true,true,true,true,false,false,false,false] rfl rfl (cB HT_.out (by kernel_rfl)) (fun _ _ _ h=>h) (Or.inl ⟨by rfl,?_⟩) ?_ ?_
                  rotate_left
                  ·intro w'
                   go_simp
                   with_reducible rfl
                  rotate_left
                  ·simp only [Act.put,List.setIfInBounds_toArray,List.set_cons_zero,List.set_cons_succ,bD,bG]
                   rfl
                  refine eX (i:=14) (N:=some 78) (v:=?_) (a':=?_) #[true,true,true,true,true,true,true,false,false,true,true,true,true,true,true,false,false,false] rfl rfl (dR HT_.out HW_.out (by kernel_rfl)) (fun _ _ _ h=>h) (Or.inl ⟨by rfl,?_⟩) hHeld ?_ ?_
                  rotate_left
                  ·rintro w' ⟨s0,s1,s2,s3,s4,s5,s6,s7,s8,s9⟩
                   go_simp
                   with_reducible rfl
                  rotate_left
                  ·simp only [Act.put,List.setIfInBounds_toArray,List.set_cons_zero,List.set_cons_succ,bD,bG]
                   rfl
                  refine fV (i:=7) (N:=some 71) #[true,true,true,true,true,true,true,true,false,true,true,true,true,true,true,false,false,false] rfl rfl (eB HT_.out (by kernel_rfl)) (by decide) (fun K hK=>?_)
                  refine eD Tryd.func44 (by kernel_rfl) rfl #[.string ((dD ((ah xI xJ).f5) yA).f0)] (by rfl) rfl rfl (by (try simp only [List.map_toArray,List.map_cons,List.map_nil]);first|done|rfl|(simp only [List.length_drop,List.length_take];rfl)) ?_
                  with_reducible refine (bJ.calls k2 ((dD ((ah xI xJ).f5) yA).f0) yJ _ C8.out).mono ?_
                  rintro e Dc ⟨rfl,hb⟩
                  refine ⟨_,rfl,?_⟩
                  have yc:=Aside0.mk (aK (g:=xQ) (o:=.cells #[.int .u64 xX,.slice (some xU) xI.length yh] 53 (0,0)) (bk_ xM.out) hb)
                  have yg:=Aside0.mk (aK (g:=xL) (o:=.cells #[.string ((ah xI xJ).f0),.string ((ah xI xJ).f1),.string ((ah xI xJ).f2),.int .u8 ((ah xI xJ).f3),.int .u16 ((ah xI xJ).f4),.slice (some yV) ((ah xI xJ).f5).length xO] 103 (0,0)) (bk_ xK.out) hb)
                  have yj:=Aside0.mk (aQ (by repeat (first|(with_reducible first|exact HB.out|apply ay|apply aj|apply av|refine ak ?_ xS.out|refine ak ?_ xW.out)|exact HB.out)) hb)
                  clear xM
                  clear xK
                  clear HB
                  have xM:=yc
                  have xK:=yg
                  have HB:=yj
                  clear yc yg yj
                  (try clear hb)
                  (try clear hb2)
                  (try clear hk)
                  (try clear hi)
                  refine hK.out _ _ ⟨(au xK.out 0).trans rfl,(au xK.out 1).trans rfl,(au xK.out 2).trans rfl,(au xK.out 3).trans rfl,(au xK.out 4).trans rfl,(au xK.out 5).trans rfl,((HB.out.cell (World.block_lt_of_cell? w _ yQ)).trans yQ),((HB.out.cell (World.block_lt_of_cell? w _ yP)).trans yP),((HB.out.cell (World.block_lt_of_cell? w _ yS)).trans yS),((HB.out.cell (World.block_lt_of_cell? w _ yR)).trans yR)⟩ (fun hHeld=>?_)
                  clear hK K
                  refine bV (a':=?_) ?_ ?_
                  rotate_left
                  ·show Act.put _ (some 71) _ = _
                   simp only [Act.put,List.setIfInBounds_toArray,List.set_cons_zero,List.set_cons_succ,bD,bG]
                   rfl
                  refine cZ (i:=8) (N:=some 72) (v:=?_) (a':=?_) #[true,true,true,true,true,true,true,true,true,true,true,true,true,true,true,false,false,false] rfl rfl (cB HT_.out (by kernel_rfl)) (fun _ _ _ h=>h) (Or.inl ⟨by rfl,?_⟩) ?_ ?_
                  rotate_left
                  ·intro w'
                   go_simp
                   with_reducible rfl
                  rotate_left
                  ·simp only [Act.put,List.setIfInBounds_toArray,List.set_cons_zero,List.set_cons_succ,bD,bG]
                   rfl
                  refine fV (i:=15) (N:=some 79) #[true,true,true,true,true,true,true,true,true,true,true,true,true,true,true,true,false,false] rfl rfl (eB HT_.out (by kernel_rfl)) (by decide) (fun K hK=>?_)
                  refine eD Tryd.func44 (by kernel_rfl) rfl #[.string ((dD ((ah xI xJ).f5) yA).f1)] (by rfl) rfl rfl (by (try simp only [List.map_toArray,List.map_cons,List.map_nil]);first|done|rfl|(simp only [List.length_drop,List.length_take];rfl)) ?_
                  with_reducible refine (bJ.calls k2 ((dD ((ah xI xJ).f5) yA).f1) zf _ C9.out).mono ?_
                  rintro e Df ⟨rfl,hb⟩
                  refine ⟨_,rfl,?_⟩
                  have yc:=Aside0.mk (aK (g:=xQ) (o:=.cells #[.int .u64 xX,.slice (some xU) xI.length yh] 53 (0,0)) (bk_ xM.out) hb)
                  have yg:=Aside0.mk (aK (g:=xL) (o:=.cells #[.string ((ah xI xJ).f0),.string ((ah xI xJ).f1),.string ((ah xI xJ).f2),.int .u8 ((ah xI xJ).f3),.int .u16 ((ah xI xJ).f4),.slice (some yV) ((ah xI xJ).f5).length xO] 103 (0,0)) (bk_ xK.out) hb)
                  have yj:=Aside0.mk (aQ (by repeat (first|(with_reducible first|exact HB.out|apply ay|apply aj|apply av|refine ak ?_ xS.out|refine ak ?_ xW.out)|exact HB.out)) hb)
                  clear xM
                  clear xK
                  clear HB
                  have xM:=yc
                  have xK:=yg
                  have HB:=yj
                  clear yc yg yj
                  (try clear hb)
                  (try clear hb2)
                  (try clear hk)
                  (try clear hi)
                  refine hK.out _ _ ⟨(au xK.out 0).trans rfl,(au xK.out 1).trans rfl,(au xK.out 2).trans rfl,(au xK.out 3).trans rfl,(au xK.out 4).trans rfl,(au xK.out 5).trans rfl,((HB.out.cell (World.block_lt_of_cell? w _ yQ)).trans yQ),((HB.out.cell (World.block_lt_of_cell? w _ yP)).trans yP),((HB.out.cell (World.block_lt_of_cell? w _ yS)).trans yS),((HB.out.cell (World.block_lt_of_cell? w _ yR)).trans yR)⟩ (fun hHeld=>?_)
                  clear hK K
                  refine bV (a':=?_) ?_ ?_
                  rotate_left
                  ·show Act.put _ (some 79) _ = _
                   simp only [Act.put,List.setIfInBounds_toArray,List.set_cons_zero,List.set_cons_succ,bD,bG]
                   rfl
                  refine cZ (i:=16) (N:=some 80) (v:=?_) (a':=?_) #[true,true,true,true,true,true,true,true,true,true,true,true,true,true,true,true,true,false] rfl rfl (cB HT_.out (by kernel_rfl)) (fun _ _ _ h=>h) (Or.inl ⟨by rfl,?_⟩) ?_ ?_
                  rotate_left
                  ·intro w'
                   go_simp
                   with_reducible rfl
                  rotate_left
                  ·simp only [Act.put,List.setIfInBounds_toArray,List.set_cons_zero,List.set_cons_succ,bD,bG]
                   rfl
                  refine cZ (i:=17) (N:=some 3) (v:=?_) (a':=?_) #[true,true,true,true,true,true,true,true,true,true,true,true,true,true,true,true,true,true] rfl rfl (cB HT_.out (by kernel_rfl)) (fun _ _ _ h=>h) (Or.inl ⟨by rfl,?_⟩) ?_ ?_
                  rotate_left
                  ·intro w'
                   go_simp
                   with_reducible rfl
                  rotate_left
                  ·simp only [Act.put,List.setIfInBounds_toArray,List.set_cons_zero,List.set_cons_succ,bD,bG]
                   rfl
                  refine jv (gX HT_.out (by kernel_rfl)) ?_
                  try go_wp2
                  go_roundg k2
                  case measure=>have:=AU.out;have:=Bv.out;omega
                  case rel=>exact ⟨((yU ++ yJ) ++ zf),(wrap64 (yA + 1)),(by first|rfl|(simp;done)|(simp [*];done)),(by first|rfl|(simp;done)|(simp [*];done)),H',⟨by have:=AU.out;have:=Bv.out;omega⟩,⟨by (with_reducible repeat (first|apply aC|apply aG|apply aA));exact xM.out⟩,⟨by (with_reducible repeat (first|apply aC|apply aG|apply aA));exact xK.out⟩,⟨by repeat (first|(with_reducible first|exact HB.out|apply ay|apply aj|apply av|refine ak ?_ xS.out|refine ak ?_ xW.out)|exact HB.out)⟩⟩
                 ·rw [if_neg Aq] at H
                  exact absurd H (by simp)
                ·rw [if_neg c40] at H
                 exact absurd H (by simp)
               ·rw [if_neg Bw] at H
                exact absurd H (by simp)
              ·rw [if_neg c37] at H
               have c37b0 : decide (yA < (((ah xI xJ).f5).length : Int)) = false:=decide_eq_false c37
               clear c37
               have H':=Aside0.mk H
               clear H
               have CU:=zh.out
               have CV:=yx.out
               have BP : wr.cell? ⟨xL,0,none⟩ = some (.string ((ah xI xJ).f0)):=(au xK.out 0).trans rfl
               have BQ : wr.cell? ⟨xL,1,none⟩ = some (.string ((ah xI xJ).f1)):=(au xK.out 1).trans rfl
               have BR : wr.cell? ⟨xL,2,none⟩ = some (.string ((ah xI xJ).f2)):=(au xK.out 2).trans rfl
               have BS : wr.cell? ⟨xL,3,none⟩ = some (.int .u8 ((ah xI xJ).f3)):=(au xK.out 3).trans rfl
               have BU : wr.cell? ⟨xL,4,none⟩ = some (.int .u16 ((ah xI xJ).f4)):=(au xK.out 4).trans rfl
               have BZ : wr.cell? ⟨xL,5,none⟩ = some (.slice xP ((ah xI xJ).f5).length xO):=(au xK.out 5).trans rfl
               have Ca:=aH xK.out 0
               have Cb:=aH xK.out 1
               have Cc:=aH xK.out 2
               have Ce:=aH xK.out 3
               have Cg:=aH xK.out 4
               have Ch:=aH xK.out 5
               go_wp2
               go_roundg k2
               case measure=>have:=AU.out;have:=Bv.out;omega
               case rel=>exact ⟨(yU),(wrap64 (xJ + 1)),(by first|rfl|(simp;done)|(simp [*];done)),(by first|rfl|(simp;done)|(simp [*];done)),H',⟨by have:=AU.out;have:=Bv.out;omega⟩,⟨by (with_reducible repeat (first|apply aC|apply aG|apply aA));exact xM.out⟩,⟨by repeat (first|(with_reducible first|exact HB.out|apply ay|apply aj|apply av|refine ak ?_ xS.out|refine ak ?_ xW.out)|exact HB.out)⟩⟩
           ·rw [if_neg c21] at H
            exact absurd H (by simp)
          ·rw [if_neg c19] at H
           exact absurd H (by simp)
         ·rw [if_neg c17] at H
          exact absurd H (by simp)
        ·rw [if_neg c16] at H
         exact absurd H (by simp)
       ·rw [if_neg c14] at H
        exact absurd H (by simp)
      ·rw [if_neg c12] at H
       exact absurd H (by simp)
     ·rw [if_neg c10] at H
      exact absurd H (by simp)
    ·rw [if_neg c9] at H
     have c9b0 : decide (xJ < (xI.length : Int)) = false:=decide_eq_false c9
     clear c9
     obtain rfl:=Option.some.inj H
     have Ci : wr.cell? ⟨xQ,0,none⟩ = some (.int .u64 xX):=(au xM.out 0).trans rfl
     have Cj : wr.cell? ⟨xQ,1,none⟩ = some (.slice zx xI.length yh):=(au xM.out 1).trans rfl
     have Ck:=aH xM.out 0
     have Cm:=aH xM.out 1
     go_wp2
     go_ret
     exact ⟨by first|rfl|(simp [aZ,bf] <;> rfl)|(simp [*,aZ,bf] <;> rfl),by repeat (first|(with_reducible first|exact HB.out|apply ay|apply aj|apply av|refine ak ?_ xS.out)|exact HB.out)⟩
 ·rw [if_neg c4] at H
  exact absurd H (by simp)
end Go.Proofs.YtpmbdcljphpcnaaDoor.GC2
