/- Written by this session's own program (wip/gen.py) out of the translation: plain Lean functions of the Go functions, and proofs that the calls come to their answers. No conditions beside those in the statements. -/
import Derived.Test.YtpmbdcljphpcnaaDoorGCkx0
import Derived.Test.YtpmbdcljphpcnaaDoorGCkx12
namespace Go.Proofs.YtpmbdcljphpcnaaDoor.GCk
open Go.RowKit Go.Proofs.YtpmbdcljphpcnaaDoorW.PrintWords Go.Proofs.YtpmbdcljphpcnaaDoorW.PrintLast
set_option linter.unusedVariables false
set_option linter.unusedSimpArgs false

/-! ### bosunref17_Bytes: function 15 -/
def bosunref17_Bytes.l0 : Nat → ByteArray → Int → Int → List (S67) → Option (ByteArray)
 | 0,_,_,_,_=>none
 | k + 1,x3,x4,x186000,x186001=>if x4 < (x186001.length : Int) then (if 0 ≤ x4 then ((bosunref02_Text.f k ((rd_T67 x186001 x4).f0)).bind fun t190=>(if x3.size + t190.size ≤ 9223372036854775807 then ((bosunref02_Text.f k ((rd_T67 x186001 x4).f1)).bind fun t191=>(if (x3 ++ t190).size + t191.size ≤ 9223372036854775807 then ((bosunref02_Text.f k ((rd_T67 x186001 x4).f2)).bind fun t192=>(if ((x3 ++ t190) ++ t191).size + t192.size ≤ 9223372036854775807 then ((some (([(rd_T67 x186001 x4).f3] : List Int) : List Int)).bind fun y193=>(if (((x3 ++ t190) ++ t191) ++ t192).size + (strOfNums y193).size ≤ 9223372036854775807 then (bosunref17_Bytes.l0 k ((((x3 ++ t190) ++ t191) ++ t192) ++ (strOfNums y193)) (wrap64 (x4 + 1)) x186000 x186001) else (none))) else (none))) else (none))) else (none))) else (none)) else (some x3)
def bosunref17_Bytes.f (k : Nat) (a0_0 : Int) (l0_1 : List (S67)) : Option (ByteArray):=(bosunref02_Put.f k 4 (IntKind.u64.wrap (a0_0))).bind fun t186=>((bosunref02_Put.f k 2 (IntKind.u64.wrap ((l0_1.length : Int)))).bind fun t187=>(if t186.size + t187.size ≤ 9223372036854775807 then (bosunref17_Bytes.l0 k (t186 ++ t187) 0 a0_0 l0_1) else (none)))
theorem bosunref17_Bytes.mono_l : ∀ k,(∀ y0 y1 y2 y3,LeO (bosunref17_Bytes.l0 k y0 y1 y2 y3) (bosunref17_Bytes.l0 (k + 1) y0 y1 y2 y3))
 | 0=>fun _ _ _ _ r h=>by simp [bosunref17_Bytes.l0] at h
 | k + 1=>by
  have ih0:=bosunref17_Bytes.mono_l k
  ·intro y0 y1 y2 y3
   unfold bosunref17_Bytes.l0
   repeat' first
   | (with_reducible exact ih0 _ _ _ _)
   | (with_reducible exact bosunref02_Put.mono _ _ _)
   | (with_reducible exact bosunref02_Text.mono _ _)
   | (with_reducible exact LeO.refl _)
   | (with_reducible exact LeO.none _)
   | (with_reducible refine LeO.ite ?_ ?_)
   | (with_reducible refine LeO.bind ?_ (fun _=>?_))
   | exact ih0 _ _ _ _
   | exact bosunref02_Put.mono _ _ _
   | exact bosunref02_Text.mono _ _
   | exact LeO.none _
   | refine LeO.ite ?_ ?_
   | refine LeO.bind ?_ (fun _=>?_)
theorem bosunref17_Bytes.mono : ∀ a0 a1 k,LeO (bosunref17_Bytes.f k a0 a1) (bosunref17_Bytes.f (k + 1) a0 a1):=by
 intro a0 a1 k
 have ih0:=bosunref17_Bytes.mono_l k
 unfold bosunref17_Bytes.f
 repeat' first
   | (with_reducible exact ih0 _ _ _ _)
   | (with_reducible exact bosunref02_Put.mono _ _ _)
   | (with_reducible exact bosunref02_Text.mono _ _)
   | (with_reducible exact LeO.refl _)
   | (with_reducible exact LeO.none _)
   | (with_reducible refine LeO.ite ?_ ?_)
   | (with_reducible refine LeO.bind ?_ (fun _=>?_))
   | exact ih0 _ _ _ _
   | exact bosunref02_Put.mono _ _ _
   | exact bosunref02_Text.mono _ _
   | exact LeO.none _
   | refine LeO.ite ?_ ?_
   | refine LeO.bind ?_ (fun _=>?_)
def bosunref17_Bytes.T1 : Bool × List (List Nat × List Nat):=(true,[([],[]),([0],[0]),([1],[1]),([2],[2]),([],[]),([4],[4]),([5],[5]),([6],[6]),([7,3],[7]),([3,8],[3,8]),([9,8,0,1,2,3,4,5,6,7,8,9],[9])])
def bosunref17_Bytes.B1 : List Nat:=[0,1,3,7,0,16,48,112,255,511,1023]
theorem bosunref17_Bytes.tab1 : rtab .any (opsOf Tryd.f15 1) = bosunref17_Bytes.T1:=by kernel_rfl
theorem bosunref17_Bytes.bits1 : waitsOk bosunref17_Bytes.T1.2 bosunref17_Bytes.B1 = true:=by kernel_rfl
def bosunref17_Bytes.T6 : Bool × List (List Nat × List Nat):=(true,[([],[]),([],[]),([1],[1]),([2],[2]),([0,3],[0,3]),([],[]),([5],[5]),([6,3],[6]),([4,7],[4,7]),([],[]),([9],[9]),([10,7],[10]),([8,11],[8,11]),([],[]),([13],[13]),([14],[14]),([15],[15]),([12,16],[12,16]),([17,11,0,1,2,3,4,5,6,7,8,9,10,11,12,13,14,15,16,17],[0,17])])
def bosunref17_Bytes.B6 : List Nat:=[0,0,2,6,15,0,32,110,255,0,512,1774,4095,0,8192,24576,57344,131071,262143]
theorem bosunref17_Bytes.tab6 : rtab .any (opsOf Tryd.f15 6) = bosunref17_Bytes.T6:=by kernel_rfl
theorem bosunref17_Bytes.bits6 : waitsOk bosunref17_Bytes.T6.2 bosunref17_Bytes.B6 = true:=by kernel_rfl
set_option maxHeartbeats 8000000 in
set_option maxRecDepth 100000 in
theorem bosunref17_Bytes.calls (k : Nat) (a0_0 : Int) (A0_1 : Option Addr) (c0_1 : Nat) (l0_1 : List (S67)) (r : ByteArray) (w : World) (hr0_1 : Kd.C k67 w A0_1 l0_1.length l0_1) (hc0_1 : l0_1.length ≤ c0_1) (h : bosunref17_Bytes.f k a0_0 l0_1 = some r) :
  Calls Tryd.prog 15 #[.agg #[.int .u32 a0_0,.slice A0_1 l0_1.length c0_1]] w fun e w'=>e = .returned (.string r) ∧ Below w.heap.size w w':=by
 have hu30:=Tryd.underlying30
 have hu67:=Tryd.underlying67
 have HR0_1:=Aside0.mk hr0_1
 have HC0_1:=Aside0.mk hc0_1
 clear hr0_1 hc0_1
 have HB:=Aside0.mk (Below.refl w.heap.size w)
 have H : ((bosunref02_Put.f k 4 (IntKind.u64.wrap (a0_0))).bind fun t186=>((bosunref02_Put.f k 2 (IntKind.u64.wrap ((l0_1.length : Int)))).bind fun t187=>(if t186.size + t187.size ≤ 9223372036854775807 then (bosunref17_Bytes.l0 k (t186 ++ t187) 0 a0_0 l0_1) else (none)))) = some r:=h
 clear h
 replace H:=Option.bind_eq_some_iff.mp H
 obtain ⟨t186,A20,H⟩:=H
 replace H : ((bosunref02_Put.f k 2 (IntKind.u64.wrap ((l0_1.length : Int)))).bind fun t187=>(if t186.size + t187.size ≤ 9223372036854775807 then (bosunref17_Bytes.l0 k (t186 ++ t187) 0 a0_0 l0_1) else (none))) = some r:=H
 have A2:=Aside0.mk A20
 clear A20
 replace H:=Option.bind_eq_some_iff.mp H
 obtain ⟨t187,A30,H⟩:=H
 replace H : (if t186.size + t187.size ≤ 9223372036854775807 then (bosunref17_Bytes.l0 k (t186 ++ t187) 0 a0_0 l0_1) else (none)) = some r:=H
 have A3:=Aside0.mk A30
 clear A30
 by_cases c4 : t186.size + t187.size ≤ 9223372036854775807
 ·rw [if_pos c4] at H
  have c4b0:=eq_true c4
  have c4b1 : decide (t186.size + t187.size ≤ 9223372036854775807) = true:=decide_eq_true c4
  try have c4b2 : (9223372036854775807 < t186.size + t187.size) = False:=eq_false (Nat.not_lt.2 c4)
  have H':=Aside0.mk H
  clear H
  go_enter Tryd.func15,Tryd.ntmps15
  try go_wp2_with (first|((with_reducible refine gate_dst (N:=1) rfl ?_);refine box_event ?hg (N:=1) ?hd (cs:=#[.int .u32 a0_0,.slice A0_1 l0_1.length c0_1]) (t:=30) ?hr ?_;(case hd=>rfl);(case hg=>rfl);(case hr=>first|(go_simp;done)|(go_simp;rfl));intro gb185 hg w5 hbox hb;have n0_:=Aside0.mk (below_step (by repeat (first|(with_reducible first|exact HB.out|apply below_alloc|apply pw_below_drewN|apply below_drew1)|exact HB.out)) hb);have n1_:=Aside0.mk (hbox);have n2_:=Aside0.mk ((by rw [hg];exact (below_size (by repeat (first|(with_reducible first|exact HB.out|apply below_alloc|apply pw_below_drewN|apply below_drew1)|exact HB.out))) : w.heap.size ≤ gb185));have n3_:=Aside0.mk ((by rw [hg];exact (below_size (by repeat (first|(with_reducible first|exact HB.out|apply below_alloc|apply pw_below_drewN|apply below_drew1)|exact HB.out))) : w.heap.size ≤ gb185));clear HB;have HB:=n0_;have BK185:=n1_;have GW185:=n2_;have GE185:=n3_;clear n0_ n1_ n2_ n3_;clear hb hbox hg))
  have n0_:=Aside0.mk (blk_drew BK185.out)
  have n1_:=Aside0.mk (below_drew1 HB.out)
  clear BK185
  clear HB
  have BK185:=n0_
  have HB:=n1_
  clear n0_ n1_
  refine start_ (n:=11) (S:=fun w'=>w'.cell? ⟨gb185,0,none⟩ = some (.int .u32 a0_0) ∧ w'.cell? ⟨gb185,1,none⟩ = some (.slice A0_1 l0_1.length c0_1)) (ds:=[]) #[false,false,false,false,false,false,false,false,false,false,false] (by kernel_rfl) rfl rfl ⟨(blk_cell BK185.out 0).trans rfl,(blk_cell BK185.out 1).trans rfl⟩ (fun hHeld=>?_);refine with_tabW bosunref17_Bytes.tab1 bosunref17_Bytes.bits1 (fun HT_ HW_=>?_)
  generalize w5.drew = w6 at BK185 HB hHeld ⊢
  refine pure_ (i:=0) (N:=some 6) (v:=?_) (a':=?_) #[true,false,false,false,false,false,false,false,false,false,false] rfl rfl (any_of HT_.out (by kernel_rfl)) (fun _ _ _ h=>h) (Or.inl ⟨by rfl,?_⟩) ?_ ?_
  rotate_left
  ·intro w'
   go_simp
   with_reducible rfl
  rotate_left
  ·simp only [Act.put,List.setIfInBounds_toArray,List.set_cons_zero,List.set_cons_succ,i64_w,i32_w]
   rfl
  refine pure_ (i:=4) (N:=some 10) (v:=?_) (a':=?_) #[true,false,false,false,true,false,false,false,false,false,false] rfl rfl (any_of HT_.out (by kernel_rfl)) (fun _ _ _ h=>h) (Or.inl ⟨by rfl,?_⟩) ?_ ?_
  rotate_left
  ·intro w'
   go_simp
   with_reducible rfl
  rotate_left
  ·simp only [Act.put,List.setIfInBounds_toArray,List.set_cons_zero,List.set_cons_succ,i64_w,i32_w]
   rfl
  refine take_ (i:=1) (N:=some 7) (v:=?_) (a':=?_) #[true,true,false,false,true,false,false,false,false,false,false] rfl rfl (take_ofW HT_.out HW_.out (by kernel_rfl)) (fun _ _ _ h=>h) (Or.inl ⟨by rfl,?_⟩) hHeld ?_ ?_
  rotate_left
  ·rintro w' ⟨s0,s1⟩
   go_simp
   with_reducible rfl
  rotate_left
  ·simp only [Act.put,List.setIfInBounds_toArray,List.set_cons_zero,List.set_cons_succ,i64_w,i32_w]
   rfl
  refine pure_ (i:=2) (N:=some 8) (v:=?_) (a':=?_) #[true,true,true,false,true,false,false,false,false,false,false] rfl rfl (any_of HT_.out (by kernel_rfl)) (fun _ _ _ h=>h) (Or.inl ⟨by rfl,?_⟩) ?_ ?_
  rotate_left
  ·intro w'
   go_simp
   with_reducible rfl
  rotate_left
  ·simp only [Act.put,List.setIfInBounds_toArray,List.set_cons_zero,List.set_cons_succ,i64_w,i32_w]
   rfl
  refine take_ (i:=5) (N:=some 11) (v:=?_) (a':=?_) #[true,true,true,false,true,true,false,false,false,false,false] rfl rfl (take_ofW HT_.out HW_.out (by kernel_rfl)) (fun _ _ _ h=>h) (Or.inl ⟨by rfl,?_⟩) hHeld ?_ ?_
  rotate_left
  ·rintro w' ⟨s0,s1⟩
   go_simp
   with_reducible rfl
  rotate_left
  ·simp only [Act.put,List.setIfInBounds_toArray,List.set_cons_zero,List.set_cons_succ,i64_w,i32_w]
   rfl
  refine pure_ (i:=6) (N:=some 12) (v:=?_) (a':=?_) #[true,true,true,false,true,true,true,false,false,false,false] rfl rfl (any_of HT_.out (by kernel_rfl)) (fun _ _ _ h=>h) (Or.inl ⟨by rfl,?_⟩) ?_ ?_
  rotate_left
  ·intro w'
   go_simp
   with_reducible rfl
  rotate_left
  ·simp only [Act.put,List.setIfInBounds_toArray,List.set_cons_zero,List.set_cons_succ,i64_w,i32_w]
   rfl
  refine pure_ (i:=7) (N:=some 13) (v:=?_) (a':=?_) #[true,true,true,false,true,true,true,true,false,false,false] rfl rfl (any_of HT_.out (by kernel_rfl)) (fun _ _ _ h=>h) (Or.inl ⟨by rfl,?_⟩) ?_ ?_
  rotate_left
  ·intro w'
   go_simp
   with_reducible rfl
  rotate_left
  ·simp only [Act.put,List.setIfInBounds_toArray,List.set_cons_zero,List.set_cons_succ,i64_w,i32_w]
   rfl
  refine one_ (i:=3) (N:=some 9) #[true,true,true,true,true,true,true,true,false,false,false] rfl rfl (one_of HT_.out (by kernel_rfl)) (by decide) (fun K hK=>?_)
  refine goes_ Tryd.func43 (by kernel_rfl) rfl #[.int .i64 4,.int .u64 (IntKind.u64.wrap (a0_0))] (by rfl) rfl rfl (by (try simp only [List.map_toArray,List.map_cons,List.map_nil]);first|done|rfl|(simp only [List.length_drop,List.length_take];rfl)) ?_
  with_reducible refine (bosunref02_Put.calls k 4 (IntKind.u64.wrap (a0_0)) t186 _ A2.out).mono ?_
  rintro e w7 ⟨rfl,hb⟩
  refine ⟨_,rfl,?_⟩
  have n0_:=Aside0.mk (blk_below (g:=gb185) (o:=.cells #[.int .u32 a0_0,.slice A0_1 l0_1.length c0_1] 30 (0,0)) (by (with_reducible repeat (first|apply blk_drewN|apply blk_drew|apply blk_alloc));exact BK185.out) hb)
  have n1_:=Aside0.mk (below_step (by repeat (first|(with_reducible first|exact HB.out|apply below_alloc|apply pw_below_drewN|apply below_drew1|refine below_set ?_ GE185.out)|exact HB.out)) hb)
  clear BK185
  clear HB
  have BK185:=n0_
  have HB:=n1_
  clear n0_ n1_
  (try clear hb)
  (try clear hb2)
  (try clear hk)
  (try clear hi)
  refine hK.out _ _ ⟨(blk_cell BK185.out 0).trans rfl,(blk_cell BK185.out 1).trans rfl⟩ (fun hHeld=>?_)
  clear hK K
  refine norm_ (a':=?_) ?_ ?_
  rotate_left
  ·show Act.put _ (some 9) _ = _
   simp only [Act.put,List.setIfInBounds_toArray,List.set_cons_zero,List.set_cons_succ,i64_w,i32_w]
   rfl
  refine one_ (i:=8) (N:=some 14) #[true,true,true,true,true,true,true,true,true,false,false] rfl rfl (one_of HT_.out (by kernel_rfl)) (by decide) (fun K hK=>?_)
  refine goes_ Tryd.func43 (by kernel_rfl) rfl #[.int .i64 2,.int .u64 (IntKind.u64.wrap ((l0_1.length : Int)))] (by rfl) rfl rfl (by (try simp only [List.map_toArray,List.map_cons,List.map_nil]);first|done|rfl|(simp only [List.length_drop,List.length_take];rfl)) ?_
  with_reducible refine (bosunref02_Put.calls k 2 (IntKind.u64.wrap ((l0_1.length : Int))) t187 _ A3.out).mono ?_
  rintro e w8 ⟨rfl,hb⟩
  refine ⟨_,rfl,?_⟩
  have n0_:=Aside0.mk (blk_below (g:=gb185) (o:=.cells #[.int .u32 a0_0,.slice A0_1 l0_1.length c0_1] 30 (0,0)) (by (with_reducible repeat (first|apply blk_drewN|apply blk_drew|apply blk_alloc));exact BK185.out) hb)
  have n1_:=Aside0.mk (below_step (by repeat (first|(with_reducible first|exact HB.out|apply below_alloc|apply pw_below_drewN|apply below_drew1|refine below_set ?_ GE185.out)|exact HB.out)) hb)
  clear BK185
  clear HB
  have BK185:=n0_
  have HB:=n1_
  clear n0_ n1_
  (try clear hb)
  (try clear hb2)
  (try clear hk)
  (try clear hi)
  refine hK.out _ _ ⟨(blk_cell BK185.out 0).trans rfl,(blk_cell BK185.out 1).trans rfl⟩ (fun hHeld=>?_)
  clear hK K
  refine norm_ (a':=?_) ?_ ?_
  rotate_left
  ·show Act.put _ (some 14) _ = _
   simp only [Act.put,List.setIfInBounds_toArray,List.set_cons_zero,List.set_cons_succ,i64_w,i32_w]
   rfl
  refine pure_ (i:=9) (N:=some 15) (v:=?_) (a':=?_) #[true,true,true,true,true,true,true,true,true,true,false] rfl rfl (any_of HT_.out (by kernel_rfl)) (fun _ _ _ h=>h) (Or.inl ⟨by rfl,?_⟩) ?_ ?_
  rotate_left
  ·intro w'
   go_simp
   with_reducible rfl
  rotate_left
  ·simp only [Act.put,List.setIfInBounds_toArray,List.set_cons_zero,List.set_cons_succ,i64_w,i32_w]
   rfl
  refine pure_ (i:=10) (N:=some 3) (v:=?_) (a':=?_) #[true,true,true,true,true,true,true,true,true,true,true] rfl rfl (any_of HT_.out (by kernel_rfl)) (fun _ _ _ h=>h) (Or.inl ⟨by rfl,?_⟩) ?_ ?_
  rotate_left
  ·intro w'
   go_simp
   with_reducible rfl
  rotate_left
  ·simp only [Act.put,List.setIfInBounds_toArray,List.set_cons_zero,List.set_cons_succ,i64_w,i32_w]
   rfl
  refine done_ (done_of HT_.out (by kernel_rfl)) ?_
  try go_wp2
  go_loopg [3,4] k (fun kq v3 v4 w'=>∃ (x3_1 : ByteArray) (x4_1 : Int),v3 = .string x3_1 ∧ v4 = .int .i64 x4_1 ∧ Aside0 (bosunref17_Bytes.l0 kq x3_1 x4_1 a0_0 l0_1 = some r) ∧ Aside0 (kq ≤ k) ∧ Aside0 (w'.heap[gb185]? = some (.cells #[.int .u32 a0_0,(.slice A0_1 l0_1.length c0_1)] 30 (0,0))) ∧ Aside0 (Below w.heap.size w w'))
  case atStart=>exact ⟨(t186 ++ t187),(0),(by first|rfl|(simp;done)|(simp [*];done)),(by first|rfl|(simp;done)|(simp [*];done)),H',⟨Nat.le_refl _⟩,⟨by (with_reducible repeat (first|apply blk_drewN|apply blk_drew|apply blk_alloc));exact BK185.out⟩,⟨by repeat (first|(with_reducible first|exact HB.out|apply below_alloc|apply pw_below_drewN|apply below_drew1|refine below_set ?_ GE185.out)|exact HB.out)⟩⟩
  case round =>
   clear H'
   try clear c1
   try clear p2
   try clear c4
   try clear c4b0
   try clear c4b1
   try clear c4b2
   obtain ⟨x3_1,x4_1,rfl,rfl,HA,HK1,BK185,HB⟩:=hrel
   cases gk with
   | zero=>exact absurd HA.out (by simp [bosunref17_Bytes.l0])
   | succ k1 =>
    have H:=HA.out
    clear HA
    simp only [bosunref17_Bytes.l0] at H
    by_cases c9 : x4_1 < (l0_1.length : Int)
    ·rw [if_pos c9] at H
     have c9b0 : decide (x4_1 < (l0_1.length : Int)) = true:=decide_eq_true c9
     clear c9
     by_cases c10 : 0 ≤ x4_1
     ·rw [if_pos c10] at H
      have c10b0 : decide (0 ≤ x4_1) = true:=decide_eq_true c10
      clear c10
      replace H:=Option.bind_eq_some_iff.mp H
      obtain ⟨t190,A110,H⟩:=H
      replace H : (if x3_1.size + t190.size ≤ 9223372036854775807 then ((bosunref02_Text.f k1 ((rd_T67 l0_1 x4_1).f1)).bind fun t191=>(if (x3_1 ++ t190).size + t191.size ≤ 9223372036854775807 then ((bosunref02_Text.f k1 ((rd_T67 l0_1 x4_1).f2)).bind fun t192=>(if ((x3_1 ++ t190) ++ t191).size + t192.size ≤ 9223372036854775807 then ((some (([(rd_T67 l0_1 x4_1).f3] : List Int) : List Int)).bind fun y193=>(if (((x3_1 ++ t190) ++ t191) ++ t192).size + (strOfNums y193).size ≤ 9223372036854775807 then (bosunref17_Bytes.l0 k1 ((((x3_1 ++ t190) ++ t191) ++ t192) ++ (strOfNums y193)) (wrap64 (x4_1 + 1)) a0_0 l0_1) else (none))) else (none))) else (none))) else (none)) = some r:=H
      have A11:=Aside0.mk A110
      clear A110
      by_cases c12 : x3_1.size + t190.size ≤ 9223372036854775807
      ·rw [if_pos c12] at H
       have c12b0:=eq_true c12
       have c12b1 : decide (x3_1.size + t190.size ≤ 9223372036854775807) = true:=decide_eq_true c12
       try have c12b2 : (9223372036854775807 < x3_1.size + t190.size) = False:=eq_false (Nat.not_lt.2 c12)
       replace H:=Option.bind_eq_some_iff.mp H
       obtain ⟨t191,A130,H⟩:=H
       replace H : (if (x3_1 ++ t190).size + t191.size ≤ 9223372036854775807 then ((bosunref02_Text.f k1 ((rd_T67 l0_1 x4_1).f2)).bind fun t192=>(if ((x3_1 ++ t190) ++ t191).size + t192.size ≤ 9223372036854775807 then ((some (([(rd_T67 l0_1 x4_1).f3] : List Int) : List Int)).bind fun y193=>(if (((x3_1 ++ t190) ++ t191) ++ t192).size + (strOfNums y193).size ≤ 9223372036854775807 then (bosunref17_Bytes.l0 k1 ((((x3_1 ++ t190) ++ t191) ++ t192) ++ (strOfNums y193)) (wrap64 (x4_1 + 1)) a0_0 l0_1) else (none))) else (none))) else (none)) = some r:=H
       have A13:=Aside0.mk A130
       clear A130
       by_cases c14 : (x3_1 ++ t190).size + t191.size ≤ 9223372036854775807
       ·rw [if_pos c14] at H
        have c14b0:=eq_true c14
        have c14b1 : decide ((x3_1 ++ t190).size + t191.size ≤ 9223372036854775807) = true:=decide_eq_true c14
        try have c14b2 : (9223372036854775807 < (x3_1 ++ t190).size + t191.size) = False:=eq_false (Nat.not_lt.2 c14)
        have c14s:=c14
        try simp only [ByteArray.size_append] at c14s
        try have c14s0:=eq_false (Nat.not_lt.2 c14s)
        try have c14s1:=eq_true c14s
        replace H:=Option.bind_eq_some_iff.mp H
        obtain ⟨t192,A150,H⟩:=H
        replace H : (if ((x3_1 ++ t190) ++ t191).size + t192.size ≤ 9223372036854775807 then ((some (([(rd_T67 l0_1 x4_1).f3] : List Int) : List Int)).bind fun y193=>(if (((x3_1 ++ t190) ++ t191) ++ t192).size + (strOfNums y193).size ≤ 9223372036854775807 then (bosunref17_Bytes.l0 k1 ((((x3_1 ++ t190) ++ t191) ++ t192) ++ (strOfNums y193)) (wrap64 (x4_1 + 1)) a0_0 l0_1) else (none))) else (none)) = some r:=H
        have A15:=Aside0.mk A150
        clear A150
        by_cases c16 : ((x3_1 ++ t190) ++ t191).size + t192.size ≤ 9223372036854775807
        ·rw [if_pos c16] at H
         have c16b0:=eq_true c16
         have c16b1 : decide (((x3_1 ++ t190) ++ t191).size + t192.size ≤ 9223372036854775807) = true:=decide_eq_true c16
         try have c16b2 : (9223372036854775807 < ((x3_1 ++ t190) ++ t191).size + t192.size) = False:=eq_false (Nat.not_lt.2 c16)
         have c16s:=c16
         try simp only [ByteArray.size_append] at c16s
         try have c16s0:=eq_false (Nat.not_lt.2 c16s)
         try have c16s1:=eq_true c16s
         obtain ⟨y193,hy193⟩ : ∃ y_ : List Int,y_ = (([(rd_T67 l0_1 x4_1).f3] : List Int)):=⟨_,rfl⟩
         replace H : (if (((x3_1 ++ t190) ++ t191) ++ t192).size + (strOfNums y193).size ≤ 9223372036854775807 then (bosunref17_Bytes.l0 k1 ((((x3_1 ++ t190) ++ t191) ++ t192) ++ (strOfNums y193)) (wrap64 (x4_1 + 1)) a0_0 l0_1) else (none)) = some r:=by first|(rw [hy193];with_reducible exact H)|(have H2_:=(Option.bind_some _ _).symm.trans H;rw [hy193];with_reducible exact H2_)|(have H2_:=(Option.bind_some _ _).symm.trans H;with_reducible exact H2_)|with_reducible exact H|(rw [hy193];exact H)|exact H
         have Ny193:=Aside0.mk hy193
         clear hy193
         by_cases c17 : (((x3_1 ++ t190) ++ t191) ++ t192).size + (strOfNums y193).size ≤ 9223372036854775807
         ·rw [if_pos c17] at H
          have c17b0:=eq_true c17
          have c17b1 : decide ((((x3_1 ++ t190) ++ t191) ++ t192).size + (strOfNums y193).size ≤ 9223372036854775807) = true:=decide_eq_true c17
          try have c17b2 : (9223372036854775807 < (((x3_1 ++ t190) ++ t191) ++ t192).size + (strOfNums y193).size) = False:=eq_false (Nat.not_lt.2 c17)
          have c17s:=c17
          try simp only [ByteArray.size_append] at c17s
          try have c17s0:=eq_false (Nat.not_lt.2 c17s)
          try have c17s1:=eq_true c17s
          have H':=Aside0.mk H
          clear H
          have hcz18_0 : wr.cell? ⟨gb185,0,none⟩ = some (.int .u32 a0_0):=(blk_cell BK185.out 0).trans rfl
          have hcz18_1 : wr.cell? ⟨gb185,1,none⟩ = some (.slice A0_1 l0_1.length c0_1):=(blk_cell BK185.out 1).trans rfl
          have hfz18_0:=blk_frozen BK185.out 0
          have hfz18_1:=blk_frozen BK185.out 1
          have p188 : 0 ≤ (x4_1 : Int):=of_decide_eq_true (by first|(with_reducible assumption)|assumption)
          have q188 : x4_1 < (l0_1.length : Int):=of_decide_eq_true (by first|(with_reducible assumption)|assumption)
          obtain ⟨ad188,e188,hx188_0,hx188_1,hx188_2,hx188_3⟩:=at_T67 HR0_1.out x4_1 p188 q188
          cases e188
          replace hx188_0:=(HB.out.cell (World.block_lt_of_cell? w _ hx188_0)).trans hx188_0
          replace hx188_1:=(HB.out.cell (World.block_lt_of_cell? w _ hx188_1)).trans hx188_1
          replace hx188_2:=(HB.out.cell (World.block_lt_of_cell? w _ hx188_2)).trans hx188_2
          replace hx188_3:=(HB.out.cell (World.block_lt_of_cell? w _ hx188_3)).trans hx188_3
          replace p188:=eq_true p188
          replace q188:=eq_true q188
          try go_wp2_with (first|((with_reducible refine gate_dst (N:=5) rfl ?_);refine box_event ?hg (N:=5) ?hd (cs:=#[.string (⟨#[]⟩ : ByteArray),.string (⟨#[]⟩ : ByteArray),.string (⟨#[]⟩ : ByteArray),.int .u8 0]) (t:=67) ?hr ?_;(case hd=>rfl);(case hg=>rfl);(case hr=>first|(go_simp;done)|(go_simp;rfl));intro gb189 hg w19 hbox hb;have n0_:=Aside0.mk (blk_below (g:=gb185) (o:=.cells #[.int .u32 a0_0,.slice (some ad188) l0_1.length c0_1] 30 (0,0)) (by (with_reducible repeat (first|apply blk_drewN|apply blk_drew|apply blk_alloc));exact BK185.out) hb);have n1_:=Aside0.mk (below_step (by repeat (first|(with_reducible first|exact HB.out|apply below_alloc|apply pw_below_drewN|apply below_drew1|refine below_set ?_ GE185.out)|exact HB.out)) hb);have n2_:=Aside0.mk (hbox);have n3_:=Aside0.mk ((by rw [hg];exact (below_size (by repeat (first|(with_reducible first|exact HB.out|apply below_alloc|apply pw_below_drewN|apply below_drew1|refine below_set ?_ GE185.out)|exact HB.out))) : w.heap.size ≤ gb189));have n4_:=Aside0.mk ((by rw [hg];exact (below_size (by repeat (first|(with_reducible first|exact HB.out|apply below_alloc|apply pw_below_drewN|apply below_drew1|refine below_set ?_ GE185.out)|exact HB.out))) : w.heap.size ≤ gb189));have n5_:=Aside0.mk ((by rw [hg];exact Nat.ne_of_lt (blk_lt (g:=gb185) (o:=.cells #[.int .u32 a0_0,.slice (some ad188) l0_1.length c0_1] 30 (0,0)) (by (with_reducible repeat (first|apply blk_drewN|apply blk_drew|apply blk_alloc));exact BK185.out)) : gb185 ≠ gb189));have n6_:=Aside0.mk ((by rw [hg];exact Nat.ne_of_gt (blk_lt (g:=gb185) (o:=.cells #[.int .u32 a0_0,.slice (some ad188) l0_1.length c0_1] 30 (0,0)) (by (with_reducible repeat (first|apply blk_drewN|apply blk_drew|apply blk_alloc));exact BK185.out)) : gb189 ≠ gb185));clear BK185;clear HB;have BK185:=n0_;have HB:=n1_;have BK189:=n2_;have GW189:=n3_;have GE189:=n4_;have NB185_189:=n5_;have NB189_185:=n6_;clear n0_ n1_ n2_ n3_ n4_ n5_ n6_;clear hb hbox hg;have hnb20:=NB189_185.out;have hnc20:=NB185_189.out;have hcz21_0 : w19.cell? ⟨gb189,0,none⟩ = some (.string (⟨#[]⟩ : ByteArray)):=(blk_cell BK189.out 0).trans rfl;have hcz21_1 : w19.cell? ⟨gb189,1,none⟩ = some (.string (⟨#[]⟩ : ByteArray)):=(blk_cell BK189.out 1).trans rfl;have hcz21_2 : w19.cell? ⟨gb189,2,none⟩ = some (.string (⟨#[]⟩ : ByteArray)):=(blk_cell BK189.out 2).trans rfl;have hcz21_3 : w19.cell? ⟨gb189,3,none⟩ = some (.int .u8 0):=(blk_cell BK189.out 3).trans rfl;have hfz21_0:=blk_frozen BK189.out 0;have hfz21_1:=blk_frozen BK189.out 1;have hfz21_2:=blk_frozen BK189.out 2;have hfz21_3:=blk_frozen BK189.out 3))
          have n0_ : Aside0 (((((w19.setCell ⟨gb189,0,none⟩ (.string ((rd_T67 l0_1 x4_1).f0))).setCell ⟨gb189,1,none⟩ (.string ((rd_T67 l0_1 x4_1).f1))).setCell ⟨gb189,2,none⟩ (.string ((rd_T67 l0_1 x4_1).f2))).setCell ⟨gb189,3,none⟩ (.int .u8 ((rd_T67 l0_1 x4_1).f3))).heap[gb185]? = some (.cells #[.int .u32 a0_0,.slice (some ad188) l0_1.length c0_1] 30 (0,0))):=⟨by (with_reducible repeat (first|apply blk_drewN|apply blk_drew|apply blk_alloc));refine blk_far ?_ NB185_189.out _;(with_reducible repeat (first|apply blk_drewN|apply blk_drew|apply blk_alloc));refine blk_far ?_ NB185_189.out _;(with_reducible repeat (first|apply blk_drewN|apply blk_drew|apply blk_alloc));refine blk_far ?_ NB185_189.out _;(with_reducible repeat (first|apply blk_drewN|apply blk_drew|apply blk_alloc));refine blk_far ?_ NB185_189.out _;(with_reducible repeat (first|apply blk_drewN|apply blk_drew|apply blk_alloc));exact BK185.out⟩
          have n1_ : Aside0 (((((w19.setCell ⟨gb189,0,none⟩ (.string ((rd_T67 l0_1 x4_1).f0))).setCell ⟨gb189,1,none⟩ (.string ((rd_T67 l0_1 x4_1).f1))).setCell ⟨gb189,2,none⟩ (.string ((rd_T67 l0_1 x4_1).f2))).setCell ⟨gb189,3,none⟩ (.int .u8 ((rd_T67 l0_1 x4_1).f3))).heap[gb189]? = some (.cells #[.string ((rd_T67 l0_1 x4_1).f0),.string ((rd_T67 l0_1 x4_1).f1),.string ((rd_T67 l0_1 x4_1).f2),.int .u8 ((rd_T67 l0_1 x4_1).f3)] 67 (0,0))):=⟨by (with_reducible repeat (first|apply blk_drewN|apply blk_drew|apply blk_alloc));refine blk_put (cs:=#[.string ((rd_T67 l0_1 x4_1).f0),.string ((rd_T67 l0_1 x4_1).f1),.string ((rd_T67 l0_1 x4_1).f2),.int .u8 0]) ?_ 3 _ rfl;(with_reducible repeat (first|apply blk_drewN|apply blk_drew|apply blk_alloc));refine blk_put (cs:=#[.string ((rd_T67 l0_1 x4_1).f0),.string ((rd_T67 l0_1 x4_1).f1),.string (⟨#[]⟩ : ByteArray),.int .u8 0]) ?_ 2 _ rfl;(with_reducible repeat (first|apply blk_drewN|apply blk_drew|apply blk_alloc));refine blk_put (cs:=#[.string ((rd_T67 l0_1 x4_1).f0),.string (⟨#[]⟩ : ByteArray),.string (⟨#[]⟩ : ByteArray),.int .u8 0]) ?_ 1 _ rfl;(with_reducible repeat (first|apply blk_drewN|apply blk_drew|apply blk_alloc));refine blk_put (cs:=#[.string (⟨#[]⟩ : ByteArray),.string (⟨#[]⟩ : ByteArray),.string (⟨#[]⟩ : ByteArray),.int .u8 0]) ?_ 0 _ rfl;(with_reducible repeat (first|apply blk_drewN|apply blk_drew|apply blk_alloc));exact BK189.out⟩
          have n2_ : Aside0 (Below w.heap.size w ((((w19.setCell ⟨gb189,0,none⟩ (.string ((rd_T67 l0_1 x4_1).f0))).setCell ⟨gb189,1,none⟩ (.string ((rd_T67 l0_1 x4_1).f1))).setCell ⟨gb189,2,none⟩ (.string ((rd_T67 l0_1 x4_1).f2))).setCell ⟨gb189,3,none⟩ (.int .u8 ((rd_T67 l0_1 x4_1).f3)))):=⟨by repeat (first|(with_reducible first|exact HB.out|apply below_alloc|apply pw_below_drewN|apply below_drew1|refine below_set ?_ GE185.out|refine below_set ?_ GE189.out)|exact HB.out)⟩
          (try clear BK185)
          (try clear BK189)
          (try clear HB)
          generalize ((((w19.setCell ⟨gb189,0,none⟩ (.string ((rd_T67 l0_1 x4_1).f0))).setCell ⟨gb189,1,none⟩ (.string ((rd_T67 l0_1 x4_1).f1))).setCell ⟨gb189,2,none⟩ (.string ((rd_T67 l0_1 x4_1).f2))).setCell ⟨gb189,3,none⟩ (.int .u8 ((rd_T67 l0_1 x4_1).f3))) = w22 at n0_ n1_ n2_ ⊢
          have BK185:=n0_
          have BK189:=n1_
          have HB:=n2_
          clear n0_ n1_ n2_
          have n0_:=Aside0.mk (blk_drew BK185.out)
          have n1_:=Aside0.mk (blk_drew BK189.out)
          have n2_:=Aside0.mk (below_drew1 HB.out)
          clear BK185
          clear BK189
          clear HB
          have BK185:=n0_
          have BK189:=n1_
          have HB:=n2_
          clear n0_ n1_ n2_
          refine start_ (n:=19) (S:=fun w'=>w'.cell? ⟨gb189,0,none⟩ = some (.string ((rd_T67 l0_1 x4_1).f0)) ∧ w'.cell? ⟨gb189,1,none⟩ = some (.string ((rd_T67 l0_1 x4_1).f1)) ∧ w'.cell? ⟨gb189,2,none⟩ = some (.string ((rd_T67 l0_1 x4_1).f2)) ∧ w'.cell? ⟨gb189,3,none⟩ = some (.int .u8 ((rd_T67 l0_1 x4_1).f3))) (ds:=[]) #[false,false,false,false,false,false,false,false,false,false,false,false,false,false,false,false,false,false,false] (by kernel_rfl) rfl rfl ⟨(blk_cell BK189.out 0).trans rfl,(blk_cell BK189.out 1).trans rfl,(blk_cell BK189.out 2).trans rfl,(blk_cell BK189.out 3).trans rfl⟩ (fun hHeld=>?_);refine with_tabW bosunref17_Bytes.tab6 bosunref17_Bytes.bits6 (fun HT_ HW_=>?_)
          generalize w22.drew = w23 at BK185 BK189 HB hHeld ⊢
          refine pure_ (i:=0) (N:=some 28) (v:=?_) (a':=?_) #[true,false,false,false,false,false,false,false,false,false,false,false,false,false,false,false,false,false,false] rfl rfl (any_of HT_.out (by kernel_rfl)) (fun _ _ _ h=>h) (Or.inl ⟨by rfl,?_⟩) ?_ ?_
          rotate_left
          ·intro w'
           go_simp
           with_reducible rfl
          rotate_left
          ·simp only [Act.put,List.setIfInBounds_toArray,List.set_cons_zero,List.set_cons_succ,i64_w,i32_w]
           rfl
          refine pure_ (i:=1) (N:=some 29) (v:=?_) (a':=?_) #[true,true,false,false,false,false,false,false,false,false,false,false,false,false,false,false,false,false,false] rfl rfl (any_of HT_.out (by kernel_rfl)) (fun _ _ _ h=>h) (Or.inl ⟨by rfl,?_⟩) ?_ ?_
          rotate_left
          ·intro w'
           go_simp
           with_reducible rfl
          rotate_left
          ·simp only [Act.put,List.setIfInBounds_toArray,List.set_cons_zero,List.set_cons_succ,i64_w,i32_w]
           rfl
          refine pure_ (i:=5) (N:=some 33) (v:=?_) (a':=?_) #[true,true,false,false,false,true,false,false,false,false,false,false,false,false,false,false,false,false,false] rfl rfl (any_of HT_.out (by kernel_rfl)) (fun _ _ _ h=>h) (Or.inl ⟨by rfl,?_⟩) ?_ ?_
          rotate_left
          ·intro w'
           go_simp
           with_reducible rfl
          rotate_left
          ·simp only [Act.put,List.setIfInBounds_toArray,List.set_cons_zero,List.set_cons_succ,i64_w,i32_w]
           rfl
          refine pure_ (i:=9) (N:=some 37) (v:=?_) (a':=?_) #[true,true,false,false,false,true,false,false,false,true,false,false,false,false,false,false,false,false,false] rfl rfl (any_of HT_.out (by kernel_rfl)) (fun _ _ _ h=>h) (Or.inl ⟨by rfl,?_⟩) ?_ ?_
          rotate_left
          ·intro w'
           go_simp
           with_reducible rfl
          rotate_left
          ·simp only [Act.put,List.setIfInBounds_toArray,List.set_cons_zero,List.set_cons_succ,i64_w,i32_w]
           rfl
          refine pure_ (i:=13) (N:=some 41) (v:=?_) (a':=?_) #[true,true,false,false,false,true,false,false,false,true,false,false,false,true,false,false,false,false,false] rfl rfl (any_of HT_.out (by kernel_rfl)) (fun _ _ _ h=>h) (Or.inl ⟨by rfl,?_⟩) ?_ ?_
          rotate_left
          ·intro w'
           go_simp
           with_reducible rfl
          rotate_left
          ·simp only [Act.put,List.setIfInBounds_toArray,List.set_cons_zero,List.set_cons_succ,i64_w,i32_w]
           rfl
          refine take_ (i:=2) (N:=some 30) (v:=?_) (a':=?_) #[true,true,true,false,false,true,false,false,false,true,false,false,false,true,false,false,false,false,false] rfl rfl (take_ofW HT_.out HW_.out (by kernel_rfl)) (fun _ _ _ h=>h) (Or.inl ⟨by rfl,?_⟩) hHeld ?_ ?_
          rotate_left
          ·rintro w' ⟨s0,s1,s2,s3⟩
           go_simp
           with_reducible rfl
          rotate_left
          ·simp only [Act.put,List.setIfInBounds_toArray,List.set_cons_zero,List.set_cons_succ,i64_w,i32_w]
           rfl
          refine take_ (i:=6) (N:=some 34) (v:=?_) (a':=?_) #[true,true,true,false,false,true,true,false,false,true,false,false,false,true,false,false,false,false,false] rfl rfl (take_ofW HT_.out HW_.out (by kernel_rfl)) (fun _ _ _ h=>h) (Or.inl ⟨by rfl,?_⟩) hHeld ?_ ?_
          rotate_left
          ·rintro w' ⟨s0,s1,s2,s3⟩
           go_simp
           with_reducible rfl
          rotate_left
          ·simp only [Act.put,List.setIfInBounds_toArray,List.set_cons_zero,List.set_cons_succ,i64_w,i32_w]
           rfl
          refine take_ (i:=10) (N:=some 38) (v:=?_) (a':=?_) #[true,true,true,false,false,true,true,false,false,true,true,false,false,true,false,false,false,false,false] rfl rfl (take_ofW HT_.out HW_.out (by kernel_rfl)) (fun _ _ _ h=>h) (Or.inl ⟨by rfl,?_⟩) hHeld ?_ ?_
          rotate_left
          ·rintro w' ⟨s0,s1,s2,s3⟩
           go_simp
           with_reducible rfl
          rotate_left
          ·simp only [Act.put,List.setIfInBounds_toArray,List.set_cons_zero,List.set_cons_succ,i64_w,i32_w]
           rfl
          refine take_ (i:=14) (N:=some 42) (v:=?_) (a':=?_) #[true,true,true,false,false,true,true,false,false,true,true,false,false,true,true,false,false,false,false] rfl rfl (take_ofW HT_.out HW_.out (by kernel_rfl)) (fun _ _ _ h=>h) (Or.inl ⟨by rfl,?_⟩) hHeld ?_ ?_
          rotate_left
          ·rintro w' ⟨s0,s1,s2,s3⟩
           go_simp
           with_reducible rfl
          rotate_left
          ·simp only [Act.put,List.setIfInBounds_toArray,List.set_cons_zero,List.set_cons_succ,i64_w,i32_w]
           rfl
          refine join_ (σ:=Value) 2 #[true,true,true,true,true,true,true,true,true,true,true,true,true,true,true,true,true,false,false] (fun s_=>[(31,.string t190),(35,.string t191),(39,.string t192),(43,s_),(44,.string (strOfNums y193)),(32,.string (x3_1 ++ t190)),(36,.string ((x3_1 ++ t190) ++ t191)),(40,.string (((x3_1 ++ t190) ++ t191) ++ t192))]) (fun s_ w'=>(w'.cell? ⟨gb189,0,none⟩ = some (.string ((rd_T67 l0_1 x4_1).f0)) ∧ w'.cell? ⟨gb189,1,none⟩ = some (.string ((rd_T67 l0_1 x4_1).f1)) ∧ w'.cell? ⟨gb189,2,none⟩ = some (.string ((rd_T67 l0_1 x4_1).f2)) ∧ w'.cell? ⟨gb189,3,none⟩ = some (.int .u8 ((rd_T67 l0_1 x4_1).f3))) ∧ (Kd.R (Kd.int .u8) 5 w' w.heap.size (fun _=>True) s_ y193) ∧ (w'.heap[gb185]? = some (.cells #[.int .u32 a0_0,.slice (some ad188) l0_1.length c0_1] 30 (0,0))) ∧ (w'.heap[gb189]? = some (.cells #[.string ((rd_T67 l0_1 x4_1).f0),.string ((rd_T67 l0_1 x4_1).f1),.string ((rd_T67 l0_1 x4_1).f2),.int .u8 ((rd_T67 l0_1 x4_1).f3)] 67 (0,0))) ∧ (Below w.heap.size w w')) ?_ ?_
          rotate_left
          ·intro hJ3_7_11_15_16
           refine join_ (σ:=Value) 3 #[true,true,true,true,true,true,true,true,true,true,true,true,true,true,true,true,false,false,false] (fun s_=>[(31,.string t190),(35,.string t191),(39,.string t192),(43,s_),(32,.string (x3_1 ++ t190)),(36,.string ((x3_1 ++ t190) ++ t191)),(40,.string (((x3_1 ++ t190) ++ t191) ++ t192))]) (fun s_ w'=>(w'.cell? ⟨gb189,0,none⟩ = some (.string ((rd_T67 l0_1 x4_1).f0)) ∧ w'.cell? ⟨gb189,1,none⟩ = some (.string ((rd_T67 l0_1 x4_1).f1)) ∧ w'.cell? ⟨gb189,2,none⟩ = some (.string ((rd_T67 l0_1 x4_1).f2)) ∧ w'.cell? ⟨gb189,3,none⟩ = some (.int .u8 ((rd_T67 l0_1 x4_1).f3))) ∧ (Kd.R (Kd.int .u8) 5 w' w.heap.size (fun _=>True) s_ y193) ∧ (w'.heap[gb185]? = some (.cells #[.int .u32 a0_0,.slice (some ad188) l0_1.length c0_1] 30 (0,0))) ∧ (w'.heap[gb189]? = some (.cells #[.string ((rd_T67 l0_1 x4_1).f0),.string ((rd_T67 l0_1 x4_1).f1),.string ((rd_T67 l0_1 x4_1).f2),.int .u8 ((rd_T67 l0_1 x4_1).f3)] 67 (0,0))) ∧ (Below w.heap.size w w')) ?_ ?_
           rotate_left
           ·intro hJ3_7_11_15
            refine join_ (σ:=Value) 4 #[true,true,true,true,true,true,true,true,true,true,true,false,false,true,true,true,true,false,false] (fun s_=>[(31,.string t190),(35,.string t191),(43,s_),(44,.string (strOfNums y193)),(32,.string (x3_1 ++ t190)),(36,.string ((x3_1 ++ t190) ++ t191))]) (fun s_ w'=>(w'.cell? ⟨gb189,0,none⟩ = some (.string ((rd_T67 l0_1 x4_1).f0)) ∧ w'.cell? ⟨gb189,1,none⟩ = some (.string ((rd_T67 l0_1 x4_1).f1)) ∧ w'.cell? ⟨gb189,2,none⟩ = some (.string ((rd_T67 l0_1 x4_1).f2)) ∧ w'.cell? ⟨gb189,3,none⟩ = some (.int .u8 ((rd_T67 l0_1 x4_1).f3))) ∧ (Kd.R (Kd.int .u8) 5 w' w.heap.size (fun _=>True) s_ y193) ∧ (w'.heap[gb185]? = some (.cells #[.int .u32 a0_0,.slice (some ad188) l0_1.length c0_1] 30 (0,0))) ∧ (w'.heap[gb189]? = some (.cells #[.string ((rd_T67 l0_1 x4_1).f0),.string ((rd_T67 l0_1 x4_1).f1),.string ((rd_T67 l0_1 x4_1).f2),.int .u8 ((rd_T67 l0_1 x4_1).f3)] 67 (0,0))) ∧ (Below w.heap.size w w')) ?_ ?_
            rotate_left
            ·intro hJ3_7_15_16
             refine join_ (σ:=Unit) 4 #[true,true,true,true,true,true,true,true,true,true,true,true,true,true,true,false,false,false,false] (fun s_=>[(31,.string t190),(35,.string t191),(39,.string t192),(32,.string (x3_1 ++ t190)),(36,.string ((x3_1 ++ t190) ++ t191)),(40,.string (((x3_1 ++ t190) ++ t191) ++ t192))]) (fun s_ w'=>(w'.cell? ⟨gb189,0,none⟩ = some (.string ((rd_T67 l0_1 x4_1).f0)) ∧ w'.cell? ⟨gb189,1,none⟩ = some (.string ((rd_T67 l0_1 x4_1).f1)) ∧ w'.cell? ⟨gb189,2,none⟩ = some (.string ((rd_T67 l0_1 x4_1).f2)) ∧ w'.cell? ⟨gb189,3,none⟩ = some (.int .u8 ((rd_T67 l0_1 x4_1).f3))) ∧ (w'.heap[gb185]? = some (.cells #[.int .u32 a0_0,.slice (some ad188) l0_1.length c0_1] 30 (0,0))) ∧ (w'.heap[gb189]? = some (.cells #[.string ((rd_T67 l0_1 x4_1).f0),.string ((rd_T67 l0_1 x4_1).f1),.string ((rd_T67 l0_1 x4_1).f2),.int .u8 ((rd_T67 l0_1 x4_1).f3)] 67 (0,0))) ∧ (Below w.heap.size w w')) ?_ ?_
             rotate_left
             ·intro hJ3_7_11
              refine join_ (σ:=Value) 5 #[true,true,true,true,true,true,true,true,true,true,true,false,false,true,true,true,false,false,false] (fun s_=>[(31,.string t190),(35,.string t191),(43,s_),(32,.string (x3_1 ++ t190)),(36,.string ((x3_1 ++ t190) ++ t191))]) (fun s_ w'=>(w'.cell? ⟨gb189,0,none⟩ = some (.string ((rd_T67 l0_1 x4_1).f0)) ∧ w'.cell? ⟨gb189,1,none⟩ = some (.string ((rd_T67 l0_1 x4_1).f1)) ∧ w'.cell? ⟨gb189,2,none⟩ = some (.string ((rd_T67 l0_1 x4_1).f2)) ∧ w'.cell? ⟨gb189,3,none⟩ = some (.int .u8 ((rd_T67 l0_1 x4_1).f3))) ∧ (Kd.R (Kd.int .u8) 5 w' w.heap.size (fun _=>True) s_ y193) ∧ (w'.heap[gb185]? = some (.cells #[.int .u32 a0_0,.slice (some ad188) l0_1.length c0_1] 30 (0,0))) ∧ (w'.heap[gb189]? = some (.cells #[.string ((rd_T67 l0_1 x4_1).f0),.string ((rd_T67 l0_1 x4_1).f1),.string ((rd_T67 l0_1 x4_1).f2),.int .u8 ((rd_T67 l0_1 x4_1).f3)] 67 (0,0))) ∧ (Below w.heap.size w w')) ?_ ?_
              rotate_left
              ·intro hJ3_7_15
               refine join_ (σ:=Value) 6 #[true,true,true,true,true,true,true,false,false,true,true,false,false,true,true,true,true,false,false] (fun s_=>[(31,.string t190),(43,s_),(44,.string (strOfNums y193)),(32,.string (x3_1 ++ t190))]) (fun s_ w'=>(w'.cell? ⟨gb189,0,none⟩ = some (.string ((rd_T67 l0_1 x4_1).f0)) ∧ w'.cell? ⟨gb189,1,none⟩ = some (.string ((rd_T67 l0_1 x4_1).f1)) ∧ w'.cell? ⟨gb189,2,none⟩ = some (.string ((rd_T67 l0_1 x4_1).f2)) ∧ w'.cell? ⟨gb189,3,none⟩ = some (.int .u8 ((rd_T67 l0_1 x4_1).f3))) ∧ (Kd.R (Kd.int .u8) 5 w' w.heap.size (fun _=>True) s_ y193) ∧ (w'.heap[gb185]? = some (.cells #[.int .u32 a0_0,.slice (some ad188) l0_1.length c0_1] 30 (0,0))) ∧ (w'.heap[gb189]? = some (.cells #[.string ((rd_T67 l0_1 x4_1).f0),.string ((rd_T67 l0_1 x4_1).f1),.string ((rd_T67 l0_1 x4_1).f2),.int .u8 ((rd_T67 l0_1 x4_1).f3)] 67 (0,0))) ∧ (Below w.heap.size w w')) ?_ ?_
               rotate_left
               ·intro hJ3_15_16
                refine join_ (σ:=Unit) 6 #[true,true,true,true,true,true,true,true,true,true,true,false,false,true,true,false,false,false,false] (fun s_=>[(31,.string t190),(35,.string t191),(32,.string (x3_1 ++ t190)),(36,.string ((x3_1 ++ t190) ++ t191))]) (fun s_ w'=>(w'.cell? ⟨gb189,0,none⟩ = some (.string ((rd_T67 l0_1 x4_1).f0)) ∧ w'.cell? ⟨gb189,1,none⟩ = some (.string ((rd_T67 l0_1 x4_1).f1)) ∧ w'.cell? ⟨gb189,2,none⟩ = some (.string ((rd_T67 l0_1 x4_1).f2)) ∧ w'.cell? ⟨gb189,3,none⟩ = some (.int .u8 ((rd_T67 l0_1 x4_1).f3))) ∧ (w'.heap[gb185]? = some (.cells #[.int .u32 a0_0,.slice (some ad188) l0_1.length c0_1] 30 (0,0))) ∧ (w'.heap[gb189]? = some (.cells #[.string ((rd_T67 l0_1 x4_1).f0),.string ((rd_T67 l0_1 x4_1).f1),.string ((rd_T67 l0_1 x4_1).f2),.int .u8 ((rd_T67 l0_1 x4_1).f3)] 67 (0,0))) ∧ (Below w.heap.size w w')) ?_ ?_
                rotate_left
                ·intro hJ3_7
                 refine join_ (σ:=Value) 7 #[true,true,true,true,true,true,true,false,false,true,true,false,false,true,true,true,false,false,false] (fun s_=>[(31,.string t190),(43,s_),(32,.string (x3_1 ++ t190))]) (fun s_ w'=>(w'.cell? ⟨gb189,0,none⟩ = some (.string ((rd_T67 l0_1 x4_1).f0)) ∧ w'.cell? ⟨gb189,1,none⟩ = some (.string ((rd_T67 l0_1 x4_1).f1)) ∧ w'.cell? ⟨gb189,2,none⟩ = some (.string ((rd_T67 l0_1 x4_1).f2)) ∧ w'.cell? ⟨gb189,3,none⟩ = some (.int .u8 ((rd_T67 l0_1 x4_1).f3))) ∧ (Kd.R (Kd.int .u8) 5 w' w.heap.size (fun _=>True) s_ y193) ∧ (w'.heap[gb185]? = some (.cells #[.int .u32 a0_0,.slice (some ad188) l0_1.length c0_1] 30 (0,0))) ∧ (w'.heap[gb189]? = some (.cells #[.string ((rd_T67 l0_1 x4_1).f0),.string ((rd_T67 l0_1 x4_1).f1),.string ((rd_T67 l0_1 x4_1).f2),.int .u8 ((rd_T67 l0_1 x4_1).f3)] 67 (0,0))) ∧ (Below w.heap.size w w')) ?_ ?_
                 rotate_left
                 ·intro hJ3_15
                  refine join_ (σ:=Value) 8 #[true,true,true,false,false,true,true,false,false,true,true,false,false,true,true,true,true,false,false] (fun s_=>[(43,s_),(44,.string (strOfNums y193))]) (fun s_ w'=>(w'.cell? ⟨gb189,0,none⟩ = some (.string ((rd_T67 l0_1 x4_1).f0)) ∧ w'.cell? ⟨gb189,1,none⟩ = some (.string ((rd_T67 l0_1 x4_1).f1)) ∧ w'.cell? ⟨gb189,2,none⟩ = some (.string ((rd_T67 l0_1 x4_1).f2)) ∧ w'.cell? ⟨gb189,3,none⟩ = some (.int .u8 ((rd_T67 l0_1 x4_1).f3))) ∧ (Kd.R (Kd.int .u8) 5 w' w.heap.size (fun _=>True) s_ y193) ∧ (w'.heap[gb185]? = some (.cells #[.int .u32 a0_0,.slice (some ad188) l0_1.length c0_1] 30 (0,0))) ∧ (w'.heap[gb189]? = some (.cells #[.string ((rd_T67 l0_1 x4_1).f0),.string ((rd_T67 l0_1 x4_1).f1),.string ((rd_T67 l0_1 x4_1).f2),.int .u8 ((rd_T67 l0_1 x4_1).f3)] 67 (0,0))) ∧ (Below w.heap.size w w')) ?_ ?_
                  rotate_left
                  ·intro hJ15_16
                   refine join_ (σ:=Unit) 8 #[true,true,true,true,true,true,true,false,false,true,true,false,false,true,true,false,false,false,false] (fun s_=>[(31,.string t190),(32,.string (x3_1 ++ t190))]) (fun s_ w'=>(w'.cell? ⟨gb189,0,none⟩ = some (.string ((rd_T67 l0_1 x4_1).f0)) ∧ w'.cell? ⟨gb189,1,none⟩ = some (.string ((rd_T67 l0_1 x4_1).f1)) ∧ w'.cell? ⟨gb189,2,none⟩ = some (.string ((rd_T67 l0_1 x4_1).f2)) ∧ w'.cell? ⟨gb189,3,none⟩ = some (.int .u8 ((rd_T67 l0_1 x4_1).f3))) ∧ (w'.heap[gb185]? = some (.cells #[.int .u32 a0_0,.slice (some ad188) l0_1.length c0_1] 30 (0,0))) ∧ (w'.heap[gb189]? = some (.cells #[.string ((rd_T67 l0_1 x4_1).f0),.string ((rd_T67 l0_1 x4_1).f1),.string ((rd_T67 l0_1 x4_1).f2),.int .u8 ((rd_T67 l0_1 x4_1).f3)] 67 (0,0))) ∧ (Below w.heap.size w w')) ?_ ?_
                   rotate_left
                   ·intro hJ3
                    refine join_ (σ:=Value) 9 #[true,true,true,false,false,true,true,false,false,true,true,false,false,true,true,true,false,false,false] (fun s_=>[(43,s_)]) (fun s_ w'=>(w'.cell? ⟨gb189,0,none⟩ = some (.string ((rd_T67 l0_1 x4_1).f0)) ∧ w'.cell? ⟨gb189,1,none⟩ = some (.string ((rd_T67 l0_1 x4_1).f1)) ∧ w'.cell? ⟨gb189,2,none⟩ = some (.string ((rd_T67 l0_1 x4_1).f2)) ∧ w'.cell? ⟨gb189,3,none⟩ = some (.int .u8 ((rd_T67 l0_1 x4_1).f3))) ∧ (Kd.R (Kd.int .u8) 5 w' w.heap.size (fun _=>True) s_ y193) ∧ (w'.heap[gb185]? = some (.cells #[.int .u32 a0_0,.slice (some ad188) l0_1.length c0_1] 30 (0,0))) ∧ (w'.heap[gb189]? = some (.cells #[.string ((rd_T67 l0_1 x4_1).f0),.string ((rd_T67 l0_1 x4_1).f1),.string ((rd_T67 l0_1 x4_1).f2),.int .u8 ((rd_T67 l0_1 x4_1).f3)] 67 (0,0))) ∧ (Below w.heap.size w w')) ?_ ?_
                    rotate_left
                    ·intro hJ15
                     refine two_ (i:=3) (j:=15) (Ni:=some 31) (Nj:=some 43) #[true,true,true,true,false,true,true,false,false,true,true,false,false,true,true,false,false,false,false] #[true,true,true,false,false,true,true,false,false,true,true,false,false,true,true,true,false,false,false] rfl rfl rfl rfl (two_of HT_.out (by kernel_rfl)) (by decide) (by decide) (fun K hK=>?_) (fun K hK=>?_)
                     ·skip
                      refine goes_ Tryd.func44 (by kernel_rfl) rfl #[.string ((rd_T67 l0_1 x4_1).f0)] (by rfl) rfl rfl (by (try simp only [List.map_toArray,List.map_cons,List.map_nil]);first|done|rfl|(simp only [List.length_drop,List.length_take];rfl)) ?_
                      with_reducible refine (bosunref02_Text.calls k1 ((rd_T67 l0_1 x4_1).f0) t190 _ A11.out).mono ?_
                      rintro e w24 ⟨rfl,hb⟩
                      refine ⟨_,rfl,?_⟩
                      have n0_:=Aside0.mk (blk_below (g:=gb185) (o:=.cells #[.int .u32 a0_0,.slice (some ad188) l0_1.length c0_1] 30 (0,0)) (by (with_reducible repeat (first|apply blk_drewN|apply blk_drew|apply blk_alloc));exact BK185.out) hb)
                      have n1_:=Aside0.mk (blk_below (g:=gb189) (o:=.cells #[.string ((rd_T67 l0_1 x4_1).f0),.string ((rd_T67 l0_1 x4_1).f1),.string ((rd_T67 l0_1 x4_1).f2),.int .u8 ((rd_T67 l0_1 x4_1).f3)] 67 (0,0)) (by (with_reducible repeat (first|apply blk_drewN|apply blk_drew|apply blk_alloc));exact BK189.out) hb)
                      have n2_:=Aside0.mk (below_step (by repeat (first|(with_reducible first|exact HB.out|apply below_alloc|apply pw_below_drewN|apply below_drew1|refine below_set ?_ GE185.out|refine below_set ?_ GE189.out)|exact HB.out)) hb)
                      clear BK185
                      clear BK189
                      clear HB
                      have BK185:=n0_
                      have BK189:=n1_
                      have HB:=n2_
                      clear n0_ n1_ n2_
                      (try clear hb)
                      (try clear hb2)
                      (try clear hk)
                      (try clear hi)
                      refine hK.out _ _ ⟨(blk_cell BK189.out 0).trans rfl,(blk_cell BK189.out 1).trans rfl,(blk_cell BK189.out 2).trans rfl,(blk_cell BK189.out 3).trans rfl⟩ (fun hHeld=>?_)
                      clear hK K
                      refine norm_ (a':=?_) ?_ ?_
                      rotate_left
                      ·show Act.put _ (some 31) _ = _
                       simp only [Act.put,List.setIfInBounds_toArray,List.set_cons_zero,List.set_cons_succ,i64_w,i32_w]
                       rfl
                      refine pure_ (i:=4) (N:=some 32) (v:=?_) (a':=?_) #[true,true,true,true,true,true,true,false,false,true,true,false,false,true,true,false,false,false,false] rfl rfl (any_of HT_.out (by kernel_rfl)) (fun _ _ _ h=>h) (Or.inl ⟨by rfl,?_⟩) ?_ ?_
                      rotate_left
                      ·intro w'
                       go_simp
                       with_reducible rfl
                      rotate_left
                      ·simp only [Act.put,List.setIfInBounds_toArray,List.set_cons_zero,List.set_cons_succ,i64_w,i32_w]
                       rfl
                      exact norm_ (by first|(simp only [putAll,Act.put,List.setIfInBounds_toArray,List.set_cons_zero,List.set_cons_succ];done)|(simp only [putAll,Act.put,List.setIfInBounds_toArray,List.set_cons_zero,List.set_cons_succ];rfl)) (hJ3 () _ ⟨hHeld,(by (with_reducible repeat (first|apply blk_drewN|apply blk_drew|apply blk_alloc));exact BK185.out),(by (with_reducible repeat (first|apply blk_drewN|apply blk_drew|apply blk_alloc));exact BK189.out),(by repeat (first|(with_reducible first|exact HB.out|apply below_alloc|apply pw_below_drewN|apply below_drew1|refine below_set ?_ GE185.out|refine below_set ?_ GE189.out)|exact HB.out))⟩)
                     ·skip
                      refine Kd.R_lit_step (Kd.int .u8) _ 5 ?hg (N:=43) ?hd (xs:=([(rd_T67 l0_1 x4_1).f3] : List Int)) (inner:=[.int .u8 ((rd_T67 l0_1 x4_1).f3)]) (ok:=fun _=>True) (okp:=fun _=>True) ?hr ?hp (fun _ hk=>hk) trivial (Below.refl _ _) (Nat.le_refl _) (by simp) ?_;(case hd=>rfl);(case hg=>rfl);(case hr=>first|(go_simp;done)|(go_simp;rfl));(case hp=>exact (Reps.one (show Kd.M (Kd.int .u8) _ _ _ ((rd_T67 l0_1 x4_1).f3) [.int .u8 ((rd_T67 l0_1 x4_1).f3)] from rfl) (Reps.none _ _)))
                      intro v194 w24 ho25 hb hg_ hnew_
                      clear hg_ hnew_
                      (first|rw [← Ny193.out] at ho25|(simp only [Int.reduceToNat] at ho25;rw [← Ny193.out] at ho25))
                      have n0_:=Aside0.mk (Kd.R_lower ho25 (below_size (by repeat (first|(with_reducible first|exact HB.out|apply below_alloc|apply pw_below_drewN|apply below_drew1|refine below_set ?_ GE185.out|refine below_set ?_ GE189.out)|exact HB.out))))
                      have n1_:=Aside0.mk (blk_below (g:=gb185) (o:=.cells #[.int .u32 a0_0,.slice (some ad188) l0_1.length c0_1] 30 (0,0)) (by (with_reducible repeat (first|apply blk_drewN|apply blk_drew|apply blk_alloc));exact BK185.out) hb)
                      have n2_:=Aside0.mk (blk_below (g:=gb189) (o:=.cells #[.string ((rd_T67 l0_1 x4_1).f0),.string ((rd_T67 l0_1 x4_1).f1),.string ((rd_T67 l0_1 x4_1).f2),.int .u8 ((rd_T67 l0_1 x4_1).f3)] 67 (0,0)) (by (with_reducible repeat (first|apply blk_drewN|apply blk_drew|apply blk_alloc));exact BK189.out) hb)
                      have n3_:=Aside0.mk (below_step (by repeat (first|(with_reducible first|exact HB.out|apply below_alloc|apply pw_below_drewN|apply below_drew1|refine below_set ?_ GE185.out|refine below_set ?_ GE189.out)|exact HB.out)) hb)
                      clear BK185
                      clear BK189
                      clear HB
                      have HO195:=n0_
                      have BK185:=n1_
                      have BK189:=n2_
                      have HB:=n3_
                      clear n0_ n1_ n2_ n3_
                      clear hb ho25
                      refine hK.out _ _ ⟨(blk_cell BK189.out 0).trans rfl,(blk_cell BK189.out 1).trans rfl,(blk_cell BK189.out 2).trans rfl,(blk_cell BK189.out 3).trans rfl⟩ (fun hHeld=>?_)
                      clear hK K
                      refine norm_ (a':=?_) ?_ ?_
                      rotate_left
                      ·show Act.put _ (some 43) _ = _
                       simp only [Act.put,List.setIfInBounds_toArray,List.set_cons_zero,List.set_cons_succ,i64_w,i32_w]
                       rfl
                      exact norm_ (by first|(simp only [putAll,Act.put,List.setIfInBounds_toArray,List.set_cons_zero,List.set_cons_succ];done)|(simp only [putAll,Act.put,List.setIfInBounds_toArray,List.set_cons_zero,List.set_cons_succ];rfl)) (hJ15 (v194) _ ⟨hHeld,(by (with_reducible repeat (first|apply Kd.R_alloc|apply Kd.R_drewN|apply Kd.R_drew));exact HO195.out),(by (with_reducible repeat (first|apply blk_drewN|apply blk_drew|apply blk_alloc));exact BK185.out),(by (with_reducible repeat (first|apply blk_drewN|apply blk_drew|apply blk_alloc));exact BK189.out),(by repeat (first|(with_reducible first|exact HB.out|apply below_alloc|apply pw_below_drewN|apply below_drew1|refine below_set ?_ GE185.out|refine below_set ?_ GE189.out)|exact HB.out))⟩)
                    ·skip
                     rintro v194 w26 ⟨hS_,h0_,h1_,h2_,h3_⟩
                     have n0_ : Aside0 (Kd.R (Kd.int .u8) 5 w26 w.heap.size (fun _=>True) v194 y193):=⟨h0_⟩
                     have n1_ : Aside0 (w26.heap[gb185]? = some (.cells #[.int .u32 a0_0,.slice (some ad188) l0_1.length c0_1] 30 (0,0))):=⟨h1_⟩
                     have n2_ : Aside0 (w26.heap[gb189]? = some (.cells #[.string ((rd_T67 l0_1 x4_1).f0),.string ((rd_T67 l0_1 x4_1).f1),.string ((rd_T67 l0_1 x4_1).f2),.int .u8 ((rd_T67 l0_1 x4_1).f3)] 67 (0,0))):=⟨h2_⟩
                     have n3_ : Aside0 (Below w.heap.size w w26):=⟨h3_⟩
                     clear BK185
                     clear BK189
                     clear HB
                     clear h0_ h1_ h2_ h3_
                     have HO195:=n0_
                     have BK185:=n1_
                     have BK189:=n2_
                     have HB:=n3_
                     clear n0_ n1_ n2_ n3_
                     have hHeld : w26.cell? ⟨gb189,0,none⟩ = some (.string ((rd_T67 l0_1 x4_1).f0)) ∧ w26.cell? ⟨gb189,1,none⟩ = some (.string ((rd_T67 l0_1 x4_1).f1)) ∧ w26.cell? ⟨gb189,2,none⟩ = some (.string ((rd_T67 l0_1 x4_1).f2)) ∧ w26.cell? ⟨gb189,3,none⟩ = some (.int .u8 ((rd_T67 l0_1 x4_1).f3)):=hS_
                     refine norm_ (a':=?_) ?_ ?_
                     rotate_left
                     ·simp only [putAll,Act.put,List.setIfInBounds_toArray,List.set_cons_zero,List.set_cons_succ]
                      rfl
                     refine two_ (i:=3) (j:=16) (Ni:=some 31) (Nj:=some 44) #[true,true,true,true,false,true,true,false,false,true,true,false,false,true,true,true,false,false,false] #[true,true,true,false,false,true,true,false,false,true,true,false,false,true,true,true,true,false,false] rfl rfl rfl rfl (two_of HT_.out (by kernel_rfl)) (by decide) (by decide) (fun K hK=>?_) (fun K hK=>?_)
                     ·skip
                      refine goes_ Tryd.func44 (by kernel_rfl) rfl #[.string ((rd_T67 l0_1 x4_1).f0)] (by rfl) rfl rfl (by (try simp only [List.map_toArray,List.map_cons,List.map_nil]);first|done|rfl|(simp only [List.length_drop,List.length_take];rfl)) ?_
                      with_reducible refine (bosunref02_Text.calls k1 ((rd_T67 l0_1 x4_1).f0) t190 _ A11.out).mono ?_
                      rintro e w27 ⟨rfl,hb⟩
                      refine ⟨_,rfl,?_⟩
                      have n0_:=Aside0.mk (Kd.R_below (by (with_reducible repeat (first|apply Kd.R_alloc|apply Kd.R_drewN|apply Kd.R_drew));exact HO195.out) hb)
                      have n1_:=Aside0.mk (blk_below (g:=gb185) (o:=.cells #[.int .u32 a0_0,.slice (some ad188) l0_1.length c0_1] 30 (0,0)) (by (with_reducible repeat (first|apply blk_drewN|apply blk_drew|apply blk_alloc));exact BK185.out) hb)
                      have n2_:=Aside0.mk (blk_below (g:=gb189) (o:=.cells #[.string ((rd_T67 l0_1 x4_1).f0),.string ((rd_T67 l0_1 x4_1).f1),.string ((rd_T67 l0_1 x4_1).f2),.int .u8 ((rd_T67 l0_1 x4_1).f3)] 67 (0,0)) (by (with_reducible repeat (first|apply blk_drewN|apply blk_drew|apply blk_alloc));exact BK189.out) hb)
                      have n3_:=Aside0.mk (below_step (by repeat (first|(with_reducible first|exact HB.out|apply below_alloc|apply pw_below_drewN|apply below_drew1|refine below_set ?_ GE185.out|refine below_set ?_ GE189.out)|exact HB.out)) hb)
                      clear HO195
                      clear BK185
                      clear BK189
                      clear HB
                      have HO195:=n0_
                      have BK185:=n1_
                      have BK189:=n2_
                      have HB:=n3_
                      clear n0_ n1_ n2_ n3_
                      (try clear hb)
                      (try clear hb2)
                      (try clear hk)
                      (try clear hi)
                      refine hK.out _ _ ⟨(blk_cell BK189.out 0).trans rfl,(blk_cell BK189.out 1).trans rfl,(blk_cell BK189.out 2).trans rfl,(blk_cell BK189.out 3).trans rfl⟩ (fun hHeld=>?_)
                      clear hK K
                      refine norm_ (a':=?_) ?_ ?_
                      rotate_left
                      ·show Act.put _ (some 31) _ = _
                       simp only [Act.put,List.setIfInBounds_toArray,List.set_cons_zero,List.set_cons_succ,i64_w,i32_w]
                       rfl
                      refine pure_ (i:=4) (N:=some 32) (v:=?_) (a':=?_) #[true,true,true,true,true,true,true,false,false,true,true,false,false,true,true,true,false,false,false] rfl rfl (any_of HT_.out (by kernel_rfl)) (fun _ _ _ h=>h) (Or.inl ⟨by rfl,?_⟩) ?_ ?_
                      rotate_left
                      ·intro w'
                       go_simp
                       with_reducible rfl
                      rotate_left
                      ·simp only [Act.put,List.setIfInBounds_toArray,List.set_cons_zero,List.set_cons_succ,i64_w,i32_w]
                       rfl
                      exact norm_ (by first|(simp only [putAll,Act.put,List.setIfInBounds_toArray,List.set_cons_zero,List.set_cons_succ];done)|(simp only [putAll,Act.put,List.setIfInBounds_toArray,List.set_cons_zero,List.set_cons_succ];rfl)) (hJ3_15 (v194) _ ⟨hHeld,(by (with_reducible repeat (first|apply Kd.R_alloc|apply Kd.R_drewN|apply Kd.R_drew));exact HO195.out),(by (with_reducible repeat (first|apply blk_drewN|apply blk_drew|apply blk_alloc));exact BK185.out),(by (with_reducible repeat (first|apply blk_drewN|apply blk_drew|apply blk_alloc));exact BK189.out),(by repeat (first|(with_reducible first|exact HB.out|apply below_alloc|apply pw_below_drewN|apply below_drew1|refine below_set ?_ GE185.out|refine below_set ?_ GE189.out)|exact HB.out))⟩)
                     ·skip
                      have hcv27:=own_string (P:=Tryd.prog) Tryd.underlying69 Tryd.underlying5 Tryd.underlying9 (Kd.own_of_R HO195.out)
                      refine value_ (w1:=?_) (v:=?_) (by rfl) rfl ?_ ?_
                      rotate_left 2
                      ·go_simp
                       constructor
                       ·rfl
                       ·rfl
                      clear hcv27
                      refine hK.out _ _ ⟨(blk_cell BK189.out 0).trans rfl,(blk_cell BK189.out 1).trans rfl,(blk_cell BK189.out 2).trans rfl,(blk_cell BK189.out 3).trans rfl⟩ (fun hHeld=>?_)
                      clear hK K
                      refine norm_ (a':=?_) ?_ ?_
                      rotate_left
                      ·show Act.put _ (some 44) _ = _
                       simp only [Act.put,List.setIfInBounds_toArray,List.set_cons_zero,List.set_cons_succ,i64_w,i32_w]
                       rfl
                      exact norm_ (by first|(simp only [putAll,Act.put,List.setIfInBounds_toArray,List.set_cons_zero,List.set_cons_succ];done)|(simp only [putAll,Act.put,List.setIfInBounds_toArray,List.set_cons_zero,List.set_cons_succ];rfl)) (hJ15_16 (v194) _ ⟨hHeld,(by (with_reducible repeat (first|apply Kd.R_alloc|apply Kd.R_drewN|apply Kd.R_drew));exact HO195.out),(by (with_reducible repeat (first|apply blk_drewN|apply blk_drew|apply blk_alloc));exact BK185.out),(by (with_reducible repeat (first|apply blk_drewN|apply blk_drew|apply blk_alloc));exact BK189.out),(by repeat (first|(with_reducible first|exact HB.out|apply below_alloc|apply pw_below_drewN|apply below_drew1|refine below_set ?_ GE185.out|refine below_set ?_ GE189.out)|exact HB.out))⟩)
                   ·skip
                    rintro _ w25 ⟨hS_,h0_,h1_,h2_⟩
                    have n0_ : Aside0 (w25.heap[gb185]? = some (.cells #[.int .u32 a0_0,.slice (some ad188) l0_1.length c0_1] 30 (0,0))):=⟨h0_⟩
                    have n1_ : Aside0 (w25.heap[gb189]? = some (.cells #[.string ((rd_T67 l0_1 x4_1).f0),.string ((rd_T67 l0_1 x4_1).f1),.string ((rd_T67 l0_1 x4_1).f2),.int .u8 ((rd_T67 l0_1 x4_1).f3)] 67 (0,0))):=⟨h1_⟩
                    have n2_ : Aside0 (Below w.heap.size w w25):=⟨h2_⟩
                    clear BK185
                    clear BK189
                    clear HB
                    clear h0_ h1_ h2_
                    have BK185:=n0_
                    have BK189:=n1_
                    have HB:=n2_
                    clear n0_ n1_ n2_
                    have hHeld : w25.cell? ⟨gb189,0,none⟩ = some (.string ((rd_T67 l0_1 x4_1).f0)) ∧ w25.cell? ⟨gb189,1,none⟩ = some (.string ((rd_T67 l0_1 x4_1).f1)) ∧ w25.cell? ⟨gb189,2,none⟩ = some (.string ((rd_T67 l0_1 x4_1).f2)) ∧ w25.cell? ⟨gb189,3,none⟩ = some (.int .u8 ((rd_T67 l0_1 x4_1).f3)):=hS_
                    refine norm_ (a':=?_) ?_ ?_
                    rotate_left
                    ·simp only [putAll,Act.put,List.setIfInBounds_toArray,List.set_cons_zero,List.set_cons_succ]
                     rfl
                    refine two_ (i:=7) (j:=15) (Ni:=some 35) (Nj:=some 43) #[true,true,true,true,true,true,true,true,false,true,true,false,false,true,true,false,false,false,false] #[true,true,true,true,true,true,true,false,false,true,true,false,false,true,true,true,false,false,false] rfl rfl rfl rfl (two_of HT_.out (by kernel_rfl)) (by decide) (by decide) (fun K hK=>?_) (fun K hK=>?_)
                    ·skip
                     refine goes_ Tryd.func44 (by kernel_rfl) rfl #[.string ((rd_T67 l0_1 x4_1).f1)] (by rfl) rfl rfl (by (try simp only [List.map_toArray,List.map_cons,List.map_nil]);first|done|rfl|(simp only [List.length_drop,List.length_take];rfl)) ?_
                     with_reducible refine (bosunref02_Text.calls k1 ((rd_T67 l0_1 x4_1).f1) t191 _ A13.out).mono ?_
                     rintro e w26 ⟨rfl,hb⟩
                     refine ⟨_,rfl,?_⟩
                     have n0_:=Aside0.mk (blk_below (g:=gb185) (o:=.cells #[.int .u32 a0_0,.slice (some ad188) l0_1.length c0_1] 30 (0,0)) (by (with_reducible repeat (first|apply blk_drewN|apply blk_drew|apply blk_alloc));exact BK185.out) hb)
                     have n1_:=Aside0.mk (blk_below (g:=gb189) (o:=.cells #[.string ((rd_T67 l0_1 x4_1).f0),.string ((rd_T67 l0_1 x4_1).f1),.string ((rd_T67 l0_1 x4_1).f2),.int .u8 ((rd_T67 l0_1 x4_1).f3)] 67 (0,0)) (by (with_reducible repeat (first|apply blk_drewN|apply blk_drew|apply blk_alloc));exact BK189.out) hb)
                     have n2_:=Aside0.mk (below_step (by repeat (first|(with_reducible first|exact HB.out|apply below_alloc|apply pw_below_drewN|apply below_drew1|refine below_set ?_ GE185.out|refine below_set ?_ GE189.out)|exact HB.out)) hb)
                     clear BK185
                     clear BK189
                     clear HB
                     have BK185:=n0_
                     have BK189:=n1_
                     have HB:=n2_
                     clear n0_ n1_ n2_
                     (try clear hb)
                     (try clear hb2)
                     (try clear hk)
                     (try clear hi)
                     refine hK.out _ _ ⟨(blk_cell BK189.out 0).trans rfl,(blk_cell BK189.out 1).trans rfl,(blk_cell BK189.out 2).trans rfl,(blk_cell BK189.out 3).trans rfl⟩ (fun hHeld=>?_)
                     clear hK K
                     refine norm_ (a':=?_) ?_ ?_
                     rotate_left
                     ·show Act.put _ (some 35) _ = _
                      simp only [Act.put,List.setIfInBounds_toArray,List.set_cons_zero,List.set_cons_succ,i64_w,i32_w]
                      rfl
                     refine pure_ (i:=8) (N:=some 36) (v:=?_) (a':=?_) #[true,true,true,true,true,true,true,true,true,true,true,false,false,true,true,false,false,false,false] rfl rfl (any_of HT_.out (by kernel_rfl)) (fun _ _ _ h=>h) (Or.inl ⟨by rfl,?_⟩) ?_ ?_
                     rotate_left
                     ·intro w'
                      go_simp
                      with_reducible rfl
                     rotate_left
                     ·simp only [Act.put,List.setIfInBounds_toArray,List.set_cons_zero,List.set_cons_succ,i64_w,i32_w]
                      rfl
                     exact norm_ (by first|(simp only [putAll,Act.put,List.setIfInBounds_toArray,List.set_cons_zero,List.set_cons_succ];done)|(simp only [putAll,Act.put,List.setIfInBounds_toArray,List.set_cons_zero,List.set_cons_succ];rfl)) (hJ3_7 () _ ⟨hHeld,(by (with_reducible repeat (first|apply blk_drewN|apply blk_drew|apply blk_alloc));exact BK185.out),(by (with_reducible repeat (first|apply blk_drewN|apply blk_drew|apply blk_alloc));exact BK189.out),(by repeat (first|(with_reducible first|exact HB.out|apply below_alloc|apply pw_below_drewN|apply below_drew1|refine below_set ?_ GE185.out|refine below_set ?_ GE189.out)|exact HB.out))⟩)
                    ·skip
                     refine Kd.R_lit_step (Kd.int .u8) _ 5 ?hg (N:=43) ?hd (xs:=([(rd_T67 l0_1 x4_1).f3] : List Int)) (inner:=[.int .u8 ((rd_T67 l0_1 x4_1).f3)]) (ok:=fun _=>True) (okp:=fun _=>True) ?hr ?hp (fun _ hk=>hk) trivial (Below.refl _ _) (Nat.le_refl _) (by simp) ?_;(case hd=>rfl);(case hg=>rfl);(case hr=>first|(go_simp;done)|(go_simp;rfl));(case hp=>exact (Reps.one (show Kd.M (Kd.int .u8) _ _ _ ((rd_T67 l0_1 x4_1).f3) [.int .u8 ((rd_T67 l0_1 x4_1).f3)] from rfl) (Reps.none _ _)))
                     intro v194 w26 ho27 hb hg_ hnew_
                     clear hg_ hnew_
                     (first|rw [← Ny193.out] at ho27|(simp only [Int.reduceToNat] at ho27;rw [← Ny193.out] at ho27))
                     have n0_:=Aside0.mk (Kd.R_lower ho27 (below_size (by repeat (first|(with_reducible first|exact HB.out|apply below_alloc|apply pw_below_drewN|apply below_drew1|refine below_set ?_ GE185.out|refine below_set ?_ GE189.out)|exact HB.out))))
                     have n1_:=Aside0.mk (blk_below (g:=gb185) (o:=.cells #[.int .u32 a0_0,.slice (some ad188) l0_1.length c0_1] 30 (0,0)) (by (with_reducible repeat (first|apply blk_drewN|apply blk_drew|apply blk_alloc));exact BK185.out) hb)
                     have n2_:=Aside0.mk (blk_below (g:=gb189) (o:=.cells #[.string ((rd_T67 l0_1 x4_1).f0),.string ((rd_T67 l0_1 x4_1).f1),.string ((rd_T67 l0_1 x4_1).f2),.int .u8 ((rd_T67 l0_1 x4_1).f3)] 67 (0,0)) (by (with_reducible repeat (first|apply blk_drewN|apply blk_drew|apply blk_alloc));exact BK189.out) hb)
                     have n3_:=Aside0.mk (below_step (by repeat (first|(with_reducible first|exact HB.out|apply below_alloc|apply pw_below_drewN|apply below_drew1|refine below_set ?_ GE185.out|refine below_set ?_ GE189.out)|exact HB.out)) hb)
                     clear BK185
                     clear BK189
                     clear HB
                     have HO195:=n0_
                     have BK185:=n1_
                     have BK189:=n2_
                     have HB:=n3_
                     clear n0_ n1_ n2_ n3_
                     clear hb ho27
                     refine hK.out _ _ ⟨(blk_cell BK189.out 0).trans rfl,(blk_cell BK189.out 1).trans rfl,(blk_cell BK189.out 2).trans rfl,(blk_cell BK189.out 3).trans rfl⟩ (fun hHeld=>?_)
                     clear hK K
                     refine norm_ (a':=?_) ?_ ?_
                     rotate_left
                     ·show Act.put _ (some 43) _ = _
                      simp only [Act.put,List.setIfInBounds_toArray,List.set_cons_zero,List.set_cons_succ,i64_w,i32_w]
                      rfl
                     exact norm_ (by first|(simp only [putAll,Act.put,List.setIfInBounds_toArray,List.set_cons_zero,List.set_cons_succ];done)|(simp only [putAll,Act.put,List.setIfInBounds_toArray,List.set_cons_zero,List.set_cons_succ];rfl)) (hJ3_15 (v194) _ ⟨hHeld,(by (with_reducible repeat (first|apply Kd.R_alloc|apply Kd.R_drewN|apply Kd.R_drew));exact HO195.out),(by (with_reducible repeat (first|apply blk_drewN|apply blk_drew|apply blk_alloc));exact BK185.out),(by (with_reducible repeat (first|apply blk_drewN|apply blk_drew|apply blk_alloc));exact BK189.out),(by repeat (first|(with_reducible first|exact HB.out|apply below_alloc|apply pw_below_drewN|apply below_drew1|refine below_set ?_ GE185.out|refine below_set ?_ GE189.out)|exact HB.out))⟩)
                  ·skip
                   rintro v194 w27 ⟨hS_,h0_,h1_,h2_,h3_⟩
                   have n0_ : Aside0 (Kd.R (Kd.int .u8) 5 w27 w.heap.size (fun _=>True) v194 y193):=⟨h0_⟩
                   have n1_ : Aside0 (w27.heap[gb185]? = some (.cells #[.int .u32 a0_0,.slice (some ad188) l0_1.length c0_1] 30 (0,0))):=⟨h1_⟩
                   have n2_ : Aside0 (w27.heap[gb189]? = some (.cells #[.string ((rd_T67 l0_1 x4_1).f0),.string ((rd_T67 l0_1 x4_1).f1),.string ((rd_T67 l0_1 x4_1).f2),.int .u8 ((rd_T67 l0_1 x4_1).f3)] 67 (0,0))):=⟨h2_⟩
                   have n3_ : Aside0 (Below w.heap.size w w27):=⟨h3_⟩
                   clear BK185
                   clear BK189
                   clear HB
                   clear h0_ h1_ h2_ h3_
                   have HO195:=n0_
                   have BK185:=n1_
                   have BK189:=n2_
                   have HB:=n3_
                   clear n0_ n1_ n2_ n3_
                   have hHeld : w27.cell? ⟨gb189,0,none⟩ = some (.string ((rd_T67 l0_1 x4_1).f0)) ∧ w27.cell? ⟨gb189,1,none⟩ = some (.string ((rd_T67 l0_1 x4_1).f1)) ∧ w27.cell? ⟨gb189,2,none⟩ = some (.string ((rd_T67 l0_1 x4_1).f2)) ∧ w27.cell? ⟨gb189,3,none⟩ = some (.int .u8 ((rd_T67 l0_1 x4_1).f3)):=hS_
                   refine norm_ (a':=?_) ?_ ?_
                   rotate_left
                   ·simp only [putAll,Act.put,List.setIfInBounds_toArray,List.set_cons_zero,List.set_cons_succ]
                    rfl
                   refine one_ (i:=3) (N:=some 31) #[true,true,true,true,false,true,true,false,false,true,true,false,false,true,true,true,true,false,false] rfl rfl (one_of HT_.out (by kernel_rfl)) (by decide) (fun K hK=>?_)
                   refine goes_ Tryd.func44 (by kernel_rfl) rfl #[.string ((rd_T67 l0_1 x4_1).f0)] (by rfl) rfl rfl (by (try simp only [List.map_toArray,List.map_cons,List.map_nil]);first|done|rfl|(simp only [List.length_drop,List.length_take];rfl)) ?_
                   with_reducible refine (bosunref02_Text.calls k1 ((rd_T67 l0_1 x4_1).f0) t190 _ A11.out).mono ?_
                   rintro e w28 ⟨rfl,hb⟩
                   refine ⟨_,rfl,?_⟩
                   have n0_:=Aside0.mk (Kd.R_below (by (with_reducible repeat (first|apply Kd.R_alloc|apply Kd.R_drewN|apply Kd.R_drew));exact HO195.out) hb)
                   have n1_:=Aside0.mk (blk_below (g:=gb185) (o:=.cells #[.int .u32 a0_0,.slice (some ad188) l0_1.length c0_1] 30 (0,0)) (by (with_reducible repeat (first|apply blk_drewN|apply blk_drew|apply blk_alloc));exact BK185.out) hb)
                   have n2_:=Aside0.mk (blk_below (g:=gb189) (o:=.cells #[.string ((rd_T67 l0_1 x4_1).f0),.string ((rd_T67 l0_1 x4_1).f1),.string ((rd_T67 l0_1 x4_1).f2),.int .u8 ((rd_T67 l0_1 x4_1).f3)] 67 (0,0)) (by (with_reducible repeat (first|apply blk_drewN|apply blk_drew|apply blk_alloc));exact BK189.out) hb)
                   have n3_:=Aside0.mk (below_step (by repeat (first|(with_reducible first|exact HB.out|apply below_alloc|apply pw_below_drewN|apply below_drew1|refine below_set ?_ GE185.out|refine below_set ?_ GE189.out)|exact HB.out)) hb)
                   clear HO195
                   clear BK185
                   clear BK189
                   clear HB
                   have HO195:=n0_
                   have BK185:=n1_
                   have BK189:=n2_
                   have HB:=n3_
                   clear n0_ n1_ n2_ n3_
                   (try clear hb)
                   (try clear hb2)
                   (try clear hk)
                   (try clear hi)
                   refine hK.out _ _ ⟨(blk_cell BK189.out 0).trans rfl,(blk_cell BK189.out 1).trans rfl,(blk_cell BK189.out 2).trans rfl,(blk_cell BK189.out 3).trans rfl⟩ (fun hHeld=>?_)
                   clear hK K
                   refine norm_ (a':=?_) ?_ ?_
                   rotate_left
                   ·show Act.put _ (some 31) _ = _
                    simp only [Act.put,List.setIfInBounds_toArray,List.set_cons_zero,List.set_cons_succ,i64_w,i32_w]
                    rfl
                   refine pure_ (i:=4) (N:=some 32) (v:=?_) (a':=?_) #[true,true,true,true,true,true,true,false,false,true,true,false,false,true,true,true,true,false,false] rfl rfl (any_of HT_.out (by kernel_rfl)) (fun _ _ _ h=>h) (Or.inl ⟨by rfl,?_⟩) ?_ ?_
                   rotate_left
                   ·intro w'
                    go_simp
                    with_reducible rfl
                   rotate_left
                   ·simp only [Act.put,List.setIfInBounds_toArray,List.set_cons_zero,List.set_cons_succ,i64_w,i32_w]
                    rfl
                   exact norm_ (by first|(simp only [putAll,Act.put,List.setIfInBounds_toArray,List.set_cons_zero,List.set_cons_succ];done)|(simp only [putAll,Act.put,List.setIfInBounds_toArray,List.set_cons_zero,List.set_cons_succ];rfl)) (hJ3_15_16 (v194) _ ⟨hHeld,(by (with_reducible repeat (first|apply Kd.R_alloc|apply Kd.R_drewN|apply Kd.R_drew));exact HO195.out),(by (with_reducible repeat (first|apply blk_drewN|apply blk_drew|apply blk_alloc));exact BK185.out),(by (with_reducible repeat (first|apply blk_drewN|apply blk_drew|apply blk_alloc));exact BK189.out),(by repeat (first|(with_reducible first|exact HB.out|apply below_alloc|apply pw_below_drewN|apply below_drew1|refine below_set ?_ GE185.out|refine below_set ?_ GE189.out)|exact HB.out))⟩)
                 ·skip
                  rintro v194 w27 ⟨hS_,h0_,h1_,h2_,h3_⟩
                  have n0_ : Aside0 (Kd.R (Kd.int .u8) 5 w27 w.heap.size (fun _=>True) v194 y193):=⟨h0_⟩
                  have n1_ : Aside0 (w27.heap[gb185]? = some (.cells #[.int .u32 a0_0,.slice (some ad188) l0_1.length c0_1] 30 (0,0))):=⟨h1_⟩
                  have n2_ : Aside0 (w27.heap[gb189]? = some (.cells #[.string ((rd_T67 l0_1 x4_1).f0),.string ((rd_T67 l0_1 x4_1).f1),.string ((rd_T67 l0_1 x4_1).f2),.int .u8 ((rd_T67 l0_1 x4_1).f3)] 67 (0,0))):=⟨h2_⟩
                  have n3_ : Aside0 (Below w.heap.size w w27):=⟨h3_⟩
                  clear BK185
                  clear BK189
                  clear HB
                  clear h0_ h1_ h2_ h3_
                  have HO195:=n0_
                  have BK185:=n1_
                  have BK189:=n2_
                  have HB:=n3_
                  clear n0_ n1_ n2_ n3_
                  have hHeld : w27.cell? ⟨gb189,0,none⟩ = some (.string ((rd_T67 l0_1 x4_1).f0)) ∧ w27.cell? ⟨gb189,1,none⟩ = some (.string ((rd_T67 l0_1 x4_1).f1)) ∧ w27.cell? ⟨gb189,2,none⟩ = some (.string ((rd_T67 l0_1 x4_1).f2)) ∧ w27.cell? ⟨gb189,3,none⟩ = some (.int .u8 ((rd_T67 l0_1 x4_1).f3)):=hS_
                  refine norm_ (a':=?_) ?_ ?_
                  rotate_left
                  ·simp only [putAll,Act.put,List.setIfInBounds_toArray,List.set_cons_zero,List.set_cons_succ]
                   rfl
                  refine two_ (i:=7) (j:=16) (Ni:=some 35) (Nj:=some 44) #[true,true,true,true,true,true,true,true,false,true,true,false,false,true,true,true,false,false,false] #[true,true,true,true,true,true,true,false,false,true,true,false,false,true,true,true,true,false,false] rfl rfl rfl rfl (two_of HT_.out (by kernel_rfl)) (by decide) (by decide) (fun K hK=>?_) (fun K hK=>?_)
                  ·skip
                   refine goes_ Tryd.func44 (by kernel_rfl) rfl #[.string ((rd_T67 l0_1 x4_1).f1)] (by rfl) rfl rfl (by (try simp only [List.map_toArray,List.map_cons,List.map_nil]);first|done|rfl|(simp only [List.length_drop,List.length_take];rfl)) ?_
                   with_reducible refine (bosunref02_Text.calls k1 ((rd_T67 l0_1 x4_1).f1) t191 _ A13.out).mono ?_
                   rintro e w28 ⟨rfl,hb⟩
                   refine ⟨_,rfl,?_⟩
                   have n0_:=Aside0.mk (Kd.R_below (by (with_reducible repeat (first|apply Kd.R_alloc|apply Kd.R_drewN|apply Kd.R_drew));exact HO195.out) hb)
                   have n1_:=Aside0.mk (blk_below (g:=gb185) (o:=.cells #[.int .u32 a0_0,.slice (some ad188) l0_1.length c0_1] 30 (0,0)) (by (with_reducible repeat (first|apply blk_drewN|apply blk_drew|apply blk_alloc));exact BK185.out) hb)
                   have n2_:=Aside0.mk (blk_below (g:=gb189) (o:=.cells #[.string ((rd_T67 l0_1 x4_1).f0),.string ((rd_T67 l0_1 x4_1).f1),.string ((rd_T67 l0_1 x4_1).f2),.int .u8 ((rd_T67 l0_1 x4_1).f3)] 67 (0,0)) (by (with_reducible repeat (first|apply blk_drewN|apply blk_drew|apply blk_alloc));exact BK189.out) hb)
                   have n3_:=Aside0.mk (below_step (by repeat (first|(with_reducible first|exact HB.out|apply below_alloc|apply pw_below_drewN|apply below_drew1|refine below_set ?_ GE185.out|refine below_set ?_ GE189.out)|exact HB.out)) hb)
                   clear HO195
                   clear BK185
                   clear BK189
                   clear HB
                   have HO195:=n0_
                   have BK185:=n1_
                   have BK189:=n2_
                   have HB:=n3_
                   clear n0_ n1_ n2_ n3_
                   (try clear hb)
                   (try clear hb2)
                   (try clear hk)
                   (try clear hi)
                   refine hK.out _ _ ⟨(blk_cell BK189.out 0).trans rfl,(blk_cell BK189.out 1).trans rfl,(blk_cell BK189.out 2).trans rfl,(blk_cell BK189.out 3).trans rfl⟩ (fun hHeld=>?_)
                   clear hK K
                   refine norm_ (a':=?_) ?_ ?_
                   rotate_left
                   ·show Act.put _ (some 35) _ = _
                    simp only [Act.put,List.setIfInBounds_toArray,List.set_cons_zero,List.set_cons_succ,i64_w,i32_w]
                    rfl
                   refine pure_ (i:=8) (N:=some 36) (v:=?_) (a':=?_) #[true,true,true,true,true,true,true,true,true,true,true,false,false,true,true,true,false,false,false] rfl rfl (any_of HT_.out (by kernel_rfl)) (fun _ _ _ h=>h) (Or.inl ⟨by rfl,?_⟩) ?_ ?_
                   rotate_left
                   ·intro w'
                    go_simp
                    with_reducible rfl
                   rotate_left
                   ·simp only [Act.put,List.setIfInBounds_toArray,List.set_cons_zero,List.set_cons_succ,i64_w,i32_w]
                    rfl
                   exact norm_ (by first|(simp only [putAll,Act.put,List.setIfInBounds_toArray,List.set_cons_zero,List.set_cons_succ];done)|(simp only [putAll,Act.put,List.setIfInBounds_toArray,List.set_cons_zero,List.set_cons_succ];rfl)) (hJ3_7_15 (v194) _ ⟨hHeld,(by (with_reducible repeat (first|apply Kd.R_alloc|apply Kd.R_drewN|apply Kd.R_drew));exact HO195.out),(by (with_reducible repeat (first|apply blk_drewN|apply blk_drew|apply blk_alloc));exact BK185.out),(by (with_reducible repeat (first|apply blk_drewN|apply blk_drew|apply blk_alloc));exact BK189.out),(by repeat (first|(with_reducible first|exact HB.out|apply below_alloc|apply pw_below_drewN|apply below_drew1|refine below_set ?_ GE185.out|refine below_set ?_ GE189.out)|exact HB.out))⟩)
                  ·skip
                   have hcv28:=own_string (P:=Tryd.prog) Tryd.underlying69 Tryd.underlying5 Tryd.underlying9 (Kd.own_of_R HO195.out)
                   refine value_ (w1:=?_) (v:=?_) (by rfl) rfl ?_ ?_
                   rotate_left 2
                   ·go_simp
                    constructor
                    ·rfl
                    ·rfl
                   clear hcv28
                   refine hK.out _ _ ⟨(blk_cell BK189.out 0).trans rfl,(blk_cell BK189.out 1).trans rfl,(blk_cell BK189.out 2).trans rfl,(blk_cell BK189.out 3).trans rfl⟩ (fun hHeld=>?_)
                   clear hK K
                   refine norm_ (a':=?_) ?_ ?_
                   rotate_left
                   ·show Act.put _ (some 44) _ = _
                    simp only [Act.put,List.setIfInBounds_toArray,List.set_cons_zero,List.set_cons_succ,i64_w,i32_w]
                    rfl
                   exact norm_ (by first|(simp only [putAll,Act.put,List.setIfInBounds_toArray,List.set_cons_zero,List.set_cons_succ];done)|(simp only [putAll,Act.put,List.setIfInBounds_toArray,List.set_cons_zero,List.set_cons_succ];rfl)) (hJ3_15_16 (v194) _ ⟨hHeld,(by (with_reducible repeat (first|apply Kd.R_alloc|apply Kd.R_drewN|apply Kd.R_drew));exact HO195.out),(by (with_reducible repeat (first|apply blk_drewN|apply blk_drew|apply blk_alloc));exact BK185.out),(by (with_reducible repeat (first|apply blk_drewN|apply blk_drew|apply blk_alloc));exact BK189.out),(by repeat (first|(with_reducible first|exact HB.out|apply below_alloc|apply pw_below_drewN|apply below_drew1|refine below_set ?_ GE185.out|refine below_set ?_ GE189.out)|exact HB.out))⟩)
                ·skip
                 rintro _ w26 ⟨hS_,h0_,h1_,h2_⟩
                 have n0_ : Aside0 (w26.heap[gb185]? = some (.cells #[.int .u32 a0_0,.slice (some ad188) l0_1.length c0_1] 30 (0,0))):=⟨h0_⟩
                 have n1_ : Aside0 (w26.heap[gb189]? = some (.cells #[.string ((rd_T67 l0_1 x4_1).f0),.string ((rd_T67 l0_1 x4_1).f1),.string ((rd_T67 l0_1 x4_1).f2),.int .u8 ((rd_T67 l0_1 x4_1).f3)] 67 (0,0))):=⟨h1_⟩
                 have n2_ : Aside0 (Below w.heap.size w w26):=⟨h2_⟩
                 clear BK185
                 clear BK189
                 clear HB
                 clear h0_ h1_ h2_
                 have BK185:=n0_
                 have BK189:=n1_
                 have HB:=n2_
                 clear n0_ n1_ n2_
                 have hHeld : w26.cell? ⟨gb189,0,none⟩ = some (.string ((rd_T67 l0_1 x4_1).f0)) ∧ w26.cell? ⟨gb189,1,none⟩ = some (.string ((rd_T67 l0_1 x4_1).f1)) ∧ w26.cell? ⟨gb189,2,none⟩ = some (.string ((rd_T67 l0_1 x4_1).f2)) ∧ w26.cell? ⟨gb189,3,none⟩ = some (.int .u8 ((rd_T67 l0_1 x4_1).f3)):=hS_
                 refine norm_ (a':=?_) ?_ ?_
                 rotate_left
                 ·simp only [putAll,Act.put,List.setIfInBounds_toArray,List.set_cons_zero,List.set_cons_succ]
                  rfl
                 refine two_ (i:=11) (j:=15) (Ni:=some 39) (Nj:=some 43) #[true,true,true,true,true,true,true,true,true,true,true,true,false,true,true,false,false,false,false] #[true,true,true,true,true,true,true,true,true,true,true,false,false,true,true,true,false,false,false] rfl rfl rfl rfl (two_of HT_.out (by kernel_rfl)) (by decide) (by decide) (fun K hK=>?_) (fun K hK=>?_)
                 ·skip
                  refine goes_ Tryd.func44 (by kernel_rfl) rfl #[.string ((rd_T67 l0_1 x4_1).f2)] (by rfl) rfl rfl (by (try simp only [List.map_toArray,List.map_cons,List.map_nil]);first|done|rfl|(simp only [List.length_drop,List.length_take];rfl)) ?_
                  with_reducible refine (bosunref02_Text.calls k1 ((rd_T67 l0_1 x4_1).f2) t192 _ A15.out).mono ?_
                  rintro e w27 ⟨rfl,hb⟩
                  refine ⟨_,rfl,?_⟩
                  have n0_:=Aside0.mk (blk_below (g:=gb185) (o:=.cells #[.int .u32 a0_0,.slice (some ad188) l0_1.length c0_1] 30 (0,0)) (by (with_reducible repeat (first|apply blk_drewN|apply blk_drew|apply blk_alloc));exact BK185.out) hb)
                  have n1_:=Aside0.mk (blk_below (g:=gb189) (o:=.cells #[.string ((rd_T67 l0_1 x4_1).f0),.string ((rd_T67 l0_1 x4_1).f1),.string ((rd_T67 l0_1 x4_1).f2),.int .u8 ((rd_T67 l0_1 x4_1).f3)] 67 (0,0)) (by (with_reducible repeat (first|apply blk_drewN|apply blk_drew|apply blk_alloc));exact BK189.out) hb)
                  have n2_:=Aside0.mk (below_step (by repeat (first|(with_reducible first|exact HB.out|apply below_alloc|apply pw_below_drewN|apply below_drew1|refine below_set ?_ GE185.out|refine below_set ?_ GE189.out)|exact HB.out)) hb)
                  clear BK185
                  clear BK189
                  clear HB
                  have BK185:=n0_
                  have BK189:=n1_
                  have HB:=n2_
                  clear n0_ n1_ n2_
                  (try clear hb)
                  (try clear hb2)
                  (try clear hk)
                  (try clear hi)
                  refine hK.out _ _ ⟨(blk_cell BK189.out 0).trans rfl,(blk_cell BK189.out 1).trans rfl,(blk_cell BK189.out 2).trans rfl,(blk_cell BK189.out 3).trans rfl⟩ (fun hHeld=>?_)
                  clear hK K
                  refine norm_ (a':=?_) ?_ ?_
                  rotate_left
                  ·show Act.put _ (some 39) _ = _
                   simp only [Act.put,List.setIfInBounds_toArray,List.set_cons_zero,List.set_cons_succ,i64_w,i32_w]
                   rfl
                  refine pure_ (i:=12) (N:=some 40) (v:=?_) (a':=?_) #[true,true,true,true,true,true,true,true,true,true,true,true,true,true,true,false,false,false,false] rfl rfl (any_of HT_.out (by kernel_rfl)) (fun _ _ _ h=>h) (Or.inl ⟨by rfl,?_⟩) ?_ ?_
                  rotate_left
                  ·intro w'
                   go_simp
                   with_reducible rfl
                  rotate_left
                  ·simp only [Act.put,List.setIfInBounds_toArray,List.set_cons_zero,List.set_cons_succ,i64_w,i32_w]
                   rfl
                  exact norm_ (by first|(simp only [putAll,Act.put,List.setIfInBounds_toArray,List.set_cons_zero,List.set_cons_succ];done)|(simp only [putAll,Act.put,List.setIfInBounds_toArray,List.set_cons_zero,List.set_cons_succ];rfl)) (hJ3_7_11 () _ ⟨hHeld,(by (with_reducible repeat (first|apply blk_drewN|apply blk_drew|apply blk_alloc));exact BK185.out),(by (with_reducible repeat (first|apply blk_drewN|apply blk_drew|apply blk_alloc));exact BK189.out),(by repeat (first|(with_reducible first|exact HB.out|apply below_alloc|apply pw_below_drewN|apply below_drew1|refine below_set ?_ GE185.out|refine below_set ?_ GE189.out)|exact HB.out))⟩)
                 ·skip
                  refine Kd.R_lit_step (Kd.int .u8) _ 5 ?hg (N:=43) ?hd (xs:=([(rd_T67 l0_1 x4_1).f3] : List Int)) (inner:=[.int .u8 ((rd_T67 l0_1 x4_1).f3)]) (ok:=fun _=>True) (okp:=fun _=>True) ?hr ?hp (fun _ hk=>hk) trivial (Below.refl _ _) (Nat.le_refl _) (by simp) ?_;(case hd=>rfl);(case hg=>rfl);(case hr=>first|(go_simp;done)|(go_simp;rfl));(case hp=>exact (Reps.one (show Kd.M (Kd.int .u8) _ _ _ ((rd_T67 l0_1 x4_1).f3) [.int .u8 ((rd_T67 l0_1 x4_1).f3)] from rfl) (Reps.none _ _)))
                  intro v194 w27 ho28 hb hg_ hnew_
                  clear hg_ hnew_
                  (first|rw [← Ny193.out] at ho28|(simp only [Int.reduceToNat] at ho28;rw [← Ny193.out] at ho28))
                  have n0_:=Aside0.mk (Kd.R_lower ho28 (below_size (by repeat (first|(with_reducible first|exact HB.out|apply below_alloc|apply pw_below_drewN|apply below_drew1|refine below_set ?_ GE185.out|refine below_set ?_ GE189.out)|exact HB.out))))
                  have n1_:=Aside0.mk (blk_below (g:=gb185) (o:=.cells #[.int .u32 a0_0,.slice (some ad188) l0_1.length c0_1] 30 (0,0)) (by (with_reducible repeat (first|apply blk_drewN|apply blk_drew|apply blk_alloc));exact BK185.out) hb)
                  have n2_:=Aside0.mk (blk_below (g:=gb189) (o:=.cells #[.string ((rd_T67 l0_1 x4_1).f0),.string ((rd_T67 l0_1 x4_1).f1),.string ((rd_T67 l0_1 x4_1).f2),.int .u8 ((rd_T67 l0_1 x4_1).f3)] 67 (0,0)) (by (with_reducible repeat (first|apply blk_drewN|apply blk_drew|apply blk_alloc));exact BK189.out) hb)
                  have n3_:=Aside0.mk (below_step (by repeat (first|(with_reducible first|exact HB.out|apply below_alloc|apply pw_below_drewN|apply below_drew1|refine below_set ?_ GE185.out|refine below_set ?_ GE189.out)|exact HB.out)) hb)
                  clear BK185
                  clear BK189
                  clear HB
                  have HO195:=n0_
                  have BK185:=n1_
                  have BK189:=n2_
                  have HB:=n3_
                  clear n0_ n1_ n2_ n3_
                  clear hb ho28
                  refine hK.out _ _ ⟨(blk_cell BK189.out 0).trans rfl,(blk_cell BK189.out 1).trans rfl,(blk_cell BK189.out 2).trans rfl,(blk_cell BK189.out 3).trans rfl⟩ (fun hHeld=>?_)
                  clear hK K
                  refine norm_ (a':=?_) ?_ ?_
                  rotate_left
                  ·show Act.put _ (some 43) _ = _
                   simp only [Act.put,List.setIfInBounds_toArray,List.set_cons_zero,List.set_cons_succ,i64_w,i32_w]
                   rfl
                  exact norm_ (by first|(simp only [putAll,Act.put,List.setIfInBounds_toArray,List.set_cons_zero,List.set_cons_succ];done)|(simp only [putAll,Act.put,List.setIfInBounds_toArray,List.set_cons_zero,List.set_cons_succ];rfl)) (hJ3_7_15 (v194) _ ⟨hHeld,(by (with_reducible repeat (first|apply Kd.R_alloc|apply Kd.R_drewN|apply Kd.R_drew));exact HO195.out),(by (with_reducible repeat (first|apply blk_drewN|apply blk_drew|apply blk_alloc));exact BK185.out),(by (with_reducible repeat (first|apply blk_drewN|apply blk_drew|apply blk_alloc));exact BK189.out),(by repeat (first|(with_reducible first|exact HB.out|apply below_alloc|apply pw_below_drewN|apply below_drew1|refine below_set ?_ GE185.out|refine below_set ?_ GE189.out)|exact HB.out))⟩)
               ·skip
                rintro v194 w28 ⟨hS_,h0_,h1_,h2_,h3_⟩
                have n0_ : Aside0 (Kd.R (Kd.int .u8) 5 w28 w.heap.size (fun _=>True) v194 y193):=⟨h0_⟩
                have n1_ : Aside0 (w28.heap[gb185]? = some (.cells #[.int .u32 a0_0,.slice (some ad188) l0_1.length c0_1] 30 (0,0))):=⟨h1_⟩
                have n2_ : Aside0 (w28.heap[gb189]? = some (.cells #[.string ((rd_T67 l0_1 x4_1).f0),.string ((rd_T67 l0_1 x4_1).f1),.string ((rd_T67 l0_1 x4_1).f2),.int .u8 ((rd_T67 l0_1 x4_1).f3)] 67 (0,0))):=⟨h2_⟩
                have n3_ : Aside0 (Below w.heap.size w w28):=⟨h3_⟩
                clear BK185
                clear BK189
                clear HB
                clear h0_ h1_ h2_ h3_
                have HO195:=n0_
                have BK185:=n1_
                have BK189:=n2_
                have HB:=n3_
                clear n0_ n1_ n2_ n3_
                have hHeld : w28.cell? ⟨gb189,0,none⟩ = some (.string ((rd_T67 l0_1 x4_1).f0)) ∧ w28.cell? ⟨gb189,1,none⟩ = some (.string ((rd_T67 l0_1 x4_1).f1)) ∧ w28.cell? ⟨gb189,2,none⟩ = some (.string ((rd_T67 l0_1 x4_1).f2)) ∧ w28.cell? ⟨gb189,3,none⟩ = some (.int .u8 ((rd_T67 l0_1 x4_1).f3)):=hS_
                refine norm_ (a':=?_) ?_ ?_
                rotate_left
                ·simp only [putAll,Act.put,List.setIfInBounds_toArray,List.set_cons_zero,List.set_cons_succ]
                 rfl
                refine one_ (i:=7) (N:=some 35) #[true,true,true,true,true,true,true,true,false,true,true,false,false,true,true,true,true,false,false] rfl rfl (one_of HT_.out (by kernel_rfl)) (by decide) (fun K hK=>?_)
                refine goes_ Tryd.func44 (by kernel_rfl) rfl #[.string ((rd_T67 l0_1 x4_1).f1)] (by rfl) rfl rfl (by (try simp only [List.map_toArray,List.map_cons,List.map_nil]);first|done|rfl|(simp only [List.length_drop,List.length_take];rfl)) ?_
                with_reducible refine (bosunref02_Text.calls k1 ((rd_T67 l0_1 x4_1).f1) t191 _ A13.out).mono ?_
                rintro e w29 ⟨rfl,hb⟩
                refine ⟨_,rfl,?_⟩
                have n0_:=Aside0.mk (Kd.R_below (by (with_reducible repeat (first|apply Kd.R_alloc|apply Kd.R_drewN|apply Kd.R_drew));exact HO195.out) hb)
                have n1_:=Aside0.mk (blk_below (g:=gb185) (o:=.cells #[.int .u32 a0_0,.slice (some ad188) l0_1.length c0_1] 30 (0,0)) (by (with_reducible repeat (first|apply blk_drewN|apply blk_drew|apply blk_alloc));exact BK185.out) hb)
                have n2_:=Aside0.mk (blk_below (g:=gb189) (o:=.cells #[.string ((rd_T67 l0_1 x4_1).f0),.string ((rd_T67 l0_1 x4_1).f1),.string ((rd_T67 l0_1 x4_1).f2),.int .u8 ((rd_T67 l0_1 x4_1).f3)] 67 (0,0)) (by (with_reducible repeat (first|apply blk_drewN|apply blk_drew|apply blk_alloc));exact BK189.out) hb)
                have n3_:=Aside0.mk (below_step (by repeat (first|(with_reducible first|exact HB.out|apply below_alloc|apply pw_below_drewN|apply below_drew1|refine below_set ?_ GE185.out|refine below_set ?_ GE189.out)|exact HB.out)) hb)
                clear HO195
                clear BK185
                clear BK189
                clear HB
                have HO195:=n0_
                have BK185:=n1_
                have BK189:=n2_
                have HB:=n3_
                clear n0_ n1_ n2_ n3_
                (try clear hb)
                (try clear hb2)
                (try clear hk)
                (try clear hi)
                refine hK.out _ _ ⟨(blk_cell BK189.out 0).trans rfl,(blk_cell BK189.out 1).trans rfl,(blk_cell BK189.out 2).trans rfl,(blk_cell BK189.out 3).trans rfl⟩ (fun hHeld=>?_)
                clear hK K
                refine norm_ (a':=?_) ?_ ?_
                rotate_left
                ·show Act.put _ (some 35) _ = _
                 simp only [Act.put,List.setIfInBounds_toArray,List.set_cons_zero,List.set_cons_succ,i64_w,i32_w]
                 rfl
                refine pure_ (i:=8) (N:=some 36) (v:=?_) (a':=?_) #[true,true,true,true,true,true,true,true,true,true,true,false,false,true,true,true,true,false,false] rfl rfl (any_of HT_.out (by kernel_rfl)) (fun _ _ _ h=>h) (Or.inl ⟨by rfl,?_⟩) ?_ ?_
                rotate_left
                ·intro w'
                 go_simp
                 with_reducible rfl
                rotate_left
                ·simp only [Act.put,List.setIfInBounds_toArray,List.set_cons_zero,List.set_cons_succ,i64_w,i32_w]
                 rfl
                exact norm_ (by first|(simp only [putAll,Act.put,List.setIfInBounds_toArray,List.set_cons_zero,List.set_cons_succ];done)|(simp only [putAll,Act.put,List.setIfInBounds_toArray,List.set_cons_zero,List.set_cons_succ];rfl)) (hJ3_7_15_16 (v194) _ ⟨hHeld,(by (with_reducible repeat (first|apply Kd.R_alloc|apply Kd.R_drewN|apply Kd.R_drew));exact HO195.out),(by (with_reducible repeat (first|apply blk_drewN|apply blk_drew|apply blk_alloc));exact BK185.out),(by (with_reducible repeat (first|apply blk_drewN|apply blk_drew|apply blk_alloc));exact BK189.out),(by repeat (first|(with_reducible first|exact HB.out|apply below_alloc|apply pw_below_drewN|apply below_drew1|refine below_set ?_ GE185.out|refine below_set ?_ GE189.out)|exact HB.out))⟩)
              ·skip
               rintro v194 w28 ⟨hS_,h0_,h1_,h2_,h3_⟩
               have n0_ : Aside0 (Kd.R (Kd.int .u8) 5 w28 w.heap.size (fun _=>True) v194 y193):=⟨h0_⟩
               have n1_ : Aside0 (w28.heap[gb185]? = some (.cells #[.int .u32 a0_0,.slice (some ad188) l0_1.length c0_1] 30 (0,0))):=⟨h1_⟩
               have n2_ : Aside0 (w28.heap[gb189]? = some (.cells #[.string ((rd_T67 l0_1 x4_1).f0),.string ((rd_T67 l0_1 x4_1).f1),.string ((rd_T67 l0_1 x4_1).f2),.int .u8 ((rd_T67 l0_1 x4_1).f3)] 67 (0,0))):=⟨h2_⟩
               have n3_ : Aside0 (Below w.heap.size w w28):=⟨h3_⟩
               clear BK185
               clear BK189
               clear HB
               clear h0_ h1_ h2_ h3_
               have HO195:=n0_
               have BK185:=n1_
               have BK189:=n2_
               have HB:=n3_
               clear n0_ n1_ n2_ n3_
               have hHeld : w28.cell? ⟨gb189,0,none⟩ = some (.string ((rd_T67 l0_1 x4_1).f0)) ∧ w28.cell? ⟨gb189,1,none⟩ = some (.string ((rd_T67 l0_1 x4_1).f1)) ∧ w28.cell? ⟨gb189,2,none⟩ = some (.string ((rd_T67 l0_1 x4_1).f2)) ∧ w28.cell? ⟨gb189,3,none⟩ = some (.int .u8 ((rd_T67 l0_1 x4_1).f3)):=hS_
               refine norm_ (a':=?_) ?_ ?_
               rotate_left
               ·simp only [putAll,Act.put,List.setIfInBounds_toArray,List.set_cons_zero,List.set_cons_succ]
                rfl
               refine two_ (i:=11) (j:=16) (Ni:=some 39) (Nj:=some 44) #[true,true,true,true,true,true,true,true,true,true,true,true,false,true,true,true,false,false,false] #[true,true,true,true,true,true,true,true,true,true,true,false,false,true,true,true,true,false,false] rfl rfl rfl rfl (two_of HT_.out (by kernel_rfl)) (by decide) (by decide) (fun K hK=>?_) (fun K hK=>?_)
               ·skip
                refine goes_ Tryd.func44 (by kernel_rfl) rfl #[.string ((rd_T67 l0_1 x4_1).f2)] (by rfl) rfl rfl (by (try simp only [List.map_toArray,List.map_cons,List.map_nil]);first|done|rfl|(simp only [List.length_drop,List.length_take];rfl)) ?_
                with_reducible refine (bosunref02_Text.calls k1 ((rd_T67 l0_1 x4_1).f2) t192 _ A15.out).mono ?_
                rintro e w29 ⟨rfl,hb⟩
                refine ⟨_,rfl,?_⟩
                have n0_:=Aside0.mk (Kd.R_below (by (with_reducible repeat (first|apply Kd.R_alloc|apply Kd.R_drewN|apply Kd.R_drew));exact HO195.out) hb)
                have n1_:=Aside0.mk (blk_below (g:=gb185) (o:=.cells #[.int .u32 a0_0,.slice (some ad188) l0_1.length c0_1] 30 (0,0)) (by (with_reducible repeat (first|apply blk_drewN|apply blk_drew|apply blk_alloc));exact BK185.out) hb)
                have n2_:=Aside0.mk (blk_below (g:=gb189) (o:=.cells #[.string ((rd_T67 l0_1 x4_1).f0),.string ((rd_T67 l0_1 x4_1).f1),.string ((rd_T67 l0_1 x4_1).f2),.int .u8 ((rd_T67 l0_1 x4_1).f3)] 67 (0,0)) (by (with_reducible repeat (first|apply blk_drewN|apply blk_drew|apply blk_alloc));exact BK189.out) hb)
                have n3_:=Aside0.mk (below_step (by repeat (first|(with_reducible first|exact HB.out|apply below_alloc|apply pw_below_drewN|apply below_drew1|refine below_set ?_ GE185.out|refine below_set ?_ GE189.out)|exact HB.out)) hb)
                clear HO195
                clear BK185
                clear BK189
                clear HB
                have HO195:=n0_
                have BK185:=n1_
                have BK189:=n2_
                have HB:=n3_
                clear n0_ n1_ n2_ n3_
                (try clear hb)
                (try clear hb2)
                (try clear hk)
                (try clear hi)
                refine hK.out _ _ ⟨(blk_cell BK189.out 0).trans rfl,(blk_cell BK189.out 1).trans rfl,(blk_cell BK189.out 2).trans rfl,(blk_cell BK189.out 3).trans rfl⟩ (fun hHeld=>?_)
                clear hK K
                refine norm_ (a':=?_) ?_ ?_
                rotate_left
                ·show Act.put _ (some 39) _ = _
                 simp only [Act.put,List.setIfInBounds_toArray,List.set_cons_zero,List.set_cons_succ,i64_w,i32_w]
                 rfl
                refine pure_ (i:=12) (N:=some 40) (v:=?_) (a':=?_) #[true,true,true,true,true,true,true,true,true,true,true,true,true,true,true,true,false,false,false] rfl rfl (any_of HT_.out (by kernel_rfl)) (fun _ _ _ h=>h) (Or.inl ⟨by rfl,?_⟩) ?_ ?_
                rotate_left
                ·intro w'
                 go_simp
                 with_reducible rfl
                rotate_left
                ·simp only [Act.put,List.setIfInBounds_toArray,List.set_cons_zero,List.set_cons_succ,i64_w,i32_w]
                 rfl
                exact norm_ (by first|(simp only [putAll,Act.put,List.setIfInBounds_toArray,List.set_cons_zero,List.set_cons_succ];done)|(simp only [putAll,Act.put,List.setIfInBounds_toArray,List.set_cons_zero,List.set_cons_succ];rfl)) (hJ3_7_11_15 (v194) _ ⟨hHeld,(by (with_reducible repeat (first|apply Kd.R_alloc|apply Kd.R_drewN|apply Kd.R_drew));exact HO195.out),(by (with_reducible repeat (first|apply blk_drewN|apply blk_drew|apply blk_alloc));exact BK185.out),(by (with_reducible repeat (first|apply blk_drewN|apply blk_drew|apply blk_alloc));exact BK189.out),(by repeat (first|(with_reducible first|exact HB.out|apply below_alloc|apply pw_below_drewN|apply below_drew1|refine below_set ?_ GE185.out|refine below_set ?_ GE189.out)|exact HB.out))⟩)
               ·skip
                have hcv29:=own_string (P:=Tryd.prog) Tryd.underlying69 Tryd.underlying5 Tryd.underlying9 (Kd.own_of_R HO195.out)
                refine value_ (w1:=?_) (v:=?_) (by rfl) rfl ?_ ?_
                rotate_left 2
                ·go_simp
                 constructor
                 ·rfl
                 ·rfl
                clear hcv29
                refine hK.out _ _ ⟨(blk_cell BK189.out 0).trans rfl,(blk_cell BK189.out 1).trans rfl,(blk_cell BK189.out 2).trans rfl,(blk_cell BK189.out 3).trans rfl⟩ (fun hHeld=>?_)
                clear hK K
                refine norm_ (a':=?_) ?_ ?_
                rotate_left
                ·show Act.put _ (some 44) _ = _
                 simp only [Act.put,List.setIfInBounds_toArray,List.set_cons_zero,List.set_cons_succ,i64_w,i32_w]
                 rfl
                exact norm_ (by first|(simp only [putAll,Act.put,List.setIfInBounds_toArray,List.set_cons_zero,List.set_cons_succ];done)|(simp only [putAll,Act.put,List.setIfInBounds_toArray,List.set_cons_zero,List.set_cons_succ];rfl)) (hJ3_7_15_16 (v194) _ ⟨hHeld,(by (with_reducible repeat (first|apply Kd.R_alloc|apply Kd.R_drewN|apply Kd.R_drew));exact HO195.out),(by (with_reducible repeat (first|apply blk_drewN|apply blk_drew|apply blk_alloc));exact BK185.out),(by (with_reducible repeat (first|apply blk_drewN|apply blk_drew|apply blk_alloc));exact BK189.out),(by repeat (first|(with_reducible first|exact HB.out|apply below_alloc|apply pw_below_drewN|apply below_drew1|refine below_set ?_ GE185.out|refine below_set ?_ GE189.out)|exact HB.out))⟩)
             ·skip
              rintro _ w27 ⟨hS_,h0_,h1_,h2_⟩
              have n0_ : Aside0 (w27.heap[gb185]? = some (.cells #[.int .u32 a0_0,.slice (some ad188) l0_1.length c0_1] 30 (0,0))):=⟨h0_⟩
              have n1_ : Aside0 (w27.heap[gb189]? = some (.cells #[.string ((rd_T67 l0_1 x4_1).f0),.string ((rd_T67 l0_1 x4_1).f1),.string ((rd_T67 l0_1 x4_1).f2),.int .u8 ((rd_T67 l0_1 x4_1).f3)] 67 (0,0))):=⟨h1_⟩
              have n2_ : Aside0 (Below w.heap.size w w27):=⟨h2_⟩
              clear BK185
              clear BK189
              clear HB
              clear h0_ h1_ h2_
              have BK185:=n0_
              have BK189:=n1_
              have HB:=n2_
              clear n0_ n1_ n2_
              have hHeld : w27.cell? ⟨gb189,0,none⟩ = some (.string ((rd_T67 l0_1 x4_1).f0)) ∧ w27.cell? ⟨gb189,1,none⟩ = some (.string ((rd_T67 l0_1 x4_1).f1)) ∧ w27.cell? ⟨gb189,2,none⟩ = some (.string ((rd_T67 l0_1 x4_1).f2)) ∧ w27.cell? ⟨gb189,3,none⟩ = some (.int .u8 ((rd_T67 l0_1 x4_1).f3)):=hS_
              refine norm_ (a':=?_) ?_ ?_
              rotate_left
              ·simp only [putAll,Act.put,List.setIfInBounds_toArray,List.set_cons_zero,List.set_cons_succ]
               rfl
              refine one_ (i:=15) (N:=some 43) #[true,true,true,true,true,true,true,true,true,true,true,true,true,true,true,true,false,false,false] rfl rfl (one_of HT_.out (by kernel_rfl)) (by decide) (fun K hK=>?_)
              refine Kd.R_lit_step (Kd.int .u8) _ 5 ?hg (N:=43) ?hd (xs:=([(rd_T67 l0_1 x4_1).f3] : List Int)) (inner:=[.int .u8 ((rd_T67 l0_1 x4_1).f3)]) (ok:=fun _=>True) (okp:=fun _=>True) ?hr ?hp (fun _ hk=>hk) trivial (Below.refl _ _) (Nat.le_refl _) (by simp) ?_;(case hd=>rfl);(case hg=>rfl);(case hr=>first|(go_simp;done)|(go_simp;rfl));(case hp=>exact (Reps.one (show Kd.M (Kd.int .u8) _ _ _ ((rd_T67 l0_1 x4_1).f3) [.int .u8 ((rd_T67 l0_1 x4_1).f3)] from rfl) (Reps.none _ _)))
              intro v194 w28 ho29 hb hg_ hnew_
              clear hg_ hnew_
              (first|rw [← Ny193.out] at ho29|(simp only [Int.reduceToNat] at ho29;rw [← Ny193.out] at ho29))
              have n0_:=Aside0.mk (Kd.R_lower ho29 (below_size (by repeat (first|(with_reducible first|exact HB.out|apply below_alloc|apply pw_below_drewN|apply below_drew1|refine below_set ?_ GE185.out|refine below_set ?_ GE189.out)|exact HB.out))))
              have n1_:=Aside0.mk (blk_below (g:=gb185) (o:=.cells #[.int .u32 a0_0,.slice (some ad188) l0_1.length c0_1] 30 (0,0)) (by (with_reducible repeat (first|apply blk_drewN|apply blk_drew|apply blk_alloc));exact BK185.out) hb)
              have n2_:=Aside0.mk (blk_below (g:=gb189) (o:=.cells #[.string ((rd_T67 l0_1 x4_1).f0),.string ((rd_T67 l0_1 x4_1).f1),.string ((rd_T67 l0_1 x4_1).f2),.int .u8 ((rd_T67 l0_1 x4_1).f3)] 67 (0,0)) (by (with_reducible repeat (first|apply blk_drewN|apply blk_drew|apply blk_alloc));exact BK189.out) hb)
              have n3_:=Aside0.mk (below_step (by repeat (first|(with_reducible first|exact HB.out|apply below_alloc|apply pw_below_drewN|apply below_drew1|refine below_set ?_ GE185.out|refine below_set ?_ GE189.out)|exact HB.out)) hb)
              clear BK185
              clear BK189
              clear HB
              have HO195:=n0_
              have BK185:=n1_
              have BK189:=n2_
              have HB:=n3_
              clear n0_ n1_ n2_ n3_
              clear hb ho29
              refine hK.out _ _ ⟨(blk_cell BK189.out 0).trans rfl,(blk_cell BK189.out 1).trans rfl,(blk_cell BK189.out 2).trans rfl,(blk_cell BK189.out 3).trans rfl⟩ (fun hHeld=>?_)
              clear hK K
              refine norm_ (a':=?_) ?_ ?_
              rotate_left
              ·show Act.put _ (some 43) _ = _
               simp only [Act.put,List.setIfInBounds_toArray,List.set_cons_zero,List.set_cons_succ,i64_w,i32_w]
               rfl
              exact norm_ (by first|(simp only [putAll,Act.put,List.setIfInBounds_toArray,List.set_cons_zero,List.set_cons_succ];done)|(simp only [putAll,Act.put,List.setIfInBounds_toArray,List.set_cons_zero,List.set_cons_succ];rfl)) (hJ3_7_11_15 (v194) _ ⟨hHeld,(by (with_reducible repeat (first|apply Kd.R_alloc|apply Kd.R_drewN|apply Kd.R_drew));exact HO195.out),(by (with_reducible repeat (first|apply blk_drewN|apply blk_drew|apply blk_alloc));exact BK185.out),(by (with_reducible repeat (first|apply blk_drewN|apply blk_drew|apply blk_alloc));exact BK189.out),(by repeat (first|(with_reducible first|exact HB.out|apply below_alloc|apply pw_below_drewN|apply below_drew1|refine below_set ?_ GE185.out|refine below_set ?_ GE189.out)|exact HB.out))⟩)
            ·skip
             rintro v194 w29 ⟨hS_,h0_,h1_,h2_,h3_⟩
             have n0_ : Aside0 (Kd.R (Kd.int .u8) 5 w29 w.heap.size (fun _=>True) v194 y193):=⟨h0_⟩
             have n1_ : Aside0 (w29.heap[gb185]? = some (.cells #[.int .u32 a0_0,.slice (some ad188) l0_1.length c0_1] 30 (0,0))):=⟨h1_⟩
             have n2_ : Aside0 (w29.heap[gb189]? = some (.cells #[.string ((rd_T67 l0_1 x4_1).f0),.string ((rd_T67 l0_1 x4_1).f1),.string ((rd_T67 l0_1 x4_1).f2),.int .u8 ((rd_T67 l0_1 x4_1).f3)] 67 (0,0))):=⟨h2_⟩
             have n3_ : Aside0 (Below w.heap.size w w29):=⟨h3_⟩
             clear BK185
             clear BK189
             clear HB
             clear h0_ h1_ h2_ h3_
             have HO195:=n0_
             have BK185:=n1_
             have BK189:=n2_
             have HB:=n3_
             clear n0_ n1_ n2_ n3_
             have hHeld : w29.cell? ⟨gb189,0,none⟩ = some (.string ((rd_T67 l0_1 x4_1).f0)) ∧ w29.cell? ⟨gb189,1,none⟩ = some (.string ((rd_T67 l0_1 x4_1).f1)) ∧ w29.cell? ⟨gb189,2,none⟩ = some (.string ((rd_T67 l0_1 x4_1).f2)) ∧ w29.cell? ⟨gb189,3,none⟩ = some (.int .u8 ((rd_T67 l0_1 x4_1).f3)):=hS_
             refine norm_ (a':=?_) ?_ ?_
             rotate_left
             ·simp only [putAll,Act.put,List.setIfInBounds_toArray,List.set_cons_zero,List.set_cons_succ]
              rfl
             refine one_ (i:=11) (N:=some 39) #[true,true,true,true,true,true,true,true,true,true,true,true,false,true,true,true,true,false,false] rfl rfl (one_of HT_.out (by kernel_rfl)) (by decide) (fun K hK=>?_)
             refine goes_ Tryd.func44 (by kernel_rfl) rfl #[.string ((rd_T67 l0_1 x4_1).f2)] (by rfl) rfl rfl (by (try simp only [List.map_toArray,List.map_cons,List.map_nil]);first|done|rfl|(simp only [List.length_drop,List.length_take];rfl)) ?_
             with_reducible refine (bosunref02_Text.calls k1 ((rd_T67 l0_1 x4_1).f2) t192 _ A15.out).mono ?_
             rintro e w30 ⟨rfl,hb⟩
             refine ⟨_,rfl,?_⟩
             have n0_:=Aside0.mk (Kd.R_below (by (with_reducible repeat (first|apply Kd.R_alloc|apply Kd.R_drewN|apply Kd.R_drew));exact HO195.out) hb)
             have n1_:=Aside0.mk (blk_below (g:=gb185) (o:=.cells #[.int .u32 a0_0,.slice (some ad188) l0_1.length c0_1] 30 (0,0)) (by (with_reducible repeat (first|apply blk_drewN|apply blk_drew|apply blk_alloc));exact BK185.out) hb)
             have n2_:=Aside0.mk (blk_below (g:=gb189) (o:=.cells #[.string ((rd_T67 l0_1 x4_1).f0),.string ((rd_T67 l0_1 x4_1).f1),.string ((rd_T67 l0_1 x4_1).f2),.int .u8 ((rd_T67 l0_1 x4_1).f3)] 67 (0,0)) (by (with_reducible repeat (first|apply blk_drewN|apply blk_drew|apply blk_alloc));exact BK189.out) hb)
             have n3_:=Aside0.mk (below_step (by repeat (first|(with_reducible first|exact HB.out|apply below_alloc|apply pw_below_drewN|apply below_drew1|refine below_set ?_ GE185.out|refine below_set ?_ GE189.out)|exact HB.out)) hb)
             clear HO195
             clear BK185
             clear BK189
             clear HB
             have HO195:=n0_
             have BK185:=n1_
             have BK189:=n2_
             have HB:=n3_
             clear n0_ n1_ n2_ n3_
             (try clear hb)
             (try clear hb2)
             (try clear hk)
             (try clear hi)
             refine hK.out _ _ ⟨(blk_cell BK189.out 0).trans rfl,(blk_cell BK189.out 1).trans rfl,(blk_cell BK189.out 2).trans rfl,(blk_cell BK189.out 3).trans rfl⟩ (fun hHeld=>?_)
             clear hK K
             refine norm_ (a':=?_) ?_ ?_
             rotate_left
             ·show Act.put _ (some 39) _ = _
              simp only [Act.put,List.setIfInBounds_toArray,List.set_cons_zero,List.set_cons_succ,i64_w,i32_w]
              rfl
             refine pure_ (i:=12) (N:=some 40) (v:=?_) (a':=?_) #[true,true,true,true,true,true,true,true,true,true,true,true,true,true,true,true,true,false,false] rfl rfl (any_of HT_.out (by kernel_rfl)) (fun _ _ _ h=>h) (Or.inl ⟨by rfl,?_⟩) ?_ ?_
             rotate_left
             ·intro w'
              go_simp
              with_reducible rfl
             rotate_left
             ·simp only [Act.put,List.setIfInBounds_toArray,List.set_cons_zero,List.set_cons_succ,i64_w,i32_w]
              rfl
             exact norm_ (by first|(simp only [putAll,Act.put,List.setIfInBounds_toArray,List.set_cons_zero,List.set_cons_succ];done)|(simp only [putAll,Act.put,List.setIfInBounds_toArray,List.set_cons_zero,List.set_cons_succ];rfl)) (hJ3_7_11_15_16 (v194) _ ⟨hHeld,(by (with_reducible repeat (first|apply Kd.R_alloc|apply Kd.R_drewN|apply Kd.R_drew));exact HO195.out),(by (with_reducible repeat (first|apply blk_drewN|apply blk_drew|apply blk_alloc));exact BK185.out),(by (with_reducible repeat (first|apply blk_drewN|apply blk_drew|apply blk_alloc));exact BK189.out),(by repeat (first|(with_reducible first|exact HB.out|apply below_alloc|apply pw_below_drewN|apply below_drew1|refine below_set ?_ GE185.out|refine below_set ?_ GE189.out)|exact HB.out))⟩)
           ·skip
            rintro v194 w29 ⟨hS_,h0_,h1_,h2_,h3_⟩
            have n0_ : Aside0 (Kd.R (Kd.int .u8) 5 w29 w.heap.size (fun _=>True) v194 y193):=⟨h0_⟩
            have n1_ : Aside0 (w29.heap[gb185]? = some (.cells #[.int .u32 a0_0,.slice (some ad188) l0_1.length c0_1] 30 (0,0))):=⟨h1_⟩
            have n2_ : Aside0 (w29.heap[gb189]? = some (.cells #[.string ((rd_T67 l0_1 x4_1).f0),.string ((rd_T67 l0_1 x4_1).f1),.string ((rd_T67 l0_1 x4_1).f2),.int .u8 ((rd_T67 l0_1 x4_1).f3)] 67 (0,0))):=⟨h2_⟩
            have n3_ : Aside0 (Below w.heap.size w w29):=⟨h3_⟩
            clear BK185
            clear BK189
            clear HB
            clear h0_ h1_ h2_ h3_
            have HO195:=n0_
            have BK185:=n1_
            have BK189:=n2_
            have HB:=n3_
            clear n0_ n1_ n2_ n3_
            have hHeld : w29.cell? ⟨gb189,0,none⟩ = some (.string ((rd_T67 l0_1 x4_1).f0)) ∧ w29.cell? ⟨gb189,1,none⟩ = some (.string ((rd_T67 l0_1 x4_1).f1)) ∧ w29.cell? ⟨gb189,2,none⟩ = some (.string ((rd_T67 l0_1 x4_1).f2)) ∧ w29.cell? ⟨gb189,3,none⟩ = some (.int .u8 ((rd_T67 l0_1 x4_1).f3)):=hS_
            refine norm_ (a':=?_) ?_ ?_
            rotate_left
            ·simp only [putAll,Act.put,List.setIfInBounds_toArray,List.set_cons_zero,List.set_cons_succ]
             rfl
            refine one_ (i:=16) (N:=some 44) #[true,true,true,true,true,true,true,true,true,true,true,true,true,true,true,true,true,false,false] rfl rfl (one_of HT_.out (by kernel_rfl)) (by decide) (fun K hK=>?_)
            have hcv30:=own_string (P:=Tryd.prog) Tryd.underlying69 Tryd.underlying5 Tryd.underlying9 (Kd.own_of_R HO195.out)
            refine value_ (w1:=?_) (v:=?_) (by rfl) rfl ?_ ?_
            rotate_left 2
            ·go_simp
             constructor
             ·rfl
             ·rfl
            clear hcv30
            refine hK.out _ _ ⟨(blk_cell BK189.out 0).trans rfl,(blk_cell BK189.out 1).trans rfl,(blk_cell BK189.out 2).trans rfl,(blk_cell BK189.out 3).trans rfl⟩ (fun hHeld=>?_)
            clear hK K
            refine norm_ (a':=?_) ?_ ?_
            rotate_left
            ·show Act.put _ (some 44) _ = _
             simp only [Act.put,List.setIfInBounds_toArray,List.set_cons_zero,List.set_cons_succ,i64_w,i32_w]
             rfl
            exact norm_ (by first|(simp only [putAll,Act.put,List.setIfInBounds_toArray,List.set_cons_zero,List.set_cons_succ];done)|(simp only [putAll,Act.put,List.setIfInBounds_toArray,List.set_cons_zero,List.set_cons_succ];rfl)) (hJ3_7_11_15_16 (v194) _ ⟨hHeld,(by (with_reducible repeat (first|apply Kd.R_alloc|apply Kd.R_drewN|apply Kd.R_drew));exact HO195.out),(by (with_reducible repeat (first|apply blk_drewN|apply blk_drew|apply blk_alloc));exact BK185.out),(by (with_reducible repeat (first|apply blk_drewN|apply blk_drew|apply blk_alloc));exact BK189.out),(by repeat (first|(with_reducible first|exact HB.out|apply below_alloc|apply pw_below_drewN|apply below_drew1|refine below_set ?_ GE185.out|refine below_set ?_ GE189.out)|exact HB.out))⟩)
          rintro v194 w30 ⟨hS_,h0_,h1_,h2_,h3_⟩
          have n0_ : Aside0 (Kd.R (Kd.int .u8) 5 w30 w.heap.size (fun _=>True) v194 y193):=⟨h0_⟩
          have n1_ : Aside0 (w30.heap[gb185]? = some (.cells #[.int .u32 a0_0,.slice (some ad188) l0_1.length c0_1] 30 (0,0))):=⟨h1_⟩
          have n2_ : Aside0 (w30.heap[gb189]? = some (.cells #[.string ((rd_T67 l0_1 x4_1).f0),.string ((rd_T67 l0_1 x4_1).f1),.string ((rd_T67 l0_1 x4_1).f2),.int .u8 ((rd_T67 l0_1 x4_1).f3)] 67 (0,0))):=⟨h2_⟩
          have n3_ : Aside0 (Below w.heap.size w w30):=⟨h3_⟩
          clear BK185
          clear BK189
          clear HB
          clear h0_ h1_ h2_ h3_
          have HO195:=n0_
          have BK185:=n1_
          have BK189:=n2_
          have HB:=n3_
          clear n0_ n1_ n2_ n3_
          have hHeld : w30.cell? ⟨gb189,0,none⟩ = some (.string ((rd_T67 l0_1 x4_1).f0)) ∧ w30.cell? ⟨gb189,1,none⟩ = some (.string ((rd_T67 l0_1 x4_1).f1)) ∧ w30.cell? ⟨gb189,2,none⟩ = some (.string ((rd_T67 l0_1 x4_1).f2)) ∧ w30.cell? ⟨gb189,3,none⟩ = some (.int .u8 ((rd_T67 l0_1 x4_1).f3)):=hS_
          refine norm_ (a':=?_) ?_ ?_
          rotate_left
          ·simp only [putAll,Act.put,List.setIfInBounds_toArray,List.set_cons_zero,List.set_cons_succ]
           rfl
          refine pure_ (i:=17) (N:=some 45) (v:=?_) (a':=?_) #[true,true,true,true,true,true,true,true,true,true,true,true,true,true,true,true,true,true,false] rfl rfl (any_of HT_.out (by kernel_rfl)) (fun _ _ _ h=>h) (Or.inl ⟨by rfl,?_⟩) ?_ ?_
          rotate_left
          ·intro w'
           go_simp
           with_reducible rfl
          rotate_left
          ·simp only [Act.put,List.setIfInBounds_toArray,List.set_cons_zero,List.set_cons_succ,i64_w,i32_w]
           rfl
          refine pure_ (i:=18) (N:=some 3) (v:=?_) (a':=?_) #[true,true,true,true,true,true,true,true,true,true,true,true,true,true,true,true,true,true,true] rfl rfl (any_of HT_.out (by kernel_rfl)) (fun _ _ _ h=>h) (Or.inl ⟨by rfl,?_⟩) ?_ ?_
          rotate_left
          ·intro w'
           go_simp
           with_reducible rfl
          rotate_left
          ·simp only [Act.put,List.setIfInBounds_toArray,List.set_cons_zero,List.set_cons_succ,i64_w,i32_w]
           rfl
          refine done_ (done_of HT_.out (by kernel_rfl)) ?_
          try go_wp2
          go_roundg k1
          case measure=>have:=HK1.out;omega
          case rel=>exact ⟨((((x3_1 ++ t190) ++ t191) ++ t192) ++ (strOfNums y193)),(wrap64 (x4_1 + 1)),(by first|rfl|(simp;done)|(simp [*];done)),(by first|rfl|(simp;done)|(simp [*];done)),H',⟨by have:=HK1.out;omega⟩,⟨by (with_reducible repeat (first|apply blk_drewN|apply blk_drew|apply blk_alloc));exact BK185.out⟩,⟨by repeat (first|(with_reducible first|exact HB.out|apply below_alloc|apply pw_below_drewN|apply below_drew1|refine below_set ?_ GE185.out|refine below_set ?_ GE189.out)|exact HB.out)⟩⟩
         ·rw [if_neg c17] at H
          exact absurd H (by simp)
        ·rw [if_neg c16] at H
         exact absurd H (by simp)
       ·rw [if_neg c14] at H
        exact absurd H (by simp)
      ·rw [if_neg c12] at H
       exact absurd H (by simp)
     ·rw [if_neg c10] at H
      exact absurd H (by simp)
    ·rw [if_neg c9] at H
     have c9b0 : decide (x4_1 < (l0_1.length : Int)) = false:=decide_eq_false c9
     clear c9
     obtain rfl:=Option.some.inj H
     have hcz31_0 : wr.cell? ⟨gb185,0,none⟩ = some (.int .u32 a0_0):=(blk_cell BK185.out 0).trans rfl
     have hcz31_1 : wr.cell? ⟨gb185,1,none⟩ = some (.slice A0_1 l0_1.length c0_1):=(blk_cell BK185.out 1).trans rfl
     have hfz31_0:=blk_frozen BK185.out 0
     have hfz31_1:=blk_frozen BK185.out 1
     go_wp2
     go_ret
     exact ⟨by first|rfl|(simp [errW_none,errW_some] <;> rfl)|(simp [*,errW_none,errW_some] <;> rfl),by repeat (first|(with_reducible first|exact HB.out|apply below_alloc|apply pw_below_drewN|apply below_drew1|refine below_set ?_ GE185.out)|exact HB.out)⟩
 ·rw [if_neg c4] at H
  exact absurd H (by simp)

end Go.Proofs.YtpmbdcljphpcnaaDoor.GCk
