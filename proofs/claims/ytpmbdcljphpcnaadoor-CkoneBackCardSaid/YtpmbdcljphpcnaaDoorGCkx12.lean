/- Written by this session's own program (wip/gen.py) out of the translation: plain Lean functions of the Go functions, and proofs that the calls come to their answers. No conditions beside those in the statements. -/
import Derived.Test.YtpmbdcljphpcnaaDoorGCkx0
import Derived.Test.YtpmbdcljphpcnaaDoorGCkx6
import Derived.Test.YtpmbdcljphpcnaaDoorGCkx10
import Derived.Test.YtpmbdcljphpcnaaDoorGCkx11
namespace Go.Proofs.YtpmbdcljphpcnaaDoor.GCk
open Go.RowKit Go.Proofs.YtpmbdcljphpcnaaDoorW.PrintWords Go.Proofs.YtpmbdcljphpcnaaDoorW.PrintLast Go.Proofs.YtpmbdcljphpcnaaDoorW.PrintMore
attribute [local go_sem] max2_int min2_int max_two min_two max_three min_three max_four min_four   -- for this text's walks alone
set_option linter.unusedVariables false
set_option linter.unusedSimpArgs false

/-! ### ckone_Decode: function 20 -/
mutual
def ckone_Decode.j1 : Nat → ByteArray → Int → Int → List (S66) → Option (Int × (List (S66)) × Int)
 | 0,_,_,_,_=>none
 | k + 1,x176000,x176001,x180000,x180001=>(pack_Taker_End.f x176000 x176001).bind fun bt198=>(if bt198.1 = 0 then ((ckone_State_Check.f k x180000 x180001).bind fun t201=>(if t201 = 0 then (some (x180000,x180001,0)) else (some (0,([] : List (S66)),t201)))) else (some (0,([] : List (S66)),bt198.1)))
def ckone_Decode.l0 : Nat → Int → Int → ByteArray → Int → Int → List (S66) → Option (Int × (List (S66)) × Int)
 | 0,_,_,_,_,_,_=>none
 | k + 1,x21,x22,x176000,x176001,x180000,x180001=>if x22 < x21 then (if x176001 = 0 then ((pack_Taker_Text.f k x176000 x176001).bind fun bt183=>((pack_Taker_Text.f k bt183.2.1 bt183.2.2).bind fun bt186=>((pack_Taker_Text.f k bt186.2.1 bt186.2.2).bind fun bt189=>((pack_Taker_Take.f k bt189.2.1 bt189.2.2 1).bind fun bt192=>(if x180001.length < 2513169434916 then (ckone_Decode.l0 k x21 (wrap64 (x22 + 1)) bt192.2.1 bt192.2.2 x180000 (x180001 ++ [(⟨bt183.1,bt186.1,bt189.1,(bt192.1) % 256⟩ : S66)])) else (none)))))) else (ckone_Decode.j1 k x176000 x176001 x180000 x180001)) else (ckone_Decode.j1 k x176000 x176001 x180000 x180001)
end
def ckone_Decode.f (k : Nat) (a0 : ByteArray) : Option (Int × (List (S66)) × Int):=(pack_Taker_Take.f k a0 0 4).bind fun bt176=>((pack_Taker_Take.f k bt176.2.1 bt176.2.2 2).bind fun bt180=>(if (wrap64 (bt180.1)) > 1024 then (some (0,([] : List (S66)),18)) else (ckone_Decode.l0 k (wrap64 (bt180.1)) 0 bt180.2.1 bt180.2.2 ((bt176.1) % 4294967296) ([] : List (S66)))))
theorem ckone_Decode.mono_l : ∀ k,(∀ y0 y1 y2 y3,LeO (ckone_Decode.j1 k y0 y1 y2 y3) (ckone_Decode.j1 (k + 1) y0 y1 y2 y3)) ∧ (∀ y0 y1 y2 y3 y4 y5,LeO (ckone_Decode.l0 k y0 y1 y2 y3 y4 y5) (ckone_Decode.l0 (k + 1) y0 y1 y2 y3 y4 y5))
 | 0=>⟨fun _ _ _ _ r h=>by simp [ckone_Decode.j1] at h,fun _ _ _ _ _ _ r h=>by simp [ckone_Decode.l0] at h⟩
 | k + 1=>by
  obtain ⟨ih0,ih1⟩:=ckone_Decode.mono_l k
  refine ⟨?_,?_⟩
  ·intro y0 y1 y2 y3
   unfold ckone_Decode.j1
   repeat' first
   | (with_reducible exact ih0 _ _ _ _)
   | (with_reducible exact ih1 _ _ _ _ _ _)
   | (with_reducible exact ckone_State_Check.mono _ _ _)
   | (with_reducible exact pack_Taker_Take.mono _ _ _ _)
   | (with_reducible exact pack_Taker_Text.mono _ _ _)
   | (with_reducible exact LeO.refl _)
   | (with_reducible exact LeO.none _)
   | (with_reducible refine LeO.ite ?_ ?_)
   | (with_reducible refine LeO.bind ?_ (fun _=>?_))
   | exact ih0 _ _ _ _
   | exact ih1 _ _ _ _ _ _
   | exact ckone_State_Check.mono _ _ _
   | exact pack_Taker_Take.mono _ _ _ _
   | exact pack_Taker_Text.mono _ _ _
   | exact LeO.none _
   | refine LeO.ite ?_ ?_
   | refine LeO.bind ?_ (fun _=>?_)
  ·intro y0 y1 y2 y3 y4 y5
   unfold ckone_Decode.l0
   repeat' first
   | (with_reducible exact ih0 _ _ _ _)
   | (with_reducible exact ih1 _ _ _ _ _ _)
   | (with_reducible exact ckone_State_Check.mono _ _ _)
   | (with_reducible exact pack_Taker_Take.mono _ _ _ _)
   | (with_reducible exact pack_Taker_Text.mono _ _ _)
   | (with_reducible exact LeO.refl _)
   | (with_reducible exact LeO.none _)
   | (with_reducible refine LeO.ite ?_ ?_)
   | (with_reducible refine LeO.bind ?_ (fun _=>?_))
   | exact ih0 _ _ _ _
   | exact ih1 _ _ _ _ _ _
   | exact ckone_State_Check.mono _ _ _
   | exact pack_Taker_Take.mono _ _ _ _
   | exact pack_Taker_Text.mono _ _ _
   | exact LeO.none _
   | refine LeO.ite ?_ ?_
   | refine LeO.bind ?_ (fun _=>?_)
theorem ckone_Decode.mono : ∀ a0 k,LeO (ckone_Decode.f k a0) (ckone_Decode.f (k + 1) a0):=by
 intro a0 k
 obtain ⟨ih0,ih1⟩:=ckone_Decode.mono_l k
 unfold ckone_Decode.f
 repeat' first
   | (with_reducible exact ih0 _ _ _ _)
   | (with_reducible exact ih1 _ _ _ _ _ _)
   | (with_reducible exact ckone_State_Check.mono _ _ _)
   | (with_reducible exact pack_Taker_Take.mono _ _ _ _)
   | (with_reducible exact pack_Taker_Text.mono _ _ _)
   | (with_reducible exact LeO.refl _)
   | (with_reducible exact LeO.none _)
   | (with_reducible refine LeO.ite ?_ ?_)
   | (with_reducible refine LeO.bind ?_ (fun _=>?_))
   | exact ih0 _ _ _ _
   | exact ih1 _ _ _ _ _ _
   | exact ckone_State_Check.mono _ _ _
   | exact pack_Taker_Take.mono _ _ _ _
   | exact pack_Taker_Text.mono _ _ _
   | exact LeO.none _
   | refine LeO.ite ?_ ?_
   | refine LeO.bind ?_ (fun _=>?_)
def ckone_Decode.T9 : Bool × List (List Nat × List Nat):=(true,[([],[]),([0],[0]),([],[]),([2],[2]),([],[]),([4,3],[4]),([],[]),([6,5],[6]),([],[]),([8,7],[8]),([9],[9]),([3,5,7,10],[3,5,7,10]),([11],[11]),([1,12,9],[1,12]),([0,1,2,3,4,5,6,7,8,9,10,11,12,13],[]),([14,13,13,0,1,2,3,4,5,6,7,8,9,10,11,12,13],[13,14])])
def ckone_Decode.B9 : List Nat:=[0,1,0,4,0,28,0,124,0,508,1020,2044,4092,8191,16383,32767]
theorem ckone_Decode.tab9 : rtab .any (opsOf Tryd.f20 9) = ckone_Decode.T9:=by kernel_rfl
theorem ckone_Decode.bits9 : waitsOk ckone_Decode.T9.2 ckone_Decode.B9 = true:=by kernel_rfl
set_option maxHeartbeats 8000000 in
set_option maxRecDepth 100000 in
theorem ckone_Decode.calls (k : Nat) (a0 : ByteArray) (r1 : Int) (r2 : List (S66)) (r3 : Int) (w : World) (h : ckone_Decode.f k a0 = some (r1,r2,r3)) :
  Calls Tryd.prog 20 #[.string a0] w fun e w'=>∃ v1_ : Value,e = .returned (.tuple #[.agg #[.int .u32 r1,v1_],.int .i64 r3]) ∧ Kd.R k66 66 w' w.heap.size (fun _=>True) v1_ r2 ∧ Below w.heap.size w w':=by
 have hu25:=Tryd.underlying25
 have hu86:=Tryd.underlying86
 have hu66:=Tryd.underlying66
 have HB:=Aside0.mk (Below.refl w.heap.size w)
 have H : ((pack_Taker_Take.f k a0 0 4).bind fun bt176=>((pack_Taker_Take.f k bt176.2.1 bt176.2.2 2).bind fun bt180=>(if (wrap64 (bt180.1)) > 1024 then (some (0,([] : List (S66)),18)) else (ckone_Decode.l0 k (wrap64 (bt180.1)) 0 bt180.2.1 bt180.2.2 ((bt176.1) % 4294967296) ([] : List (S66)))))) = some (r1,r2,r3):=h
 clear h
 replace H:=Option.bind_eq_some_iff.mp H
 obtain ⟨⟨t176,t177,t178⟩,A20,H⟩:=H
 replace H : ((pack_Taker_Take.f k t177 t178 2).bind fun bt180=>(if (wrap64 (bt180.1)) > 1024 then (some (0,([] : List (S66)),18)) else (ckone_Decode.l0 k (wrap64 (bt180.1)) 0 bt180.2.1 bt180.2.2 ((t176) % 4294967296) ([] : List (S66))))) = some (r1,r2,r3):=H
 have A2:=Aside0.mk A20
 clear A20
 replace H:=Option.bind_eq_some_iff.mp H
 obtain ⟨⟨t180,t181,t182⟩,A30,H⟩:=H
 replace H : (if (wrap64 (t180)) > 1024 then (some (0,([] : List (S66)),18)) else (ckone_Decode.l0 k (wrap64 (t180)) 0 t181 t182 ((t176) % 4294967296) ([] : List (S66)))) = some (r1,r2,r3):=H
 have A3:=Aside0.mk A30
 clear A30
 by_cases c4 : (wrap64 (t180)) > 1024
 ·rw [if_pos c4] at H
  have c4b0 : decide (1024 < (wrap64 (t180))) = true:=decide_eq_true c4
  clear c4
  simp only [Option.some.injEq,Prod.mk.injEq] at H
  obtain ⟨rfl,rfl,rfl⟩:=H
  go_enter Tryd.func20,Tryd.ntmps20
  go_wp2_with (first|((with_reducible refine gate_dst (N:=2) rfl ?_);refine box_event ?hg (N:=2) ?hd (cs:=#[.int .u32 0,.slice none 0 0]) (t:=25) ?hr ?_;(case hd=>rfl);(case hg=>rfl);(case hr=>first|(go_simp;done)|(go_simp;rfl));intro gb174 hg w5 hbox hb;have n0_:=Aside0.mk (below_step (by repeat (first|(with_reducible first|exact HB.out|apply below_alloc|apply pw_below_drewN|apply below_drew1)|exact HB.out)) hb);have n1_:=Aside0.mk (hbox);have n2_:=Aside0.mk ((by rw [hg];exact (below_size (by repeat (first|(with_reducible first|exact HB.out|apply below_alloc|apply pw_below_drewN|apply below_drew1)|exact HB.out))) : w.heap.size ≤ gb174));have n3_:=Aside0.mk ((by rw [hg];exact (below_size (by repeat (first|(with_reducible first|exact HB.out|apply below_alloc|apply pw_below_drewN|apply below_drew1)|exact HB.out))) : w.heap.size ≤ gb174));clear HB;have HB:=n0_;have BK174:=n1_;have GW174:=n2_;have GE174:=n3_;clear n0_ n1_ n2_ n3_;clear hb hbox hg)|((with_reducible refine gate_dst (N:=10) rfl ?_);refine box_event ?hg (N:=10) ?hd (cs:=#[.string a0,.int .i64 0]) (t:=86) ?hr ?_;(case hd=>rfl);(case hg=>rfl);(case hr=>first|(go_simp;done)|(go_simp;rfl));intro gb175 hg w6 hbox hb;have n0_:=Aside0.mk (blk_below (g:=gb174) (o:=.cells #[.int .u32 0,.slice none 0 0] 25 (0,0)) (by (with_reducible repeat (first|apply blk_drewN|apply blk_drew|apply blk_alloc));exact BK174.out) hb);have n1_:=Aside0.mk (below_step (by repeat (first|(with_reducible first|exact HB.out|apply below_alloc|apply pw_below_drewN|apply below_drew1|refine below_set ?_ GE174.out)|exact HB.out)) hb);have n2_:=Aside0.mk ((by rw [hg];exact (below_size (by repeat (first|(with_reducible first|exact HB.out|apply below_alloc|apply pw_below_drewN|apply below_drew1|refine below_set ?_ GE174.out)|exact HB.out))) : w.heap.size ≤ gb175));have n3_:=Aside0.mk ((by rw [hg];exact (below_size (by repeat (first|(with_reducible first|exact HB.out|apply below_alloc|apply pw_below_drewN|apply below_drew1|refine below_set ?_ GE174.out)|exact HB.out))) : w.heap.size ≤ gb175));have n4_:=Aside0.mk ((by rw [hg];exact Nat.ne_of_lt (blk_lt (g:=gb174) (o:=.cells #[.int .u32 0,.slice none 0 0] 25 (0,0)) (by (with_reducible repeat (first|apply blk_drewN|apply blk_drew|apply blk_alloc));exact BK174.out)) : gb174 ≠ gb175));have n5_:=Aside0.mk ((by rw [hg];exact Nat.ne_of_gt (blk_lt (g:=gb174) (o:=.cells #[.int .u32 0,.slice none 0 0] 25 (0,0)) (by (with_reducible repeat (first|apply blk_drewN|apply blk_drew|apply blk_alloc));exact BK174.out)) : gb175 ≠ gb174));have n6_:=Aside0.mk (show IsS86 w w6 gb175 a0 0 from ⟨hbox,(by rw [hg];exact (below_size (by repeat (first|(with_reducible first|exact HB.out|apply below_alloc|apply pw_below_drewN|apply below_drew1|refine below_set ?_ GE174.out)|exact HB.out))) : w.heap.size ≤ gb175)⟩);clear BK174;clear HB;have BK174:=n0_;have HB:=n1_;have GW175:=n2_;have GE175:=n3_;have NB174_175:=n4_;have NB175_174:=n5_;have HI175:=n6_;clear n0_ n1_ n2_ n3_ n4_ n5_ n6_;clear hb hbox hg)|((with_reducible refine gate_callee (f:=48) rfl ?_);refine goesL_ (some 12) rfl rfl Tryd.func48 (by kernel_rfl) rfl #[.pointer (some ⟨gb175,0,none⟩),.int .i64 4] rfl (by (try simp only [List.map_toArray,List.map_cons,List.map_nil]);first|done|rfl|(simp only [List.length_drop,List.length_take];rfl)|(simp (disch:=first|omega|(simp at *;omega)) only [u64_id,i64_id,u8_id];rfl)) ?_;(with_reducible refine (pack_Taker_Take.calls k gb175 a0 0 4 t176 t177 t178 w _ ?side1 ?side2 A2.out).mono ?_);(case side1=>repeat (first|(with_reducible first|exact HI175.out|apply IsS86.alloc|apply IsS86.drewN|apply IsS86.drew|apply IsS86.set_0|apply IsS86.set_1|refine IsS86.far ?_ NB175_174.out _)|exact HI175.out));(case side2=>repeat (first|(with_reducible first|exact HB.out|apply below_alloc|apply pw_below_drewN|apply below_drew1|refine below_set ?_ (IsS86.ge HI175.out)|refine below_set ?_ GE174.out)|exact HB.out));rintro e w7 ⟨rfl,hi,hb,hk⟩;refine ⟨_,rfl,?_⟩;have n0_:=Aside0.mk (KeepBut.blk hk (g':=gb174) (o:=.cells #[.int .u32 0,.slice none 0 0] 25 (0,0)) (by (with_reducible repeat (first|apply blk_drewN|apply blk_drew|apply blk_alloc));exact BK174.out) NB174_175.out (by simp));have n1_:=Aside0.mk (hb);have n2_:=Aside0.mk (hi);clear BK174;clear HB;clear HI175;have BK174:=n0_;have HB:=n1_;have HI175:=n2_;clear n0_ n1_ n2_;(try clear hb);(try clear hb2);(try clear hk);(try clear hi))|((with_reducible refine gate_dst (N:=5) rfl ?_);refine box_event ?hg (N:=5) ?hd (cs:=#[.int .u32 0,.slice none 0 0]) (t:=25) ?hr ?_;(case hd=>rfl);(case hg=>rfl);(case hr=>first|(go_simp;done)|(go_simp;rfl));intro gb179 hg w8 hbox hb;have n0_:=Aside0.mk (blk_below (g:=gb174) (o:=.cells #[.int .u32 0,.slice none 0 0] 25 (0,0)) (by (with_reducible repeat (first|apply blk_drewN|apply blk_drew|apply blk_alloc));exact BK174.out) hb);have n1_:=Aside0.mk (IsS86.below (by repeat (first|(with_reducible first|exact HI175.out|apply IsS86.alloc|apply IsS86.drewN|apply IsS86.drew|apply IsS86.set_0|apply IsS86.set_1|refine IsS86.far ?_ NB175_174.out _)|exact HI175.out)) hb);have n2_:=Aside0.mk (below_step (by repeat (first|(with_reducible first|exact HB.out|apply below_alloc|apply pw_below_drewN|apply below_drew1|refine below_set ?_ (IsS86.ge HI175.out)|refine below_set ?_ GE174.out)|exact HB.out)) hb);have n3_:=Aside0.mk (hbox);have n4_:=Aside0.mk ((by rw [hg];exact (below_size (by repeat (first|(with_reducible first|exact HB.out|apply below_alloc|apply pw_below_drewN|apply below_drew1|refine below_set ?_ (IsS86.ge HI175.out)|refine below_set ?_ GE174.out)|exact HB.out))) : w.heap.size ≤ gb179));have n5_:=Aside0.mk ((by rw [hg];exact (below_size (by repeat (first|(with_reducible first|exact HB.out|apply below_alloc|apply pw_below_drewN|apply below_drew1|refine below_set ?_ (IsS86.ge HI175.out)|refine below_set ?_ GE174.out)|exact HB.out))) : w.heap.size ≤ gb179));have n6_:=Aside0.mk ((by rw [hg];exact Nat.ne_of_lt (blk_lt (g:=gb174) (o:=.cells #[.int .u32 0,.slice none 0 0] 25 (0,0)) (by (with_reducible repeat (first|apply blk_drewN|apply blk_drew|apply blk_alloc));exact BK174.out)) : gb174 ≠ gb179));have n7_:=Aside0.mk ((by rw [hg];exact Nat.ne_of_gt (blk_lt (g:=gb174) (o:=.cells #[.int .u32 0,.slice none 0 0] 25 (0,0)) (by (with_reducible repeat (first|apply blk_drewN|apply blk_drew|apply blk_alloc));exact BK174.out)) : gb179 ≠ gb174));have n8_:=Aside0.mk ((by rw [hg];exact Nat.ne_of_lt (IsS86.lt (show IsS86 w _ gb175 t177 t178 from by repeat (first|(with_reducible first|exact HI175.out|apply IsS86.alloc|apply IsS86.drewN|apply IsS86.drew|apply IsS86.set_0|apply IsS86.set_1|refine IsS86.far ?_ NB175_174.out _)|exact HI175.out))) : gb175 ≠ gb179));have n9_:=Aside0.mk ((by rw [hg];exact Nat.ne_of_gt (IsS86.lt (show IsS86 w _ gb175 t177 t178 from by repeat (first|(with_reducible first|exact HI175.out|apply IsS86.alloc|apply IsS86.drewN|apply IsS86.drew|apply IsS86.set_0|apply IsS86.set_1|refine IsS86.far ?_ NB175_174.out _)|exact HI175.out))) : gb179 ≠ gb175));clear BK174;clear HI175;clear HB;have BK174:=n0_;have HI175:=n1_;have HB:=n2_;have BK179:=n3_;have GW179:=n4_;have GE179:=n5_;have NB174_179:=n6_;have NB179_174:=n7_;have NB175_179:=n8_;have NB179_175:=n9_;clear n0_ n1_ n2_ n3_ n4_ n5_ n6_ n7_ n8_ n9_;clear hb hbox hg;have hnb9:=NB179_174.out;have hnc9:=NB174_179.out;have hnb10:=NB179_175.out;have hnc10:=NB175_179.out;have hcz11_0 : w8.cell? ⟨gb179,0,none⟩ = some (.int .u32 0):=(blk_cell BK179.out 0).trans rfl;have hcz11_1 : w8.cell? ⟨gb179,1,none⟩ = some (.slice none 0 0):=(blk_cell BK179.out 1).trans rfl;have hfz11_0:=blk_frozen BK179.out 0;have hfz11_1:=blk_frozen BK179.out 1)|((with_reducible refine gate_callee (f:=48) rfl ?_);refine goesL_ (some 16) rfl rfl Tryd.func48 (by kernel_rfl) rfl #[.pointer (some ⟨gb175,0,none⟩),.int .i64 2] rfl (by (try simp only [List.map_toArray,List.map_cons,List.map_nil]);first|done|rfl|(simp only [List.length_drop,List.length_take];rfl)|(simp (disch:=first|omega|(simp at *;omega)) only [u64_id,i64_id,u8_id];rfl)) ?_;(with_reducible refine (pack_Taker_Take.calls k gb175 t177 t178 2 t180 t181 t182 w _ ?side1 ?side2 A3.out).mono ?_);(case side1=>repeat (first|(with_reducible first|exact HI175.out|apply IsS86.alloc|apply IsS86.drewN|apply IsS86.drew|apply IsS86.set_0|apply IsS86.set_1|refine IsS86.far ?_ NB175_174.out _|refine IsS86.far ?_ NB175_179.out _)|exact HI175.out));(case side2=>repeat (first|(with_reducible first|exact HB.out|apply below_alloc|apply pw_below_drewN|apply below_drew1|refine below_set ?_ (IsS86.ge HI175.out)|refine below_set ?_ GE174.out|refine below_set ?_ GE179.out)|exact HB.out));rintro e w12 ⟨rfl,hi,hb,hk⟩;refine ⟨_,rfl,?_⟩;have n0_:=Aside0.mk (KeepBut.blk hk (g':=gb174) (o:=.cells #[.int .u32 0,.slice none 0 0] 25 (0,0)) (by (with_reducible repeat (first|apply blk_drewN|apply blk_drew|apply blk_alloc));refine blk_far ?_ NB174_179.out _;(with_reducible repeat (first|apply blk_drewN|apply blk_drew|apply blk_alloc));refine blk_far ?_ NB174_179.out _;(with_reducible repeat (first|apply blk_drewN|apply blk_drew|apply blk_alloc));exact BK174.out) NB174_175.out (by simp));have n1_:=Aside0.mk (KeepBut.blk hk (g':=gb179) (o:=.cells #[.int .u32 ((t176) % 4294967296),.slice none 0 0] 25 (0,0)) (by (with_reducible repeat (first|apply blk_drewN|apply blk_drew|apply blk_alloc));refine blk_put (cs:=#[.int .u32 ((t176) % 4294967296),.slice none 0 0]) ?_ 1 _ rfl;(with_reducible repeat (first|apply blk_drewN|apply blk_drew|apply blk_alloc));refine blk_put (cs:=#[.int .u32 0,.slice none 0 0]) ?_ 0 _ rfl;(with_reducible repeat (first|apply blk_drewN|apply blk_drew|apply blk_alloc));exact BK179.out) NB179_175.out (by simp));have n2_:=Aside0.mk (hb);have n3_:=Aside0.mk (hi);clear BK174;clear BK179;clear HB;clear HI175;have BK174:=n0_;have BK179:=n1_;have HB:=n2_;have HI175:=n3_;clear n0_ n1_ n2_ n3_;(try clear hb);(try clear hb2);(try clear hk);(try clear hi);have hnb13:=NB174_175.out;have hnc13:=NB175_174.out;have hcz14_0 : w12.cell? ⟨gb174,0,none⟩ = some (.int .u32 0):=(blk_cell BK174.out 0).trans rfl;have hcz14_1 : w12.cell? ⟨gb174,1,none⟩ = some (.slice none 0 0):=(blk_cell BK174.out 1).trans rfl;have hfz14_0:=blk_frozen BK174.out 0;have hfz14_1:=blk_frozen BK174.out 1))
  refine bodyPost_ret (results_ct rfl _ _ gb174 25 #[.int .u32 0,.slice none 0 0] (0,0) _ rfl (by (with_reducible repeat (first|apply blk_drewN|apply blk_drew|apply blk_alloc));refine blk_put (cs:=#[.int .u32 0,.slice none 0 0]) ?_ 1 _ rfl;(with_reducible repeat (first|apply blk_drewN|apply blk_drew|apply blk_alloc));refine blk_put (cs:=#[.int .u32 0,.slice none 0 0]) ?_ 0 _ rfl;(with_reducible repeat (first|apply blk_drewN|apply blk_drew|apply blk_alloc));exact BK174.out) Tryd.underlying25 rfl (by kernel_rfl)) rfl ?_
  exact ⟨_,by first|rfl|(simp [errW_none,errW_some] <;> rfl)|(simp [*,errW_none,errW_some] <;> rfl),by first|exact Kd.R_nil _ _ _ _ _|exact Kd.N_nil _ _ _ _ _|exact Kd.V_nil _ _ _ _ _|exact Kd.Q_nil _ _ _ _ _|exact Kd.S_nil _ _ _ _ _,by repeat (first|(with_reducible first|exact HB.out|apply below_alloc|apply pw_below_drewN|apply below_drew1|refine below_set ?_ (IsS86.ge HI175.out)|refine below_set ?_ GE174.out|refine below_set ?_ GE179.out)|exact HB.out)⟩
 ·rw [if_neg c4] at H
  have c4b0 : decide (1024 < (wrap64 (t180))) = false:=decide_eq_false c4
  clear c4
  have HC15:=Aside0.mk H
  clear H
  go_enter Tryd.func20,Tryd.ntmps20
  go_upto_block 0 with (first|((with_reducible refine gate_dst (N:=2) rfl ?_);refine box_event ?hg (N:=2) ?hd (cs:=#[.int .u32 0,.slice none 0 0]) (t:=25) ?hr ?_;(case hd=>rfl);(case hg=>rfl);(case hr=>first|(go_simp;done)|(go_simp;rfl));intro gb174 hg w16 hbox hb;have n0_:=Aside0.mk (below_step (by repeat (first|(with_reducible first|exact HB.out|apply below_alloc|apply pw_below_drewN|apply below_drew1)|exact HB.out)) hb);have n1_:=Aside0.mk (hbox);have n2_:=Aside0.mk ((by rw [hg];exact (below_size (by repeat (first|(with_reducible first|exact HB.out|apply below_alloc|apply pw_below_drewN|apply below_drew1)|exact HB.out))) : w.heap.size ≤ gb174));have n3_:=Aside0.mk ((by rw [hg];exact (below_size (by repeat (first|(with_reducible first|exact HB.out|apply below_alloc|apply pw_below_drewN|apply below_drew1)|exact HB.out))) : w.heap.size ≤ gb174));clear HB;have HB:=n0_;have BK174:=n1_;have GW174:=n2_;have GE174:=n3_;clear n0_ n1_ n2_ n3_;clear hb hbox hg)|((with_reducible refine gate_dst (N:=10) rfl ?_);refine box_event ?hg (N:=10) ?hd (cs:=#[.string a0,.int .i64 0]) (t:=86) ?hr ?_;(case hd=>rfl);(case hg=>rfl);(case hr=>first|(go_simp;done)|(go_simp;rfl));intro gb175 hg w17 hbox hb;have n0_:=Aside0.mk (blk_below (g:=gb174) (o:=.cells #[.int .u32 0,.slice none 0 0] 25 (0,0)) (by (with_reducible repeat (first|apply blk_drewN|apply blk_drew|apply blk_alloc));exact BK174.out) hb);have n1_:=Aside0.mk (below_step (by repeat (first|(with_reducible first|exact HB.out|apply below_alloc|apply pw_below_drewN|apply below_drew1|refine below_set ?_ GE174.out)|exact HB.out)) hb);have n2_:=Aside0.mk ((by rw [hg];exact (below_size (by repeat (first|(with_reducible first|exact HB.out|apply below_alloc|apply pw_below_drewN|apply below_drew1|refine below_set ?_ GE174.out)|exact HB.out))) : w.heap.size ≤ gb175));have n3_:=Aside0.mk ((by rw [hg];exact (below_size (by repeat (first|(with_reducible first|exact HB.out|apply below_alloc|apply pw_below_drewN|apply below_drew1|refine below_set ?_ GE174.out)|exact HB.out))) : w.heap.size ≤ gb175));have n4_:=Aside0.mk ((by rw [hg];exact Nat.ne_of_lt (blk_lt (g:=gb174) (o:=.cells #[.int .u32 0,.slice none 0 0] 25 (0,0)) (by (with_reducible repeat (first|apply blk_drewN|apply blk_drew|apply blk_alloc));exact BK174.out)) : gb174 ≠ gb175));have n5_:=Aside0.mk ((by rw [hg];exact Nat.ne_of_gt (blk_lt (g:=gb174) (o:=.cells #[.int .u32 0,.slice none 0 0] 25 (0,0)) (by (with_reducible repeat (first|apply blk_drewN|apply blk_drew|apply blk_alloc));exact BK174.out)) : gb175 ≠ gb174));have n6_:=Aside0.mk (show IsS86 w w17 gb175 a0 0 from ⟨hbox,(by rw [hg];exact (below_size (by repeat (first|(with_reducible first|exact HB.out|apply below_alloc|apply pw_below_drewN|apply below_drew1|refine below_set ?_ GE174.out)|exact HB.out))) : w.heap.size ≤ gb175)⟩);clear BK174;clear HB;have BK174:=n0_;have HB:=n1_;have GW175:=n2_;have GE175:=n3_;have NB174_175:=n4_;have NB175_174:=n5_;have HI175:=n6_;clear n0_ n1_ n2_ n3_ n4_ n5_ n6_;clear hb hbox hg)|((with_reducible refine gate_callee (f:=48) rfl ?_);refine goesL_ (some 12) rfl rfl Tryd.func48 (by kernel_rfl) rfl #[.pointer (some ⟨gb175,0,none⟩),.int .i64 4] rfl (by (try simp only [List.map_toArray,List.map_cons,List.map_nil]);first|done|rfl|(simp only [List.length_drop,List.length_take];rfl)|(simp (disch:=first|omega|(simp at *;omega)) only [u64_id,i64_id,u8_id];rfl)) ?_;(with_reducible refine (pack_Taker_Take.calls k gb175 a0 0 4 t176 t177 t178 w _ ?side1 ?side2 A2.out).mono ?_);(case side1=>repeat (first|(with_reducible first|exact HI175.out|apply IsS86.alloc|apply IsS86.drewN|apply IsS86.drew|apply IsS86.set_0|apply IsS86.set_1|refine IsS86.far ?_ NB175_174.out _)|exact HI175.out));(case side2=>repeat (first|(with_reducible first|exact HB.out|apply below_alloc|apply pw_below_drewN|apply below_drew1|refine below_set ?_ (IsS86.ge HI175.out)|refine below_set ?_ GE174.out)|exact HB.out));rintro e w18 ⟨rfl,hi,hb,hk⟩;refine ⟨_,rfl,?_⟩;have n0_:=Aside0.mk (KeepBut.blk hk (g':=gb174) (o:=.cells #[.int .u32 0,.slice none 0 0] 25 (0,0)) (by (with_reducible repeat (first|apply blk_drewN|apply blk_drew|apply blk_alloc));exact BK174.out) NB174_175.out (by simp));have n1_:=Aside0.mk (hb);have n2_:=Aside0.mk (hi);clear BK174;clear HB;clear HI175;have BK174:=n0_;have HB:=n1_;have HI175:=n2_;clear n0_ n1_ n2_;(try clear hb);(try clear hb2);(try clear hk);(try clear hi))|((with_reducible refine gate_dst (N:=5) rfl ?_);refine box_event ?hg (N:=5) ?hd (cs:=#[.int .u32 0,.slice none 0 0]) (t:=25) ?hr ?_;(case hd=>rfl);(case hg=>rfl);(case hr=>first|(go_simp;done)|(go_simp;rfl));intro gb179 hg w19 hbox hb;have n0_:=Aside0.mk (blk_below (g:=gb174) (o:=.cells #[.int .u32 0,.slice none 0 0] 25 (0,0)) (by (with_reducible repeat (first|apply blk_drewN|apply blk_drew|apply blk_alloc));exact BK174.out) hb);have n1_:=Aside0.mk (IsS86.below (by repeat (first|(with_reducible first|exact HI175.out|apply IsS86.alloc|apply IsS86.drewN|apply IsS86.drew|apply IsS86.set_0|apply IsS86.set_1|refine IsS86.far ?_ NB175_174.out _)|exact HI175.out)) hb);have n2_:=Aside0.mk (below_step (by repeat (first|(with_reducible first|exact HB.out|apply below_alloc|apply pw_below_drewN|apply below_drew1|refine below_set ?_ (IsS86.ge HI175.out)|refine below_set ?_ GE174.out)|exact HB.out)) hb);have n3_:=Aside0.mk (hbox);have n4_:=Aside0.mk ((by rw [hg];exact (below_size (by repeat (first|(with_reducible first|exact HB.out|apply below_alloc|apply pw_below_drewN|apply below_drew1|refine below_set ?_ (IsS86.ge HI175.out)|refine below_set ?_ GE174.out)|exact HB.out))) : w.heap.size ≤ gb179));have n5_:=Aside0.mk ((by rw [hg];exact (below_size (by repeat (first|(with_reducible first|exact HB.out|apply below_alloc|apply pw_below_drewN|apply below_drew1|refine below_set ?_ (IsS86.ge HI175.out)|refine below_set ?_ GE174.out)|exact HB.out))) : w.heap.size ≤ gb179));have n6_:=Aside0.mk ((by rw [hg];exact Nat.ne_of_lt (blk_lt (g:=gb174) (o:=.cells #[.int .u32 0,.slice none 0 0] 25 (0,0)) (by (with_reducible repeat (first|apply blk_drewN|apply blk_drew|apply blk_alloc));exact BK174.out)) : gb174 ≠ gb179));have n7_:=Aside0.mk ((by rw [hg];exact Nat.ne_of_gt (blk_lt (g:=gb174) (o:=.cells #[.int .u32 0,.slice none 0 0] 25 (0,0)) (by (with_reducible repeat (first|apply blk_drewN|apply blk_drew|apply blk_alloc));exact BK174.out)) : gb179 ≠ gb174));have n8_:=Aside0.mk ((by rw [hg];exact Nat.ne_of_lt (IsS86.lt (show IsS86 w _ gb175 t177 t178 from by repeat (first|(with_reducible first|exact HI175.out|apply IsS86.alloc|apply IsS86.drewN|apply IsS86.drew|apply IsS86.set_0|apply IsS86.set_1|refine IsS86.far ?_ NB175_174.out _)|exact HI175.out))) : gb175 ≠ gb179));have n9_:=Aside0.mk ((by rw [hg];exact Nat.ne_of_gt (IsS86.lt (show IsS86 w _ gb175 t177 t178 from by repeat (first|(with_reducible first|exact HI175.out|apply IsS86.alloc|apply IsS86.drewN|apply IsS86.drew|apply IsS86.set_0|apply IsS86.set_1|refine IsS86.far ?_ NB175_174.out _)|exact HI175.out))) : gb179 ≠ gb175));clear BK174;clear HI175;clear HB;have BK174:=n0_;have HI175:=n1_;have HB:=n2_;have BK179:=n3_;have GW179:=n4_;have GE179:=n5_;have NB174_179:=n6_;have NB179_174:=n7_;have NB175_179:=n8_;have NB179_175:=n9_;clear n0_ n1_ n2_ n3_ n4_ n5_ n6_ n7_ n8_ n9_;clear hb hbox hg;have hnb20:=NB179_174.out;have hnc20:=NB174_179.out;have hnb21:=NB179_175.out;have hnc21:=NB175_179.out;have hcz22_0 : w19.cell? ⟨gb179,0,none⟩ = some (.int .u32 0):=(blk_cell BK179.out 0).trans rfl;have hcz22_1 : w19.cell? ⟨gb179,1,none⟩ = some (.slice none 0 0):=(blk_cell BK179.out 1).trans rfl;have hfz22_0:=blk_frozen BK179.out 0;have hfz22_1:=blk_frozen BK179.out 1)|((with_reducible refine gate_callee (f:=48) rfl ?_);refine goesL_ (some 16) rfl rfl Tryd.func48 (by kernel_rfl) rfl #[.pointer (some ⟨gb175,0,none⟩),.int .i64 2] rfl (by (try simp only [List.map_toArray,List.map_cons,List.map_nil]);first|done|rfl|(simp only [List.length_drop,List.length_take];rfl)|(simp (disch:=first|omega|(simp at *;omega)) only [u64_id,i64_id,u8_id];rfl)) ?_;(with_reducible refine (pack_Taker_Take.calls k gb175 t177 t178 2 t180 t181 t182 w _ ?side1 ?side2 A3.out).mono ?_);(case side1=>repeat (first|(with_reducible first|exact HI175.out|apply IsS86.alloc|apply IsS86.drewN|apply IsS86.drew|apply IsS86.set_0|apply IsS86.set_1|refine IsS86.far ?_ NB175_174.out _|refine IsS86.far ?_ NB175_179.out _)|exact HI175.out));(case side2=>repeat (first|(with_reducible first|exact HB.out|apply below_alloc|apply pw_below_drewN|apply below_drew1|refine below_set ?_ (IsS86.ge HI175.out)|refine below_set ?_ GE174.out|refine below_set ?_ GE179.out)|exact HB.out));rintro e w23 ⟨rfl,hi,hb,hk⟩;refine ⟨_,rfl,?_⟩;have n0_:=Aside0.mk (KeepBut.blk hk (g':=gb174) (o:=.cells #[.int .u32 0,.slice none 0 0] 25 (0,0)) (by (with_reducible repeat (first|apply blk_drewN|apply blk_drew|apply blk_alloc));refine blk_far ?_ NB174_179.out _;(with_reducible repeat (first|apply blk_drewN|apply blk_drew|apply blk_alloc));refine blk_far ?_ NB174_179.out _;(with_reducible repeat (first|apply blk_drewN|apply blk_drew|apply blk_alloc));exact BK174.out) NB174_175.out (by simp));have n1_:=Aside0.mk (KeepBut.blk hk (g':=gb179) (o:=.cells #[.int .u32 ((t176) % 4294967296),.slice none 0 0] 25 (0,0)) (by (with_reducible repeat (first|apply blk_drewN|apply blk_drew|apply blk_alloc));refine blk_put (cs:=#[.int .u32 ((t176) % 4294967296),.slice none 0 0]) ?_ 1 _ rfl;(with_reducible repeat (first|apply blk_drewN|apply blk_drew|apply blk_alloc));refine blk_put (cs:=#[.int .u32 0,.slice none 0 0]) ?_ 0 _ rfl;(with_reducible repeat (first|apply blk_drewN|apply blk_drew|apply blk_alloc));exact BK179.out) NB179_175.out (by simp));have n2_:=Aside0.mk (hb);have n3_:=Aside0.mk (hi);clear BK174;clear BK179;clear HB;clear HI175;have BK174:=n0_;have BK179:=n1_;have HB:=n2_;have HI175:=n3_;clear n0_ n1_ n2_ n3_;(try clear hb);(try clear hb2);(try clear hk);(try clear hi)))
  (try simp only [Act.put,List.setIfInBounds_toArray,List.set_cons_zero,List.set_cons_succ])
  go_cut [] (fun wc=>∃ (kq : Nat) (x176000_14 : ByteArray) (x176001_14 : Int) (x180001_14 : List (S66)) (u180001 : Value),Aside0 (ckone_Decode.j1 kq x176000_14 x176001_14 ((t176) % 4294967296) x180001_14 = some (r1,r2,r3)) ∧ Aside0 (kq ≤ k) ∧ Aside0 (Kd.R k66 66 wc w.heap.size (fun _=>True) u180001 x180001_14) ∧ Aside0 (wc.heap[gb174]? = some (.cells #[.int .u32 0,(.slice none 0 0)] 25 (0,0))) ∧ Aside0 (wc.heap[gb179]? = some (.cells #[.int .u32 ((t176) % 4294967296),u180001] 25 (0,0))) ∧ Aside0 (IsS86 w wc gb175 x176000_14 x176001_14) ∧ Aside0 (Below w.heap.size w wc))
  case first =>
   have H:=HC15.out
   clear HC15
   have H':=Aside0.mk H
   clear H
   go_wp2
   go_loopg [22] k (fun kq v22 w'=>∃ (x22_1 : Int) (x176000_1 : ByteArray) (x176001_1 : Int) (x180001_1 : List (S66)) (u180001 : Value),v22 = .int .i64 x22_1 ∧ Aside0 (ckone_Decode.l0 kq (wrap64 (t180)) x22_1 x176000_1 x176001_1 ((t176) % 4294967296) x180001_1 = some (r1,r2,r3)) ∧ Aside0 (kq ≤ k) ∧ Aside0 (Kd.R k66 66 w' w.heap.size (fun _=>True) u180001 x180001_1) ∧ Aside0 (w'.heap[gb174]? = some (.cells #[.int .u32 0,(.slice none 0 0)] 25 (0,0))) ∧ Aside0 (w'.heap[gb179]? = some (.cells #[.int .u32 ((t176) % 4294967296),u180001] 25 (0,0))) ∧ Aside0 (IsS86 w w' gb175 x176000_1 x176001_1) ∧ Aside0 (Below w.heap.size w w'))
   case atStart=>exact ⟨(0),(t181),(t182),(([] : List (S66))),(.slice none 0 0),(by first|rfl|(simp;done)|(simp [*];done)),H',⟨Nat.le_refl _⟩,⟨by first|exact Kd.R_nil _ _ _ _ _|exact Kd.N_nil _ _ _ _ _|exact Kd.V_nil _ _ _ _ _|exact Kd.Q_nil _ _ _ _ _|exact Kd.S_nil _ _ _ _ _⟩,⟨by (with_reducible repeat (first|apply blk_drewN|apply blk_drew|apply blk_alloc));exact BK174.out⟩,⟨by (with_reducible repeat (first|apply blk_drewN|apply blk_drew|apply blk_alloc));exact BK179.out⟩,⟨by repeat (first|(with_reducible first|exact HI175.out|apply IsS86.alloc|apply IsS86.drewN|apply IsS86.drew|apply IsS86.set_0|apply IsS86.set_1|refine IsS86.far ?_ NB175_174.out _|refine IsS86.far ?_ NB175_179.out _)|exact HI175.out)⟩,⟨by repeat (first|(with_reducible first|exact HB.out|apply below_alloc|apply pw_below_drewN|apply below_drew1|refine below_set ?_ (IsS86.ge HI175.out)|refine below_set ?_ GE174.out|refine below_set ?_ GE179.out)|exact HB.out)⟩⟩
   case round =>
    clear H'
    try clear c1
    try clear c2
    try clear p2
    try clear c4
    try clear c4b0
    try clear p6
    try clear c9
    try clear c10
    try clear c13
    try clear c20
    try clear c21
    try clear hcz11_0
    try clear hcz11_1
    try clear hcz14_0
    try clear hcz14_1
    try clear hcz22_0
    try clear hcz22_1
    try clear hfz11_0
    try clear hfz11_1
    try clear hfz14_0
    try clear hfz14_1
    try clear hfz22_0
    try clear hfz22_1
    obtain ⟨x22_1,x176000_1,x176001_1,x180001_1,u180001,rfl,HA,HK1,HO_180001,BK174,BK179,HI175,HB⟩:=hrel
    cases gk with
    | zero=>exact absurd HA.out (by simp [ckone_Decode.l0])
    | succ k1 =>
     have H:=HA.out
     clear HA
     simp only [ckone_Decode.l0] at H
     by_cases c24 : x22_1 < (wrap64 (t180))
     ·rw [if_pos c24] at H
      have c24b0 : decide (x22_1 < (wrap64 (t180))) = true:=decide_eq_true c24
      clear c24
      (first|rw [c24b0]|(simp only [i64_w,i32_w];rw [c24b0])|skip)
      by_cases c25 : x176001_1 = 0
      ·rw [if_pos c25] at H
       have c25b0 : (x176001_1 == 0) = true:=beq_iff_eq.mpr c25
       have c25b1 : (x176001_1 != 0) = false:=bne_eq_false_iff_eq.mpr c25
       clear c25
       replace H:=Option.bind_eq_some_iff.mp H
       obtain ⟨⟨t183,t184,t185⟩,A260,H⟩:=H
       replace H : ((pack_Taker_Text.f k1 t184 t185).bind fun bt186=>((pack_Taker_Text.f k1 bt186.2.1 bt186.2.2).bind fun bt189=>((pack_Taker_Take.f k1 bt189.2.1 bt189.2.2 1).bind fun bt192=>(if x180001_1.length < 2513169434916 then (ckone_Decode.l0 k1 (wrap64 (t180)) (wrap64 (x22_1 + 1)) bt192.2.1 bt192.2.2 ((t176) % 4294967296) (x180001_1 ++ [(⟨t183,bt186.1,bt189.1,(bt192.1) % 256⟩ : S66)])) else (none))))) = some (r1,r2,r3):=H
       have A26:=Aside0.mk A260
       clear A260
       replace H:=Option.bind_eq_some_iff.mp H
       obtain ⟨⟨t186,t187,t188⟩,A270,H⟩:=H
       replace H : ((pack_Taker_Text.f k1 t187 t188).bind fun bt189=>((pack_Taker_Take.f k1 bt189.2.1 bt189.2.2 1).bind fun bt192=>(if x180001_1.length < 2513169434916 then (ckone_Decode.l0 k1 (wrap64 (t180)) (wrap64 (x22_1 + 1)) bt192.2.1 bt192.2.2 ((t176) % 4294967296) (x180001_1 ++ [(⟨t183,t186,bt189.1,(bt192.1) % 256⟩ : S66)])) else (none)))) = some (r1,r2,r3):=H
       have A27:=Aside0.mk A270
       clear A270
       replace H:=Option.bind_eq_some_iff.mp H
       obtain ⟨⟨t189,t190,t191⟩,A280,H⟩:=H
       replace H : ((pack_Taker_Take.f k1 t190 t191 1).bind fun bt192=>(if x180001_1.length < 2513169434916 then (ckone_Decode.l0 k1 (wrap64 (t180)) (wrap64 (x22_1 + 1)) bt192.2.1 bt192.2.2 ((t176) % 4294967296) (x180001_1 ++ [(⟨t183,t186,t189,(bt192.1) % 256⟩ : S66)])) else (none))) = some (r1,r2,r3):=H
       have A28:=Aside0.mk A280
       clear A280
       replace H:=Option.bind_eq_some_iff.mp H
       obtain ⟨⟨t192,t193,t194⟩,A290,H⟩:=H
       replace H : (if x180001_1.length < 2513169434916 then (ckone_Decode.l0 k1 (wrap64 (t180)) (wrap64 (x22_1 + 1)) t193 t194 ((t176) % 4294967296) (x180001_1 ++ [(⟨t183,t186,t189,(t192) % 256⟩ : S66)])) else (none)) = some (r1,r2,r3):=H
       have A29:=Aside0.mk A290
       clear A290
       by_cases c30 : x180001_1.length < 2513169434916
       ·rw [if_pos c30] at H
        have LMc30:=Aside0.mk c30
        clear c30
        obtain ⟨y195,hy195⟩ : ∃ y_ : List (S66),y_ = (x180001_1 ++ [(⟨t183,t186,t189,(t192) % 256⟩ : S66)]):=⟨_,rfl⟩
        replace H : (ckone_Decode.l0 k1 (wrap64 (t180)) (wrap64 (x22_1 + 1)) t193 t194 ((t176) % 4294967296) y195) = some (r1,r2,r3):=by first|(rw [hy195];with_reducible exact H)|(have H2_:=(Option.bind_some _ _).symm.trans H;rw [hy195];with_reducible exact H2_)|(have H2_:=(Option.bind_some _ _).symm.trans H;with_reducible exact H2_)|with_reducible exact H|(rw [hy195];exact H)|exact H
        have Ny195:=Aside0.mk hy195
        clear hy195
        have H':=Aside0.mk H
        clear H
        obtain ⟨HGz31,hgz31⟩:=HI175.out
        have hcz31_0:=cellS86_0 HGz31
        have hcz31_1:=cellS86_1 HGz31
        have hfz31_0:=blk_frozen HGz31 0
        have hfz31_1:=blk_frozen HGz31 1
        clear HGz31 hgz31
        try go_wp2
        have n0_:=Aside0.mk (Kd.R_drew HO_180001.out)
        have n1_:=Aside0.mk (blk_drew BK174.out)
        have n2_:=Aside0.mk (blk_drew BK179.out)
        have n3_:=Aside0.mk (IsS86.drew HI175.out)
        have n4_:=Aside0.mk (below_drew1 HB.out)
        clear HO_180001
        clear BK174
        clear BK179
        clear HI175
        clear HB
        have HO_180001:=n0_
        have BK174:=n1_
        have BK179:=n2_
        have HI175:=n3_
        have HB:=n4_
        clear n0_ n1_ n2_ n3_ n4_
        refine start_ (n:=16) (S:=fun w'=>w'.cell? ⟨gb179,0,none⟩ = some (.int .u32 ((t176) % 4294967296)) ∧ w'.cell? ⟨gb179,1,none⟩ = some (u180001)) (ds:=[15]) #[false,false,false,false,false,false,false,false,false,false,false,false,false,false,false,false] (by kernel_rfl) rfl rfl ⟨(blk_cell BK179.out 0).trans rfl,(blk_cell BK179.out 1).trans rfl⟩ (fun hHeld=>?_);refine with_tabW ckone_Decode.tab9 ckone_Decode.bits9 (fun HT_ HW_=>?_)
        generalize wr.drew = w32 at HO_180001 BK174 BK179 HI175 HB hHeld ⊢
        refine pure_ (i:=0) (N:=some 29) (v:=?_) (a':=?_) #[true,false,false,false,false,false,false,false,false,false,false,false,false,false,false,false] rfl rfl (any_of HT_.out (by kernel_rfl)) (fun _ _ _ h=>h) (Or.inl ⟨by rfl,?_⟩) ?_ ?_
        rotate_left
        ·intro w'
         go_simp
         with_reducible rfl
        rotate_left
        ·simp only [Act.put,List.setIfInBounds_toArray,List.set_cons_zero,List.set_cons_succ,i64_w,i32_w]
         rfl
        refine pure_ (i:=2) (N:=some 31) (v:=?_) (a':=?_) #[true,false,true,false,false,false,false,false,false,false,false,false,false,false,false,false] rfl rfl (any_of HT_.out (by kernel_rfl)) (fun _ _ _ h=>h) (Or.inl ⟨by rfl,?_⟩) ?_ ?_
        rotate_left
        ·intro w'
         go_simp
         with_reducible rfl
        rotate_left
        ·simp only [Act.put,List.setIfInBounds_toArray,List.set_cons_zero,List.set_cons_succ,i64_w,i32_w]
         rfl
        refine pure_ (i:=4) (N:=some 33) (v:=?_) (a':=?_) #[true,false,true,false,true,false,false,false,false,false,false,false,false,false,false,false] rfl rfl (any_of HT_.out (by kernel_rfl)) (fun _ _ _ h=>h) (Or.inl ⟨by rfl,?_⟩) ?_ ?_
        rotate_left
        ·intro w'
         go_simp
         with_reducible rfl
        rotate_left
        ·simp only [Act.put,List.setIfInBounds_toArray,List.set_cons_zero,List.set_cons_succ,i64_w,i32_w]
         rfl
        refine pure_ (i:=6) (N:=some 35) (v:=?_) (a':=?_) #[true,false,true,false,true,false,true,false,false,false,false,false,false,false,false,false] rfl rfl (any_of HT_.out (by kernel_rfl)) (fun _ _ _ h=>h) (Or.inl ⟨by rfl,?_⟩) ?_ ?_
        rotate_left
        ·intro w'
         go_simp
         with_reducible rfl
        rotate_left
        ·simp only [Act.put,List.setIfInBounds_toArray,List.set_cons_zero,List.set_cons_succ,i64_w,i32_w]
         rfl
        refine pure_ (i:=8) (N:=some 37) (v:=?_) (a':=?_) #[true,false,true,false,true,false,true,false,true,false,false,false,false,false,false,false] rfl rfl (any_of HT_.out (by kernel_rfl)) (fun _ _ _ h=>h) (Or.inl ⟨by rfl,?_⟩) ?_ ?_
        rotate_left
        ·intro w'
         go_simp
         with_reducible rfl
        rotate_left
        ·simp only [Act.put,List.setIfInBounds_toArray,List.set_cons_zero,List.set_cons_succ,i64_w,i32_w]
         rfl
        refine take_ (i:=1) (N:=some 30) (v:=?_) (a':=?_) #[true,true,true,false,true,false,true,false,true,false,false,false,false,false,false,false] rfl rfl (take_ofW HT_.out HW_.out (by kernel_rfl)) (fun _ _ _ h=>h) (Or.inl ⟨by rfl,?_⟩) hHeld ?_ ?_
        rotate_left
        ·rintro w' ⟨s0,s1⟩
         go_simp
         with_reducible rfl
        rotate_left
        ·simp only [Act.put,List.setIfInBounds_toArray,List.set_cons_zero,List.set_cons_succ,i64_w,i32_w]
         rfl
        refine one_ (i:=3) (N:=some 32) #[true,true,true,true,true,false,true,false,true,false,false,false,false,false,false,false] rfl rfl (one_of HT_.out (by kernel_rfl)) (by decide) (fun K hK=>?_)
        refine goes_ Tryd.func49 (by kernel_rfl) rfl #[.pointer (some ⟨gb175,0,none⟩)] (by rfl) rfl rfl (by (try simp only [List.map_toArray,List.map_cons,List.map_nil]);first|done|rfl|(simp only [List.length_drop,List.length_take];rfl)) ?_
        with_reducible refine (pack_Taker_Text.calls k1 gb175 x176000_1 x176001_1 t183 t184 t185 w _ ?side1 ?side2 A26.out).mono ?_
        (case side1=>repeat (first|(with_reducible first|exact HI175.out|apply IsS86.alloc|apply IsS86.drewN|apply IsS86.drew|apply IsS86.set_0|apply IsS86.set_1|refine IsS86.far ?_ NB175_174.out _|refine IsS86.far ?_ NB175_179.out _)|exact HI175.out))
        (case side2=>repeat (first|(with_reducible first|exact HB.out|apply below_alloc|apply pw_below_drewN|apply below_drew1|refine below_set ?_ (IsS86.ge HI175.out)|refine below_set ?_ GE174.out|refine below_set ?_ GE179.out)|exact HB.out))
        rintro e w33 ⟨rfl,hi,hb,hk⟩
        refine ⟨_,rfl,?_⟩
        have n0_:=Aside0.mk (Kd.R_mono (Kd.R_keep (IsS86.apart (show IsS86 w _ gb175 x176000_1 x176001_1 from by repeat (first|(with_reducible first|exact HI175.out|apply IsS86.alloc|apply IsS86.drewN|apply IsS86.drew|apply IsS86.set_0|apply IsS86.set_1|refine IsS86.far ?_ NB175_174.out _|refine IsS86.far ?_ NB175_179.out _)|exact HI175.out)) (by (with_reducible repeat (first|apply Kd.R_alloc|apply Kd.R_drewN|apply Kd.R_drew));exact HO_180001.out) (by decide)) hk (fun _ h=>h.2)) (fun _ h=>h.1))
        have n1_:=Aside0.mk (KeepBut.blk hk (g':=gb174) (o:=.cells #[.int .u32 0,.slice none 0 0] 25 (0,0)) (by (with_reducible repeat (first|apply blk_drewN|apply blk_drew|apply blk_alloc));exact BK174.out) NB174_175.out (by simp))
        have n2_:=Aside0.mk (KeepBut.blk hk (g':=gb179) (o:=.cells #[.int .u32 ((t176) % 4294967296),u180001] 25 (0,0)) (by (with_reducible repeat (first|apply blk_drewN|apply blk_drew|apply blk_alloc));exact BK179.out) NB179_175.out (by simp))
        have n3_:=Aside0.mk (hb)
        have n4_:=Aside0.mk (hi)
        clear HO_180001
        clear BK174
        clear BK179
        clear HB
        clear HI175
        have HO_180001:=n0_
        have BK174:=n1_
        have BK179:=n2_
        have HB:=n3_
        have HI175:=n4_
        clear n0_ n1_ n2_ n3_ n4_
        (try clear hb)
        (try clear hb2)
        (try clear hk)
        (try clear hi)
        refine hK.out _ _ ⟨(blk_cell BK179.out 0).trans rfl,(blk_cell BK179.out 1).trans rfl⟩ (fun hHeld=>?_)
        clear hK K
        refine norm_ (a':=?_) ?_ ?_
        rotate_left
        ·show Act.put _ (some 32) _ = _
         simp only [Act.put,List.setIfInBounds_toArray,List.set_cons_zero,List.set_cons_succ,i64_w,i32_w]
         rfl
        refine one_ (i:=5) (N:=some 34) #[true,true,true,true,true,true,true,false,true,false,false,false,false,false,false,false] rfl rfl (one_of HT_.out (by kernel_rfl)) (by decide) (fun K hK=>?_)
        refine goes_ Tryd.func49 (by kernel_rfl) rfl #[.pointer (some ⟨gb175,0,none⟩)] (by rfl) rfl rfl (by (try simp only [List.map_toArray,List.map_cons,List.map_nil]);first|done|rfl|(simp only [List.length_drop,List.length_take];rfl)) ?_
        with_reducible refine (pack_Taker_Text.calls k1 gb175 t184 t185 t186 t187 t188 w _ ?side1 ?side2 A27.out).mono ?_
        (case side1=>repeat (first|(with_reducible first|exact HI175.out|apply IsS86.alloc|apply IsS86.drewN|apply IsS86.drew|apply IsS86.set_0|apply IsS86.set_1|refine IsS86.far ?_ NB175_174.out _|refine IsS86.far ?_ NB175_179.out _)|exact HI175.out))
        (case side2=>repeat (first|(with_reducible first|exact HB.out|apply below_alloc|apply pw_below_drewN|apply below_drew1|refine below_set ?_ (IsS86.ge HI175.out)|refine below_set ?_ GE174.out|refine below_set ?_ GE179.out)|exact HB.out))
        rintro e w34 ⟨rfl,hi,hb,hk⟩
        refine ⟨_,rfl,?_⟩
        have n0_:=Aside0.mk (Kd.R_mono (Kd.R_keep (IsS86.apart (show IsS86 w _ gb175 t184 t185 from by repeat (first|(with_reducible first|exact HI175.out|apply IsS86.alloc|apply IsS86.drewN|apply IsS86.drew|apply IsS86.set_0|apply IsS86.set_1|refine IsS86.far ?_ NB175_174.out _|refine IsS86.far ?_ NB175_179.out _)|exact HI175.out)) (by (with_reducible repeat (first|apply Kd.R_alloc|apply Kd.R_drewN|apply Kd.R_drew));exact HO_180001.out) (by decide)) hk (fun _ h=>h.2)) (fun _ h=>h.1))
        have n1_:=Aside0.mk (KeepBut.blk hk (g':=gb174) (o:=.cells #[.int .u32 0,.slice none 0 0] 25 (0,0)) (by (with_reducible repeat (first|apply blk_drewN|apply blk_drew|apply blk_alloc));exact BK174.out) NB174_175.out (by simp))
        have n2_:=Aside0.mk (KeepBut.blk hk (g':=gb179) (o:=.cells #[.int .u32 ((t176) % 4294967296),u180001] 25 (0,0)) (by (with_reducible repeat (first|apply blk_drewN|apply blk_drew|apply blk_alloc));exact BK179.out) NB179_175.out (by simp))
        have n3_:=Aside0.mk (hb)
        have n4_:=Aside0.mk (hi)
        clear HO_180001
        clear BK174
        clear BK179
        clear HB
        clear HI175
        have HO_180001:=n0_
        have BK174:=n1_
        have BK179:=n2_
        have HB:=n3_
        have HI175:=n4_
        clear n0_ n1_ n2_ n3_ n4_
        (try clear hb)
        (try clear hb2)
        (try clear hk)
        (try clear hi)
        refine hK.out _ _ ⟨(blk_cell BK179.out 0).trans rfl,(blk_cell BK179.out 1).trans rfl⟩ (fun hHeld=>?_)
        clear hK K
        refine norm_ (a':=?_) ?_ ?_
        rotate_left
        ·show Act.put _ (some 34) _ = _
         simp only [Act.put,List.setIfInBounds_toArray,List.set_cons_zero,List.set_cons_succ,i64_w,i32_w]
         rfl
        refine one_ (i:=7) (N:=some 36) #[true,true,true,true,true,true,true,true,true,false,false,false,false,false,false,false] rfl rfl (one_of HT_.out (by kernel_rfl)) (by decide) (fun K hK=>?_)
        refine goes_ Tryd.func49 (by kernel_rfl) rfl #[.pointer (some ⟨gb175,0,none⟩)] (by rfl) rfl rfl (by (try simp only [List.map_toArray,List.map_cons,List.map_nil]);first|done|rfl|(simp only [List.length_drop,List.length_take];rfl)) ?_
        with_reducible refine (pack_Taker_Text.calls k1 gb175 t187 t188 t189 t190 t191 w _ ?side1 ?side2 A28.out).mono ?_
        (case side1=>repeat (first|(with_reducible first|exact HI175.out|apply IsS86.alloc|apply IsS86.drewN|apply IsS86.drew|apply IsS86.set_0|apply IsS86.set_1|refine IsS86.far ?_ NB175_174.out _|refine IsS86.far ?_ NB175_179.out _)|exact HI175.out))
        (case side2=>repeat (first|(with_reducible first|exact HB.out|apply below_alloc|apply pw_below_drewN|apply below_drew1|refine below_set ?_ (IsS86.ge HI175.out)|refine below_set ?_ GE174.out|refine below_set ?_ GE179.out)|exact HB.out))
        rintro e w35 ⟨rfl,hi,hb,hk⟩
        refine ⟨_,rfl,?_⟩
        have n0_:=Aside0.mk (Kd.R_mono (Kd.R_keep (IsS86.apart (show IsS86 w _ gb175 t187 t188 from by repeat (first|(with_reducible first|exact HI175.out|apply IsS86.alloc|apply IsS86.drewN|apply IsS86.drew|apply IsS86.set_0|apply IsS86.set_1|refine IsS86.far ?_ NB175_174.out _|refine IsS86.far ?_ NB175_179.out _)|exact HI175.out)) (by (with_reducible repeat (first|apply Kd.R_alloc|apply Kd.R_drewN|apply Kd.R_drew));exact HO_180001.out) (by decide)) hk (fun _ h=>h.2)) (fun _ h=>h.1))
        have n1_:=Aside0.mk (KeepBut.blk hk (g':=gb174) (o:=.cells #[.int .u32 0,.slice none 0 0] 25 (0,0)) (by (with_reducible repeat (first|apply blk_drewN|apply blk_drew|apply blk_alloc));exact BK174.out) NB174_175.out (by simp))
        have n2_:=Aside0.mk (KeepBut.blk hk (g':=gb179) (o:=.cells #[.int .u32 ((t176) % 4294967296),u180001] 25 (0,0)) (by (with_reducible repeat (first|apply blk_drewN|apply blk_drew|apply blk_alloc));exact BK179.out) NB179_175.out (by simp))
        have n3_:=Aside0.mk (hb)
        have n4_:=Aside0.mk (hi)
        clear HO_180001
        clear BK174
        clear BK179
        clear HB
        clear HI175
        have HO_180001:=n0_
        have BK174:=n1_
        have BK179:=n2_
        have HB:=n3_
        have HI175:=n4_
        clear n0_ n1_ n2_ n3_ n4_
        (try clear hb)
        (try clear hb2)
        (try clear hk)
        (try clear hi)
        refine hK.out _ _ ⟨(blk_cell BK179.out 0).trans rfl,(blk_cell BK179.out 1).trans rfl⟩ (fun hHeld=>?_)
        clear hK K
        refine norm_ (a':=?_) ?_ ?_
        rotate_left
        ·show Act.put _ (some 36) _ = _
         simp only [Act.put,List.setIfInBounds_toArray,List.set_cons_zero,List.set_cons_succ,i64_w,i32_w]
         rfl
        refine one_ (i:=9) (N:=some 38) #[true,true,true,true,true,true,true,true,true,true,false,false,false,false,false,false] rfl rfl (one_of HT_.out (by kernel_rfl)) (by decide) (fun K hK=>?_)
        refine goes_ Tryd.func48 (by kernel_rfl) rfl #[.pointer (some ⟨gb175,0,none⟩),.int .i64 1] (by rfl) rfl rfl (by (try simp only [List.map_toArray,List.map_cons,List.map_nil]);first|done|rfl|(simp only [List.length_drop,List.length_take];rfl)) ?_
        with_reducible refine (pack_Taker_Take.calls k1 gb175 t190 t191 1 t192 t193 t194 w _ ?side1 ?side2 A29.out).mono ?_
        (case side1=>repeat (first|(with_reducible first|exact HI175.out|apply IsS86.alloc|apply IsS86.drewN|apply IsS86.drew|apply IsS86.set_0|apply IsS86.set_1|refine IsS86.far ?_ NB175_174.out _|refine IsS86.far ?_ NB175_179.out _)|exact HI175.out))
        (case side2=>repeat (first|(with_reducible first|exact HB.out|apply below_alloc|apply pw_below_drewN|apply below_drew1|refine below_set ?_ (IsS86.ge HI175.out)|refine below_set ?_ GE174.out|refine below_set ?_ GE179.out)|exact HB.out))
        rintro e w36 ⟨rfl,hi,hb,hk⟩
        refine ⟨_,rfl,?_⟩
        have n0_:=Aside0.mk (Kd.R_mono (Kd.R_keep (IsS86.apart (show IsS86 w _ gb175 t190 t191 from by repeat (first|(with_reducible first|exact HI175.out|apply IsS86.alloc|apply IsS86.drewN|apply IsS86.drew|apply IsS86.set_0|apply IsS86.set_1|refine IsS86.far ?_ NB175_174.out _|refine IsS86.far ?_ NB175_179.out _)|exact HI175.out)) (by (with_reducible repeat (first|apply Kd.R_alloc|apply Kd.R_drewN|apply Kd.R_drew));exact HO_180001.out) (by decide)) hk (fun _ h=>h.2)) (fun _ h=>h.1))
        have n1_:=Aside0.mk (KeepBut.blk hk (g':=gb174) (o:=.cells #[.int .u32 0,.slice none 0 0] 25 (0,0)) (by (with_reducible repeat (first|apply blk_drewN|apply blk_drew|apply blk_alloc));exact BK174.out) NB174_175.out (by simp))
        have n2_:=Aside0.mk (KeepBut.blk hk (g':=gb179) (o:=.cells #[.int .u32 ((t176) % 4294967296),u180001] 25 (0,0)) (by (with_reducible repeat (first|apply blk_drewN|apply blk_drew|apply blk_alloc));exact BK179.out) NB179_175.out (by simp))
        have n3_:=Aside0.mk (hb)
        have n4_:=Aside0.mk (hi)
        clear HO_180001
        clear BK174
        clear BK179
        clear HB
        clear HI175
        have HO_180001:=n0_
        have BK174:=n1_
        have BK179:=n2_
        have HB:=n3_
        have HI175:=n4_
        clear n0_ n1_ n2_ n3_ n4_
        (try clear hb)
        (try clear hb2)
        (try clear hk)
        (try clear hi)
        refine hK.out _ _ ⟨(blk_cell BK179.out 0).trans rfl,(blk_cell BK179.out 1).trans rfl⟩ (fun hHeld=>?_)
        clear hK K
        refine norm_ (a':=?_) ?_ ?_
        rotate_left
        ·show Act.put _ (some 38) _ = _
         simp only [Act.put,List.setIfInBounds_toArray,List.set_cons_zero,List.set_cons_succ,i64_w,i32_w]
         rfl
        refine pure_ (i:=10) (N:=some 39) (v:=?_) (a':=?_) #[true,true,true,true,true,true,true,true,true,true,true,false,false,false,false,false] rfl rfl (any_of HT_.out (by kernel_rfl)) (fun _ _ _ h=>h) (Or.inl ⟨by rfl,?_⟩) ?_ ?_
        rotate_left
        ·intro w'
         go_simp
         with_reducible rfl
        rotate_left
        ·simp only [Act.put,List.setIfInBounds_toArray,List.set_cons_zero,List.set_cons_succ,i64_w,i32_w]
         rfl
        refine pure_ (i:=11) (N:=some 40) (v:=?_) (a':=?_) #[true,true,true,true,true,true,true,true,true,true,true,true,false,false,false,false] rfl rfl (any_of HT_.out (by kernel_rfl)) (fun _ _ _ h=>h) (Or.inl ⟨by rfl,?_⟩) ?_ ?_
        rotate_left
        ·intro w'
         go_simp
         with_reducible rfl
        rotate_left
        ·simp only [Act.put,List.setIfInBounds_toArray,List.set_cons_zero,List.set_cons_succ,i64_w,i32_w]
         rfl
        refine one_ (i:=12) (N:=some 41) #[true,true,true,true,true,true,true,true,true,true,true,true,true,false,false,false] rfl rfl (one_of HT_.out (by kernel_rfl)) (by decide) (fun K hK=>?_)
        refine value_ (w1:=?_) (v:=?_) (by rfl) rfl ?_ ?_
        rotate_left 2
        ·go_simp
         constructor
         ·rfl
         ·rfl
        refine hK.out _ _ ⟨(blk_cell (blk_alloc BK179.out _) 0).trans rfl,(blk_cell (blk_alloc BK179.out _) 1).trans rfl⟩ (fun hHeld=>?_)
        clear hK K
        refine norm_ (a':=?_) ?_ ?_
        rotate_left
        ·show Act.put _ (some 41) _ = _
         simp only [Act.put,List.setIfInBounds_toArray,List.set_cons_zero,List.set_cons_succ,i64_w,i32_w]
         rfl
        refine one_ (i:=13) (N:=some 42) #[true,true,true,true,true,true,true,true,true,true,true,true,true,true,false,false] rfl rfl (one_of HT_.out (by kernel_rfl)) (by decide) (fun K hK=>?_)
        refine Kd.R_append_step k66 (w0:=w) w.heap.size (by rfl) (.tmp 30) (.tmp 41) 23 66 (.agg #[(.string ⟨#[]⟩),(.string ⟨#[]⟩),(.string ⟨#[]⟩),(.int .u8 0)]) 56 rfl Tryd.underlying23 info66 rfl (by decide) (by omega) u180001 x180001_1 (⟨t183,t186,t189,(t192) % 256⟩ : S66) [.string t183,.string t186,.string t189,.int .u8 ((t192) % 256)] (fun _=>True) (fun _=>False) rfl rfl ?aP (fun _ hk=>hk.elim) ?aF ?aO ?aB ?aS ?aL ?_
        (case aP=>exact k66_mkM _ _ _ (⟨t183,t186,t189,(t192) % 256⟩ : S66))
        (case aB=>exact (by repeat (first|(with_reducible first|exact HB.out|apply below_alloc|apply pw_below_drewN|apply below_drew1|refine below_set ?_ (IsS86.ge HI175.out)|refine below_set ?_ GE174.out|refine below_set ?_ GE179.out)|exact HB.out)))
        (case aF=>exact (fun _ _=>trivial))
        (case aO=>exact (by (with_reducible repeat (first|apply Kd.R_alloc|apply Kd.R_drewN|apply Kd.R_drew));exact HO_180001.out))
        (case aS=>exact (below_size (by repeat (first|(with_reducible first|exact HB.out|apply below_alloc|apply pw_below_drewN|apply below_drew1|refine below_set ?_ (IsS86.ge HI175.out)|refine below_set ?_ GE174.out|refine below_set ?_ GE179.out)|exact HB.out))))
        (case aL=>have:=LMc30.out;omega)
        intro v196 w37 ho hb hg hat
        rw [← Ny195.out] at ho
        have n0_:=Aside0.mk (blk_grown (g:=gb174) (o:=.cells #[.int .u32 0,.slice none 0 0] 25 (0,0)) (by (with_reducible repeat (first|apply blk_drewN|apply blk_drew|apply blk_alloc));exact BK174.out) hg (Kd.R_ne HO_180001.out BK174.out (by decide)))
        have n1_:=Aside0.mk (blk_grown (g:=gb179) (o:=.cells #[.int .u32 ((t176) % 4294967296),u180001] 25 (0,0)) (by (with_reducible repeat (first|apply blk_drewN|apply blk_drew|apply blk_alloc));exact BK179.out) hg (Kd.R_ne HO_180001.out BK179.out (by decide)))
        have n2_:=Aside0.mk (IsS86.grown (by repeat (first|(with_reducible first|exact HI175.out|apply IsS86.alloc|apply IsS86.drewN|apply IsS86.drew|apply IsS86.set_0|apply IsS86.set_1|refine IsS86.far ?_ NB175_174.out _|refine IsS86.far ?_ NB175_179.out _)|exact HI175.out)) hg (IsS86.own_ne HI175.out HO_180001.out (by decide)))
        have n3_:=Aside0.mk (hb)
        have n4_:=Aside0.mk (ho)
        clear BK174
        clear BK179
        clear HI175
        clear HB
        clear HO_180001
        have BK174:=n0_
        have BK179:=n1_
        have HI175:=n2_
        have HB:=n3_
        have HO197:=n4_
        clear n0_ n1_ n2_ n3_ n4_
        clear ho hb hg hat
        obtain ⟨Ao38,co38,eo38⟩:=Kd.R_slice HO197.out
        (first|subst eo38|(injection eo38 with f1_ f2_ f3_;have f4_:=f1_.symm;have f5_:=f3_.symm;clear f1_ f2_ f3_;subst f4_;subst f5_))
        refine hK.out _ _ ⟨(blk_cell BK179.out 0).trans rfl,(blk_cell BK179.out 1).trans rfl⟩ (fun hHeld=>?_)
        clear hK K
        refine norm_ (a':=?_) ?_ ?_
        rotate_left
        ·show Act.put _ (some 42) _ = _
         simp only [Act.put,List.setIfInBounds_toArray,List.set_cons_zero,List.set_cons_succ,i64_w,i32_w]
         rfl
        refine pure_ (i:=14) (N:=some 43) (v:=?_) (a':=?_) #[true,true,true,true,true,true,true,true,true,true,true,true,true,true,true,false] rfl rfl (any_of HT_.out (by kernel_rfl)) (fun _ _ _ h=>h) (Or.inl ⟨by rfl,?_⟩) ?_ ?_
        rotate_left
        ·intro w'
         go_simp
         with_reducible rfl
        rotate_left
        ·simp only [Act.put,List.setIfInBounds_toArray,List.set_cons_zero,List.set_cons_succ,i64_w,i32_w]
         rfl
        refine last_ (i:=15) (N:=none) #[true,true,true,true,true,true,true,true,true,true,true,true,true,true,true,true] rfl rfl (one_of HT_.out (by kernel_rfl)) (by decide) (fun K hK=>?_)
        have hs39 : w37.cell? ⟨gb179,1,none⟩ = some (u180001):=(blk_cell BK179.out 1).trans rfl
        have hfs39:=blk_frozen BK179.out 1
        have hns39_0:=NB174_179.out
        have hms39_0:=NB179_174.out
        refine skip_ (w1:=?_) (by rfl) rfl ?_ ?_
        rotate_left
        ·go_simp
         rfl
        refine hK.out _ _ ?_
        clear hK K
        refine done_ (done_of HT_.out (by kernel_rfl)) ?_
        try go_wp2
        go_roundg k1
        case measure=>have:=HK1.out;omega
        case rel=>exact ⟨(wrap64 (x22_1 + 1)),(t193),(t194),(y195),(.slice Ao38 y195.length co38),(by first|rfl|(simp;done)|(simp [*];done)),H',⟨by have:=HK1.out;omega⟩,⟨by (with_reducible repeat (first|apply Kd.R_alloc|apply Kd.R_drewN|apply Kd.R_drew));exact Kd.R_mono (Kd.R_far (p:=⟨gb179,1,none⟩) (Kd.R_types HO197.out BK179.out (by decide)) (fun _ hk=>hk.2) (.slice Ao38 y195.length co38)) (fun _ hk=>trivial)⟩,⟨by (with_reducible repeat (first|apply blk_drewN|apply blk_drew|apply blk_alloc));refine blk_far ?_ NB174_179.out _;(with_reducible repeat (first|apply blk_drewN|apply blk_drew|apply blk_alloc));exact BK174.out⟩,⟨by (with_reducible repeat (first|apply blk_drewN|apply blk_drew|apply blk_alloc));refine blk_put (cs:=#[.int .u32 ((t176) % 4294967296),u180001]) ?_ 1 _ rfl;(with_reducible repeat (first|apply blk_drewN|apply blk_drew|apply blk_alloc));exact BK179.out⟩,⟨by repeat (first|(with_reducible first|exact HI175.out|apply IsS86.alloc|apply IsS86.drewN|apply IsS86.drew|apply IsS86.set_0|apply IsS86.set_1|refine IsS86.far ?_ NB175_174.out _|refine IsS86.far ?_ NB175_179.out _)|exact HI175.out)⟩,⟨by repeat (first|(with_reducible first|exact HB.out|apply below_alloc|apply pw_below_drewN|apply below_drew1|refine below_set ?_ (IsS86.ge HI175.out)|refine below_set ?_ GE174.out|refine below_set ?_ GE179.out)|exact HB.out)⟩⟩
       ·rw [if_neg c30] at H
        exact absurd H (by simp)
      ·rw [if_neg c25] at H
       have c25b0 : (x176001_1 == 0) = false:=beq_eq_false_iff_ne.mpr c25
       have c25b1 : (x176001_1 != 0) = true:=bne_iff_ne.mpr c25
       have H':=Aside0.mk H
       clear H
       obtain ⟨HGz40,hgz40⟩:=HI175.out
       have hcz40_0:=cellS86_0 HGz40
       have hcz40_1:=cellS86_1 HGz40
       have hfz40_0:=blk_frozen HGz40 0
       have hfz40_1:=blk_frozen HGz40 1
       clear HGz40 hgz40
       go_wp2
       go_meet
       case rel=>exact ⟨_,(x176000_1),(x176001_1),(x180001_1),(u180001),H',⟨by have:=HK1.out;first|omega|exact Nat.le_refl _⟩,⟨by (with_reducible repeat (first|apply Kd.R_alloc|apply Kd.R_drewN|apply Kd.R_drew));exact HO_180001.out⟩,⟨by (with_reducible repeat (first|apply blk_drewN|apply blk_drew|apply blk_alloc));exact BK174.out⟩,⟨by (with_reducible repeat (first|apply blk_drewN|apply blk_drew|apply blk_alloc));exact BK179.out⟩,⟨by repeat (first|(with_reducible first|exact HI175.out|apply IsS86.alloc|apply IsS86.drewN|apply IsS86.drew|apply IsS86.set_0|apply IsS86.set_1|refine IsS86.far ?_ NB175_174.out _|refine IsS86.far ?_ NB175_179.out _)|exact HI175.out)⟩,⟨by repeat (first|(with_reducible first|exact HB.out|apply below_alloc|apply pw_below_drewN|apply below_drew1|refine below_set ?_ (IsS86.ge HI175.out)|refine below_set ?_ GE174.out|refine below_set ?_ GE179.out)|exact HB.out)⟩⟩
     ·rw [if_neg c24] at H
      have c24b0 : decide (x22_1 < (wrap64 (t180))) = false:=decide_eq_false c24
      clear c24
      (first|rw [c24b0]|(simp only [i64_w,i32_w];rw [c24b0])|skip)
      have H':=Aside0.mk H
      clear H
      go_wp2
      go_meet
      case rel=>exact ⟨_,(x176000_1),(x176001_1),(x180001_1),(u180001),H',⟨by have:=HK1.out;first|omega|exact Nat.le_refl _⟩,⟨by (with_reducible repeat (first|apply Kd.R_alloc|apply Kd.R_drewN|apply Kd.R_drew));exact HO_180001.out⟩,⟨by (with_reducible repeat (first|apply blk_drewN|apply blk_drew|apply blk_alloc));exact BK174.out⟩,⟨by (with_reducible repeat (first|apply blk_drewN|apply blk_drew|apply blk_alloc));exact BK179.out⟩,⟨by repeat (first|(with_reducible first|exact HI175.out|apply IsS86.alloc|apply IsS86.drewN|apply IsS86.drew|apply IsS86.set_0|apply IsS86.set_1|refine IsS86.far ?_ NB175_174.out _|refine IsS86.far ?_ NB175_179.out _)|exact HI175.out)⟩,⟨by repeat (first|(with_reducible first|exact HB.out|apply below_alloc|apply pw_below_drewN|apply below_drew1|refine below_set ?_ (IsS86.ge HI175.out)|refine below_set ?_ GE174.out|refine below_set ?_ GE179.out)|exact HB.out)⟩⟩
  case rest =>
   clear HC15
   try clear c1
   try clear c2
   try clear p2
   try clear c3
   try clear c4
   try clear c4b0
   try clear p6
   try clear c9
   try clear c10
   try clear c13
   try clear c20
   try clear c21
   try clear c24
   try clear c24b0
   try clear c25
   try clear c25b0
   try clear c25b1
   try clear c30
   try clear hcz11_0
   try clear hcz11_1
   try clear hcz14_0
   try clear hcz14_1
   try clear hcz22_0
   try clear hcz22_1
   try clear hcz31_0
   try clear hcz31_1
   try clear hcz40_0
   try clear hcz40_1
   try clear hfz11_0
   try clear hfz11_1
   try clear hfz14_0
   try clear hfz14_1
   try clear hfz22_0
   try clear hfz22_1
   try clear hfz31_0
   try clear hfz31_1
   try clear hfz40_0
   try clear hfz40_1
   try clear p2
   try clear p6
   obtain ⟨kq,x176000_14,x176001_14,x180001_14,u180001,HA,HJ14,HO_180001,BK174,BK179,HI175,HB⟩:=hcut
   cases kq with
   | zero=>exact absurd HA.out (by simp [ckone_Decode.j1])
   | succ kj14 =>
    have H:=HA.out
    clear HA
    simp only [ckone_Decode.j1] at H
    replace H:=Option.bind_eq_some_iff.mp H
    obtain ⟨⟨t198,t199,t200⟩,A410,H⟩:=H
    replace H : (if t198 = 0 then ((ckone_State_Check.f kj14 ((t176) % 4294967296) x180001_14).bind fun t201=>(if t201 = 0 then (some (((t176) % 4294967296),x180001_14,0)) else (some (0,([] : List (S66)),t201)))) else (some (0,([] : List (S66)),t198))) = some (r1,r2,r3):=H
    have A41:=Aside0.mk A410
    clear A410
    by_cases c42 : t198 = 0
    ·rw [if_pos c42] at H
     have c42b0 : (t198 == 0) = true:=beq_iff_eq.mpr c42
     have c42b1 : (t198 != 0) = false:=bne_eq_false_iff_eq.mpr c42
     clear c42
     replace H:=Option.bind_eq_some_iff.mp H
     obtain ⟨t201,A430,H⟩:=H
     replace H : (if t201 = 0 then (some (((t176) % 4294967296),x180001_14,0)) else (some (0,([] : List (S66)),t201))) = some (r1,r2,r3):=H
     have A43:=Aside0.mk A430
     clear A430
     by_cases c44 : t201 = 0
     ·rw [if_pos c44] at H
      have c44b0 : (t201 == 0) = true:=beq_iff_eq.mpr c44
      have c44b1 : (t201 != 0) = false:=bne_eq_false_iff_eq.mpr c44
      clear c44
      simp only [Option.some.injEq,Prod.mk.injEq] at H
      obtain ⟨rfl,rfl,rfl⟩:=H
      go_wp2_with (first|((with_reducible refine gate_callee (f:=50) rfl ?_);refine goesL_ (some 46) rfl rfl Tryd.func50 (by kernel_rfl) rfl #[.pointer (some ⟨gb175,0,none⟩)] rfl (by (try simp only [List.map_toArray,List.map_cons,List.map_nil]);first|done|rfl|(simp only [List.length_drop,List.length_take];rfl)|(simp (disch:=first|omega|(simp at *;omega)) only [u64_id,i64_id,u8_id];rfl)) ?_;(with_reducible refine (pack_Taker_End.calls gb175 x176000_14 x176001_14 t198 t199 t200 w _ ?side1 ?side2 A41.out).mono ?_);(case side1=>repeat (first|(with_reducible first|exact HI175.out|apply IsS86.alloc|apply IsS86.drewN|apply IsS86.drew|apply IsS86.set_0|apply IsS86.set_1|refine IsS86.far ?_ NB175_174.out _|refine IsS86.far ?_ NB175_179.out _)|exact HI175.out));(case side2=>repeat (first|(with_reducible first|exact HB.out|apply below_alloc|apply pw_below_drewN|apply below_drew1|refine below_set ?_ (IsS86.ge HI175.out)|refine below_set ?_ GE174.out|refine below_set ?_ GE179.out)|exact HB.out));rintro e w45 ⟨rfl,hi,hb,hk⟩;refine ⟨_,rfl,?_⟩;have n0_:=Aside0.mk (Kd.R_mono (Kd.R_keep (IsS86.apart (show IsS86 w _ gb175 x176000_14 x176001_14 from by repeat (first|(with_reducible first|exact HI175.out|apply IsS86.alloc|apply IsS86.drewN|apply IsS86.drew|apply IsS86.set_0|apply IsS86.set_1|refine IsS86.far ?_ NB175_174.out _|refine IsS86.far ?_ NB175_179.out _)|exact HI175.out)) (by (with_reducible repeat (first|apply Kd.R_alloc|apply Kd.R_drewN|apply Kd.R_drew));exact HO_180001.out) (by decide)) hk (fun _ h=>h.2)) (fun _ h=>h.1));have n1_:=Aside0.mk (KeepBut.blk hk (g':=gb174) (o:=.cells #[.int .u32 0,.slice none 0 0] 25 (0,0)) (by (with_reducible repeat (first|apply blk_drewN|apply blk_drew|apply blk_alloc));exact BK174.out) NB174_175.out (by simp));have n2_:=Aside0.mk (KeepBut.blk hk (g':=gb179) (o:=.cells #[.int .u32 ((t176) % 4294967296),u180001] 25 (0,0)) (by (with_reducible repeat (first|apply blk_drewN|apply blk_drew|apply blk_alloc));exact BK179.out) NB179_175.out (by simp));have n3_:=Aside0.mk (hb);have n4_:=Aside0.mk (hi);clear HO_180001;clear BK174;clear BK179;clear HB;clear HI175;have HO_180001:=n0_;have BK174:=n1_;have BK179:=n2_;have HB:=n3_;have HI175:=n4_;clear n0_ n1_ n2_ n3_ n4_;(try clear hb);(try clear hb2);(try clear hk);(try clear hi);have hnb46:=NB179_174.out;have hnc46:=NB174_179.out;have hnb47:=NB179_175.out;have hnc47:=NB175_179.out;have hcz48_0 : w45.cell? ⟨gb179,0,none⟩ = some (.int .u32 ((t176) % 4294967296)):=(blk_cell BK179.out 0).trans rfl;have hcz48_1 : w45.cell? ⟨gb179,1,none⟩ = some (u180001):=(blk_cell BK179.out 1).trans rfl;have hfz48_0:=blk_frozen BK179.out 0;have hfz48_1:=blk_frozen BK179.out 1;obtain ⟨Ao49,co49,eo49⟩:=Kd.R_slice HO_180001.out;subst eo49)|((with_reducible refine gate_callee (f:=14) rfl ?_);refine goesL_ (some 50) rfl rfl Tryd.func14 (by kernel_rfl) rfl #[.agg #[.int .u32 ((t176) % 4294967296),.slice Ao49 x180001_14.length co49]] rfl (by (try simp only [List.map_toArray,List.map_cons,List.map_nil]);first|done|rfl|(simp only [List.length_drop,List.length_take];rfl)|(simp (disch:=first|omega|(simp at *;omega)) only [u64_id,i64_id,u8_id];rfl)) ?_;(with_reducible refine (ckone_State_Check.calls kj14 ((t176) % 4294967296) _ _ x180001_14 t201 _ ?side1 ?side2 A43.out).mono ?_);(case side1=>repeat (first|exact (Kd.R_reads' HO_180001.out).2.2|(with_reducible refine Kd.C_alloc ?_ _)|(with_reducible refine Kd.C_drewN ?_ _)|(with_reducible refine Kd.C_drew ?_)));(case side2=>exact (Kd.R_reads' HO_180001.out).2.1);rintro e w50 ⟨rfl,hb⟩;refine ⟨_,rfl,?_⟩;have n0_:=Aside0.mk (Kd.R_below (by (with_reducible repeat (first|apply Kd.R_alloc|apply Kd.R_drewN|apply Kd.R_drew));exact HO_180001.out) hb);have n1_:=Aside0.mk (blk_below (g:=gb174) (o:=.cells #[.int .u32 0,.slice none 0 0] 25 (0,0)) (by (with_reducible repeat (first|apply blk_drewN|apply blk_drew|apply blk_alloc));exact BK174.out) hb);have n2_:=Aside0.mk (blk_below (g:=gb179) (o:=.cells #[.int .u32 ((t176) % 4294967296),.slice Ao49 x180001_14.length co49] 25 (0,0)) (by (with_reducible repeat (first|apply blk_drewN|apply blk_drew|apply blk_alloc));exact BK179.out) hb);have n3_:=Aside0.mk (IsS86.below (by repeat (first|(with_reducible first|exact HI175.out|apply IsS86.alloc|apply IsS86.drewN|apply IsS86.drew|apply IsS86.set_0|apply IsS86.set_1|refine IsS86.far ?_ NB175_174.out _|refine IsS86.far ?_ NB175_179.out _)|exact HI175.out)) hb);have n4_:=Aside0.mk (below_step (by repeat (first|(with_reducible first|exact HB.out|apply below_alloc|apply pw_below_drewN|apply below_drew1|refine below_set ?_ (IsS86.ge HI175.out)|refine below_set ?_ GE174.out|refine below_set ?_ GE179.out)|exact HB.out)) hb);clear HO_180001;clear BK174;clear BK179;clear HI175;clear HB;have HO_180001:=n0_;have BK174:=n1_;have BK179:=n2_;have HI175:=n3_;have HB:=n4_;clear n0_ n1_ n2_ n3_ n4_;(try clear hb);(try clear hb2);(try clear hk);(try clear hi);have hcz51_0 : w50.cell? ⟨gb179,0,none⟩ = some (.int .u32 ((t176) % 4294967296)):=(blk_cell BK179.out 0).trans rfl;have hcz51_1 : w50.cell? ⟨gb179,1,none⟩ = some (.slice Ao49 x180001_14.length co49):=(blk_cell BK179.out 1).trans rfl;have hfz51_0:=blk_frozen BK179.out 0;have hfz51_1:=blk_frozen BK179.out 1;have hnb52:=NB174_175.out;have hnc52:=NB175_174.out;have hcz53_0 : w50.cell? ⟨gb174,0,none⟩ = some (.int .u32 0):=(blk_cell BK174.out 0).trans rfl;have hcz53_1 : w50.cell? ⟨gb174,1,none⟩ = some (.slice none 0 0):=(blk_cell BK174.out 1).trans rfl;have hfz53_0:=blk_frozen BK174.out 0;have hfz53_1:=blk_frozen BK174.out 1))
      refine bodyPost_ret (results_ct rfl _ _ gb174 25 #[.int .u32 ((t176) % 4294967296),.slice Ao49 x180001_14.length co49] (0,0) _ rfl (by (with_reducible repeat (first|apply blk_drewN|apply blk_drew|apply blk_alloc));refine blk_put (cs:=#[.int .u32 ((t176) % 4294967296),.slice none 0 0]) ?_ 1 _ rfl;(with_reducible repeat (first|apply blk_drewN|apply blk_drew|apply blk_alloc));refine blk_put (cs:=#[.int .u32 0,.slice none 0 0]) ?_ 0 _ rfl;(with_reducible repeat (first|apply blk_drewN|apply blk_drew|apply blk_alloc));exact BK174.out) Tryd.underlying25 rfl (by kernel_rfl)) rfl ?_
      exact ⟨_,by first|rfl|(simp [errW_none,errW_some] <;> rfl)|(simp [*,errW_none,errW_some] <;> rfl),by (with_reducible repeat (first|apply Kd.R_alloc|apply Kd.R_drewN|apply Kd.R_drew));exact Kd.R_mono (Kd.R_far (p:=⟨gb174,1,none⟩) (Kd.R_far (p:=⟨gb174,0,none⟩) (Kd.R_types HO_180001.out BK174.out (by decide)) (fun _ hk=>hk.2) (.int .u32 ((t176) % 4294967296))) (fun _ hk=>hk.2) (.slice Ao49 x180001_14.length co49)) (fun _ hk=>trivial),by repeat (first|(with_reducible first|exact HB.out|apply below_alloc|apply pw_below_drewN|apply below_drew1|refine below_set ?_ (IsS86.ge HI175.out)|refine below_set ?_ GE174.out|refine below_set ?_ GE179.out)|exact HB.out)⟩
     ·rw [if_neg c44] at H
      have c44b0 : (t201 == 0) = false:=beq_eq_false_iff_ne.mpr c44
      have c44b1 : (t201 != 0) = true:=bne_iff_ne.mpr c44
      simp only [Option.some.injEq,Prod.mk.injEq] at H
      obtain ⟨rfl,rfl,rfl⟩:=H
      go_wp2_with (first|((with_reducible refine gate_callee (f:=50) rfl ?_);refine goesL_ (some 46) rfl rfl Tryd.func50 (by kernel_rfl) rfl #[.pointer (some ⟨gb175,0,none⟩)] rfl (by (try simp only [List.map_toArray,List.map_cons,List.map_nil]);first|done|rfl|(simp only [List.length_drop,List.length_take];rfl)|(simp (disch:=first|omega|(simp at *;omega)) only [u64_id,i64_id,u8_id];rfl)) ?_;(with_reducible refine (pack_Taker_End.calls gb175 x176000_14 x176001_14 t198 t199 t200 w _ ?side1 ?side2 A41.out).mono ?_);(case side1=>repeat (first|(with_reducible first|exact HI175.out|apply IsS86.alloc|apply IsS86.drewN|apply IsS86.drew|apply IsS86.set_0|apply IsS86.set_1|refine IsS86.far ?_ NB175_174.out _|refine IsS86.far ?_ NB175_179.out _)|exact HI175.out));(case side2=>repeat (first|(with_reducible first|exact HB.out|apply below_alloc|apply pw_below_drewN|apply below_drew1|refine below_set ?_ (IsS86.ge HI175.out)|refine below_set ?_ GE174.out|refine below_set ?_ GE179.out)|exact HB.out));rintro e w54 ⟨rfl,hi,hb,hk⟩;refine ⟨_,rfl,?_⟩;have n0_:=Aside0.mk (Kd.R_mono (Kd.R_keep (IsS86.apart (show IsS86 w _ gb175 x176000_14 x176001_14 from by repeat (first|(with_reducible first|exact HI175.out|apply IsS86.alloc|apply IsS86.drewN|apply IsS86.drew|apply IsS86.set_0|apply IsS86.set_1|refine IsS86.far ?_ NB175_174.out _|refine IsS86.far ?_ NB175_179.out _)|exact HI175.out)) (by (with_reducible repeat (first|apply Kd.R_alloc|apply Kd.R_drewN|apply Kd.R_drew));exact HO_180001.out) (by decide)) hk (fun _ h=>h.2)) (fun _ h=>h.1));have n1_:=Aside0.mk (KeepBut.blk hk (g':=gb174) (o:=.cells #[.int .u32 0,.slice none 0 0] 25 (0,0)) (by (with_reducible repeat (first|apply blk_drewN|apply blk_drew|apply blk_alloc));exact BK174.out) NB174_175.out (by simp));have n2_:=Aside0.mk (KeepBut.blk hk (g':=gb179) (o:=.cells #[.int .u32 ((t176) % 4294967296),u180001] 25 (0,0)) (by (with_reducible repeat (first|apply blk_drewN|apply blk_drew|apply blk_alloc));exact BK179.out) NB179_175.out (by simp));have n3_:=Aside0.mk (hb);have n4_:=Aside0.mk (hi);clear HO_180001;clear BK174;clear BK179;clear HB;clear HI175;have HO_180001:=n0_;have BK174:=n1_;have BK179:=n2_;have HB:=n3_;have HI175:=n4_;clear n0_ n1_ n2_ n3_ n4_;(try clear hb);(try clear hb2);(try clear hk);(try clear hi);have hnb55:=NB179_174.out;have hnc55:=NB174_179.out;have hnb56:=NB179_175.out;have hnc56:=NB175_179.out;have hcz57_0 : w54.cell? ⟨gb179,0,none⟩ = some (.int .u32 ((t176) % 4294967296)):=(blk_cell BK179.out 0).trans rfl;have hcz57_1 : w54.cell? ⟨gb179,1,none⟩ = some (u180001):=(blk_cell BK179.out 1).trans rfl;have hfz57_0:=blk_frozen BK179.out 0;have hfz57_1:=blk_frozen BK179.out 1;obtain ⟨Ao58,co58,eo58⟩:=Kd.R_slice HO_180001.out;subst eo58)|((with_reducible refine gate_callee (f:=14) rfl ?_);refine goesL_ (some 50) rfl rfl Tryd.func14 (by kernel_rfl) rfl #[.agg #[.int .u32 ((t176) % 4294967296),.slice Ao58 x180001_14.length co58]] rfl (by (try simp only [List.map_toArray,List.map_cons,List.map_nil]);first|done|rfl|(simp only [List.length_drop,List.length_take];rfl)|(simp (disch:=first|omega|(simp at *;omega)) only [u64_id,i64_id,u8_id];rfl)) ?_;(with_reducible refine (ckone_State_Check.calls kj14 ((t176) % 4294967296) _ _ x180001_14 t201 _ ?side1 ?side2 A43.out).mono ?_);(case side1=>repeat (first|exact (Kd.R_reads' HO_180001.out).2.2|(with_reducible refine Kd.C_alloc ?_ _)|(with_reducible refine Kd.C_drewN ?_ _)|(with_reducible refine Kd.C_drew ?_)));(case side2=>exact (Kd.R_reads' HO_180001.out).2.1);rintro e w59 ⟨rfl,hb⟩;refine ⟨_,rfl,?_⟩;have n0_:=Aside0.mk (Kd.R_below (by (with_reducible repeat (first|apply Kd.R_alloc|apply Kd.R_drewN|apply Kd.R_drew));exact HO_180001.out) hb);have n1_:=Aside0.mk (blk_below (g:=gb174) (o:=.cells #[.int .u32 0,.slice none 0 0] 25 (0,0)) (by (with_reducible repeat (first|apply blk_drewN|apply blk_drew|apply blk_alloc));exact BK174.out) hb);have n2_:=Aside0.mk (blk_below (g:=gb179) (o:=.cells #[.int .u32 ((t176) % 4294967296),.slice Ao58 x180001_14.length co58] 25 (0,0)) (by (with_reducible repeat (first|apply blk_drewN|apply blk_drew|apply blk_alloc));exact BK179.out) hb);have n3_:=Aside0.mk (IsS86.below (by repeat (first|(with_reducible first|exact HI175.out|apply IsS86.alloc|apply IsS86.drewN|apply IsS86.drew|apply IsS86.set_0|apply IsS86.set_1|refine IsS86.far ?_ NB175_174.out _|refine IsS86.far ?_ NB175_179.out _)|exact HI175.out)) hb);have n4_:=Aside0.mk (below_step (by repeat (first|(with_reducible first|exact HB.out|apply below_alloc|apply pw_below_drewN|apply below_drew1|refine below_set ?_ (IsS86.ge HI175.out)|refine below_set ?_ GE174.out|refine below_set ?_ GE179.out)|exact HB.out)) hb);clear HO_180001;clear BK174;clear BK179;clear HI175;clear HB;have HO_180001:=n0_;have BK174:=n1_;have BK179:=n2_;have HI175:=n3_;have HB:=n4_;clear n0_ n1_ n2_ n3_ n4_;(try clear hb);(try clear hb2);(try clear hk);(try clear hi);have hnb60:=NB174_175.out;have hnc60:=NB175_174.out;have hcz61_0 : w59.cell? ⟨gb174,0,none⟩ = some (.int .u32 0):=(blk_cell BK174.out 0).trans rfl;have hcz61_1 : w59.cell? ⟨gb174,1,none⟩ = some (.slice none 0 0):=(blk_cell BK174.out 1).trans rfl;have hfz61_0:=blk_frozen BK174.out 0;have hfz61_1:=blk_frozen BK174.out 1))
      refine bodyPost_ret (results_ct rfl _ _ gb174 25 #[.int .u32 0,.slice none 0 0] (0,0) _ rfl (by (with_reducible repeat (first|apply blk_drewN|apply blk_drew|apply blk_alloc));refine blk_put (cs:=#[.int .u32 0,.slice none 0 0]) ?_ 1 _ rfl;(with_reducible repeat (first|apply blk_drewN|apply blk_drew|apply blk_alloc));refine blk_put (cs:=#[.int .u32 0,.slice none 0 0]) ?_ 0 _ rfl;(with_reducible repeat (first|apply blk_drewN|apply blk_drew|apply blk_alloc));exact BK174.out) Tryd.underlying25 rfl (by kernel_rfl)) rfl ?_
      exact ⟨_,by first|rfl|(simp [errW_none,errW_some] <;> rfl)|(simp [*,errW_none,errW_some] <;> rfl),by first|exact Kd.R_nil _ _ _ _ _|exact Kd.N_nil _ _ _ _ _|exact Kd.V_nil _ _ _ _ _|exact Kd.Q_nil _ _ _ _ _|exact Kd.S_nil _ _ _ _ _,by repeat (first|(with_reducible first|exact HB.out|apply below_alloc|apply pw_below_drewN|apply below_drew1|refine below_set ?_ (IsS86.ge HI175.out)|refine below_set ?_ GE174.out|refine below_set ?_ GE179.out)|exact HB.out)⟩
    ·rw [if_neg c42] at H
     have c42b0 : (t198 == 0) = false:=beq_eq_false_iff_ne.mpr c42
     have c42b1 : (t198 != 0) = true:=bne_iff_ne.mpr c42
     simp only [Option.some.injEq,Prod.mk.injEq] at H
     obtain ⟨rfl,rfl,rfl⟩:=H
     go_wp2_with (first|((with_reducible refine gate_callee (f:=50) rfl ?_);refine goesL_ (some 46) rfl rfl Tryd.func50 (by kernel_rfl) rfl #[.pointer (some ⟨gb175,0,none⟩)] rfl (by (try simp only [List.map_toArray,List.map_cons,List.map_nil]);first|done|rfl|(simp only [List.length_drop,List.length_take];rfl)|(simp (disch:=first|omega|(simp at *;omega)) only [u64_id,i64_id,u8_id];rfl)) ?_;(with_reducible refine (pack_Taker_End.calls gb175 x176000_14 x176001_14 t198 t199 t200 w _ ?side1 ?side2 A41.out).mono ?_);(case side1=>repeat (first|(with_reducible first|exact HI175.out|apply IsS86.alloc|apply IsS86.drewN|apply IsS86.drew|apply IsS86.set_0|apply IsS86.set_1|refine IsS86.far ?_ NB175_174.out _|refine IsS86.far ?_ NB175_179.out _)|exact HI175.out));(case side2=>repeat (first|(with_reducible first|exact HB.out|apply below_alloc|apply pw_below_drewN|apply below_drew1|refine below_set ?_ (IsS86.ge HI175.out)|refine below_set ?_ GE174.out|refine below_set ?_ GE179.out)|exact HB.out));rintro e w62 ⟨rfl,hi,hb,hk⟩;refine ⟨_,rfl,?_⟩;have n0_:=Aside0.mk (Kd.R_mono (Kd.R_keep (IsS86.apart (show IsS86 w _ gb175 x176000_14 x176001_14 from by repeat (first|(with_reducible first|exact HI175.out|apply IsS86.alloc|apply IsS86.drewN|apply IsS86.drew|apply IsS86.set_0|apply IsS86.set_1|refine IsS86.far ?_ NB175_174.out _|refine IsS86.far ?_ NB175_179.out _)|exact HI175.out)) (by (with_reducible repeat (first|apply Kd.R_alloc|apply Kd.R_drewN|apply Kd.R_drew));exact HO_180001.out) (by decide)) hk (fun _ h=>h.2)) (fun _ h=>h.1));have n1_:=Aside0.mk (KeepBut.blk hk (g':=gb174) (o:=.cells #[.int .u32 0,.slice none 0 0] 25 (0,0)) (by (with_reducible repeat (first|apply blk_drewN|apply blk_drew|apply blk_alloc));exact BK174.out) NB174_175.out (by simp));have n2_:=Aside0.mk (KeepBut.blk hk (g':=gb179) (o:=.cells #[.int .u32 ((t176) % 4294967296),u180001] 25 (0,0)) (by (with_reducible repeat (first|apply blk_drewN|apply blk_drew|apply blk_alloc));exact BK179.out) NB179_175.out (by simp));have n3_:=Aside0.mk (hb);have n4_:=Aside0.mk (hi);clear HO_180001;clear BK174;clear BK179;clear HB;clear HI175;have HO_180001:=n0_;have BK174:=n1_;have BK179:=n2_;have HB:=n3_;have HI175:=n4_;clear n0_ n1_ n2_ n3_ n4_;(try clear hb);(try clear hb2);(try clear hk);(try clear hi);have hnb63:=NB174_179.out;have hnc63:=NB179_174.out;have hnb64:=NB174_175.out;have hnc64:=NB175_174.out;have hcz65_0 : w62.cell? ⟨gb174,0,none⟩ = some (.int .u32 0):=(blk_cell BK174.out 0).trans rfl;have hcz65_1 : w62.cell? ⟨gb174,1,none⟩ = some (.slice none 0 0):=(blk_cell BK174.out 1).trans rfl;have hfz65_0:=blk_frozen BK174.out 0;have hfz65_1:=blk_frozen BK174.out 1))
     refine bodyPost_ret (results_ct rfl _ _ gb174 25 #[.int .u32 0,.slice none 0 0] (0,0) _ rfl (by (with_reducible repeat (first|apply blk_drewN|apply blk_drew|apply blk_alloc));refine blk_put (cs:=#[.int .u32 0,.slice none 0 0]) ?_ 1 _ rfl;(with_reducible repeat (first|apply blk_drewN|apply blk_drew|apply blk_alloc));refine blk_put (cs:=#[.int .u32 0,.slice none 0 0]) ?_ 0 _ rfl;(with_reducible repeat (first|apply blk_drewN|apply blk_drew|apply blk_alloc));exact BK174.out) Tryd.underlying25 rfl (by kernel_rfl)) rfl ?_
     exact ⟨_,by first|rfl|(simp [errW_none,errW_some] <;> rfl)|(simp [*,errW_none,errW_some] <;> rfl),by first|exact Kd.R_nil _ _ _ _ _|exact Kd.N_nil _ _ _ _ _|exact Kd.V_nil _ _ _ _ _|exact Kd.Q_nil _ _ _ _ _|exact Kd.S_nil _ _ _ _ _,by repeat (first|(with_reducible first|exact HB.out|apply below_alloc|apply pw_below_drewN|apply below_drew1|refine below_set ?_ (IsS86.ge HI175.out)|refine below_set ?_ GE174.out|refine below_set ?_ GE179.out)|exact HB.out)⟩

end Go.Proofs.YtpmbdcljphpcnaaDoor.GCk
