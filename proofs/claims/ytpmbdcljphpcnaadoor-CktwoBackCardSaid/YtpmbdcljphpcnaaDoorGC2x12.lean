/- Written by this session's own program (wip/gen.py) out of the translation: plain Lean functions of the Go functions, and proofs that the calls come to their answers. No conditions beside those in the statements. -/
import Derived.Test.YtpmbdcljphpcnaaDoorGC2x0
import Derived.Test.YtpmbdcljphpcnaaDoorGC2x11
namespace Go.Proofs.YtpmbdcljphpcnaaDoor.GC2
open Go.RowKit Go.Proofs.YtpmbdcljphpcnaaDoorW.PrintWords Go.Proofs.YtpmbdcljphpcnaaDoorW.PrintLast Go.Proofs.YtpmbdcljphpcnaaDoorW.PrintMore
attribute [local go_sem] max2_int min2_int max_two min_two max_three min_three max_four min_four   -- for this text's walks alone
set_option linter.unusedVariables false
set_option linter.unusedSimpArgs false

/-! ### pack_Taker_Text: function 49 -/
def pack_Taker_Text.f (k : Nat) (s0_0 : ByteArray) (s0_1 : Int) : Option (ByteArray × ByteArray × Int):=(pack_Taker_Take.f k s0_0 s0_1 2).bind fun bt176=>(if (wrap64 (bt176.1)) > 4096 then ((pack_Taker_back.f bt176.2.1 bt176.2.2 s0_0 2).bind fun bt179=>((pack_Taker_bytes.f bt179.1 bt179.2 (wrap64 (bt176.1))).bind fun bt181=>(if bt181.2.1 = true then (some (bt181.1,bt181.2.2.1,bt181.2.2.2)) else (some (bt181.1,s0_0,bt181.2.2.2))))) else ((pack_Taker_bytes.f bt176.2.1 bt176.2.2 (wrap64 (bt176.1))).bind fun bt185=>(if bt185.2.1 = true then (some (bt185.1,bt185.2.2.1,bt185.2.2.2)) else (some (bt185.1,s0_0,bt185.2.2.2)))))
theorem pack_Taker_Text.mono : ∀ a0 a1 k,LeO (pack_Taker_Text.f k a0 a1) (pack_Taker_Text.f (k + 1) a0 a1):=by
 intro a0 a1 k
 unfold pack_Taker_Text.f
 repeat' first
   | (with_reducible exact pack_Taker_Take.mono _ _ _ _)
   | (with_reducible exact LeO.refl _)
   | (with_reducible exact LeO.none _)
   | (with_reducible refine LeO.ite ?_ ?_)
   | (with_reducible refine LeO.bind ?_ (fun _=>?_))
   | exact pack_Taker_Take.mono _ _ _ _
   | exact LeO.none _
   | refine LeO.ite ?_ ?_
   | refine LeO.bind ?_ (fun _=>?_)
set_option maxHeartbeats 8000000 in
set_option maxRecDepth 100000 in
theorem pack_Taker_Text.calls (k : Nat) (g : Nat) (s0_0 : ByteArray) (s0_1 : Int) (r1 : ByteArray) (r2 : ByteArray) (r3 : Int) (w0 w : World) (hI : IsS86 w0 w g s0_0 s0_1) (hB : Below w0.heap.size w0 w) (h : pack_Taker_Text.f k s0_0 s0_1 = some (r1,r2,r3)) :
  Calls Tryd.prog 49 #[.pointer (some ⟨g,0,none⟩)] w fun e w'=>e = .returned (.string r1) ∧ IsS86 w0 w' g r2 r3 ∧ Below w0.heap.size w0 w' ∧ KeepBut w w' g none:=by
 have HI0:=Aside0.mk hI
 have HK:=Aside0.mk (KeepBut.refl w g none)
 have HL:=Aside0.mk hB.size
 clear hI
 have HW0:=Aside0.mk hB.size
 have HB:=Aside0.mk hB
 clear hB
 have H : ((pack_Taker_Take.f k s0_0 s0_1 2).bind fun bt176=>(if (wrap64 (bt176.1)) > 4096 then ((pack_Taker_back.f bt176.2.1 bt176.2.2 s0_0 2).bind fun bt179=>((pack_Taker_bytes.f bt179.1 bt179.2 (wrap64 (bt176.1))).bind fun bt181=>(if bt181.2.1 = true then (some (bt181.1,bt181.2.2.1,bt181.2.2.2)) else (some (bt181.1,s0_0,bt181.2.2.2))))) else ((pack_Taker_bytes.f bt176.2.1 bt176.2.2 (wrap64 (bt176.1))).bind fun bt185=>(if bt185.2.1 = true then (some (bt185.1,bt185.2.2.1,bt185.2.2.2)) else (some (bt185.1,s0_0,bt185.2.2.2)))))) = some (r1,r2,r3):=h
 clear h
 replace H:=Option.bind_eq_some_iff.mp H
 obtain ⟨⟨t176,t177,t178⟩,A20,H⟩:=H
 replace H : (if (wrap64 (t176)) > 4096 then ((pack_Taker_back.f t177 t178 s0_0 2).bind fun bt179=>((pack_Taker_bytes.f bt179.1 bt179.2 (wrap64 (t176))).bind fun bt181=>(if bt181.2.1 = true then (some (bt181.1,bt181.2.2.1,bt181.2.2.2)) else (some (bt181.1,s0_0,bt181.2.2.2))))) else ((pack_Taker_bytes.f t177 t178 (wrap64 (t176))).bind fun bt185=>(if bt185.2.1 = true then (some (bt185.1,bt185.2.2.1,bt185.2.2.2)) else (some (bt185.1,s0_0,bt185.2.2.2))))) = some (r1,r2,r3):=H
 have A2:=Aside0.mk A20
 clear A20
 by_cases c3 : (wrap64 (t176)) > 4096
 ·rw [if_pos c3] at H
  have c3b0 : decide (4096 < (wrap64 (t176))) = true:=decide_eq_true c3
  clear c3
  replace H:=Option.bind_eq_some_iff.mp H
  obtain ⟨⟨t179,t180⟩,A40,H⟩:=H
  replace H : ((pack_Taker_bytes.f t179 t180 (wrap64 (t176))).bind fun bt181=>(if bt181.2.1 = true then (some (bt181.1,bt181.2.2.1,bt181.2.2.2)) else (some (bt181.1,s0_0,bt181.2.2.2)))) = some (r1,r2,r3):=H
  have A4:=Aside0.mk A40
  clear A40
  replace H:=Option.bind_eq_some_iff.mp H
  obtain ⟨⟨t181,t182,t183,t184⟩,A50,H⟩:=H
  replace H : (if t182 = true then (some (t181,t183,t184)) else (some (t181,s0_0,t184))) = some (r1,r2,r3):=H
  have A5:=Aside0.mk A50
  clear A50
  by_cases c6 : t182 = true
  ·subst c6
   have H1 : (some (t181,t183,t184)) = some (r1,r2,r3):=by rw [if_pos rfl] at H;exact H
   clear H
   have H:=H1
   clear H1
   simp only [Option.some.injEq,Prod.mk.injEq] at H
   obtain ⟨rfl,rfl,rfl⟩:=H
   obtain ⟨HGz7,hgz7⟩:=HI0.out
   have hcz7_0:=cellS86_0 HGz7
   have hcz7_1:=cellS86_1 HGz7
   have hfz7_0:=blk_frozen HGz7 0
   have hfz7_1:=blk_frozen HGz7 1
   clear HGz7 hgz7
   go_enter Tryd.func49,Tryd.ntmps49
   go_wp2_with (first|((with_reducible refine gate_callee (f:=48) rfl ?_);refine goesL_ (some 12) rfl rfl Tryd.func48 (by kernel_rfl) rfl #[.pointer (some ⟨g,0,none⟩),.int .i64 2] rfl (by (try simp only [List.map_toArray,List.map_cons,List.map_nil]);first|done|rfl|(simp only [List.length_drop,List.length_take];rfl)|(simp (disch:=first|omega|(simp at *;omega)) only [u64_id,i64_id,u8_id];rfl)) ?_;(with_reducible refine (pack_Taker_Take.calls k g s0_0 s0_1 2 t176 t177 t178 w0 _ ?side1 ?side2 A2.out).mono ?_);(case side1=>repeat (first|(with_reducible first|exact HI0.out|apply IsS86.alloc|apply IsS86.drewN|apply IsS86.drew|apply IsS86.set_0|apply IsS86.set_1)|exact HI0.out));(case side2=>repeat (first|(with_reducible first|exact HB.out|apply below_alloc|apply pw_below_drewN|apply below_drew1|refine below_set ?_ (IsS86.ge HI0.out))|exact HB.out));rintro e w8 ⟨rfl,hi,hb,hk⟩;refine ⟨_,rfl,?_⟩;have n0_:=Aside0.mk (KeepBut.trans (by repeat (first|(with_reducible first|exact HK.out|apply KeepBut.set_|apply keep_drewN|apply keep_drew|apply keep_alloc)|exact HK.out)) hk (.inl rfl));have n1_:=Aside0.mk (hb);have n2_:=Aside0.mk (hi);clear HK;clear HB;clear HI0;have HK:=n0_;have HB:=n1_;have HI0:=n2_;clear n0_ n1_ n2_;(try clear hb);(try clear hb2);(try clear hk);(try clear hi))|((with_reducible refine gate_callee (f:=78) rfl ?_);refine goesL_ (some 18) rfl rfl Tryd.func78 (by kernel_rfl) rfl #[.pointer (some ⟨g,0,none⟩),.string s0_0,.int .i64 2] rfl (by (try simp only [List.map_toArray,List.map_cons,List.map_nil]);first|done|rfl|(simp only [List.length_drop,List.length_take];rfl)|(simp (disch:=first|omega|(simp at *;omega)) only [u64_id,i64_id,u8_id];rfl)) ?_;(with_reducible refine (pack_Taker_back.calls g t177 t178 s0_0 2 t179 t180 w0 _ ?side1 ?side2 A4.out).mono ?_);(case side1=>repeat (first|(with_reducible first|exact HI0.out|apply IsS86.alloc|apply IsS86.drewN|apply IsS86.drew|apply IsS86.set_0|apply IsS86.set_1)|exact HI0.out));(case side2=>repeat (first|(with_reducible first|exact HB.out|apply below_alloc|apply pw_below_drewN|apply below_drew1|refine below_set ?_ (IsS86.ge HI0.out))|exact HB.out));rintro e w9 ⟨rfl,hi,hb,hk⟩;refine ⟨_,rfl,?_⟩;have n0_:=Aside0.mk (KeepBut.trans (by repeat (first|(with_reducible first|exact HK.out|apply KeepBut.set_|apply keep_drewN|apply keep_drew|apply keep_alloc)|exact HK.out)) hk (.inl rfl));have n1_:=Aside0.mk (hb);have n2_:=Aside0.mk (hi);clear HK;clear HB;clear HI0;have HK:=n0_;have HB:=n1_;have HI0:=n2_;clear n0_ n1_ n2_;(try clear hb);(try clear hb2);(try clear hk);(try clear hi))|((with_reducible refine gate_callee (f:=77) rfl ?_);refine goesL_ (some 22) rfl rfl Tryd.func77 (by kernel_rfl) rfl #[.pointer (some ⟨g,0,none⟩),.int .i64 (wrap64 (t176))] rfl (by (try simp only [List.map_toArray,List.map_cons,List.map_nil]);first|done|rfl|(simp only [List.length_drop,List.length_take];rfl)|(simp (disch:=first|omega|(simp at *;omega)) only [u64_id,i64_id,u8_id];rfl)) ?_;(with_reducible refine (pack_Taker_bytes.calls g t179 t180 (wrap64 (t176)) t181 true t183 t184 w0 _ ?side1 ?side2 A5.out).mono ?_);(case side1=>repeat (first|(with_reducible first|exact HI0.out|apply IsS86.alloc|apply IsS86.drewN|apply IsS86.drew|apply IsS86.set_0|apply IsS86.set_1)|exact HI0.out));(case side2=>repeat (first|(with_reducible first|exact HB.out|apply below_alloc|apply pw_below_drewN|apply below_drew1|refine below_set ?_ (IsS86.ge HI0.out))|exact HB.out));rintro e w10 ⟨rfl,hi,hb,hk⟩;refine ⟨_,rfl,?_⟩;have n0_:=Aside0.mk (KeepBut.trans (by repeat (first|(with_reducible first|exact HK.out|apply KeepBut.set_|apply keep_drewN|apply keep_drew|apply keep_alloc)|exact HK.out)) hk (.inl rfl));have n1_:=Aside0.mk (hb);have n2_:=Aside0.mk (hi);clear HK;clear HB;clear HI0;have HK:=n0_;have HB:=n1_;have HI0:=n2_;clear n0_ n1_ n2_;(try clear hb);(try clear hb2);(try clear hk);(try clear hi)))
   go_ret
   exact ⟨by first|rfl|(simp [errW_none,errW_some] <;> rfl)|(simp [*,errW_none,errW_some] <;> rfl),by repeat (first|(with_reducible first|exact HI0.out|apply IsS86.alloc|apply IsS86.drewN|apply IsS86.drew|apply IsS86.set_0|apply IsS86.set_1)|exact HI0.out),by repeat (first|(with_reducible first|exact HB.out|apply below_alloc|apply pw_below_drewN|apply below_drew1|refine below_set ?_ (IsS86.ge HI0.out))|exact HB.out),by repeat (first|(with_reducible first|exact HK.out|apply KeepBut.set_|apply keep_drewN|apply keep_drew|apply keep_alloc)|exact HK.out)⟩
  ·replace c6:=Bool.eq_false_iff.mpr c6
   subst c6
   have H1 : (some (t181,s0_0,t184)) = some (r1,r2,r3):=by rw [if_neg (show ¬ (false = true) by decide)] at H;exact H
   clear H
   have H:=H1
   clear H1
   simp only [Option.some.injEq,Prod.mk.injEq] at H
   obtain ⟨rfl,rfl,rfl⟩:=H
   obtain ⟨HGz11,hgz11⟩:=HI0.out
   have hcz11_0:=cellS86_0 HGz11
   have hcz11_1:=cellS86_1 HGz11
   have hfz11_0:=blk_frozen HGz11 0
   have hfz11_1:=blk_frozen HGz11 1
   clear HGz11 hgz11
   go_enter Tryd.func49,Tryd.ntmps49
   go_wp2_with (first|((with_reducible refine gate_callee (f:=48) rfl ?_);refine goesL_ (some 12) rfl rfl Tryd.func48 (by kernel_rfl) rfl #[.pointer (some ⟨g,0,none⟩),.int .i64 2] rfl (by (try simp only [List.map_toArray,List.map_cons,List.map_nil]);first|done|rfl|(simp only [List.length_drop,List.length_take];rfl)|(simp (disch:=first|omega|(simp at *;omega)) only [u64_id,i64_id,u8_id];rfl)) ?_;(with_reducible refine (pack_Taker_Take.calls k g s0_0 s0_1 2 t176 t177 t178 w0 _ ?side1 ?side2 A2.out).mono ?_);(case side1=>repeat (first|(with_reducible first|exact HI0.out|apply IsS86.alloc|apply IsS86.drewN|apply IsS86.drew|apply IsS86.set_0|apply IsS86.set_1)|exact HI0.out));(case side2=>repeat (first|(with_reducible first|exact HB.out|apply below_alloc|apply pw_below_drewN|apply below_drew1|refine below_set ?_ (IsS86.ge HI0.out))|exact HB.out));rintro e w12 ⟨rfl,hi,hb,hk⟩;refine ⟨_,rfl,?_⟩;have n0_:=Aside0.mk (KeepBut.trans (by repeat (first|(with_reducible first|exact HK.out|apply KeepBut.set_|apply keep_drewN|apply keep_drew|apply keep_alloc)|exact HK.out)) hk (.inl rfl));have n1_:=Aside0.mk (hb);have n2_:=Aside0.mk (hi);clear HK;clear HB;clear HI0;have HK:=n0_;have HB:=n1_;have HI0:=n2_;clear n0_ n1_ n2_;(try clear hb);(try clear hb2);(try clear hk);(try clear hi))|((with_reducible refine gate_callee (f:=78) rfl ?_);refine goesL_ (some 18) rfl rfl Tryd.func78 (by kernel_rfl) rfl #[.pointer (some ⟨g,0,none⟩),.string s0_0,.int .i64 2] rfl (by (try simp only [List.map_toArray,List.map_cons,List.map_nil]);first|done|rfl|(simp only [List.length_drop,List.length_take];rfl)|(simp (disch:=first|omega|(simp at *;omega)) only [u64_id,i64_id,u8_id];rfl)) ?_;(with_reducible refine (pack_Taker_back.calls g t177 t178 s0_0 2 t179 t180 w0 _ ?side1 ?side2 A4.out).mono ?_);(case side1=>repeat (first|(with_reducible first|exact HI0.out|apply IsS86.alloc|apply IsS86.drewN|apply IsS86.drew|apply IsS86.set_0|apply IsS86.set_1)|exact HI0.out));(case side2=>repeat (first|(with_reducible first|exact HB.out|apply below_alloc|apply pw_below_drewN|apply below_drew1|refine below_set ?_ (IsS86.ge HI0.out))|exact HB.out));rintro e w13 ⟨rfl,hi,hb,hk⟩;refine ⟨_,rfl,?_⟩;have n0_:=Aside0.mk (KeepBut.trans (by repeat (first|(with_reducible first|exact HK.out|apply KeepBut.set_|apply keep_drewN|apply keep_drew|apply keep_alloc)|exact HK.out)) hk (.inl rfl));have n1_:=Aside0.mk (hb);have n2_:=Aside0.mk (hi);clear HK;clear HB;clear HI0;have HK:=n0_;have HB:=n1_;have HI0:=n2_;clear n0_ n1_ n2_;(try clear hb);(try clear hb2);(try clear hk);(try clear hi))|((with_reducible refine gate_callee (f:=77) rfl ?_);refine goesL_ (some 22) rfl rfl Tryd.func77 (by kernel_rfl) rfl #[.pointer (some ⟨g,0,none⟩),.int .i64 (wrap64 (t176))] rfl (by (try simp only [List.map_toArray,List.map_cons,List.map_nil]);first|done|rfl|(simp only [List.length_drop,List.length_take];rfl)|(simp (disch:=first|omega|(simp at *;omega)) only [u64_id,i64_id,u8_id];rfl)) ?_;(with_reducible refine (pack_Taker_bytes.calls g t179 t180 (wrap64 (t176)) t181 false t183 t184 w0 _ ?side1 ?side2 A5.out).mono ?_);(case side1=>repeat (first|(with_reducible first|exact HI0.out|apply IsS86.alloc|apply IsS86.drewN|apply IsS86.drew|apply IsS86.set_0|apply IsS86.set_1)|exact HI0.out));(case side2=>repeat (first|(with_reducible first|exact HB.out|apply below_alloc|apply pw_below_drewN|apply below_drew1|refine below_set ?_ (IsS86.ge HI0.out))|exact HB.out));rintro e w14 ⟨rfl,hi,hb,hk⟩;refine ⟨_,rfl,?_⟩;have n0_:=Aside0.mk (KeepBut.trans (by repeat (first|(with_reducible first|exact HK.out|apply KeepBut.set_|apply keep_drewN|apply keep_drew|apply keep_alloc)|exact HK.out)) hk (.inl rfl));have n1_:=Aside0.mk (hb);have n2_:=Aside0.mk (hi);clear HK;clear HB;clear HI0;have HK:=n0_;have HB:=n1_;have HI0:=n2_;clear n0_ n1_ n2_;(try clear hb);(try clear hb2);(try clear hk);(try clear hi);obtain ⟨HGz15,hgz15⟩:=HI0.out;have hcz15_0:=cellS86_0 HGz15;have hcz15_1:=cellS86_1 HGz15;have hfz15_0:=blk_frozen HGz15 0;have hfz15_1:=blk_frozen HGz15 1;clear HGz15 hgz15))
   go_ret
   exact ⟨by first|rfl|(simp [errW_none,errW_some] <;> rfl)|(simp [*,errW_none,errW_some] <;> rfl),by repeat (first|(with_reducible first|exact HI0.out|apply IsS86.alloc|apply IsS86.drewN|apply IsS86.drew|apply IsS86.set_0|apply IsS86.set_1)|exact HI0.out),by repeat (first|(with_reducible first|exact HB.out|apply below_alloc|apply pw_below_drewN|apply below_drew1|refine below_set ?_ (IsS86.ge HI0.out))|exact HB.out),by repeat (first|(with_reducible first|exact HK.out|apply KeepBut.set_|apply keep_drewN|apply keep_drew|apply keep_alloc)|exact HK.out)⟩
 ·rw [if_neg c3] at H
  have c3b0 : decide (4096 < (wrap64 (t176))) = false:=decide_eq_false c3
  clear c3
  replace H:=Option.bind_eq_some_iff.mp H
  obtain ⟨⟨t185,t186,t187,t188⟩,A160,H⟩:=H
  replace H : (if t186 = true then (some (t185,t187,t188)) else (some (t185,s0_0,t188))) = some (r1,r2,r3):=H
  have A16:=Aside0.mk A160
  clear A160
  by_cases c17 : t186 = true
  ·subst c17
   have H1 : (some (t185,t187,t188)) = some (r1,r2,r3):=by rw [if_pos rfl] at H;exact H
   clear H
   have H:=H1
   clear H1
   simp only [Option.some.injEq,Prod.mk.injEq] at H
   obtain ⟨rfl,rfl,rfl⟩:=H
   obtain ⟨HGz18,hgz18⟩:=HI0.out
   have hcz18_0:=cellS86_0 HGz18
   have hcz18_1:=cellS86_1 HGz18
   have hfz18_0:=blk_frozen HGz18 0
   have hfz18_1:=blk_frozen HGz18 1
   clear HGz18 hgz18
   go_enter Tryd.func49,Tryd.ntmps49
   go_wp2_with (first|((with_reducible refine gate_callee (f:=48) rfl ?_);refine goesL_ (some 12) rfl rfl Tryd.func48 (by kernel_rfl) rfl #[.pointer (some ⟨g,0,none⟩),.int .i64 2] rfl (by (try simp only [List.map_toArray,List.map_cons,List.map_nil]);first|done|rfl|(simp only [List.length_drop,List.length_take];rfl)|(simp (disch:=first|omega|(simp at *;omega)) only [u64_id,i64_id,u8_id];rfl)) ?_;(with_reducible refine (pack_Taker_Take.calls k g s0_0 s0_1 2 t176 t177 t178 w0 _ ?side1 ?side2 A2.out).mono ?_);(case side1=>repeat (first|(with_reducible first|exact HI0.out|apply IsS86.alloc|apply IsS86.drewN|apply IsS86.drew|apply IsS86.set_0|apply IsS86.set_1)|exact HI0.out));(case side2=>repeat (first|(with_reducible first|exact HB.out|apply below_alloc|apply pw_below_drewN|apply below_drew1|refine below_set ?_ (IsS86.ge HI0.out))|exact HB.out));rintro e w19 ⟨rfl,hi,hb,hk⟩;refine ⟨_,rfl,?_⟩;have n0_:=Aside0.mk (KeepBut.trans (by repeat (first|(with_reducible first|exact HK.out|apply KeepBut.set_|apply keep_drewN|apply keep_drew|apply keep_alloc)|exact HK.out)) hk (.inl rfl));have n1_:=Aside0.mk (hb);have n2_:=Aside0.mk (hi);clear HK;clear HB;clear HI0;have HK:=n0_;have HB:=n1_;have HI0:=n2_;clear n0_ n1_ n2_;(try clear hb);(try clear hb2);(try clear hk);(try clear hi))|((with_reducible refine gate_callee (f:=77) rfl ?_);refine goesL_ (some 22) rfl rfl Tryd.func77 (by kernel_rfl) rfl #[.pointer (some ⟨g,0,none⟩),.int .i64 (wrap64 (t176))] rfl (by (try simp only [List.map_toArray,List.map_cons,List.map_nil]);first|done|rfl|(simp only [List.length_drop,List.length_take];rfl)|(simp (disch:=first|omega|(simp at *;omega)) only [u64_id,i64_id,u8_id];rfl)) ?_;(with_reducible refine (pack_Taker_bytes.calls g t177 t178 (wrap64 (t176)) t185 true t187 t188 w0 _ ?side1 ?side2 A16.out).mono ?_);(case side1=>repeat (first|(with_reducible first|exact HI0.out|apply IsS86.alloc|apply IsS86.drewN|apply IsS86.drew|apply IsS86.set_0|apply IsS86.set_1)|exact HI0.out));(case side2=>repeat (first|(with_reducible first|exact HB.out|apply below_alloc|apply pw_below_drewN|apply below_drew1|refine below_set ?_ (IsS86.ge HI0.out))|exact HB.out));rintro e w20 ⟨rfl,hi,hb,hk⟩;refine ⟨_,rfl,?_⟩;have n0_:=Aside0.mk (KeepBut.trans (by repeat (first|(with_reducible first|exact HK.out|apply KeepBut.set_|apply keep_drewN|apply keep_drew|apply keep_alloc)|exact HK.out)) hk (.inl rfl));have n1_:=Aside0.mk (hb);have n2_:=Aside0.mk (hi);clear HK;clear HB;clear HI0;have HK:=n0_;have HB:=n1_;have HI0:=n2_;clear n0_ n1_ n2_;(try clear hb);(try clear hb2);(try clear hk);(try clear hi)))
   go_ret
   exact ⟨by first|rfl|(simp [errW_none,errW_some] <;> rfl)|(simp [*,errW_none,errW_some] <;> rfl),by repeat (first|(with_reducible first|exact HI0.out|apply IsS86.alloc|apply IsS86.drewN|apply IsS86.drew|apply IsS86.set_0|apply IsS86.set_1)|exact HI0.out),by repeat (first|(with_reducible first|exact HB.out|apply below_alloc|apply pw_below_drewN|apply below_drew1|refine below_set ?_ (IsS86.ge HI0.out))|exact HB.out),by repeat (first|(with_reducible first|exact HK.out|apply KeepBut.set_|apply keep_drewN|apply keep_drew|apply keep_alloc)|exact HK.out)⟩
  ·replace c17:=Bool.eq_false_iff.mpr c17
   subst c17
   have H1 : (some (t185,s0_0,t188)) = some (r1,r2,r3):=by rw [if_neg (show ¬ (false = true) by decide)] at H;exact H
   clear H
   have H:=H1
   clear H1
   simp only [Option.some.injEq,Prod.mk.injEq] at H
   obtain ⟨rfl,rfl,rfl⟩:=H
   obtain ⟨HGz21,hgz21⟩:=HI0.out
   have hcz21_0:=cellS86_0 HGz21
   have hcz21_1:=cellS86_1 HGz21
   have hfz21_0:=blk_frozen HGz21 0
   have hfz21_1:=blk_frozen HGz21 1
   clear HGz21 hgz21
   go_enter Tryd.func49,Tryd.ntmps49
   go_wp2_with (first|((with_reducible refine gate_callee (f:=48) rfl ?_);refine goesL_ (some 12) rfl rfl Tryd.func48 (by kernel_rfl) rfl #[.pointer (some ⟨g,0,none⟩),.int .i64 2] rfl (by (try simp only [List.map_toArray,List.map_cons,List.map_nil]);first|done|rfl|(simp only [List.length_drop,List.length_take];rfl)|(simp (disch:=first|omega|(simp at *;omega)) only [u64_id,i64_id,u8_id];rfl)) ?_;(with_reducible refine (pack_Taker_Take.calls k g s0_0 s0_1 2 t176 t177 t178 w0 _ ?side1 ?side2 A2.out).mono ?_);(case side1=>repeat (first|(with_reducible first|exact HI0.out|apply IsS86.alloc|apply IsS86.drewN|apply IsS86.drew|apply IsS86.set_0|apply IsS86.set_1)|exact HI0.out));(case side2=>repeat (first|(with_reducible first|exact HB.out|apply below_alloc|apply pw_below_drewN|apply below_drew1|refine below_set ?_ (IsS86.ge HI0.out))|exact HB.out));rintro e w22 ⟨rfl,hi,hb,hk⟩;refine ⟨_,rfl,?_⟩;have n0_:=Aside0.mk (KeepBut.trans (by repeat (first|(with_reducible first|exact HK.out|apply KeepBut.set_|apply keep_drewN|apply keep_drew|apply keep_alloc)|exact HK.out)) hk (.inl rfl));have n1_:=Aside0.mk (hb);have n2_:=Aside0.mk (hi);clear HK;clear HB;clear HI0;have HK:=n0_;have HB:=n1_;have HI0:=n2_;clear n0_ n1_ n2_;(try clear hb);(try clear hb2);(try clear hk);(try clear hi))|((with_reducible refine gate_callee (f:=77) rfl ?_);refine goesL_ (some 22) rfl rfl Tryd.func77 (by kernel_rfl) rfl #[.pointer (some ⟨g,0,none⟩),.int .i64 (wrap64 (t176))] rfl (by (try simp only [List.map_toArray,List.map_cons,List.map_nil]);first|done|rfl|(simp only [List.length_drop,List.length_take];rfl)|(simp (disch:=first|omega|(simp at *;omega)) only [u64_id,i64_id,u8_id];rfl)) ?_;(with_reducible refine (pack_Taker_bytes.calls g t177 t178 (wrap64 (t176)) t185 false t187 t188 w0 _ ?side1 ?side2 A16.out).mono ?_);(case side1=>repeat (first|(with_reducible first|exact HI0.out|apply IsS86.alloc|apply IsS86.drewN|apply IsS86.drew|apply IsS86.set_0|apply IsS86.set_1)|exact HI0.out));(case side2=>repeat (first|(with_reducible first|exact HB.out|apply below_alloc|apply pw_below_drewN|apply below_drew1|refine below_set ?_ (IsS86.ge HI0.out))|exact HB.out));rintro e w23 ⟨rfl,hi,hb,hk⟩;refine ⟨_,rfl,?_⟩;have n0_:=Aside0.mk (KeepBut.trans (by repeat (first|(with_reducible first|exact HK.out|apply KeepBut.set_|apply keep_drewN|apply keep_drew|apply keep_alloc)|exact HK.out)) hk (.inl rfl));have n1_:=Aside0.mk (hb);have n2_:=Aside0.mk (hi);clear HK;clear HB;clear HI0;have HK:=n0_;have HB:=n1_;have HI0:=n2_;clear n0_ n1_ n2_;(try clear hb);(try clear hb2);(try clear hk);(try clear hi);obtain ⟨HGz24,hgz24⟩:=HI0.out;have hcz24_0:=cellS86_0 HGz24;have hcz24_1:=cellS86_1 HGz24;have hfz24_0:=blk_frozen HGz24 0;have hfz24_1:=blk_frozen HGz24 1;clear HGz24 hgz24))
   go_ret
   exact ⟨by first|rfl|(simp [errW_none,errW_some] <;> rfl)|(simp [*,errW_none,errW_some] <;> rfl),by repeat (first|(with_reducible first|exact HI0.out|apply IsS86.alloc|apply IsS86.drewN|apply IsS86.drew|apply IsS86.set_0|apply IsS86.set_1)|exact HI0.out),by repeat (first|(with_reducible first|exact HB.out|apply below_alloc|apply pw_below_drewN|apply below_drew1|refine below_set ?_ (IsS86.ge HI0.out))|exact HB.out),by repeat (first|(with_reducible first|exact HK.out|apply KeepBut.set_|apply keep_drewN|apply keep_drew|apply keep_alloc)|exact HK.out)⟩

/-! ### pack_Taker_End: function 50 -/
def pack_Taker_End.f (s0_0 : ByteArray) (s0_1 : Int) : Option (Int × ByteArray × Int):=if s0_1 = 0 then (if s0_0.toList = ([] : List UInt8) then (some (s0_1,s0_0,s0_1)) else (some (6,s0_0,s0_1))) else (some (s0_1,s0_0,s0_1))
set_option maxHeartbeats 8000000 in
set_option maxRecDepth 100000 in
theorem pack_Taker_End.calls (g : Nat) (s0_0 : ByteArray) (s0_1 : Int) (r1 : Int) (r2 : ByteArray) (r3 : Int) (w0 w : World) (hI : IsS86 w0 w g s0_0 s0_1) (hB : Below w0.heap.size w0 w) (h : pack_Taker_End.f s0_0 s0_1 = some (r1,r2,r3)) :
  Calls Tryd.prog 50 #[.pointer (some ⟨g,0,none⟩)] w fun e w'=>e = .returned (.int .i64 r1) ∧ IsS86 w0 w' g r2 r3 ∧ Below w0.heap.size w0 w' ∧ KeepBut w w' g none:=by
 have HI0:=Aside0.mk hI
 have HK:=Aside0.mk (KeepBut.refl w g none)
 have HL:=Aside0.mk hB.size
 clear hI
 have HW0:=Aside0.mk hB.size
 have HB:=Aside0.mk hB
 clear hB
 have H : (if s0_1 = 0 then (if s0_0.toList = ([] : List UInt8) then (some (s0_1,s0_0,s0_1)) else (some (6,s0_0,s0_1))) else (some (s0_1,s0_0,s0_1))) = some (r1,r2,r3):=h
 clear h
 by_cases c2 : s0_1 = 0
 ·rw [if_pos c2] at H
  have c2b0 : (s0_1 == 0) = true:=beq_iff_eq.mpr c2
  have c2b1 : (s0_1 != 0) = false:=bne_eq_false_iff_eq.mpr c2
  clear c2
  by_cases c3 : s0_0.toList = ([] : List UInt8)
  ·rw [if_pos c3] at H
   have c3b0 : (s0_0.toList == ([] : List UInt8)) = true:=beq_iff_eq.mpr c3
   have c3b1 : (s0_0.toList != ([] : List UInt8)) = false:=bne_eq_false_iff_eq.mpr c3
   clear c3
   simp only [Option.some.injEq,Prod.mk.injEq] at H
   obtain ⟨rfl,rfl,rfl⟩:=H
   obtain ⟨HGz4,hgz4⟩:=HI0.out
   have hcz4_0:=cellS86_0 HGz4
   have hcz4_1:=cellS86_1 HGz4
   have hfz4_0:=blk_frozen HGz4 0
   have hfz4_1:=blk_frozen HGz4 1
   clear HGz4 hgz4
   go_enter Tryd.func50,Tryd.ntmps50
   go_wp2
   go_ret
   exact ⟨by first|rfl|(simp [errW_none,errW_some] <;> rfl)|(simp [*,errW_none,errW_some] <;> rfl),by repeat (first|(with_reducible first|exact HI0.out|apply IsS86.alloc|apply IsS86.drewN|apply IsS86.drew|apply IsS86.set_0|apply IsS86.set_1)|exact HI0.out),by repeat (first|(with_reducible first|exact HB.out|apply below_alloc|apply pw_below_drewN|apply below_drew1|refine below_set ?_ (IsS86.ge HI0.out))|exact HB.out),by repeat (first|(with_reducible first|exact HK.out|apply KeepBut.set_|apply keep_drewN|apply keep_drew|apply keep_alloc)|exact HK.out)⟩
  ·rw [if_neg c3] at H
   have c3b0 : (s0_0.toList == ([] : List UInt8)) = false:=beq_eq_false_iff_ne.mpr c3
   have c3b1 : (s0_0.toList != ([] : List UInt8)) = true:=bne_iff_ne.mpr c3
   simp only [Option.some.injEq,Prod.mk.injEq] at H
   obtain ⟨rfl,rfl,rfl⟩:=H
   obtain ⟨HGz5,hgz5⟩:=HI0.out
   have hcz5_0:=cellS86_0 HGz5
   have hcz5_1:=cellS86_1 HGz5
   have hfz5_0:=blk_frozen HGz5 0
   have hfz5_1:=blk_frozen HGz5 1
   clear HGz5 hgz5
   go_enter Tryd.func50,Tryd.ntmps50
   go_wp2
   go_ret
   exact ⟨by first|rfl|(simp [errW_none,errW_some] <;> rfl)|(simp [*,errW_none,errW_some] <;> rfl),by repeat (first|(with_reducible first|exact HI0.out|apply IsS86.alloc|apply IsS86.drewN|apply IsS86.drew|apply IsS86.set_0|apply IsS86.set_1)|exact HI0.out),by repeat (first|(with_reducible first|exact HB.out|apply below_alloc|apply pw_below_drewN|apply below_drew1|refine below_set ?_ (IsS86.ge HI0.out))|exact HB.out),by repeat (first|(with_reducible first|exact HK.out|apply KeepBut.set_|apply keep_drewN|apply keep_drew|apply keep_alloc)|exact HK.out)⟩
 ·rw [if_neg c2] at H
  have c2b0 : (s0_1 == 0) = false:=beq_eq_false_iff_ne.mpr c2
  have c2b1 : (s0_1 != 0) = true:=bne_iff_ne.mpr c2
  simp only [Option.some.injEq,Prod.mk.injEq] at H
  obtain ⟨rfl,rfl,rfl⟩:=H
  obtain ⟨HGz6,hgz6⟩:=HI0.out
  have hcz6_0:=cellS86_0 HGz6
  have hcz6_1:=cellS86_1 HGz6
  have hfz6_0:=blk_frozen HGz6 0
  have hfz6_1:=blk_frozen HGz6 1
  clear HGz6 hgz6
  go_enter Tryd.func50,Tryd.ntmps50
  go_wp2
  go_ret
  exact ⟨by first|rfl|(simp [errW_none,errW_some] <;> rfl)|(simp [*,errW_none,errW_some] <;> rfl),by repeat (first|(with_reducible first|exact HI0.out|apply IsS86.alloc|apply IsS86.drewN|apply IsS86.drew|apply IsS86.set_0|apply IsS86.set_1)|exact HI0.out),by repeat (first|(with_reducible first|exact HB.out|apply below_alloc|apply pw_below_drewN|apply below_drew1|refine below_set ?_ (IsS86.ge HI0.out))|exact HB.out),by repeat (first|(with_reducible first|exact HK.out|apply KeepBut.set_|apply keep_drewN|apply keep_drew|apply keep_alloc)|exact HK.out)⟩

end Go.Proofs.YtpmbdcljphpcnaaDoor.GC2
