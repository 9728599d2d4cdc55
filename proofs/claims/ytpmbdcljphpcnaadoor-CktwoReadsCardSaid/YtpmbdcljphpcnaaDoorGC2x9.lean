/- Written by this session's own program (wip/gen.py) out of the translation: plain Lean functions of the Go functions, and proofs that the calls come to their answers. No conditions beside those in the statements. -/
import Derived.Test.YtpmbdcljphpcnaaDoorGC2x0
import Derived.Test.YtpmbdcljphpcnaaDoorGC2x8
namespace Go.Proofs.YtpmbdcljphpcnaaDoor.GC2
open Go.RowKit Go.Proofs.YtpmbdcljphpcnaaDoorW.PrintWords Go.Proofs.YtpmbdcljphpcnaaDoorW.PrintLast Go.Proofs.YtpmbdcljphpcnaaDoorW.PrintMore
attribute [local go_sem] fO fP gI gJ fF fG fQ fT
set_option linter.unusedVariables false
set_option linter.unusedSimpArgs false
def bL.f (k : Nat) (zM : ByteArray) (zP : Int) : Option (ByteArray × ByteArray × Int):=(aR.f k zM zP 2).bind fun zS=>(if (wrap64 (zS.1)) > 4096 then ((eT.f zS.2.1 zS.2.2 zM 2).bind fun zZ=>((bX.f zZ.1 zZ.2 (wrap64 (zS.1))).bind fun zN=>(if zN.2.1 = true then (some (zN.1,zN.2.2.1,zN.2.2.2)) else (some (zN.1,zM,zN.2.2.2))))) else ((bX.f zS.2.1 zS.2.2 (wrap64 (zS.1))).bind fun zO=>(if zO.2.1 = true then (some (zO.1,zO.2.2.1,zO.2.2.2)) else (some (zO.1,zM,zO.2.2.2)))))
theorem bL.mono : ∀ a0 a1 k,LeO (bL.f k a0 a1) (bL.f (k + 1) a0 a1):=by
 intro a0 a1 k
 unfold bL.f
 repeat' first
   | (with_reducible exact aR.mono _ _ _ _)
   | (with_reducible exact LeO.refl _)
   | (with_reducible exact LeO.none _)
   | (with_reducible refine LeO.ite ?_ ?_)
   | (with_reducible refine LeO.bind ?_ (fun _=>?_))
   | exact aR.mono _ _ _ _
   | exact LeO.none _
   | refine LeO.ite ?_ ?_
   | refine LeO.bind ?_ (fun _=>?_)
set_option maxHeartbeats 8000000 in
set_option maxRecDepth 100000 in
theorem bL.calls (k : Nat) (g : Nat) (zM : ByteArray) (zP : Int) (r1 : ByteArray) (r2 : ByteArray) (r3 : Int) (w0 w : World) (hI : bC w0 w g zM zP) (hB : Below w0.heap.size w0 w) (h : bL.f k zM zP = some (r1,r2,r3)) :
  Calls Tryd.prog 49 #[.pointer (some ⟨g,0,none⟩)] w fun e w'=>e = .returned (.string r1) ∧ bC w0 w' g r2 r3 ∧ Below w0.heap.size w0 w' ∧ bO w w' g none:=by
 have HI0:=Aside0.mk hI
 have HK:=Aside0.mk (bO.refl w g none)
 have HL:=Aside0.mk hB.size
 clear hI
 have HW0:=Aside0.mk hB.size
 have HB:=Aside0.mk hB
 clear hB
 have H : ((aR.f k zM zP 2).bind fun zS=>(if (wrap64 (zS.1)) > 4096 then ((eT.f zS.2.1 zS.2.2 zM 2).bind fun zZ=>((bX.f zZ.1 zZ.2 (wrap64 (zS.1))).bind fun zN=>(if zN.2.1 = true then (some (zN.1,zN.2.2.1,zN.2.2.2)) else (some (zN.1,zM,zN.2.2.2))))) else ((bX.f zS.2.1 zS.2.2 (wrap64 (zS.1))).bind fun zO=>(if zO.2.1 = true then (some (zO.1,zO.2.2.1,zO.2.2.2)) else (some (zO.1,zM,zO.2.2.2)))))) = some (r1,r2,r3):=h
 clear h
 replace H:=Option.bind_eq_some_iff.mp H
 obtain ⟨⟨t164,z8,Aa⟩,Ch,H⟩:=H
 replace H : (if (wrap64 (t164)) > 4096 then ((eT.f z8 Aa zM 2).bind fun zZ=>((bX.f zZ.1 zZ.2 (wrap64 (t164))).bind fun zN=>(if zN.2.1 = true then (some (zN.1,zN.2.2.1,zN.2.2.2)) else (some (zN.1,zM,zN.2.2.2))))) else ((bX.f z8 Aa (wrap64 (t164))).bind fun zO=>(if zO.2.1 = true then (some (zO.1,zO.2.2.1,zO.2.2.2)) else (some (zO.1,zM,zO.2.2.2))))) = some (r1,r2,r3):=H
 have A2:=Aside0.mk Ch
 clear Ch
 by_cases c3 : (wrap64 (t164)) > 4096
 ·rw [if_pos c3] at H
  have c3b0 : decide (4096 < (wrap64 (t164))) = true:=decide_eq_true c3
  clear c3
  replace H:=Option.bind_eq_some_iff.mp H
  obtain ⟨⟨t167,t168⟩,Ci,H⟩:=H
  replace H : ((bX.f t167 t168 (wrap64 (t164))).bind fun zN=>(if zN.2.1 = true then (some (zN.1,zN.2.2.1,zN.2.2.2)) else (some (zN.1,zM,zN.2.2.2)))) = some (r1,r2,r3):=H
  have A4:=Aside0.mk Ci
  clear Ci
  replace H:=Option.bind_eq_some_iff.mp H
  obtain ⟨⟨Ah,AA,t171,Ai⟩,Cj,H⟩:=H
  replace H : (if AA = true then (some (Ah,t171,Ai)) else (some (Ah,zM,Ai))) = some (r1,r2,r3):=H
  have A5:=Aside0.mk Cj
  clear Cj
  by_cases c6 : AA = true
  ·subst c6
   have H1 : (some (Ah,t171,Ai)) = some (r1,r2,r3):=by rw [if_pos rfl] at H;exact H
   clear H
   have H:=H1
   clear H1
   simp only [Option.some.injEq,Prod.mk.injEq] at H
   obtain ⟨rfl,rfl,rfl⟩:=H
   obtain ⟨Al,BA⟩:=HI0.out
   have BF:=fB Al
   have BG:=fC Al
   have BH:=av Al 0
   have BI:=av Al 1
   clear Al BA
   go_enter Tryd.func49,Tryd.ntmps49
   go_wp2_with (first|((with_reducible refine bA (f:=48) rfl ?_);refine cO (some 12) rfl rfl Tryd.func48 (by kernel_rfl) rfl #[.pointer (some ⟨g,0,none⟩),.int .i64 2] rfl (by (try simp only [List.map_toArray,List.map_cons,List.map_nil]);first|done|rfl|(simp only [List.length_drop,List.length_take];rfl)|(simp (disch:=first|omega|(simp at *;omega)) only [bY,bJ,dF];rfl)) ?_;(with_reducible refine (aR.calls k g zM zP 2 t164 z8 Aa w0 _ ?zQ ?zR A2.out).mono ?_);(case zQ=>repeat (first|(with_reducible first|exact HI0.out|apply bC.alloc|apply bC.drewN|apply bC.drew|apply bC.fU|apply bC.fV)|exact HI0.out));(case zR=>repeat (first|(with_reducible first|exact HB.out|apply aD|apply ak|apply aC|refine aA ?_ (bC.ge HI0.out))|exact HB.out));rintro e w8 ⟨rfl,hi,hb,hk⟩;refine ⟨_,rfl,?_⟩;have zW:=Aside0.mk (bO.trans (by repeat (first|(with_reducible first|exact HK.out|apply bO.gX|apply dL|apply dU|apply dM)|exact HK.out)) hk (.inl rfl));have zX:=Aside0.mk (hb);have zY:=Aside0.mk (hi);clear HK;clear HB;clear HI0;have HK:=zW;have HB:=zX;have HI0:=zY;clear zW zX zY;(try clear hb);(try clear hb2);(try clear hk);(try clear hi))|((with_reducible refine bA (f:=78) rfl ?_);refine cO (some 18) rfl rfl Tryd.func78 (by kernel_rfl) rfl #[.pointer (some ⟨g,0,none⟩),.string zM,.int .i64 2] rfl (by (try simp only [List.map_toArray,List.map_cons,List.map_nil]);first|done|rfl|(simp only [List.length_drop,List.length_take];rfl)|(simp (disch:=first|omega|(simp at *;omega)) only [bY,bJ,dF];rfl)) ?_;(with_reducible refine (eT.calls g z8 Aa zM 2 t167 t168 w0 _ ?zQ ?zR A4.out).mono ?_);(case zQ=>repeat (first|(with_reducible first|exact HI0.out|apply bC.alloc|apply bC.drewN|apply bC.drew|apply bC.fU|apply bC.fV)|exact HI0.out));(case zR=>repeat (first|(with_reducible first|exact HB.out|apply aD|apply ak|apply aC|refine aA ?_ (bC.ge HI0.out))|exact HB.out));rintro e w9 ⟨rfl,hi,hb,hk⟩;refine ⟨_,rfl,?_⟩;have zW:=Aside0.mk (bO.trans (by repeat (first|(with_reducible first|exact HK.out|apply bO.gX|apply dL|apply dU|apply dM)|exact HK.out)) hk (.inl rfl));have zX:=Aside0.mk (hb);have zY:=Aside0.mk (hi);clear HK;clear HB;clear HI0;have HK:=zW;have HB:=zX;have HI0:=zY;clear zW zX zY;(try clear hb);(try clear hb2);(try clear hk);(try clear hi))|((with_reducible refine bA (f:=77) rfl ?_);refine cO (some 22) rfl rfl Tryd.func77 (by kernel_rfl) rfl #[.pointer (some ⟨g,0,none⟩),.int .i64 (wrap64 (t164))] rfl (by (try simp only [List.map_toArray,List.map_cons,List.map_nil]);first|done|rfl|(simp only [List.length_drop,List.length_take];rfl)|(simp (disch:=first|omega|(simp at *;omega)) only [bY,bJ,dF];rfl)) ?_;(with_reducible refine (bX.calls g t167 t168 (wrap64 (t164)) Ah true t171 Ai w0 _ ?zQ ?zR A5.out).mono ?_);(case zQ=>repeat (first|(with_reducible first|exact HI0.out|apply bC.alloc|apply bC.drewN|apply bC.drew|apply bC.fU|apply bC.fV)|exact HI0.out));(case zR=>repeat (first|(with_reducible first|exact HB.out|apply aD|apply ak|apply aC|refine aA ?_ (bC.ge HI0.out))|exact HB.out));rintro e Co ⟨rfl,hi,hb,hk⟩;refine ⟨_,rfl,?_⟩;have zW:=Aside0.mk (bO.trans (by repeat (first|(with_reducible first|exact HK.out|apply bO.gX|apply dL|apply dU|apply dM)|exact HK.out)) hk (.inl rfl));have zX:=Aside0.mk (hb);have zY:=Aside0.mk (hi);clear HK;clear HB;clear HI0;have HK:=zW;have HB:=zX;have HI0:=zY;clear zW zX zY;(try clear hb);(try clear hb2);(try clear hk);(try clear hi)))
   go_ret
   exact ⟨by first|rfl|(simp [aY,aZ] <;> rfl)|(simp [*,aY,aZ] <;> rfl),by repeat (first|(with_reducible first|exact HI0.out|apply bC.alloc|apply bC.drewN|apply bC.drew|apply bC.fU|apply bC.fV)|exact HI0.out),by repeat (first|(with_reducible first|exact HB.out|apply aD|apply ak|apply aC|refine aA ?_ (bC.ge HI0.out))|exact HB.out),by repeat (first|(with_reducible first|exact HK.out|apply bO.gX|apply dL|apply dU|apply dM)|exact HK.out)⟩
  ·replace c6:=Bool.eq_false_iff.mpr c6
   subst c6
   have H1 : (some (Ah,zM,Ai)) = some (r1,r2,r3):=by rw [if_neg (show ¬ (false = true) by decide)] at H;exact H
   clear H
   have H:=H1
   clear H1
   simp only [Option.some.injEq,Prod.mk.injEq] at H
   obtain ⟨rfl,rfl,rfl⟩:=H
   obtain ⟨Ab,AB⟩:=HI0.out
   have AV:=fB Ab
   have AX:=fC Ab
   have AY:=av Ab 0
   have AZ:=av Ab 1
   clear Ab AB
   go_enter Tryd.func49,Tryd.ntmps49
   go_wp2_with (first|((with_reducible refine bA (f:=48) rfl ?_);refine cO (some 12) rfl rfl Tryd.func48 (by kernel_rfl) rfl #[.pointer (some ⟨g,0,none⟩),.int .i64 2] rfl (by (try simp only [List.map_toArray,List.map_cons,List.map_nil]);first|done|rfl|(simp only [List.length_drop,List.length_take];rfl)|(simp (disch:=first|omega|(simp at *;omega)) only [bY,bJ,dF];rfl)) ?_;(with_reducible refine (aR.calls k g zM zP 2 t164 z8 Aa w0 _ ?zQ ?zR A2.out).mono ?_);(case zQ=>repeat (first|(with_reducible first|exact HI0.out|apply bC.alloc|apply bC.drewN|apply bC.drew|apply bC.fU|apply bC.fV)|exact HI0.out));(case zR=>repeat (first|(with_reducible first|exact HB.out|apply aD|apply ak|apply aC|refine aA ?_ (bC.ge HI0.out))|exact HB.out));rintro e Cq ⟨rfl,hi,hb,hk⟩;refine ⟨_,rfl,?_⟩;have zW:=Aside0.mk (bO.trans (by repeat (first|(with_reducible first|exact HK.out|apply bO.gX|apply dL|apply dU|apply dM)|exact HK.out)) hk (.inl rfl));have zX:=Aside0.mk (hb);have zY:=Aside0.mk (hi);clear HK;clear HB;clear HI0;have HK:=zW;have HB:=zX;have HI0:=zY;clear zW zX zY;(try clear hb);(try clear hb2);(try clear hk);(try clear hi))|((with_reducible refine bA (f:=78) rfl ?_);refine cO (some 18) rfl rfl Tryd.func78 (by kernel_rfl) rfl #[.pointer (some ⟨g,0,none⟩),.string zM,.int .i64 2] rfl (by (try simp only [List.map_toArray,List.map_cons,List.map_nil]);first|done|rfl|(simp only [List.length_drop,List.length_take];rfl)|(simp (disch:=first|omega|(simp at *;omega)) only [bY,bJ,dF];rfl)) ?_;(with_reducible refine (eT.calls g z8 Aa zM 2 t167 t168 w0 _ ?zQ ?zR A4.out).mono ?_);(case zQ=>repeat (first|(with_reducible first|exact HI0.out|apply bC.alloc|apply bC.drewN|apply bC.drew|apply bC.fU|apply bC.fV)|exact HI0.out));(case zR=>repeat (first|(with_reducible first|exact HB.out|apply aD|apply ak|apply aC|refine aA ?_ (bC.ge HI0.out))|exact HB.out));rintro e Cr ⟨rfl,hi,hb,hk⟩;refine ⟨_,rfl,?_⟩;have zW:=Aside0.mk (bO.trans (by repeat (first|(with_reducible first|exact HK.out|apply bO.gX|apply dL|apply dU|apply dM)|exact HK.out)) hk (.inl rfl));have zX:=Aside0.mk (hb);have zY:=Aside0.mk (hi);clear HK;clear HB;clear HI0;have HK:=zW;have HB:=zX;have HI0:=zY;clear zW zX zY;(try clear hb);(try clear hb2);(try clear hk);(try clear hi))|((with_reducible refine bA (f:=77) rfl ?_);refine cO (some 22) rfl rfl Tryd.func77 (by kernel_rfl) rfl #[.pointer (some ⟨g,0,none⟩),.int .i64 (wrap64 (t164))] rfl (by (try simp only [List.map_toArray,List.map_cons,List.map_nil]);first|done|rfl|(simp only [List.length_drop,List.length_take];rfl)|(simp (disch:=first|omega|(simp at *;omega)) only [bY,bJ,dF];rfl)) ?_;(with_reducible refine (bX.calls g t167 t168 (wrap64 (t164)) Ah false t171 Ai w0 _ ?zQ ?zR A5.out).mono ?_);(case zQ=>repeat (first|(with_reducible first|exact HI0.out|apply bC.alloc|apply bC.drewN|apply bC.drew|apply bC.fU|apply bC.fV)|exact HI0.out));(case zR=>repeat (first|(with_reducible first|exact HB.out|apply aD|apply ak|apply aC|refine aA ?_ (bC.ge HI0.out))|exact HB.out));rintro e Ct ⟨rfl,hi,hb,hk⟩;refine ⟨_,rfl,?_⟩;have zW:=Aside0.mk (bO.trans (by repeat (first|(with_reducible first|exact HK.out|apply bO.gX|apply dL|apply dU|apply dM)|exact HK.out)) hk (.inl rfl));have zX:=Aside0.mk (hb);have zY:=Aside0.mk (hi);clear HK;clear HB;clear HI0;have HK:=zW;have HB:=zX;have HI0:=zY;clear zW zX zY;(try clear hb);(try clear hb2);(try clear hk);(try clear hi);obtain ⟨Ac,AJ⟩:=HI0.out;have A9:=fB Ac;have Bf:=fC Ac;have Bg:=av Ac 0;have Bh:=av Ac 1;clear Ac AJ))
   go_ret
   exact ⟨by first|rfl|(simp [aY,aZ] <;> rfl)|(simp [*,aY,aZ] <;> rfl),by repeat (first|(with_reducible first|exact HI0.out|apply bC.alloc|apply bC.drewN|apply bC.drew|apply bC.fU|apply bC.fV)|exact HI0.out),by repeat (first|(with_reducible first|exact HB.out|apply aD|apply ak|apply aC|refine aA ?_ (bC.ge HI0.out))|exact HB.out),by repeat (first|(with_reducible first|exact HK.out|apply bO.gX|apply dL|apply dU|apply dM)|exact HK.out)⟩
 ·rw [if_neg c3] at H
  have c3b0 : decide (4096 < (wrap64 (t164))) = false:=decide_eq_false c3
  clear c3
  replace H:=Option.bind_eq_some_iff.mp H
  obtain ⟨⟨t173,AL,t175,Aj⟩,AO,H⟩:=H
  replace H : (if AL = true then (some (t173,t175,Aj)) else (some (t173,zM,Aj))) = some (r1,r2,r3):=H
  have Ck:=Aside0.mk AO
  clear AO
  by_cases c17 : AL = true
  ·subst c17
   have H1 : (some (t173,t175,Aj)) = some (r1,r2,r3):=by rw [if_pos rfl] at H;exact H
   clear H
   have H:=H1
   clear H1
   simp only [Option.some.injEq,Prod.mk.injEq] at H
   obtain ⟨rfl,rfl,rfl⟩:=H
   obtain ⟨Ad,AP⟩:=HI0.out
   have Bj:=fB Ad
   have Bl:=fC Ad
   have Bn:=av Ad 0
   have Bo:=av Ad 1
   clear Ad AP
   go_enter Tryd.func49,Tryd.ntmps49
   go_wp2_with (first|((with_reducible refine bA (f:=48) rfl ?_);refine cO (some 12) rfl rfl Tryd.func48 (by kernel_rfl) rfl #[.pointer (some ⟨g,0,none⟩),.int .i64 2] rfl (by (try simp only [List.map_toArray,List.map_cons,List.map_nil]);first|done|rfl|(simp only [List.length_drop,List.length_take];rfl)|(simp (disch:=first|omega|(simp at *;omega)) only [bY,bJ,dF];rfl)) ?_;(with_reducible refine (aR.calls k g zM zP 2 t164 z8 Aa w0 _ ?zQ ?zR A2.out).mono ?_);(case zQ=>repeat (first|(with_reducible first|exact HI0.out|apply bC.alloc|apply bC.drewN|apply bC.drew|apply bC.fU|apply bC.fV)|exact HI0.out));(case zR=>repeat (first|(with_reducible first|exact HB.out|apply aD|apply ak|apply aC|refine aA ?_ (bC.ge HI0.out))|exact HB.out));rintro e Cu ⟨rfl,hi,hb,hk⟩;refine ⟨_,rfl,?_⟩;have zW:=Aside0.mk (bO.trans (by repeat (first|(with_reducible first|exact HK.out|apply bO.gX|apply dL|apply dU|apply dM)|exact HK.out)) hk (.inl rfl));have zX:=Aside0.mk (hb);have zY:=Aside0.mk (hi);clear HK;clear HB;clear HI0;have HK:=zW;have HB:=zX;have HI0:=zY;clear zW zX zY;(try clear hb);(try clear hb2);(try clear hk);(try clear hi))|((with_reducible refine bA (f:=77) rfl ?_);refine cO (some 22) rfl rfl Tryd.func77 (by kernel_rfl) rfl #[.pointer (some ⟨g,0,none⟩),.int .i64 (wrap64 (t164))] rfl (by (try simp only [List.map_toArray,List.map_cons,List.map_nil]);first|done|rfl|(simp only [List.length_drop,List.length_take];rfl)|(simp (disch:=first|omega|(simp at *;omega)) only [bY,bJ,dF];rfl)) ?_;(with_reducible refine (bX.calls g z8 Aa (wrap64 (t164)) t173 true t175 Aj w0 _ ?zQ ?zR Ck.out).mono ?_);(case zQ=>repeat (first|(with_reducible first|exact HI0.out|apply bC.alloc|apply bC.drewN|apply bC.drew|apply bC.fU|apply bC.fV)|exact HI0.out));(case zR=>repeat (first|(with_reducible first|exact HB.out|apply aD|apply ak|apply aC|refine aA ?_ (bC.ge HI0.out))|exact HB.out));rintro e Cv ⟨rfl,hi,hb,hk⟩;refine ⟨_,rfl,?_⟩;have zW:=Aside0.mk (bO.trans (by repeat (first|(with_reducible first|exact HK.out|apply bO.gX|apply dL|apply dU|apply dM)|exact HK.out)) hk (.inl rfl));have zX:=Aside0.mk (hb);have zY:=Aside0.mk (hi);clear HK;clear HB;clear HI0;have HK:=zW;have HB:=zX;have HI0:=zY;clear zW zX zY;(try clear hb);(try clear hb2);(try clear hk);(try clear hi)))
   go_ret
   exact ⟨by first|rfl|(simp [aY,aZ] <;> rfl)|(simp [*,aY,aZ] <;> rfl),by repeat (first|(with_reducible first|exact HI0.out|apply bC.alloc|apply bC.drewN|apply bC.drew|apply bC.fU|apply bC.fV)|exact HI0.out),by repeat (first|(with_reducible first|exact HB.out|apply aD|apply ak|apply aC|refine aA ?_ (bC.ge HI0.out))|exact HB.out),by repeat (first|(with_reducible first|exact HK.out|apply bO.gX|apply dL|apply dU|apply dM)|exact HK.out)⟩
  ·replace c17:=Bool.eq_false_iff.mpr c17
   subst c17
   have H1 : (some (t173,zM,Aj)) = some (r1,r2,r3):=by rw [if_neg (show ¬ (false = true) by decide)] at H;exact H
   clear H
   have H:=H1
   clear H1
   simp only [Option.some.injEq,Prod.mk.injEq] at H
   obtain ⟨rfl,rfl,rfl⟩:=H
   obtain ⟨Ae,AQ⟩:=HI0.out
   have Bp:=fB Ae
   have Bq:=fC Ae
   have Br:=av Ae 0
   have Bt:=av Ae 1
   clear Ae AQ
   go_enter Tryd.func49,Tryd.ntmps49
   go_wp2_with (first|((with_reducible refine bA (f:=48) rfl ?_);refine cO (some 12) rfl rfl Tryd.func48 (by kernel_rfl) rfl #[.pointer (some ⟨g,0,none⟩),.int .i64 2] rfl (by (try simp only [List.map_toArray,List.map_cons,List.map_nil]);first|done|rfl|(simp only [List.length_drop,List.length_take];rfl)|(simp (disch:=first|omega|(simp at *;omega)) only [bY,bJ,dF];rfl)) ?_;(with_reducible refine (aR.calls k g zM zP 2 t164 z8 Aa w0 _ ?zQ ?zR A2.out).mono ?_);(case zQ=>repeat (first|(with_reducible first|exact HI0.out|apply bC.alloc|apply bC.drewN|apply bC.drew|apply bC.fU|apply bC.fV)|exact HI0.out));(case zR=>repeat (first|(with_reducible first|exact HB.out|apply aD|apply ak|apply aC|refine aA ?_ (bC.ge HI0.out))|exact HB.out));rintro e Cw ⟨rfl,hi,hb,hk⟩;refine ⟨_,rfl,?_⟩;have zW:=Aside0.mk (bO.trans (by repeat (first|(with_reducible first|exact HK.out|apply bO.gX|apply dL|apply dU|apply dM)|exact HK.out)) hk (.inl rfl));have zX:=Aside0.mk (hb);have zY:=Aside0.mk (hi);clear HK;clear HB;clear HI0;have HK:=zW;have HB:=zX;have HI0:=zY;clear zW zX zY;(try clear hb);(try clear hb2);(try clear hk);(try clear hi))|((with_reducible refine bA (f:=77) rfl ?_);refine cO (some 22) rfl rfl Tryd.func77 (by kernel_rfl) rfl #[.pointer (some ⟨g,0,none⟩),.int .i64 (wrap64 (t164))] rfl (by (try simp only [List.map_toArray,List.map_cons,List.map_nil]);first|done|rfl|(simp only [List.length_drop,List.length_take];rfl)|(simp (disch:=first|omega|(simp at *;omega)) only [bY,bJ,dF];rfl)) ?_;(with_reducible refine (bX.calls g z8 Aa (wrap64 (t164)) t173 false t175 Aj w0 _ ?zQ ?zR Ck.out).mono ?_);(case zQ=>repeat (first|(with_reducible first|exact HI0.out|apply bC.alloc|apply bC.drewN|apply bC.drew|apply bC.fU|apply bC.fV)|exact HI0.out));(case zR=>repeat (first|(with_reducible first|exact HB.out|apply aD|apply ak|apply aC|refine aA ?_ (bC.ge HI0.out))|exact HB.out));rintro e Cx ⟨rfl,hi,hb,hk⟩;refine ⟨_,rfl,?_⟩;have zW:=Aside0.mk (bO.trans (by repeat (first|(with_reducible first|exact HK.out|apply bO.gX|apply dL|apply dU|apply dM)|exact HK.out)) hk (.inl rfl));have zX:=Aside0.mk (hb);have zY:=Aside0.mk (hi);clear HK;clear HB;clear HI0;have HK:=zW;have HB:=zX;have HI0:=zY;clear zW zX zY;(try clear hb);(try clear hb2);(try clear hk);(try clear hi);obtain ⟨Af,AU⟩:=HI0.out;have Bu:=fB Af;have Bv:=fC Af;have Bw:=av Af 0;have Bz:=av Af 1;clear Af AU))
   go_ret
   exact ⟨by first|rfl|(simp [aY,aZ] <;> rfl)|(simp [*,aY,aZ] <;> rfl),by repeat (first|(with_reducible first|exact HI0.out|apply bC.alloc|apply bC.drewN|apply bC.drew|apply bC.fU|apply bC.fV)|exact HI0.out),by repeat (first|(with_reducible first|exact HB.out|apply aD|apply ak|apply aC|refine aA ?_ (bC.ge HI0.out))|exact HB.out),by repeat (first|(with_reducible first|exact HK.out|apply bO.gX|apply dL|apply dU|apply dM)|exact HK.out)⟩
def dB.f (zM : ByteArray) (zP : Int) : Option (Int × ByteArray × Int):=if zP = 0 then (if zM.toList = ([] : List UInt8) then (some (zP,zM,zP)) else (some (6,zM,zP))) else (some (zP,zM,zP))
set_option maxHeartbeats 8000000 in
set_option maxRecDepth 100000 in
theorem dB.calls (g : Nat) (zM : ByteArray) (zP : Int) (r1 : Int) (r2 : ByteArray) (r3 : Int) (w0 w : World) (hI : bC w0 w g zM zP) (hB : Below w0.heap.size w0 w) (h : dB.f zM zP = some (r1,r2,r3)) :
  Calls Tryd.prog 50 #[.pointer (some ⟨g,0,none⟩)] w fun e w'=>e = .returned (.int .i64 r1) ∧ bC w0 w' g r2 r3 ∧ Below w0.heap.size w0 w' ∧ bO w w' g none:=by
 have HI0:=Aside0.mk hI
 have HK:=Aside0.mk (bO.refl w g none)
 have HL:=Aside0.mk hB.size
 clear hI
 have HW0:=Aside0.mk hB.size
 have HB:=Aside0.mk hB
 clear hB
 have H : (if zP = 0 then (if zM.toList = ([] : List UInt8) then (some (zP,zM,zP)) else (some (6,zM,zP))) else (some (zP,zM,zP))) = some (r1,r2,r3):=h
 clear h
 by_cases c2 : zP = 0
 ·rw [if_pos c2] at H
  have c2b0 : (zP == 0) = true:=beq_iff_eq.mpr c2
  have c2b1 : (zP != 0) = false:=bne_eq_false_iff_eq.mpr c2
  clear c2
  by_cases c3 : zM.toList = ([] : List UInt8)
  ·rw [if_pos c3] at H
   have c3b0 : (zM.toList == ([] : List UInt8)) = true:=beq_iff_eq.mpr c3
   have c3b1 : (zM.toList != ([] : List UInt8)) = false:=bne_eq_false_iff_eq.mpr c3
   clear c3
   simp only [Option.some.injEq,Prod.mk.injEq] at H
   obtain ⟨rfl,rfl,rfl⟩:=H
   obtain ⟨Am,BJ⟩:=HI0.out
   have BK:=fB Am
   have BL:=fC Am
   have BM:=av Am 0
   have BN:=av Am 1
   clear Am BJ
   go_enter Tryd.func50,Tryd.ntmps50
   go_wp2
   go_ret
   exact ⟨by first|rfl|(simp [aY,aZ] <;> rfl)|(simp [*,aY,aZ] <;> rfl),by repeat (first|(with_reducible first|exact HI0.out|apply bC.alloc|apply bC.drewN|apply bC.drew|apply bC.fU|apply bC.fV)|exact HI0.out),by repeat (first|(with_reducible first|exact HB.out|apply aD|apply ak|apply aC|refine aA ?_ (bC.ge HI0.out))|exact HB.out),by repeat (first|(with_reducible first|exact HK.out|apply bO.gX|apply dL|apply dU|apply dM)|exact HK.out)⟩
  ·rw [if_neg c3] at H
   have c3b0 : (zM.toList == ([] : List UInt8)) = false:=beq_eq_false_iff_ne.mpr c3
   have c3b1 : (zM.toList != ([] : List UInt8)) = true:=bne_iff_ne.mpr c3
   simp only [Option.some.injEq,Prod.mk.injEq] at H
   obtain ⟨rfl,rfl,rfl⟩:=H
   obtain ⟨Ap,BO⟩:=HI0.out
   have BP:=fB Ap
   have BQ:=fC Ap
   have BR:=av Ap 0
   have BS:=av Ap 1
   clear Ap BO
   go_enter Tryd.func50,Tryd.ntmps50
   go_wp2
   go_ret
   exact ⟨by first|rfl|(simp [aY,aZ] <;> rfl)|(simp [*,aY,aZ] <;> rfl),by repeat (first|(with_reducible first|exact HI0.out|apply bC.alloc|apply bC.drewN|apply bC.drew|apply bC.fU|apply bC.fV)|exact HI0.out),by repeat (first|(with_reducible first|exact HB.out|apply aD|apply ak|apply aC|refine aA ?_ (bC.ge HI0.out))|exact HB.out),by repeat (first|(with_reducible first|exact HK.out|apply bO.gX|apply dL|apply dU|apply dM)|exact HK.out)⟩
 ·rw [if_neg c2] at H
  have c2b0 : (zP == 0) = false:=beq_eq_false_iff_ne.mpr c2
  have c2b1 : (zP != 0) = true:=bne_iff_ne.mpr c2
  simp only [Option.some.injEq,Prod.mk.injEq] at H
  obtain ⟨rfl,rfl,rfl⟩:=H
  obtain ⟨Aq,BU⟩:=HI0.out
  have BZ:=fB Aq
  have Ca:=fC Aq
  have Cb:=av Aq 0
  have Cc:=av Aq 1
  clear Aq BU
  go_enter Tryd.func50,Tryd.ntmps50
  go_wp2
  go_ret
  exact ⟨by first|rfl|(simp [aY,aZ] <;> rfl)|(simp [*,aY,aZ] <;> rfl),by repeat (first|(with_reducible first|exact HI0.out|apply bC.alloc|apply bC.drewN|apply bC.drew|apply bC.fU|apply bC.fV)|exact HI0.out),by repeat (first|(with_reducible first|exact HB.out|apply aD|apply ak|apply aC|refine aA ?_ (bC.ge HI0.out))|exact HB.out),by repeat (first|(with_reducible first|exact HK.out|apply bO.gX|apply dL|apply dU|apply dM)|exact HK.out)⟩
mutual
def aV.j0 : Nat → ByteArray → Bool → Option (Bool)
 | 0,_,_=>none
 | k + 1,x0,Cn=>if Cn = true then (some false) else (aV.l0 k x0 0)
def aV.l0 : Nat → ByteArray → Int → Option (Bool)
 | 0,_,_=>none
 | k + 1,x0,x3=>if x3 < (x0.size : Int) then (if 0 ≤ x3 then (if (bt x0 x3) ≥ 97 then (if (bt x0 x3) ≤ 122 then (aV.l0 k x0 (wrap64 (x3 + 1))) else (if (bt x0 x3) ≥ 48 then (if (bt x0 x3) ≤ 57 then (aV.l0 k x0 (wrap64 (x3 + 1))) else (if (bt x0 x3) = 46 then (aV.l0 k x0 (wrap64 (x3 + 1))) else (if (bt x0 x3) = 95 then (aV.l0 k x0 (wrap64 (x3 + 1))) else (if (bt x0 x3) = 45 then (aV.l0 k x0 (wrap64 (x3 + 1))) else (if ((bt x0 x3) = 47) then (aV.l0 k x0 (wrap64 (x3 + 1))) else (some false)))))) else (if (bt x0 x3) = 46 then (aV.l0 k x0 (wrap64 (x3 + 1))) else (if (bt x0 x3) = 95 then (aV.l0 k x0 (wrap64 (x3 + 1))) else (if (bt x0 x3) = 45 then (aV.l0 k x0 (wrap64 (x3 + 1))) else (if ((bt x0 x3) = 47) then (aV.l0 k x0 (wrap64 (x3 + 1))) else (some false))))))) else (if (bt x0 x3) ≥ 48 then (if (bt x0 x3) ≤ 57 then (aV.l0 k x0 (wrap64 (x3 + 1))) else (if (bt x0 x3) = 46 then (aV.l0 k x0 (wrap64 (x3 + 1))) else (if (bt x0 x3) = 95 then (aV.l0 k x0 (wrap64 (x3 + 1))) else (if (bt x0 x3) = 45 then (aV.l0 k x0 (wrap64 (x3 + 1))) else (if ((bt x0 x3) = 47) then (aV.l0 k x0 (wrap64 (x3 + 1))) else (some false)))))) else (if (bt x0 x3) = 46 then (aV.l0 k x0 (wrap64 (x3 + 1))) else (if (bt x0 x3) = 95 then (aV.l0 k x0 (wrap64 (x3 + 1))) else (if (bt x0 x3) = 45 then (aV.l0 k x0 (wrap64 (x3 + 1))) else (if ((bt x0 x3) = 47) then (aV.l0 k x0 (wrap64 (x3 + 1))) else (some false))))))) else (none)) else (some true)
end
def aV.f (k : Nat) (a0 : ByteArray) : Option (Bool):=if (a0.size : Int) < 1 then (aV.j0 k a0 true) else (aV.j0 k a0 (decide ((a0.size : Int) > 64)))
theorem aV.dX : ∀ k,(∀ y0 y1,LeO (aV.j0 k y0 y1) (aV.j0 (k + 1) y0 y1)) ∧ (∀ y0 y1,LeO (aV.l0 k y0 y1) (aV.l0 (k + 1) y0 y1))
 | 0=>⟨fun _ _ r h=>by simp [aV.j0] at h,fun _ _ r h=>by simp [aV.l0] at h⟩
 | k + 1=>by
  obtain ⟨Ak,ih1⟩:=aV.dX k
  refine ⟨?_,?_⟩
  ·intro y0 y1
   unfold aV.j0
   repeat' first
   | (with_reducible exact Ak _ _)
   | (with_reducible exact ih1 _ _)
   | (with_reducible exact LeO.refl _)
   | (with_reducible exact LeO.none _)
   | (with_reducible refine LeO.ite ?_ ?_)
   | (with_reducible refine LeO.bind ?_ (fun _=>?_))
   | exact Ak _ _
   | exact ih1 _ _
   | exact LeO.none _
   | refine LeO.ite ?_ ?_
   | refine LeO.bind ?_ (fun _=>?_)
  ·intro y0 y1
   unfold aV.l0
   repeat' first
   | (with_reducible exact Ak _ _)
   | (with_reducible exact ih1 _ _)
   | (with_reducible exact LeO.refl _)
   | (with_reducible exact LeO.none _)
   | (with_reducible refine LeO.ite ?_ ?_)
   | (with_reducible refine LeO.bind ?_ (fun _=>?_))
   | exact Ak _ _
   | exact ih1 _ _
   | exact LeO.none _
   | refine LeO.ite ?_ ?_
   | refine LeO.bind ?_ (fun _=>?_)
theorem aV.mono : ∀ a0 k,LeO (aV.f k a0) (aV.f (k + 1) a0):=by
 intro a0 k
 obtain ⟨Ak,ih1⟩:=aV.dX k
 unfold aV.f
 repeat' first
   | (with_reducible exact Ak _ _)
   | (with_reducible exact ih1 _ _)
   | (with_reducible exact LeO.refl _)
   | (with_reducible exact LeO.none _)
   | (with_reducible refine LeO.ite ?_ ?_)
   | (with_reducible refine LeO.bind ?_ (fun _=>?_))
   | exact Ak _ _
   | exact ih1 _ _
   | exact LeO.none _
   | refine LeO.ite ?_ ?_
   | refine LeO.bind ?_ (fun _=>?_)
set_option maxHeartbeats 8000000 in
set_option maxRecDepth 100000 in
theorem aV.calls (k : Nat) (a0 : ByteArray) (r : Bool) (w : World) (h : aV.f k a0 = some r) :
  Calls Tryd.prog 19 #[.string a0] w fun e w'=>e = .returned (.bool r) ∧ Drawn0 w w':=by
 have H : (if (a0.size : Int) < 1 then (aV.j0 k a0 true) else (aV.j0 k a0 (decide ((a0.size : Int) > 64)))) = some r:=h
 clear h
 have Ce:=Aside0.mk H
 clear H
 go_enter Tryd.func19,Tryd.ntmps19
 go_upto_region 1 with (fail)
 go_cut [12] (fun v12 wc=>∃ (kq : Nat) (Ag : Bool),v12 = .bool Ag ∧ Aside0 (aV.j0 kq a0 Ag = some r) ∧ Aside0 (kq ≤ k) ∧ Drawn0 w wc)
 case first =>
  have H:=Ce.out
  clear Ce
  by_cases c3 : (a0.size : Int) < 1
  ·rw [if_pos c3] at H
   have c3b0 : decide ((a0.size : Int) < 1) = true:=decide_eq_true c3
   have c3b1 : decide (a0.size < 1) = true:=decide_eq_true (by omega)
   clear c3
   (first|rw [c3b0]|(simp only [bI,bN];rw [c3b0])|skip)
   have H':=Aside0.mk H
   clear H
   go_wp2
   go_meet
   case rel=>exact ⟨_,(true),(by first|rfl|(simp;done)|(simp [*];done)),H',⟨by first|omega|exact Nat.le_refl _⟩,by repeat (first|exact Drawn0.refl _|apply Drawn0.step)⟩
  ·rw [if_neg c3] at H
   have c3b0 : decide ((a0.size : Int) < 1) = false:=decide_eq_false c3
   have c3b1 : decide (a0.size < 1) = false:=decide_eq_false (by omega)
   clear c3
   (first|rw [c3b0]|(simp only [bI,bN];rw [c3b0])|skip)
   have H':=Aside0.mk H
   clear H
   go_wp2
   go_meet
   case rel=>exact ⟨_,(decide ((a0.size : Int) > 64)),(by first|rfl|(simp;done)|(simp [*];done)),H',⟨by first|omega|exact Nat.le_refl _⟩,by repeat (first|exact Drawn0.refl _|apply Drawn0.step)⟩
 case rest =>
  clear Ce
  try clear c1
  try clear p2
  try clear c3
  try clear c3b0
  try clear c3b1
  obtain ⟨kq,Ag,rfl,HA,zU,⟨Cy,rfl⟩⟩:=hcut
  cases kq with
  | zero=>exact absurd HA.out (by simp [aV.j0])
  | succ Cg =>
   have H:=HA.out
   clear HA
   simp only [aV.j0] at H
   by_cases c4 : Ag = true
   ·subst c4
    have H1 : (some false) = some r:=by rw [if_pos rfl] at H;exact H
    clear H
    have H:=H1
    clear H1
    obtain rfl:=Option.some.inj H
    go_wp2
    go_ret
    exact ⟨by first|rfl|(simp;done)|(simp [*];done),by repeat (first|exact Drawn0.refl _|apply Drawn0.step)⟩
   ·replace c4:=Bool.eq_false_iff.mpr c4
    subst c4
    have H1 : (aV.l0 Cg a0 0) = some r:=by rw [if_neg (show ¬ (false = true) by decide)] at H;exact H
    clear H
    have H:=H1
    clear H1
    have H':=Aside0.mk H
    clear H
    go_wp2
    go_loopg [3] Cg (fun kq v3 w'=>∃ (zL : Int),v3 = .int .i64 zL ∧ Aside0 (aV.l0 kq a0 zL = some r) ∧ Aside0 (kq ≤ Cg) ∧ Drawn0 w w')
    case atStart=>exact ⟨(0),(by first|rfl|(simp;done)|(simp [*];done)),H',⟨Nat.le_refl _⟩,by repeat (first|exact Drawn0.refl _|apply Drawn0.step)⟩
    case round =>
     clear H'
     try clear c1
     try clear p2
     try clear c3
     try clear c3b0
     try clear c3b1
     try clear c4
     try clear p2
     obtain ⟨zL,rfl,HA,zV,⟨m2,rfl⟩⟩:=hrel
     cases gk with
     | zero=>exact absurd HA.out (by simp [aV.l0])
     | succ k2 =>
      have H:=HA.out
      clear HA
      simp only [aV.l0] at H
      by_cases c5 : zL < (a0.size : Int)
      ·rw [if_pos c5] at H
       have c5b0 : decide (zL < (a0.size : Int)) = true:=decide_eq_true c5
       clear c5
       by_cases c6 : 0 ≤ zL
       ·rw [if_pos c6] at H
        have c6b0 : decide (0 ≤ zL) = true:=decide_eq_true c6
        clear c6
        by_cases c8 : (bt a0 zL) ≥ 97
        ·rw [if_pos c8] at H
         have c8b0 : decide (97 ≤ (bt a0 zL)) = true:=decide_eq_true c8
         clear c8
         by_cases c9 : (bt a0 zL) ≤ 122
         ·rw [if_pos c9] at H
          have c9b0 : decide ((bt a0 zL) ≤ 122) = true:=decide_eq_true c9
          clear c9
          have H':=Aside0.mk H
          clear H
          have p7 : 0 ≤ (zL : Int):=of_decide_eq_true (by first|(with_reducible assumption)|assumption)
          have q7 : zL < (a0.size : Int):=of_decide_eq_true (by first|(with_reducible assumption)|assumption)
          have hx7:=dG a0 zL
          replace p7:=eq_true p7
          replace q7:=eq_true q7
          go_wp2
          go_roundg k2
          case measure=>have:=zU.out;have:=zV.out;omega
          case rel=>exact ⟨(wrap64 (zL + 1)),(by first|rfl|(simp;done)|(simp [*];done)),H',⟨by have:=zU.out;have:=zV.out;omega⟩,by repeat (first|exact Drawn0.refl _|apply Drawn0.step)⟩
         ·rw [if_neg c9] at H
          have c9b0 : decide ((bt a0 zL) ≤ 122) = false:=decide_eq_false c9
          clear c9
          by_cases c10 : (bt a0 zL) ≥ 48
          ·rw [if_pos c10] at H
           have c10b0 : decide (48 ≤ (bt a0 zL)) = true:=decide_eq_true c10
           clear c10
           by_cases c11 : (bt a0 zL) ≤ 57
           ·rw [if_pos c11] at H
            have c11b0 : decide ((bt a0 zL) ≤ 57) = true:=decide_eq_true c11
            clear c11
            have H':=Aside0.mk H
            clear H
            have p7 : 0 ≤ (zL : Int):=of_decide_eq_true (by first|(with_reducible assumption)|assumption)
            have q7 : zL < (a0.size : Int):=of_decide_eq_true (by first|(with_reducible assumption)|assumption)
            have hx7:=dG a0 zL
            replace p7:=eq_true p7
            replace q7:=eq_true q7
            go_wp2
            go_roundg k2
            case measure=>have:=zU.out;have:=zV.out;omega
            case rel=>exact ⟨(wrap64 (zL + 1)),(by first|rfl|(simp;done)|(simp [*];done)),H',⟨by have:=zU.out;have:=zV.out;omega⟩,by repeat (first|exact Drawn0.refl _|apply Drawn0.step)⟩
           ·rw [if_neg c11] at H
            have c11b0 : decide ((bt a0 zL) ≤ 57) = false:=decide_eq_false c11
            clear c11
            by_cases c12 : (bt a0 zL) = 46
            ·rw [if_pos c12] at H
             have c12b0 : ((bt a0 zL) == 46) = true:=beq_iff_eq.mpr c12
             have c12b1 : ((bt a0 zL) != 46) = false:=bne_eq_false_iff_eq.mpr c12
             clear c12
             have H':=Aside0.mk H
             clear H
             have p7 : 0 ≤ (zL : Int):=of_decide_eq_true (by first|(with_reducible assumption)|assumption)
             have q7 : zL < (a0.size : Int):=of_decide_eq_true (by first|(with_reducible assumption)|assumption)
             have hx7:=dG a0 zL
             replace p7:=eq_true p7
             replace q7:=eq_true q7
             go_wp2
             go_roundg k2
             case measure=>have:=zU.out;have:=zV.out;omega
             case rel=>exact ⟨(wrap64 (zL + 1)),(by first|rfl|(simp;done)|(simp [*];done)),H',⟨by have:=zU.out;have:=zV.out;omega⟩,by repeat (first|exact Drawn0.refl _|apply Drawn0.step)⟩
            ·rw [if_neg c12] at H
             have c12b0 : ((bt a0 zL) == 46) = false:=beq_eq_false_iff_ne.mpr c12
             have c12b1 : ((bt a0 zL) != 46) = true:=bne_iff_ne.mpr c12
             by_cases c13 : (bt a0 zL) = 95
             ·rw [if_pos c13] at H
              have c13b0 : ((bt a0 zL) == 95) = true:=beq_iff_eq.mpr c13
              have c13b1 : ((bt a0 zL) != 95) = false:=bne_eq_false_iff_eq.mpr c13
              clear c13
              have H':=Aside0.mk H
              clear H
              have p7 : 0 ≤ (zL : Int):=of_decide_eq_true (by first|(with_reducible assumption)|assumption)
              have q7 : zL < (a0.size : Int):=of_decide_eq_true (by first|(with_reducible assumption)|assumption)
              have hx7:=dG a0 zL
              replace p7:=eq_true p7
              replace q7:=eq_true q7
              go_wp2
              go_roundg k2
              case measure=>have:=zU.out;have:=zV.out;omega
              case rel=>exact ⟨(wrap64 (zL + 1)),(by first|rfl|(simp;done)|(simp [*];done)),H',⟨by have:=zU.out;have:=zV.out;omega⟩,by repeat (first|exact Drawn0.refl _|apply Drawn0.step)⟩
             ·rw [if_neg c13] at H
              have c13b0 : ((bt a0 zL) == 95) = false:=beq_eq_false_iff_ne.mpr c13
              have c13b1 : ((bt a0 zL) != 95) = true:=bne_iff_ne.mpr c13
              by_cases c14 : (bt a0 zL) = 45
              ·rw [if_pos c14] at H
               have c14b0 : ((bt a0 zL) == 45) = true:=beq_iff_eq.mpr c14
               have c14b1 : ((bt a0 zL) != 45) = false:=bne_eq_false_iff_eq.mpr c14
               clear c14
               have H':=Aside0.mk H
               clear H
               have p7 : 0 ≤ (zL : Int):=of_decide_eq_true (by first|(with_reducible assumption)|assumption)
               have q7 : zL < (a0.size : Int):=of_decide_eq_true (by first|(with_reducible assumption)|assumption)
               have hx7:=dG a0 zL
               replace p7:=eq_true p7
               replace q7:=eq_true q7
               go_wp2
               go_roundg k2
               case measure=>have:=zU.out;have:=zV.out;omega
               case rel=>exact ⟨(wrap64 (zL + 1)),(by first|rfl|(simp;done)|(simp [*];done)),H',⟨by have:=zU.out;have:=zV.out;omega⟩,by repeat (first|exact Drawn0.refl _|apply Drawn0.step)⟩
              ·rw [if_neg c14] at H
               have c14b0 : ((bt a0 zL) == 45) = false:=beq_eq_false_iff_ne.mpr c14
               have c14b1 : ((bt a0 zL) != 45) = true:=bne_iff_ne.mpr c14
               by_cases c15 : ((bt a0 zL) = 47)
               ·rw [if_pos c15] at H
                have c15b0 : ((bt a0 zL) == 47) = true:=beq_iff_eq.mpr c15
                have c15b1 : ((bt a0 zL) != 47) = false:=bne_eq_false_iff_eq.mpr c15
                clear c15
                have H':=Aside0.mk H
                clear H
                have p7 : 0 ≤ (zL : Int):=of_decide_eq_true (by first|(with_reducible assumption)|assumption)
                have q7 : zL < (a0.size : Int):=of_decide_eq_true (by first|(with_reducible assumption)|assumption)
                have hx7:=dG a0 zL
                replace p7:=eq_true p7
                replace q7:=eq_true q7
                go_wp2
                go_roundg k2
                case measure=>have:=zU.out;have:=zV.out;omega
                case rel=>exact ⟨(wrap64 (zL + 1)),(by first|rfl|(simp;done)|(simp [*];done)),H',⟨by have:=zU.out;have:=zV.out;omega⟩,by repeat (first|exact Drawn0.refl _|apply Drawn0.step)⟩
               ·rw [if_neg c15] at H
                have c15b0 : ((bt a0 zL) == 47) = false:=beq_eq_false_iff_ne.mpr c15
                have c15b1 : ((bt a0 zL) != 47) = true:=bne_iff_ne.mpr c15
                obtain rfl:=Option.some.inj H
                have p7 : 0 ≤ (zL : Int):=of_decide_eq_true (by first|(with_reducible assumption)|assumption)
                have q7 : zL < (a0.size : Int):=of_decide_eq_true (by first|(with_reducible assumption)|assumption)
                have hx7:=dG a0 zL
                replace p7:=eq_true p7
                replace q7:=eq_true q7
                go_wp2
                go_ret
                exact ⟨by first|rfl|(simp;done)|(simp [*];done),by repeat (first|exact Drawn0.refl _|apply Drawn0.step)⟩
          ·rw [if_neg c10] at H
           have c10b0 : decide (48 ≤ (bt a0 zL)) = false:=decide_eq_false c10
           clear c10
           by_cases c16 : (bt a0 zL) = 46
           ·rw [if_pos c16] at H
            have c16b0 : ((bt a0 zL) == 46) = true:=beq_iff_eq.mpr c16
            have c16b1 : ((bt a0 zL) != 46) = false:=bne_eq_false_iff_eq.mpr c16
            clear c16
            have H':=Aside0.mk H
            clear H
            have p7 : 0 ≤ (zL : Int):=of_decide_eq_true (by first|(with_reducible assumption)|assumption)
            have q7 : zL < (a0.size : Int):=of_decide_eq_true (by first|(with_reducible assumption)|assumption)
            have hx7:=dG a0 zL
            replace p7:=eq_true p7
            replace q7:=eq_true q7
            go_wp2
            go_roundg k2
            case measure=>have:=zU.out;have:=zV.out;omega
            case rel=>exact ⟨(wrap64 (zL + 1)),(by first|rfl|(simp;done)|(simp [*];done)),H',⟨by have:=zU.out;have:=zV.out;omega⟩,by repeat (first|exact Drawn0.refl _|apply Drawn0.step)⟩
           ·rw [if_neg c16] at H
            have c16b0 : ((bt a0 zL) == 46) = false:=beq_eq_false_iff_ne.mpr c16
            have c16b1 : ((bt a0 zL) != 46) = true:=bne_iff_ne.mpr c16
            by_cases c17 : (bt a0 zL) = 95
            ·rw [if_pos c17] at H
             have c17b0 : ((bt a0 zL) == 95) = true:=beq_iff_eq.mpr c17
             have c17b1 : ((bt a0 zL) != 95) = false:=bne_eq_false_iff_eq.mpr c17
             clear c17
             have H':=Aside0.mk H
             clear H
             have p7 : 0 ≤ (zL : Int):=of_decide_eq_true (by first|(with_reducible assumption)|assumption)
             have q7 : zL < (a0.size : Int):=of_decide_eq_true (by first|(with_reducible assumption)|assumption)
             have hx7:=dG a0 zL
             replace p7:=eq_true p7
             replace q7:=eq_true q7
             go_wp2
             go_roundg k2
             case measure=>have:=zU.out;have:=zV.out;omega
             case rel=>exact ⟨(wrap64 (zL + 1)),(by first|rfl|(simp;done)|(simp [*];done)),H',⟨by have:=zU.out;have:=zV.out;omega⟩,by repeat (first|exact Drawn0.refl _|apply Drawn0.step)⟩
            ·rw [if_neg c17] at H
             have c17b0 : ((bt a0 zL) == 95) = false:=beq_eq_false_iff_ne.mpr c17
             have c17b1 : ((bt a0 zL) != 95) = true:=bne_iff_ne.mpr c17
             by_cases c18 : (bt a0 zL) = 45
             ·rw [if_pos c18] at H
              have c18b0 : ((bt a0 zL) == 45) = true:=beq_iff_eq.mpr c18
              have c18b1 : ((bt a0 zL) != 45) = false:=bne_eq_false_iff_eq.mpr c18
              clear c18
              have H':=Aside0.mk H
              clear H
              have p7 : 0 ≤ (zL : Int):=of_decide_eq_true (by first|(with_reducible assumption)|assumption)
              have q7 : zL < (a0.size : Int):=of_decide_eq_true (by first|(with_reducible assumption)|assumption)
              have hx7:=dG a0 zL
              replace p7:=eq_true p7
              replace q7:=eq_true q7
              go_wp2
              go_roundg k2
              case measure=>have:=zU.out;have:=zV.out;omega
              case rel=>exact ⟨(wrap64 (zL + 1)),(by first|rfl|(simp;done)|(simp [*];done)),H',⟨by have:=zU.out;have:=zV.out;omega⟩,by repeat (first|exact Drawn0.refl _|apply Drawn0.step)⟩
             ·rw [if_neg c18] at H
              have c18b0 : ((bt a0 zL) == 45) = false:=beq_eq_false_iff_ne.mpr c18
              have c18b1 : ((bt a0 zL) != 45) = true:=bne_iff_ne.mpr c18
              by_cases c19 : ((bt a0 zL) = 47)
              ·rw [if_pos c19] at H
               have c19b0 : ((bt a0 zL) == 47) = true:=beq_iff_eq.mpr c19
               have c19b1 : ((bt a0 zL) != 47) = false:=bne_eq_false_iff_eq.mpr c19
               clear c19
               have H':=Aside0.mk H
               clear H
               have p7 : 0 ≤ (zL : Int):=of_decide_eq_true (by first|(with_reducible assumption)|assumption)
               have q7 : zL < (a0.size : Int):=of_decide_eq_true (by first|(with_reducible assumption)|assumption)
               have hx7:=dG a0 zL
               replace p7:=eq_true p7
               replace q7:=eq_true q7
               go_wp2
               go_roundg k2
               case measure=>have:=zU.out;have:=zV.out;omega
               case rel=>exact ⟨(wrap64 (zL + 1)),(by first|rfl|(simp;done)|(simp [*];done)),H',⟨by have:=zU.out;have:=zV.out;omega⟩,by repeat (first|exact Drawn0.refl _|apply Drawn0.step)⟩
              ·rw [if_neg c19] at H
               have c19b0 : ((bt a0 zL) == 47) = false:=beq_eq_false_iff_ne.mpr c19
               have c19b1 : ((bt a0 zL) != 47) = true:=bne_iff_ne.mpr c19
               obtain rfl:=Option.some.inj H
               have p7 : 0 ≤ (zL : Int):=of_decide_eq_true (by first|(with_reducible assumption)|assumption)
               have q7 : zL < (a0.size : Int):=of_decide_eq_true (by first|(with_reducible assumption)|assumption)
               have hx7:=dG a0 zL
               replace p7:=eq_true p7
               replace q7:=eq_true q7
               go_wp2
               go_ret
               exact ⟨by first|rfl|(simp;done)|(simp [*];done),by repeat (first|exact Drawn0.refl _|apply Drawn0.step)⟩
        ·rw [if_neg c8] at H
         have c8b0 : decide (97 ≤ (bt a0 zL)) = false:=decide_eq_false c8
         clear c8
         by_cases c20 : (bt a0 zL) ≥ 48
         ·rw [if_pos c20] at H
          have c20b0 : decide (48 ≤ (bt a0 zL)) = true:=decide_eq_true c20
          clear c20
          by_cases c21 : (bt a0 zL) ≤ 57
          ·rw [if_pos c21] at H
           have c21b0 : decide ((bt a0 zL) ≤ 57) = true:=decide_eq_true c21
           clear c21
           have H':=Aside0.mk H
           clear H
           have p7 : 0 ≤ (zL : Int):=of_decide_eq_true (by first|(with_reducible assumption)|assumption)
           have q7 : zL < (a0.size : Int):=of_decide_eq_true (by first|(with_reducible assumption)|assumption)
           have hx7:=dG a0 zL
           replace p7:=eq_true p7
           replace q7:=eq_true q7
           go_wp2
           go_roundg k2
           case measure=>have:=zU.out;have:=zV.out;omega
           case rel=>exact ⟨(wrap64 (zL + 1)),(by first|rfl|(simp;done)|(simp [*];done)),H',⟨by have:=zU.out;have:=zV.out;omega⟩,by repeat (first|exact Drawn0.refl _|apply Drawn0.step)⟩
          ·rw [if_neg c21] at H
           have c21b0 : decide ((bt a0 zL) ≤ 57) = false:=decide_eq_false c21
           clear c21
           by_cases Ar : (bt a0 zL) = 46
           ·rw [if_pos Ar] at H
            have c22b0 : ((bt a0 zL) == 46) = true:=beq_iff_eq.mpr Ar
            have c22b1 : ((bt a0 zL) != 46) = false:=bne_eq_false_iff_eq.mpr Ar
            clear Ar
            have H':=Aside0.mk H
            clear H
            have p7 : 0 ≤ (zL : Int):=of_decide_eq_true (by first|(with_reducible assumption)|assumption)
            have q7 : zL < (a0.size : Int):=of_decide_eq_true (by first|(with_reducible assumption)|assumption)
            have hx7:=dG a0 zL
            replace p7:=eq_true p7
            replace q7:=eq_true q7
            go_wp2
            go_roundg k2
            case measure=>have:=zU.out;have:=zV.out;omega
            case rel=>exact ⟨(wrap64 (zL + 1)),(by first|rfl|(simp;done)|(simp [*];done)),H',⟨by have:=zU.out;have:=zV.out;omega⟩,by repeat (first|exact Drawn0.refl _|apply Drawn0.step)⟩
           ·rw [if_neg Ar] at H
            have c22b0 : ((bt a0 zL) == 46) = false:=beq_eq_false_iff_ne.mpr Ar
            have c22b1 : ((bt a0 zL) != 46) = true:=bne_iff_ne.mpr Ar
            by_cases c23 : (bt a0 zL) = 95
            ·rw [if_pos c23] at H
             have c23b0 : ((bt a0 zL) == 95) = true:=beq_iff_eq.mpr c23
             have c23b1 : ((bt a0 zL) != 95) = false:=bne_eq_false_iff_eq.mpr c23
             clear c23
             have H':=Aside0.mk H
             clear H
             have p7 : 0 ≤ (zL : Int):=of_decide_eq_true (by first|(with_reducible assumption)|assumption)
             have q7 : zL < (a0.size : Int):=of_decide_eq_true (by first|(with_reducible assumption)|assumption)
             have hx7:=dG a0 zL
             replace p7:=eq_true p7
             replace q7:=eq_true q7
             go_wp2
             go_roundg k2
             case measure=>have:=zU.out;have:=zV.out;omega
             case rel=>exact ⟨(wrap64 (zL + 1)),(by first|rfl|(simp;done)|(simp [*];done)),H',⟨by have:=zU.out;have:=zV.out;omega⟩,by repeat (first|exact Drawn0.refl _|apply Drawn0.step)⟩
            ·rw [if_neg c23] at H
             have c23b0 : ((bt a0 zL) == 95) = false:=beq_eq_false_iff_ne.mpr c23
             have c23b1 : ((bt a0 zL) != 95) = true:=bne_iff_ne.mpr c23
             by_cases c24 : (bt a0 zL) = 45
             ·rw [if_pos c24] at H
              have c24b0 : ((bt a0 zL) == 45) = true:=beq_iff_eq.mpr c24
              have c24b1 : ((bt a0 zL) != 45) = false:=bne_eq_false_iff_eq.mpr c24
              clear c24
              have H':=Aside0.mk H
              clear H
              have p7 : 0 ≤ (zL : Int):=of_decide_eq_true (by first|(with_reducible assumption)|assumption)
              have q7 : zL < (a0.size : Int):=of_decide_eq_true (by first|(with_reducible assumption)|assumption)
              have hx7:=dG a0 zL
              replace p7:=eq_true p7
              replace q7:=eq_true q7
              go_wp2
              go_roundg k2
              case measure=>have:=zU.out;have:=zV.out;omega
              case rel=>exact ⟨(wrap64 (zL + 1)),(by first|rfl|(simp;done)|(simp [*];done)),H',⟨by have:=zU.out;have:=zV.out;omega⟩,by repeat (first|exact Drawn0.refl _|apply Drawn0.step)⟩
             ·rw [if_neg c24] at H
              have c24b0 : ((bt a0 zL) == 45) = false:=beq_eq_false_iff_ne.mpr c24
              have c24b1 : ((bt a0 zL) != 45) = true:=bne_iff_ne.mpr c24
              by_cases Av : ((bt a0 zL) = 47)
              ·rw [if_pos Av] at H
               have c25b0 : ((bt a0 zL) == 47) = true:=beq_iff_eq.mpr Av
               have c25b1 : ((bt a0 zL) != 47) = false:=bne_eq_false_iff_eq.mpr Av
               clear Av
               have H':=Aside0.mk H
               clear H
               have p7 : 0 ≤ (zL : Int):=of_decide_eq_true (by first|(with_reducible assumption)|assumption)
               have q7 : zL < (a0.size : Int):=of_decide_eq_true (by first|(with_reducible assumption)|assumption)
               have hx7:=dG a0 zL
               replace p7:=eq_true p7
               replace q7:=eq_true q7
               go_wp2
               go_roundg k2
               case measure=>have:=zU.out;have:=zV.out;omega
               case rel=>exact ⟨(wrap64 (zL + 1)),(by first|rfl|(simp;done)|(simp [*];done)),H',⟨by have:=zU.out;have:=zV.out;omega⟩,by repeat (first|exact Drawn0.refl _|apply Drawn0.step)⟩
              ·rw [if_neg Av] at H
               have c25b0 : ((bt a0 zL) == 47) = false:=beq_eq_false_iff_ne.mpr Av
               have c25b1 : ((bt a0 zL) != 47) = true:=bne_iff_ne.mpr Av
               obtain rfl:=Option.some.inj H
               have p7 : 0 ≤ (zL : Int):=of_decide_eq_true (by first|(with_reducible assumption)|assumption)
               have q7 : zL < (a0.size : Int):=of_decide_eq_true (by first|(with_reducible assumption)|assumption)
               have hx7:=dG a0 zL
               replace p7:=eq_true p7
               replace q7:=eq_true q7
               go_wp2
               go_ret
               exact ⟨by first|rfl|(simp;done)|(simp [*];done),by repeat (first|exact Drawn0.refl _|apply Drawn0.step)⟩
         ·rw [if_neg c20] at H
          have c20b0 : decide (48 ≤ (bt a0 zL)) = false:=decide_eq_false c20
          clear c20
          by_cases Aw : (bt a0 zL) = 46
          ·rw [if_pos Aw] at H
           have c26b0 : ((bt a0 zL) == 46) = true:=beq_iff_eq.mpr Aw
           have c26b1 : ((bt a0 zL) != 46) = false:=bne_eq_false_iff_eq.mpr Aw
           clear Aw
           have H':=Aside0.mk H
           clear H
           have p7 : 0 ≤ (zL : Int):=of_decide_eq_true (by first|(with_reducible assumption)|assumption)
           have q7 : zL < (a0.size : Int):=of_decide_eq_true (by first|(with_reducible assumption)|assumption)
           have hx7:=dG a0 zL
           replace p7:=eq_true p7
           replace q7:=eq_true q7
           go_wp2
           go_roundg k2
           case measure=>have:=zU.out;have:=zV.out;omega
           case rel=>exact ⟨(wrap64 (zL + 1)),(by first|rfl|(simp;done)|(simp [*];done)),H',⟨by have:=zU.out;have:=zV.out;omega⟩,by repeat (first|exact Drawn0.refl _|apply Drawn0.step)⟩
          ·rw [if_neg Aw] at H
           have c26b0 : ((bt a0 zL) == 46) = false:=beq_eq_false_iff_ne.mpr Aw
           have c26b1 : ((bt a0 zL) != 46) = true:=bne_iff_ne.mpr Aw
           by_cases Ay : (bt a0 zL) = 95
           ·rw [if_pos Ay] at H
            have c27b0 : ((bt a0 zL) == 95) = true:=beq_iff_eq.mpr Ay
            have c27b1 : ((bt a0 zL) != 95) = false:=bne_eq_false_iff_eq.mpr Ay
            clear Ay
            have H':=Aside0.mk H
            clear H
            have p7 : 0 ≤ (zL : Int):=of_decide_eq_true (by first|(with_reducible assumption)|assumption)
            have q7 : zL < (a0.size : Int):=of_decide_eq_true (by first|(with_reducible assumption)|assumption)
            have hx7:=dG a0 zL
            replace p7:=eq_true p7
            replace q7:=eq_true q7
            go_wp2
            go_roundg k2
            case measure=>have:=zU.out;have:=zV.out;omega
            case rel=>exact ⟨(wrap64 (zL + 1)),(by first|rfl|(simp;done)|(simp [*];done)),H',⟨by have:=zU.out;have:=zV.out;omega⟩,by repeat (first|exact Drawn0.refl _|apply Drawn0.step)⟩
           ·rw [if_neg Ay] at H
            have c27b0 : ((bt a0 zL) == 95) = false:=beq_eq_false_iff_ne.mpr Ay
            have c27b1 : ((bt a0 zL) != 95) = true:=bne_iff_ne.mpr Ay
            by_cases c28 : (bt a0 zL) = 45
            ·rw [if_pos c28] at H
             have c28b0 : ((bt a0 zL) == 45) = true:=beq_iff_eq.mpr c28
             have c28b1 : ((bt a0 zL) != 45) = false:=bne_eq_false_iff_eq.mpr c28
             clear c28
             have H':=Aside0.mk H
             clear H
             have p7 : 0 ≤ (zL : Int):=of_decide_eq_true (by first|(with_reducible assumption)|assumption)
             have q7 : zL < (a0.size : Int):=of_decide_eq_true (by first|(with_reducible assumption)|assumption)
             have hx7:=dG a0 zL
             replace p7:=eq_true p7
             replace q7:=eq_true q7
             go_wp2
             go_roundg k2
             case measure=>have:=zU.out;have:=zV.out;omega
             case rel=>exact ⟨(wrap64 (zL + 1)),(by first|rfl|(simp;done)|(simp [*];done)),H',⟨by have:=zU.out;have:=zV.out;omega⟩,by repeat (first|exact Drawn0.refl _|apply Drawn0.step)⟩
            ·rw [if_neg c28] at H
             have c28b0 : ((bt a0 zL) == 45) = false:=beq_eq_false_iff_ne.mpr c28
             have c28b1 : ((bt a0 zL) != 45) = true:=bne_iff_ne.mpr c28
             by_cases Az : ((bt a0 zL) = 47)
             ·rw [if_pos Az] at H
              have c29b0 : ((bt a0 zL) == 47) = true:=beq_iff_eq.mpr Az
              have c29b1 : ((bt a0 zL) != 47) = false:=bne_eq_false_iff_eq.mpr Az
              clear Az
              have H':=Aside0.mk H
              clear H
              have p7 : 0 ≤ (zL : Int):=of_decide_eq_true (by first|(with_reducible assumption)|assumption)
              have q7 : zL < (a0.size : Int):=of_decide_eq_true (by first|(with_reducible assumption)|assumption)
              have hx7:=dG a0 zL
              replace p7:=eq_true p7
              replace q7:=eq_true q7
              go_wp2
              go_roundg k2
              case measure=>have:=zU.out;have:=zV.out;omega
              case rel=>exact ⟨(wrap64 (zL + 1)),(by first|rfl|(simp;done)|(simp [*];done)),H',⟨by have:=zU.out;have:=zV.out;omega⟩,by repeat (first|exact Drawn0.refl _|apply Drawn0.step)⟩
             ·rw [if_neg Az] at H
              have c29b0 : ((bt a0 zL) == 47) = false:=beq_eq_false_iff_ne.mpr Az
              have c29b1 : ((bt a0 zL) != 47) = true:=bne_iff_ne.mpr Az
              obtain rfl:=Option.some.inj H
              have p7 : 0 ≤ (zL : Int):=of_decide_eq_true (by first|(with_reducible assumption)|assumption)
              have q7 : zL < (a0.size : Int):=of_decide_eq_true (by first|(with_reducible assumption)|assumption)
              have hx7:=dG a0 zL
              replace p7:=eq_true p7
              replace q7:=eq_true q7
              go_wp2
              go_ret
              exact ⟨by first|rfl|(simp;done)|(simp [*];done),by repeat (first|exact Drawn0.refl _|apply Drawn0.step)⟩
       ·rw [if_neg c6] at H
        exact absurd H (by simp)
      ·rw [if_neg c5] at H
       have c5b0 : decide (zL < (a0.size : Int)) = false:=decide_eq_false c5
       clear c5
       obtain rfl:=Option.some.inj H
       go_wp2
       go_ret
       exact ⟨by first|rfl|(simp;done)|(simp [*];done),by repeat (first|exact Drawn0.refl _|apply Drawn0.step)⟩
def bH.l0 : Nat → Int → ByteArray → Int → Option (Bool)
 | 0,_,_,_=>none
 | k + 1,x0,x1,x5=>if x5 < (x1.size : Int) then (if 0 ≤ x5 then (if (bt x1 x5) = x0 then (some true) else (bH.l0 k x0 x1 (wrap64 (x5 + 1)))) else (none)) else (some false)
def bH.f (k : Nat) (a0 : Int) (a1 : ByteArray) : Option (Bool):=bH.l0 k a0 a1 0
theorem bH.dX : ∀ k,(∀ y0 y1 y2,LeO (bH.l0 k y0 y1 y2) (bH.l0 (k + 1) y0 y1 y2))
 | 0=>fun _ _ _ r h=>by simp [bH.l0] at h
 | k + 1=>by
  have Ak:=bH.dX k
  ·intro y0 y1 y2
   unfold bH.l0
   repeat' first
   | (with_reducible exact Ak _ _ _)
   | (with_reducible exact LeO.refl _)
   | (with_reducible exact LeO.none _)
   | (with_reducible refine LeO.ite ?_ ?_)
   | (with_reducible refine LeO.bind ?_ (fun _=>?_))
   | exact Ak _ _ _
   | exact LeO.none _
   | refine LeO.ite ?_ ?_
   | refine LeO.bind ?_ (fun _=>?_)
theorem bH.mono : ∀ a0 a1 k,LeO (bH.f k a0 a1) (bH.f (k + 1) a0 a1):=by
 intro a0 a1 k
 have Ak:=bH.dX k
 unfold bH.f
 repeat' first
   | (with_reducible exact Ak _ _ _)
   | (with_reducible exact LeO.refl _)
   | (with_reducible exact LeO.none _)
   | (with_reducible refine LeO.ite ?_ ?_)
   | (with_reducible refine LeO.bind ?_ (fun _=>?_))
   | exact Ak _ _ _
   | exact LeO.none _
   | refine LeO.ite ?_ ?_
   | refine LeO.bind ?_ (fun _=>?_)
set_option maxHeartbeats 8000000 in
set_option maxRecDepth 100000 in
theorem bH.calls (k : Nat) (a0 : Int) (a1 : ByteArray) (r : Bool) (w : World) (h : bH.f k a0 a1 = some r) :
  Calls Tryd.prog 69 #[.int .u8 a0,.string a1] w fun e w'=>e = .returned (.bool r) ∧ Drawn0 w w':=by
 have H : (bH.l0 k a0 a1 0) = some r:=h
 clear h
 have H':=Aside0.mk H
 clear H
 go_enter Tryd.func69,Tryd.ntmps69
 go_wp2
 go_loopg [5] k (fun kq v5 w'=>∃ (zT : Int),v5 = .int .i64 zT ∧ Aside0 (bH.l0 kq a0 a1 zT = some r) ∧ Aside0 (kq ≤ k) ∧ Drawn0 w w')
 case atStart=>exact ⟨(0),(by first|rfl|(simp;done)|(simp [*];done)),H',⟨Nat.le_refl _⟩,by repeat (first|exact Drawn0.refl _|apply Drawn0.step)⟩
 case round =>
  clear H'
  try clear p2
  obtain ⟨zT,rfl,HA,Cm,⟨m1,rfl⟩⟩:=hrel
  cases gk with
  | zero=>exact absurd HA.out (by simp [bH.l0])
  | succ k1 =>
   have H:=HA.out
   clear HA
   simp only [bH.l0] at H
   by_cases c3 : zT < (a1.size : Int)
   ·rw [if_pos c3] at H
    have c3b0 : decide (zT < (a1.size : Int)) = true:=decide_eq_true c3
    clear c3
    by_cases c4 : 0 ≤ zT
    ·rw [if_pos c4] at H
     have c4b0 : decide (0 ≤ zT) = true:=decide_eq_true c4
     clear c4
     by_cases c6 : (bt a1 zT) = a0
     ·rw [if_pos c6] at H
      have c6b0 : ((bt a1 zT) == a0) = true:=beq_iff_eq.mpr c6
      have c6b1 : ((bt a1 zT) != a0) = false:=bne_eq_false_iff_eq.mpr c6
      clear c6
      obtain rfl:=Option.some.inj H
      have p5 : 0 ≤ (zT : Int):=of_decide_eq_true (by first|(with_reducible assumption)|assumption)
      have q5 : zT < (a1.size : Int):=of_decide_eq_true (by first|(with_reducible assumption)|assumption)
      have hx5:=dG a1 zT
      replace p5:=eq_true p5
      replace q5:=eq_true q5
      go_wp2
      go_ret
      exact ⟨by first|rfl|(simp;done)|(simp [*];done),by repeat (first|exact Drawn0.refl _|apply Drawn0.step)⟩
     ·rw [if_neg c6] at H
      have c6b0 : ((bt a1 zT) == a0) = false:=beq_eq_false_iff_ne.mpr c6
      have c6b1 : ((bt a1 zT) != a0) = true:=bne_iff_ne.mpr c6
      have H':=Aside0.mk H
      clear H
      have p5 : 0 ≤ (zT : Int):=of_decide_eq_true (by first|(with_reducible assumption)|assumption)
      have q5 : zT < (a1.size : Int):=of_decide_eq_true (by first|(with_reducible assumption)|assumption)
      have hx5:=dG a1 zT
      replace p5:=eq_true p5
      replace q5:=eq_true q5
      go_wp2
      go_roundg k1
      case measure=>have:=Cm.out;omega
      case rel=>exact ⟨(wrap64 (zT + 1)),(by first|rfl|(simp;done)|(simp [*];done)),H',⟨by have:=Cm.out;omega⟩,by repeat (first|exact Drawn0.refl _|apply Drawn0.step)⟩
    ·rw [if_neg c4] at H
     exact absurd H (by simp)
   ·rw [if_neg c3] at H
    have c3b0 : decide (zT < (a1.size : Int)) = false:=decide_eq_false c3
    clear c3
    obtain rfl:=Option.some.inj H
    go_wp2
    go_ret
    exact ⟨by first|rfl|(simp;done)|(simp [*];done),by repeat (first|exact Drawn0.refl _|apply Drawn0.step)⟩
end Go.Proofs.YtpmbdcljphpcnaaDoor.GC2
