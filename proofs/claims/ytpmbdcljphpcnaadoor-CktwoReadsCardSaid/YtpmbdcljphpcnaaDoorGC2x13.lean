/- Written by this session's own program (wip/gen.py) out of the translation: plain Lean functions of the Go functions, and proofs that the calls come to their answers. No conditions beside those in the statements. -/
import Derived.Test.YtpmbdcljphpcnaaDoorGC2x0
import Derived.Test.YtpmbdcljphpcnaaDoorGC2x11
import Derived.Test.YtpmbdcljphpcnaaDoorGC2x12
namespace Go.Proofs.YtpmbdcljphpcnaaDoor.GC2
open Go.RowKit Go.Proofs.YtpmbdcljphpcnaaDoorW.PrintWords Go.Proofs.YtpmbdcljphpcnaaDoorW.PrintLast Go.Proofs.YtpmbdcljphpcnaaDoorW.PrintMore
attribute [local go_sem] fO fP gI gJ fF fG fQ fT
set_option linter.unusedVariables false
set_option linter.unusedSimpArgs false
mutual
def aN.l0 : Nat → Int → Int → ByteArray → Int → Int → List (S103) → Option (Int × (List (S103)) × Int)
 | 0,_,_,_,_,_,_=>none
 | k + 1,x6,x8,Bf,AQ,AZ,AU=>if x8 < (wrap64 (x6)) then (aN.j1 k x6 x8 (AQ == 0) Bf AQ AZ AU) else (aN.j1 k x6 x8 false Bf AQ AZ AU)
def aN.j1 : Nat → Int → Int → Bool → ByteArray → Int → Int → List (S103) → Option (Int × (List (S103)) × Int)
 | 0,_,_,_,_,_,_,_=>none
 | k + 1,x6,x8,Ot,Bf,AQ,AZ,AU=>if Ot = true then ((bf.f k Bf AQ).bind fun CY=>((bf.f k CY.1 CY.2.1).bind fun Bv=>((bf.f k Bv.1 Bv.2.1).bind fun Bn=>((aT.f k Bn.1 Bn.2.1 1).bind fun Bg=>((aT.f k Bg.1 Bg.2.1 2).bind fun AP=>((aT.f k AP.1 AP.2.1 1).bind fun Aj=>(if Aj.2.2 > 16 then (some (0,([] : List (S103)),18)) else (aN.l1 k x6 x8 Aj.2.2 0 Aj.1 Aj.2.1 AZ AU CY.2.2 Bv.2.2 Bn.2.2 ((Bg.2.2) % 256) (IntKind.u16.wrap (AP.2.2)) ([] : List (S104)))))))))) else ((fq.f Bf AQ).bind fun BK=>(if BK = 0 then ((aI.f k AZ AU).bind fun Bu=>(if Bu = 0 then (some (AZ,AU,0)) else (some (0,([] : List (S103)),Bu)))) else (some (0,([] : List (S103)),BK))))
def aN.l1 : Nat → Int → Int → Int → Int → ByteArray → Int → Int → List (S103) → ByteArray → ByteArray → ByteArray → Int → Int → List (S104) → Option (Int × (List (S103)) × Int)
 | 0,_,_,_,_,_,_,_,_,_,_,_,_,_,_=>none
 | k + 1,x6,x8,I5,I6,Bf,AQ,AZ,AU,BQ,BR,BS,BU,BZ,BJ=>if I6 < (wrap64 (I5)) then (aN.j3 k x6 x8 I5 I6 (AQ == 0) Bf AQ AZ AU BQ BR BS BU BZ BJ) else (aN.j3 k x6 x8 I5 I6 false Bf AQ AZ AU BQ BR BS BU BZ BJ)
def aN.j3 : Nat → Int → Int → Int → Int → Bool → ByteArray → Int → Int → List (S103) → ByteArray → ByteArray → ByteArray → Int → Int → List (S104) → Option (Int × (List (S103)) × Int)
 | 0,_,_,_,_,_,_,_,_,_,_,_,_,_,_,_=>none
 | k + 1,x6,x8,I5,I6,x95,Bf,AQ,AZ,AU,BQ,BR,BS,BU,BZ,BJ=>if x95 = true then ((bf.f k Bf AQ).bind fun CZ=>((bf.f k CZ.1 CZ.2.1).bind fun Bw=>(if BJ.length < 4398046511104 then (aN.l1 k x6 x8 I5 (wrap64 (I6 + 1)) Bw.1 Bw.2.1 AZ AU BQ BR BS BU BZ (BJ ++ [(⟨CZ.2.2,Bw.2.2⟩ : S104)])) else (none)))) else (if AU.length < 1759218604441 then (aN.l0 k x6 (wrap64 (x8 + 1)) Bf AQ AZ (AU ++ [(⟨BQ,BR,BS,BU,BZ,BJ⟩ : S103)])) else (none))
end
def aN.f (k : Nat) (a0 : ByteArray) : Option (Int × (List (S103)) × Int):=(aT.f k a0 0 8).bind fun C8=>((aT.f k C8.1 C8.2.1 2).bind fun Bp=>(if Bp.2.2 > 1024 then (some (0,([] : List (S103)),18)) else (aN.l0 k Bp.2.2 0 Bp.1 Bp.2.1 C8.2.2 ([] : List (S103)))))
theorem aN.dX : ∀ k,(∀ y0 y1 y2 y3 y4 y5,LeO (aN.l0 k y0 y1 y2 y3 y4 y5) (aN.l0 (k + 1) y0 y1 y2 y3 y4 y5)) ∧ (∀ y0 y1 y2 y3 y4 y5 y6,LeO (aN.j1 k y0 y1 y2 y3 y4 y5 y6) (aN.j1 (k + 1) y0 y1 y2 y3 y4 y5 y6)) ∧ (∀ y0 y1 y2 y3 y4 y5 y6 y7 y8 y9 IL IQ IU y13,LeO (aN.l1 k y0 y1 y2 y3 y4 y5 y6 y7 y8 y9 IL IQ IU y13) (aN.l1 (k + 1) y0 y1 y2 y3 y4 y5 y6 y7 y8 y9 IL IQ IU y13)) ∧ (∀ y0 y1 y2 y3 y4 y5 y6 y7 y8 y9 IL IQ IU y13 LM,LeO (aN.j3 k y0 y1 y2 y3 y4 y5 y6 y7 y8 y9 IL IQ IU y13 LM) (aN.j3 (k + 1) y0 y1 y2 y3 y4 y5 y6 y7 y8 y9 IL IQ IU y13 LM))
 | 0=>⟨fun _ _ _ _ _ _ r h=>by simp [aN.l0] at h,fun _ _ _ _ _ _ _ r h=>by simp [aN.j1] at h,fun _ _ _ _ _ _ _ _ _ _ _ _ _ _ r h=>by simp [aN.l1] at h,fun _ _ _ _ _ _ _ _ _ _ _ _ _ _ _ r h=>by simp [aN.j3] at h⟩
 | k + 1=>by
  obtain ⟨Hr,ih1,ih2,ih3⟩:=aN.dX k
  refine ⟨?_,?_,?_,?_⟩
  ·intro y0 y1 y2 y3 y4 y5
   unfold aN.l0
   repeat' first
   | (with_reducible exact Hr _ _ _ _ _ _)
   | (with_reducible exact ih1 _ _ _ _ _ _ _)
   | (with_reducible exact ih2 _ _ _ _ _ _ _ _ _ _ _ _ _ _)
   | (with_reducible exact ih3 _ _ _ _ _ _ _ _ _ _ _ _ _ _ _)
   | (with_reducible exact aT.mono _ _ _ _)
   | (with_reducible exact bf.mono _ _ _)
   | (with_reducible exact aI.mono _ _ _)
   | (with_reducible exact LeO.refl _)
   | (with_reducible exact LeO.none _)
   | (with_reducible refine LeO.ite ?_ ?_)
   | (with_reducible refine LeO.bind ?_ (fun _=>?_))
   | exact Hr _ _ _ _ _ _
   | exact ih1 _ _ _ _ _ _ _
   | exact ih2 _ _ _ _ _ _ _ _ _ _ _ _ _ _
   | exact ih3 _ _ _ _ _ _ _ _ _ _ _ _ _ _ _
   | exact aT.mono _ _ _ _
   | exact bf.mono _ _ _
   | exact aI.mono _ _ _
   | exact LeO.none _
   | refine LeO.ite ?_ ?_
   | refine LeO.bind ?_ (fun _=>?_)
  ·intro y0 y1 y2 y3 y4 y5 y6
   unfold aN.j1
   repeat' first
   | (with_reducible exact Hr _ _ _ _ _ _)
   | (with_reducible exact ih1 _ _ _ _ _ _ _)
   | (with_reducible exact ih2 _ _ _ _ _ _ _ _ _ _ _ _ _ _)
   | (with_reducible exact ih3 _ _ _ _ _ _ _ _ _ _ _ _ _ _ _)
   | (with_reducible exact aT.mono _ _ _ _)
   | (with_reducible exact bf.mono _ _ _)
   | (with_reducible exact aI.mono _ _ _)
   | (with_reducible exact LeO.refl _)
   | (with_reducible exact LeO.none _)
   | (with_reducible refine LeO.ite ?_ ?_)
   | (with_reducible refine LeO.bind ?_ (fun _=>?_))
   | exact Hr _ _ _ _ _ _
   | exact ih1 _ _ _ _ _ _ _
   | exact ih2 _ _ _ _ _ _ _ _ _ _ _ _ _ _
   | exact ih3 _ _ _ _ _ _ _ _ _ _ _ _ _ _ _
   | exact aT.mono _ _ _ _
   | exact bf.mono _ _ _
   | exact aI.mono _ _ _
   | exact LeO.none _
   | refine LeO.ite ?_ ?_
   | refine LeO.bind ?_ (fun _=>?_)
  ·intro y0 y1 y2 y3 y4 y5 y6 y7 y8 y9 IL IQ IU y13
   unfold aN.l1
   repeat' first
   | (with_reducible exact Hr _ _ _ _ _ _)
   | (with_reducible exact ih1 _ _ _ _ _ _ _)
   | (with_reducible exact ih2 _ _ _ _ _ _ _ _ _ _ _ _ _ _)
   | (with_reducible exact ih3 _ _ _ _ _ _ _ _ _ _ _ _ _ _ _)
   | (with_reducible exact aT.mono _ _ _ _)
   | (with_reducible exact bf.mono _ _ _)
   | (with_reducible exact aI.mono _ _ _)
   | (with_reducible exact LeO.refl _)
   | (with_reducible exact LeO.none _)
   | (with_reducible refine LeO.ite ?_ ?_)
   | (with_reducible refine LeO.bind ?_ (fun _=>?_))
   | exact Hr _ _ _ _ _ _
   | exact ih1 _ _ _ _ _ _ _
   | exact ih2 _ _ _ _ _ _ _ _ _ _ _ _ _ _
   | exact ih3 _ _ _ _ _ _ _ _ _ _ _ _ _ _ _
   | exact aT.mono _ _ _ _
   | exact bf.mono _ _ _
   | exact aI.mono _ _ _
   | exact LeO.none _
   | refine LeO.ite ?_ ?_
   | refine LeO.bind ?_ (fun _=>?_)
  ·intro y0 y1 y2 y3 y4 y5 y6 y7 y8 y9 IL IQ IU y13 LM
   unfold aN.j3
   repeat' first
   | (with_reducible exact Hr _ _ _ _ _ _)
   | (with_reducible exact ih1 _ _ _ _ _ _ _)
   | (with_reducible exact ih2 _ _ _ _ _ _ _ _ _ _ _ _ _ _)
   | (with_reducible exact ih3 _ _ _ _ _ _ _ _ _ _ _ _ _ _ _)
   | (with_reducible exact aT.mono _ _ _ _)
   | (with_reducible exact bf.mono _ _ _)
   | (with_reducible exact aI.mono _ _ _)
   | (with_reducible exact LeO.refl _)
   | (with_reducible exact LeO.none _)
   | (with_reducible refine LeO.ite ?_ ?_)
   | (with_reducible refine LeO.bind ?_ (fun _=>?_))
   | exact Hr _ _ _ _ _ _
   | exact ih1 _ _ _ _ _ _ _
   | exact ih2 _ _ _ _ _ _ _ _ _ _ _ _ _ _
   | exact ih3 _ _ _ _ _ _ _ _ _ _ _ _ _ _ _
   | exact aT.mono _ _ _ _
   | exact bf.mono _ _ _
   | exact aI.mono _ _ _
   | exact LeO.none _
   | refine LeO.ite ?_ ?_
   | refine LeO.bind ?_ (fun _=>?_)
theorem aN.mono : ∀ a0 k,LeO (aN.f k a0) (aN.f (k + 1) a0):=by
 intro a0 k
 obtain ⟨Hr,ih1,ih2,ih3⟩:=aN.dX k
 unfold aN.f
 repeat' first
   | (with_reducible exact Hr _ _ _ _ _ _)
   | (with_reducible exact ih1 _ _ _ _ _ _ _)
   | (with_reducible exact ih2 _ _ _ _ _ _ _ _ _ _ _ _ _ _)
   | (with_reducible exact ih3 _ _ _ _ _ _ _ _ _ _ _ _ _ _ _)
   | (with_reducible exact aT.mono _ _ _ _)
   | (with_reducible exact bf.mono _ _ _)
   | (with_reducible exact aI.mono _ _ _)
   | (with_reducible exact LeO.refl _)
   | (with_reducible exact LeO.none _)
   | (with_reducible refine LeO.ite ?_ ?_)
   | (with_reducible refine LeO.bind ?_ (fun _=>?_))
   | exact Hr _ _ _ _ _ _
   | exact ih1 _ _ _ _ _ _ _
   | exact ih2 _ _ _ _ _ _ _ _ _ _ _ _ _ _
   | exact ih3 _ _ _ _ _ _ _ _ _ _ _ _ _ _ _
   | exact aT.mono _ _ _ _
   | exact bf.mono _ _ _
   | exact aI.mono _ _ _
   | exact LeO.none _
   | refine LeO.ite ?_ ?_
   | refine LeO.bind ?_ (fun _=>?_)
set_option maxHeartbeats 8000000 in
set_option maxRecDepth 100000 in
theorem aN.calls (k : Nat) (a0 : ByteArray) (r1 : Int) (r2 : List (S103)) (r3 : Int) (w : World) (h : aN.f k a0 = some (r1,r2,r3)) :
  Calls Tryd.prog 32 #[.string a0] w fun e w'=>∃ MP : Value,e = .returned (.tuple #[.agg #[.int .u64 r1,MP],.int .i64 r3]) ∧ Kd.S iC 103 w' w.heap.size (fun _=>True) MP r2 ∧ Below w.heap.size w w':=by
 have Ou:=Tryd.underlying53
 have Ov:=Tryd.underlying89
 have MQ:=Tryd.underlying103
 have MR:=Tryd.underlying104
 have HB:=Aside0.mk (Below.refl w.heap.size w)
 have H : ((aT.f k a0 0 8).bind fun C8=>((aT.f k C8.1 C8.2.1 2).bind fun Bp=>(if Bp.2.2 > 1024 then (some (0,([] : List (S103)),18)) else (aN.l0 k Bp.2.2 0 Bp.1 Bp.2.1 C8.2.2 ([] : List (S103)))))) = some (r1,r2,r3):=h
 clear h
 replace H:=Option.bind_eq_some_iff.mp H
 obtain ⟨⟨BL,Bz,t226⟩,MS,H⟩:=H
 replace H : ((aT.f k BL Bz 2).bind fun Bp=>(if Bp.2.2 > 1024 then (some (0,([] : List (S103)),18)) else (aN.l0 k Bp.2.2 0 Bp.1 Bp.2.1 t226 ([] : List (S103))))) = some (r1,r2,r3):=H
 have A2:=Aside0.mk MS
 clear MS
 replace H:=Option.bind_eq_some_iff.mp H
 obtain ⟨⟨t227,t228,t229⟩,MU,H⟩:=H
 replace H : (if t229 > 1024 then (some (0,([] : List (S103)),18)) else (aN.l0 k t229 0 t227 t228 t226 ([] : List (S103)))) = some (r1,r2,r3):=H
 have A3:=Aside0.mk MU
 clear MU
 by_cases c4 : t229 > 1024
 ·rw [if_pos c4] at H
  have c4b0 : decide (1024 < t229) = true:=decide_eq_true c4
  clear c4
  simp only [Option.some.injEq,Prod.mk.injEq] at H
  obtain ⟨rfl,rfl,rfl⟩:=H
  go_enter Tryd.func32,Tryd.ntmps32
  go_wp2_with (first|((with_reducible refine dw (N:=2) rfl ?_);refine cB ?hg (N:=2) ?hd (cs:=#[.int .u64 0,.slice none 0 0]) (t:=53) ?hr ?_;(case hd=>rfl);(case hg=>rfl);(case hr=>first|(go_simp;done)|(go_simp;rfl));intro zY hg w5 hbox hb;have Ap:=Aside0.mk (aU (by repeat (first|(with_reducible first|exact HB.out|apply aD|apply ak|apply aC)|exact HB.out)) hb);have Aq:=Aside0.mk (hbox);have Ar:=Aside0.mk ((by rw [hg];exact (aW (by repeat (first|(with_reducible first|exact HB.out|apply aD|apply ak|apply aC)|exact HB.out))) : w.heap.size ≤ zY));have AA:=Aside0.mk ((by rw [hg];exact (aW (by repeat (first|(with_reducible first|exact HB.out|apply aD|apply ak|apply aC)|exact HB.out))) : w.heap.size ≤ zY));clear HB;have HB:=Ap;have zO:=Aq;have I7:=Ar;have Aa:=AA;clear Ap Aq Ar AA;clear hb hbox hg)|((with_reducible refine dw (N:=4) rfl ?_);refine cB ?hg (N:=4) ?hd (cs:=#[.string (⟨#[]⟩ : ByteArray),.int .i64 0]) (t:=89) ?hr ?_;(case hd=>rfl);(case hg=>rfl);(case hr=>first|(go_simp;done)|(go_simp;rfl));intro zP hg w6 hbox hb;have Ap:=Aside0.mk (aQ (g:=zY) (o:=.cells #[.int .u64 0,.slice none 0 0] 53 (0,0)) (bk_ zO.out) hb);have Aq:=Aside0.mk (aU (by repeat (first|(with_reducible first|exact HB.out|apply aD|apply ak|apply aC|refine aA ?_ Aa.out)|exact HB.out)) hb);have Ar:=Aside0.mk (hbox);have AA:=Aside0.mk ((by rw [hg];exact (aW (by repeat (first|(with_reducible first|exact HB.out|apply aD|apply ak|apply aC|refine aA ?_ Aa.out)|exact HB.out))) : w.heap.size ≤ zP));have AO:=Aside0.mk ((by rw [hg];exact (aW (by repeat (first|(with_reducible first|exact HB.out|apply aD|apply ak|apply aC|refine aA ?_ Aa.out)|exact HB.out))) : w.heap.size ≤ zP));have AX:=Aside0.mk ((by rw [hg];exact Nat.ne_of_lt (bV (g:=zY) (o:=.cells #[.int .u64 0,.slice none 0 0] 53 (0,0)) (bk_ zO.out)) : zY ≠ zP));have Ch:=Aside0.mk ((by rw [hg];exact Nat.ne_of_gt (bV (g:=zY) (o:=.cells #[.int .u64 0,.slice none 0 0] 53 (0,0)) (bk_ zO.out)) : zP ≠ zY));clear zO;clear HB;have zO:=Ap;have HB:=Aq;have zL:=Ar;have I8:=AA;have Ad:=AO;have zQ:=AX;have AL:=Ch;clear Ap Aq Ar AA AO AX Ch;clear hb hbox hg;have Ow:=AL.out;have Ox:=zQ.out;have Dh : w6.cell? ⟨zP,0,none⟩ = some (.string (⟨#[]⟩ : ByteArray)):=(ay zL.out 0).trans rfl;have Di : w6.cell? ⟨zP,1,none⟩ = some (.int .i64 0):=(ay zL.out 1).trans rfl;have Dj:=av zL.out 0;have Dk:=av zL.out 1)|((with_reducible refine bA (f:=51) rfl ?_);refine cO (some 21) rfl rfl Tryd.func51 (by kernel_rfl) rfl #[.agg #[.string a0,.int .i64 0],.int .i64 8] rfl (by (try simp only [List.map_toArray,List.map_cons,List.map_nil]);first|done|rfl|(simp only [List.length_drop,List.length_take];rfl)|(simp (disch:=first|omega|(simp at *;omega)) only [bY,bJ,dF];rfl)) ?_;(with_reducible refine (aT.calls k a0 0 8 BL Bz t226 _ A2.out).mono ?_);rintro e w9 ⟨rfl,hb⟩;refine ⟨_,rfl,?_⟩;have Ap:=Aside0.mk (aQ (g:=zY) (o:=.cells #[.int .u64 0,.slice none 0 0] 53 (0,0)) (by (with_reducible repeat (first|apply aj|apply au|apply ah));refine aJ ?_ zQ.out _;(with_reducible repeat (first|apply aj|apply au|apply ah));refine aJ ?_ zQ.out _;(with_reducible repeat (first|apply aj|apply au|apply ah));exact zO.out) hb);have Aq:=Aside0.mk (aQ (g:=zP) (o:=.cells #[.string a0,.int .i64 0] 89 (0,0)) (by (with_reducible repeat (first|apply aj|apply au|apply ah));refine aX (cs:=#[.string a0,.int .i64 0]) ?_ 1 _ rfl;(with_reducible repeat (first|apply aj|apply au|apply ah));refine aX (cs:=#[.string (⟨#[]⟩ : ByteArray),.int .i64 0]) ?_ 0 _ rfl;(with_reducible repeat (first|apply aj|apply au|apply ah));exact zL.out) hb);have Ar:=Aside0.mk (aU (by repeat (first|(with_reducible first|exact HB.out|apply aD|apply ak|apply aC|refine aA ?_ Aa.out|refine aA ?_ Ad.out)|exact HB.out)) hb);clear zO;clear zL;clear HB;have zO:=Ap;have zL:=Aq;have HB:=Ar;clear Ap Aq Ar;(try clear hb);(try clear hb2);(try clear hk);(try clear hi);have Ci : w9.cell? ⟨zP,0,none⟩ = some (.string a0):=(ay zL.out 0).trans rfl;have Cj : w9.cell? ⟨zP,1,none⟩ = some (.int .i64 0):=(ay zL.out 1).trans rfl;have Ck:=av zL.out 0;have Cm:=av zL.out 1)|((with_reducible refine bA (f:=51) rfl ?_);refine cO (some 26) rfl rfl Tryd.func51 (by kernel_rfl) rfl #[.agg #[.string BL,.int .i64 Bz],.int .i64 2] rfl (by (try simp only [List.map_toArray,List.map_cons,List.map_nil]);first|done|rfl|(simp only [List.length_drop,List.length_take];rfl)|(simp (disch:=first|omega|(simp at *;omega)) only [bY,bJ,dF];rfl)) ?_;(with_reducible refine (aT.calls k BL Bz 2 t227 t228 t229 _ A3.out).mono ?_);rintro e LG ⟨rfl,hb⟩;refine ⟨_,rfl,?_⟩;have Ap:=Aside0.mk (aQ (g:=zY) (o:=.cells #[.int .u64 0,.slice none 0 0] 53 (0,0)) (by (with_reducible repeat (first|apply aj|apply au|apply ah));refine aJ ?_ zQ.out _;(with_reducible repeat (first|apply aj|apply au|apply ah));refine aJ ?_ zQ.out _;(with_reducible repeat (first|apply aj|apply au|apply ah));exact zO.out) hb);have Aq:=Aside0.mk (aQ (g:=zP) (o:=.cells #[.string BL,.int .i64 Bz] 89 (0,0)) (by (with_reducible repeat (first|apply aj|apply au|apply ah));refine aX (cs:=#[.string BL,.int .i64 0]) ?_ 1 _ rfl;(with_reducible repeat (first|apply aj|apply au|apply ah));refine aX (cs:=#[.string a0,.int .i64 0]) ?_ 0 _ rfl;(with_reducible repeat (first|apply aj|apply au|apply ah));exact zL.out) hb);have Ar:=Aside0.mk (aU (by repeat (first|(with_reducible first|exact HB.out|apply aD|apply ak|apply aC|refine aA ?_ Aa.out|refine aA ?_ Ad.out)|exact HB.out)) hb);clear zO;clear zL;clear HB;have zO:=Ap;have zL:=Aq;have HB:=Ar;clear Ap Aq Ar;(try clear hb);(try clear hb2);(try clear hk);(try clear hi);have Cn : LG.cell? ⟨zP,0,none⟩ = some (.string BL):=(ay zL.out 0).trans rfl;have Co : LG.cell? ⟨zP,1,none⟩ = some (.int .i64 Bz):=(ay zL.out 1).trans rfl;have Cq:=av zL.out 0;have Cr:=av zL.out 1;have Ct : LG.cell? ⟨zY,0,none⟩ = some (.int .u64 0):=(ay zO.out 0).trans rfl;have Cu : LG.cell? ⟨zY,1,none⟩ = some (.slice none 0 0):=(ay zO.out 1).trans rfl;have Cv:=av zO.out 0;have Cw:=av zO.out 1))
  refine bodyPost_ret (eH rfl _ _ zY 53 #[.int .u64 0,.slice none 0 0] (0,0) _ rfl (by (with_reducible repeat (first|apply aj|apply au|apply ah));refine aX (cs:=#[.int .u64 0,.slice none 0 0]) ?_ 1 _ rfl;(with_reducible repeat (first|apply aj|apply au|apply ah));refine aX (cs:=#[.int .u64 0,.slice none 0 0]) ?_ 0 _ rfl;(with_reducible repeat (first|apply aj|apply au|apply ah));refine aJ ?_ zQ.out _;(with_reducible repeat (first|apply aj|apply au|apply ah));refine aJ ?_ zQ.out _;(with_reducible repeat (first|apply aj|apply au|apply ah));exact zO.out) Tryd.underlying53 rfl (by kernel_rfl)) rfl ?_
  exact ⟨_,by first|rfl|(simp [aY,aZ] <;> rfl)|(simp [*,aY,aZ] <;> rfl),by first|exact Kd.iU _ _ _ _ _|exact Kd.kV _ _ _ _ _|exact Kd.kW _ _ _ _ _|exact Kd.kR _ _ _ _ _|exact Kd.jl _ _ _ _ _,by repeat (first|(with_reducible first|exact HB.out|apply aD|apply ak|apply aC|refine aA ?_ Aa.out|refine aA ?_ Ad.out)|exact HB.out)⟩
 ·rw [if_neg c4] at H
  have c4b0 : decide (1024 < t229) = false:=decide_eq_false c4
  clear c4
  have H':=Aside0.mk H
  clear H
  go_enter Tryd.func32,Tryd.ntmps32
  go_wp2_with (first|((with_reducible refine dw (N:=2) rfl ?_);refine cB ?hg (N:=2) ?hd (cs:=#[.int .u64 0,.slice none 0 0]) (t:=53) ?hr ?_;(case hd=>rfl);(case hg=>rfl);(case hr=>first|(go_simp;done)|(go_simp;rfl));intro zY hg OO hbox hb;have Ap:=Aside0.mk (aU (by repeat (first|(with_reducible first|exact HB.out|apply aD|apply ak|apply aC)|exact HB.out)) hb);have Aq:=Aside0.mk (hbox);have Ar:=Aside0.mk ((by rw [hg];exact (aW (by repeat (first|(with_reducible first|exact HB.out|apply aD|apply ak|apply aC)|exact HB.out))) : w.heap.size ≤ zY));have AA:=Aside0.mk ((by rw [hg];exact (aW (by repeat (first|(with_reducible first|exact HB.out|apply aD|apply ak|apply aC)|exact HB.out))) : w.heap.size ≤ zY));clear HB;have HB:=Ap;have zO:=Aq;have I7:=Ar;have Aa:=AA;clear Ap Aq Ar AA;clear hb hbox hg)|((with_reducible refine dw (N:=4) rfl ?_);refine cB ?hg (N:=4) ?hd (cs:=#[.string (⟨#[]⟩ : ByteArray),.int .i64 0]) (t:=89) ?hr ?_;(case hd=>rfl);(case hg=>rfl);(case hr=>first|(go_simp;done)|(go_simp;rfl));intro zP hg MV hbox hb;have Ap:=Aside0.mk (aQ (g:=zY) (o:=.cells #[.int .u64 0,.slice none 0 0] 53 (0,0)) (bk_ zO.out) hb);have Aq:=Aside0.mk (aU (by repeat (first|(with_reducible first|exact HB.out|apply aD|apply ak|apply aC|refine aA ?_ Aa.out)|exact HB.out)) hb);have Ar:=Aside0.mk (hbox);have AA:=Aside0.mk ((by rw [hg];exact (aW (by repeat (first|(with_reducible first|exact HB.out|apply aD|apply ak|apply aC|refine aA ?_ Aa.out)|exact HB.out))) : w.heap.size ≤ zP));have AO:=Aside0.mk ((by rw [hg];exact (aW (by repeat (first|(with_reducible first|exact HB.out|apply aD|apply ak|apply aC|refine aA ?_ Aa.out)|exact HB.out))) : w.heap.size ≤ zP));have AX:=Aside0.mk ((by rw [hg];exact Nat.ne_of_lt (bV (g:=zY) (o:=.cells #[.int .u64 0,.slice none 0 0] 53 (0,0)) (bk_ zO.out)) : zY ≠ zP));have Ch:=Aside0.mk ((by rw [hg];exact Nat.ne_of_gt (bV (g:=zY) (o:=.cells #[.int .u64 0,.slice none 0 0] 53 (0,0)) (bk_ zO.out)) : zP ≠ zY));clear zO;clear HB;have zO:=Ap;have HB:=Aq;have zL:=Ar;have I8:=AA;have Ad:=AO;have zQ:=AX;have AL:=Ch;clear Ap Aq Ar AA AO AX Ch;clear hb hbox hg;have MW:=AL.out;have MX:=zQ.out;have Cx : MV.cell? ⟨zP,0,none⟩ = some (.string (⟨#[]⟩ : ByteArray)):=(ay zL.out 0).trans rfl;have Cy : MV.cell? ⟨zP,1,none⟩ = some (.int .i64 0):=(ay zL.out 1).trans rfl;have Cz:=av zL.out 0;have CB:=av zL.out 1)|((with_reducible refine bA (f:=51) rfl ?_);refine cO (some 21) rfl rfl Tryd.func51 (by kernel_rfl) rfl #[.agg #[.string a0,.int .i64 0],.int .i64 8] rfl (by (try simp only [List.map_toArray,List.map_cons,List.map_nil]);first|done|rfl|(simp only [List.length_drop,List.length_take];rfl)|(simp (disch:=first|omega|(simp at *;omega)) only [bY,bJ,dF];rfl)) ?_;(with_reducible refine (aT.calls k a0 0 8 BL Bz t226 _ A2.out).mono ?_);rintro e MZ ⟨rfl,hb⟩;refine ⟨_,rfl,?_⟩;have Ap:=Aside0.mk (aQ (g:=zY) (o:=.cells #[.int .u64 0,.slice none 0 0] 53 (0,0)) (by (with_reducible repeat (first|apply aj|apply au|apply ah));refine aJ ?_ zQ.out _;(with_reducible repeat (first|apply aj|apply au|apply ah));refine aJ ?_ zQ.out _;(with_reducible repeat (first|apply aj|apply au|apply ah));exact zO.out) hb);have Aq:=Aside0.mk (aQ (g:=zP) (o:=.cells #[.string a0,.int .i64 0] 89 (0,0)) (by (with_reducible repeat (first|apply aj|apply au|apply ah));refine aX (cs:=#[.string a0,.int .i64 0]) ?_ 1 _ rfl;(with_reducible repeat (first|apply aj|apply au|apply ah));refine aX (cs:=#[.string (⟨#[]⟩ : ByteArray),.int .i64 0]) ?_ 0 _ rfl;(with_reducible repeat (first|apply aj|apply au|apply ah));exact zL.out) hb);have Ar:=Aside0.mk (aU (by repeat (first|(with_reducible first|exact HB.out|apply aD|apply ak|apply aC|refine aA ?_ Aa.out|refine aA ?_ Ad.out)|exact HB.out)) hb);clear zO;clear zL;clear HB;have zO:=Ap;have zL:=Aq;have HB:=Ar;clear Ap Aq Ar;(try clear hb);(try clear hb2);(try clear hk);(try clear hi);have CF : MZ.cell? ⟨zP,0,none⟩ = some (.string a0):=(ay zL.out 0).trans rfl;have CG : MZ.cell? ⟨zP,1,none⟩ = some (.int .i64 0):=(ay zL.out 1).trans rfl;have CJ:=av zL.out 0;have CK:=av zL.out 1)|((with_reducible refine bA (f:=51) rfl ?_);refine cO (some 26) rfl rfl Tryd.func51 (by kernel_rfl) rfl #[.agg #[.string BL,.int .i64 Bz],.int .i64 2] rfl (by (try simp only [List.map_toArray,List.map_cons,List.map_nil]);first|done|rfl|(simp only [List.length_drop,List.length_take];rfl)|(simp (disch:=first|omega|(simp at *;omega)) only [bY,bJ,dF];rfl)) ?_;(with_reducible refine (aT.calls k BL Bz 2 t227 t228 t229 _ A3.out).mono ?_);rintro e M0 ⟨rfl,hb⟩;refine ⟨_,rfl,?_⟩;have Ap:=Aside0.mk (aQ (g:=zY) (o:=.cells #[.int .u64 0,.slice none 0 0] 53 (0,0)) (by (with_reducible repeat (first|apply aj|apply au|apply ah));refine aJ ?_ zQ.out _;(with_reducible repeat (first|apply aj|apply au|apply ah));refine aJ ?_ zQ.out _;(with_reducible repeat (first|apply aj|apply au|apply ah));exact zO.out) hb);have Aq:=Aside0.mk (aQ (g:=zP) (o:=.cells #[.string BL,.int .i64 Bz] 89 (0,0)) (by (with_reducible repeat (first|apply aj|apply au|apply ah));refine aX (cs:=#[.string BL,.int .i64 0]) ?_ 1 _ rfl;(with_reducible repeat (first|apply aj|apply au|apply ah));refine aX (cs:=#[.string a0,.int .i64 0]) ?_ 0 _ rfl;(with_reducible repeat (first|apply aj|apply au|apply ah));exact zL.out) hb);have Ar:=Aside0.mk (aU (by repeat (first|(with_reducible first|exact HB.out|apply aD|apply ak|apply aC|refine aA ?_ Aa.out|refine aA ?_ Ad.out)|exact HB.out)) hb);clear zO;clear zL;clear HB;have zO:=Ap;have zL:=Aq;have HB:=Ar;clear Ap Aq Ar;(try clear hb);(try clear hb2);(try clear hk);(try clear hi);have CO : M0.cell? ⟨zP,0,none⟩ = some (.string BL):=(ay zL.out 0).trans rfl;have CP : M0.cell? ⟨zP,1,none⟩ = some (.int .i64 Bz):=(ay zL.out 1).trans rfl;have CQ:=av zL.out 0;have CS:=av zL.out 1)|((with_reducible refine dw (N:=7) rfl ?_);refine cB ?hg (N:=7) ?hd (cs:=#[.int .u64 0,.slice none 0 0]) (t:=53) ?hr ?_;(case hd=>rfl);(case hg=>rfl);(case hr=>first|(go_simp;done)|(go_simp;rfl));intro Ab hg M4 hbox hb;have Ap:=Aside0.mk (aQ (g:=zY) (o:=.cells #[.int .u64 0,.slice none 0 0] 53 (0,0)) (by (with_reducible repeat (first|apply aj|apply au|apply ah));refine aJ ?_ zQ.out _;(with_reducible repeat (first|apply aj|apply au|apply ah));refine aJ ?_ zQ.out _;(with_reducible repeat (first|apply aj|apply au|apply ah));exact zO.out) hb);have Aq:=Aside0.mk (aQ (g:=zP) (o:=.cells #[.string t227,.int .i64 t228] 89 (0,0)) (by (with_reducible repeat (first|apply aj|apply au|apply ah));refine aX (cs:=#[.string t227,.int .i64 Bz]) ?_ 1 _ rfl;(with_reducible repeat (first|apply aj|apply au|apply ah));refine aX (cs:=#[.string BL,.int .i64 Bz]) ?_ 0 _ rfl;(with_reducible repeat (first|apply aj|apply au|apply ah));exact zL.out) hb);have Ar:=Aside0.mk (aU (by repeat (first|(with_reducible first|exact HB.out|apply aD|apply ak|apply aC|refine aA ?_ Aa.out|refine aA ?_ Ad.out)|exact HB.out)) hb);have AA:=Aside0.mk (hbox);have AO:=Aside0.mk ((by rw [hg];exact (aW (by repeat (first|(with_reducible first|exact HB.out|apply aD|apply ak|apply aC|refine aA ?_ Aa.out|refine aA ?_ Ad.out)|exact HB.out))) : w.heap.size ≤ Ab));have AX:=Aside0.mk ((by rw [hg];exact (aW (by repeat (first|(with_reducible first|exact HB.out|apply aD|apply ak|apply aC|refine aA ?_ Aa.out|refine aA ?_ Ad.out)|exact HB.out))) : w.heap.size ≤ Ab));have Ch:=Aside0.mk ((by rw [hg];exact Nat.ne_of_lt (bV (g:=zY) (o:=.cells #[.int .u64 0,.slice none 0 0] 53 (0,0)) (by (with_reducible repeat (first|apply aj|apply au|apply ah));refine aJ ?_ zQ.out _;(with_reducible repeat (first|apply aj|apply au|apply ah));refine aJ ?_ zQ.out _;(with_reducible repeat (first|apply aj|apply au|apply ah));exact zO.out)) : zY ≠ Ab));have Df:=Aside0.mk ((by rw [hg];exact Nat.ne_of_gt (bV (g:=zY) (o:=.cells #[.int .u64 0,.slice none 0 0] 53 (0,0)) (by (with_reducible repeat (first|apply aj|apply au|apply ah));refine aJ ?_ zQ.out _;(with_reducible repeat (first|apply aj|apply au|apply ah));refine aJ ?_ zQ.out _;(with_reducible repeat (first|apply aj|apply au|apply ah));exact zO.out)) : Ab ≠ zY));have Ht:=Aside0.mk ((by rw [hg];exact Nat.ne_of_lt (bV (g:=zP) (o:=.cells #[.string t227,.int .i64 t228] 89 (0,0)) (by (with_reducible repeat (first|apply aj|apply au|apply ah));refine aX (cs:=#[.string t227,.int .i64 Bz]) ?_ 1 _ rfl;(with_reducible repeat (first|apply aj|apply au|apply ah));refine aX (cs:=#[.string BL,.int .i64 Bz]) ?_ 0 _ rfl;(with_reducible repeat (first|apply aj|apply au|apply ah));exact zL.out)) : zP ≠ Ab));have Hu:=Aside0.mk ((by rw [hg];exact Nat.ne_of_gt (bV (g:=zP) (o:=.cells #[.string t227,.int .i64 t228] 89 (0,0)) (by (with_reducible repeat (first|apply aj|apply au|apply ah));refine aX (cs:=#[.string t227,.int .i64 Bz]) ?_ 1 _ rfl;(with_reducible repeat (first|apply aj|apply au|apply ah));refine aX (cs:=#[.string BL,.int .i64 Bz]) ?_ 0 _ rfl;(with_reducible repeat (first|apply aj|apply au|apply ah));exact zL.out)) : Ab ≠ zP));clear zO;clear zL;clear HB;have zO:=Ap;have zL:=Aq;have HB:=Ar;have zS:=AA;have M6:=AO;have Ah:=AX;have AV:=Ch;have Bl:=Df;have Av:=Ht;have zX:=Hu;clear Ap Aq Ar AA AO AX Ch Df Ht Hu;clear hb hbox hg;have M7:=Bl.out;have M8:=AV.out;have M9:=zX.out;have Na:=Av.out;have CU : M4.cell? ⟨Ab,0,none⟩ = some (.int .u64 0):=(ay zS.out 0).trans rfl;have CV : M4.cell? ⟨Ab,1,none⟩ = some (.slice none 0 0):=(ay zS.out 1).trans rfl;have CW:=av zS.out 0;have CX:=av zS.out 1))
  go_loopg [8] k (fun kq v8 w'=>∃ (Bo : Int) (zT : Int) (zV : ByteArray) (zU : Int) (zW : List (S103)) (z8 : Value),v8 = .int .i64 Bo ∧ Aside0 (aN.l0 kq t229 Bo zV zU t226 zW = some (r1,r2,r3)) ∧ Aside0 (kq ≤ k) ∧ Aside0 (Kd.S iC 103 w' w.heap.size (fun _=>True) z8 zW) ∧ Aside0 (w'.heap[zY]? = some (.cells #[.int .u64 zT,(.slice none 0 0)] 53 (0,0))) ∧ Aside0 (w'.heap[zP]? = some (.cells #[.string zV,.int .i64 zU] 89 (0,0))) ∧ Aside0 (w'.heap[Ab]? = some (.cells #[.int .u64 t226,z8] 53 (0,0))) ∧ Aside0 (Below w.heap.size w w'))
  case atStart=>exact ⟨(0),(0),(t227),(t228),(([] : List (S103))),(.slice none 0 0),(by first|rfl|(simp;done)|(simp [*];done)),H',⟨Nat.le_refl _⟩,⟨by first|exact Kd.iU _ _ _ _ _|exact Kd.kV _ _ _ _ _|exact Kd.kW _ _ _ _ _|exact Kd.kR _ _ _ _ _|exact Kd.jl _ _ _ _ _⟩,⟨by (with_reducible repeat (first|apply aj|apply au|apply ah));refine aJ ?_ AV.out _;(with_reducible repeat (first|apply aj|apply au|apply ah));refine aJ ?_ AV.out _;(with_reducible repeat (first|apply aj|apply au|apply ah));exact zO.out⟩,⟨by (with_reducible repeat (first|apply aj|apply au|apply ah));refine aJ ?_ Av.out _;(with_reducible repeat (first|apply aj|apply au|apply ah));refine aJ ?_ Av.out _;(with_reducible repeat (first|apply aj|apply au|apply ah));exact zL.out⟩,⟨by (with_reducible repeat (first|apply aj|apply au|apply ah));refine aX (cs:=#[.int .u64 t226,.slice none 0 0]) ?_ 1 _ rfl;(with_reducible repeat (first|apply aj|apply au|apply ah));refine aX (cs:=#[.int .u64 0,.slice none 0 0]) ?_ 0 _ rfl;(with_reducible repeat (first|apply aj|apply au|apply ah));exact zS.out⟩,⟨by repeat (first|(with_reducible first|exact HB.out|apply aD|apply ak|apply aC|refine aA ?_ Aa.out|refine aA ?_ Ad.out|refine aA ?_ Ah.out)|exact HB.out)⟩⟩
  case round =>
   clear H'
   try clear c1
   try clear c2
   try clear p2
   try clear c3
   try clear c4
   try clear c4b0
   try clear c5
   try clear c7
   try clear c16
   try clear c23
   try clear c24
   try clear Ci
   try clear Cj
   try clear Cn
   try clear Co
   try clear Ct
   try clear Cu
   try clear Cx
   try clear Cy
   try clear CF
   try clear CG
   try clear CO
   try clear CP
   try clear CU
   try clear CV
   try clear Dh
   try clear Di
   try clear Ck
   try clear Cm
   try clear Cq
   try clear Cr
   try clear Cv
   try clear Cw
   try clear Cz
   try clear CB
   try clear CJ
   try clear CK
   try clear CQ
   try clear CS
   try clear CW
   try clear CX
   try clear Dj
   try clear Dk
   obtain ⟨Bo,zT,zV,zU,zW,z8,rfl,HA,Il,zM,zO,zL,zS,HB⟩:=hrel
   cases gk with
   | zero=>exact absurd HA.out (by simp [aN.l0])
   | succ k1 =>
    have H:=HA.out
    clear HA
    simp only [aN.l0] at H
    have IV:=Aside0.mk H
    clear H
    go_upto_region 8 with (fail)
    go_cut [42] (fun v42 wc=>∃ (kq : Nat) (Dl : Bool),v42 = .bool Dl ∧ Aside0 (aN.j1 kq t229 Bo Dl zV zU t226 zW = some (r1,r2,r3)) ∧ Aside0 (kq ≤ k1) ∧ Aside0 (Kd.S iC 103 wc w.heap.size (fun _=>True) z8 zW) ∧ Aside0 (wc.heap[zY]? = some (.cells #[.int .u64 zT,(.slice none 0 0)] 53 (0,0))) ∧ Aside0 (wc.heap[zP]? = some (.cells #[.string zV,.int .i64 zU] 89 (0,0))) ∧ Aside0 (wc.heap[Ab]? = some (.cells #[.int .u64 t226,z8] 53 (0,0))) ∧ Aside0 (Below w.heap.size w wc))
    case first =>
     have H:=IV.out
     clear IV
     by_cases Ia : Bo < (wrap64 (t229))
     ·rw [if_pos Ia] at H
      have c27b0 : decide (Bo < (wrap64 (t229))) = true:=decide_eq_true Ia
      clear Ia
      (first|rw [c27b0]|(simp only [bI,bN];rw [c27b0])|skip)
      have H':=Aside0.mk H
      clear H
      have Nb:=AL.out
      have Nc:=zQ.out
      have Nf:=Av.out
      have Ng:=zX.out
      have Dm : wr.cell? ⟨zP,0,none⟩ = some (.string zV):=(ay zL.out 0).trans rfl
      have Dn : wr.cell? ⟨zP,1,none⟩ = some (.int .i64 zU):=(ay zL.out 1).trans rfl
      have Dp:=av zL.out 0
      have Dq:=av zL.out 1
      go_wp2
      go_meet
      case rel=>exact ⟨_,((zU == 0)),(by first|rfl|(simp;done)|(simp [*];done)),H',⟨by have:=Il.out;first|omega|exact Nat.le_refl _⟩,⟨by (with_reducible repeat (first|apply Kd.cZ|apply Kd.dh|apply Kd.dA));exact zM.out⟩,⟨by (with_reducible repeat (first|apply aj|apply au|apply ah));exact zO.out⟩,⟨by (with_reducible repeat (first|apply aj|apply au|apply ah));exact zL.out⟩,⟨by (with_reducible repeat (first|apply aj|apply au|apply ah));exact zS.out⟩,⟨by repeat (first|(with_reducible first|exact HB.out|apply aD|apply ak|apply aC|refine aA ?_ Aa.out|refine aA ?_ Ad.out|refine aA ?_ Ah.out)|exact HB.out)⟩⟩
     ·rw [if_neg Ia] at H
      have c27b0 : decide (Bo < (wrap64 (t229))) = false:=decide_eq_false Ia
      clear Ia
      (first|rw [c27b0]|(simp only [bI,bN];rw [c27b0])|skip)
      have H':=Aside0.mk H
      clear H
      go_wp2
      go_meet
      case rel=>exact ⟨_,(false),(by first|rfl|(simp;done)|(simp [*];done)),H',⟨by have:=Il.out;first|omega|exact Nat.le_refl _⟩,⟨by (with_reducible repeat (first|apply Kd.cZ|apply Kd.dh|apply Kd.dA));exact zM.out⟩,⟨by (with_reducible repeat (first|apply aj|apply au|apply ah));exact zO.out⟩,⟨by (with_reducible repeat (first|apply aj|apply au|apply ah));exact zL.out⟩,⟨by (with_reducible repeat (first|apply aj|apply au|apply ah));exact zS.out⟩,⟨by repeat (first|(with_reducible first|exact HB.out|apply aD|apply ak|apply aC|refine aA ?_ Aa.out|refine aA ?_ Ad.out|refine aA ?_ Ah.out)|exact HB.out)⟩⟩
    case rest =>
     clear IV
     try clear c1
     try clear c2
     try clear p2
     try clear c3
     try clear c4
     try clear c4b0
     try clear c5
     try clear p6
     try clear c7
     try clear c16
     try clear c23
     try clear c24
     try clear Ia
     try clear c27b0
     try clear c28
     try clear Nh
     try clear Ci
     try clear Cj
     try clear Cn
     try clear Co
     try clear Ct
     try clear Cu
     try clear Cx
     try clear Cy
     try clear CF
     try clear CG
     try clear CO
     try clear CP
     try clear CU
     try clear CV
     try clear Dm
     try clear Dn
     try clear Dh
     try clear Di
     try clear Ck
     try clear Cm
     try clear Cq
     try clear Cr
     try clear Cv
     try clear Cw
     try clear Cz
     try clear CB
     try clear CJ
     try clear CK
     try clear CQ
     try clear CS
     try clear CW
     try clear CX
     try clear Dp
     try clear Dq
     try clear Dj
     try clear Dk
     try clear p2
     obtain ⟨kq,Dl,rfl,HA,He,zM,zO,zL,zS,HB⟩:=hcut
     cases kq with
     | zero=>exact absurd HA.out (by simp [aN.j1])
     | succ Ay =>
      have H:=HA.out
      clear HA
      simp only [aN.j1] at H
      by_cases c31 : Dl = true
      ·subst c31
       have H1 : ((bf.f Ay zV zU).bind fun CY=>((bf.f Ay CY.1 CY.2.1).bind fun Bv=>((bf.f Ay Bv.1 Bv.2.1).bind fun Bn=>((aT.f Ay Bn.1 Bn.2.1 1).bind fun Bg=>((aT.f Ay Bg.1 Bg.2.1 2).bind fun AP=>((aT.f Ay AP.1 AP.2.1 1).bind fun Aj=>(if Aj.2.2 > 16 then (some (0,([] : List (S103)),18)) else (aN.l1 Ay t229 Bo Aj.2.2 0 Aj.1 Aj.2.1 t226 zW CY.2.2 Bv.2.2 Bn.2.2 ((Bg.2.2) % 256) (IntKind.u16.wrap (AP.2.2)) ([] : List (S104)))))))))) = some (r1,r2,r3):=by rw [if_pos rfl] at H;exact H
       clear H
       have H:=H1
       clear H1
       replace H:=Option.bind_eq_some_iff.mp H
       obtain ⟨⟨t232,t233,t234⟩,I9,H⟩:=H
       replace H : ((bf.f Ay t232 t233).bind fun Bv=>((bf.f Ay Bv.1 Bv.2.1).bind fun Bn=>((aT.f Ay Bn.1 Bn.2.1 1).bind fun Bg=>((aT.f Ay Bg.1 Bg.2.1 2).bind fun AP=>((aT.f Ay AP.1 AP.2.1 1).bind fun Aj=>(if Aj.2.2 > 16 then (some (0,([] : List (S103)),18)) else (aN.l1 Ay t229 Bo Aj.2.2 0 Aj.1 Aj.2.1 t226 zW t234 Bv.2.2 Bn.2.2 ((Bg.2.2) % 256) (IntKind.u16.wrap (AP.2.2)) ([] : List (S104))))))))) = some (r1,r2,r3):=H
       have Nk:=Aside0.mk I9
       clear I9
       replace H:=Option.bind_eq_some_iff.mp H
       obtain ⟨⟨BA,t236,Am⟩,Ja,H⟩:=H
       replace H : ((bf.f Ay BA t236).bind fun Bn=>((aT.f Ay Bn.1 Bn.2.1 1).bind fun Bg=>((aT.f Ay Bg.1 Bg.2.1 2).bind fun AP=>((aT.f Ay AP.1 AP.2.1 1).bind fun Aj=>(if Aj.2.2 > 16 then (some (0,([] : List (S103)),18)) else (aN.l1 Ay t229 Bo Aj.2.2 0 Aj.1 Aj.2.1 t226 zW t234 Am Bn.2.2 ((Bg.2.2) % 256) (IntKind.u16.wrap (AP.2.2)) ([] : List (S104)))))))) = some (r1,r2,r3):=H
       have Nl:=Aside0.mk Ja
       clear Ja
       replace H:=Option.bind_eq_some_iff.mp H
       obtain ⟨⟨BF,BG,AJ⟩,Jb,H⟩:=H
       replace H : ((aT.f Ay BF BG 1).bind fun Bg=>((aT.f Ay Bg.1 Bg.2.1 2).bind fun AP=>((aT.f Ay AP.1 AP.2.1 1).bind fun Aj=>(if Aj.2.2 > 16 then (some (0,([] : List (S103)),18)) else (aN.l1 Ay t229 Bo Aj.2.2 0 Aj.1 Aj.2.1 t226 zW t234 Am AJ ((Bg.2.2) % 256) (IntKind.u16.wrap (AP.2.2)) ([] : List (S104))))))) = some (r1,r2,r3):=H
       have Nn:=Aside0.mk Jb
       clear Jb
       replace H:=Option.bind_eq_some_iff.mp H
       obtain ⟨⟨BH,BI,AY⟩,Jc,H⟩:=H
       replace H : ((aT.f Ay BH BI 2).bind fun AP=>((aT.f Ay AP.1 AP.2.1 1).bind fun Aj=>(if Aj.2.2 > 16 then (some (0,([] : List (S103)),18)) else (aN.l1 Ay t229 Bo Aj.2.2 0 Aj.1 Aj.2.1 t226 zW t234 Am AJ ((AY) % 256) (IntKind.u16.wrap (AP.2.2)) ([] : List (S104)))))) = some (r1,r2,r3):=H
       have Np:=Aside0.mk Jc
       clear Jc
       replace H:=Option.bind_eq_some_iff.mp H
       obtain ⟨⟨BM,BO,A9⟩,Jd,H⟩:=H
       replace H : ((aT.f Ay BM BO 1).bind fun Aj=>(if Aj.2.2 > 16 then (some (0,([] : List (S103)),18)) else (aN.l1 Ay t229 Bo Aj.2.2 0 Aj.1 Aj.2.1 t226 zW t234 Am AJ ((AY) % 256) (IntKind.u16.wrap (A9)) ([] : List (S104))))) = some (r1,r2,r3):=H
       have Nq:=Aside0.mk Jd
       clear Jd
       replace H:=Option.bind_eq_some_iff.mp H
       obtain ⟨⟨Hf,Hw,BN⟩,Je,H⟩:=H
       replace H : (if BN > 16 then (some (0,([] : List (S103)),18)) else (aN.l1 Ay t229 Bo BN 0 Hf Hw t226 zW t234 Am AJ ((AY) % 256) (IntKind.u16.wrap (A9)) ([] : List (S104)))) = some (r1,r2,r3):=H
       have Nr:=Aside0.mk Je
       clear Je
       by_cases Im : BN > 16
       ·rw [if_pos Im] at H
        have c38b0 : decide (16 < BN) = true:=decide_eq_true Im
        clear Im
        simp only [Option.some.injEq,Prod.mk.injEq] at H
        obtain ⟨rfl,rfl,rfl⟩:=H
        go_wp2_with (first|((with_reducible refine dw (N:=9) rfl ?_);refine cB ?hg (N:=9) ?hd (cs:=#[.string (⟨#[]⟩ : ByteArray),.string (⟨#[]⟩ : ByteArray),.string (⟨#[]⟩ : ByteArray),.int .u8 0,.int .u16 0,.slice none 0 0]) (t:=103) ?hr ?_;(case hd=>rfl);(case hg=>rfl);(case hr=>first|(go_simp;done)|(go_simp;rfl));intro zR hg Ns hbox hb;have Ap:=Aside0.mk (Kd.dJ (Kd.jP (by (with_reducible repeat (first|apply Kd.cZ|apply Kd.dh|apply Kd.dA));exact zM.out) zR (Nat.le_of_eq hg.symm)) hb);have Aq:=Aside0.mk (aQ (g:=zY) (o:=.cells #[.int .u64 zT,.slice none 0 0] 53 (0,0)) (bk_ zO.out) hb);have Ar:=Aside0.mk (aQ (g:=zP) (o:=.cells #[.string zV,.int .i64 zU] 89 (0,0)) (bk_ zL.out) hb);have AA:=Aside0.mk (aQ (g:=Ab) (o:=.cells #[.int .u64 t226,z8] 53 (0,0)) (bk_ zS.out) hb);have AO:=Aside0.mk (aU (by repeat (first|(with_reducible first|exact HB.out|apply aD|apply ak|apply aC|refine aA ?_ Aa.out|refine aA ?_ Ad.out|refine aA ?_ Ah.out)|exact HB.out)) hb);have AX:=Aside0.mk (hbox);have Ch:=Aside0.mk ((by rw [hg];exact (aW (by repeat (first|(with_reducible first|exact HB.out|apply aD|apply ak|apply aC|refine aA ?_ Aa.out|refine aA ?_ Ad.out|refine aA ?_ Ah.out)|exact HB.out))) : w.heap.size ≤ zR));have Df:=Aside0.mk ((by rw [hg];exact (aW (by repeat (first|(with_reducible first|exact HB.out|apply aD|apply ak|apply aC|refine aA ?_ Aa.out|refine aA ?_ Ad.out|refine aA ?_ Ah.out)|exact HB.out))) : w.heap.size ≤ zR));have Ht:=Aside0.mk ((by rw [hg];exact Nat.ne_of_lt (bV (g:=zY) (o:=.cells #[.int .u64 zT,.slice none 0 0] 53 (0,0)) (bk_ zO.out)) : zY ≠ zR));have Hu:=Aside0.mk ((by rw [hg];exact Nat.ne_of_gt (bV (g:=zY) (o:=.cells #[.int .u64 zT,.slice none 0 0] 53 (0,0)) (bk_ zO.out)) : zR ≠ zY));have Dt:=Aside0.mk ((by rw [hg];exact Nat.ne_of_lt (bV (g:=zP) (o:=.cells #[.string zV,.int .i64 zU] 89 (0,0)) (bk_ zL.out)) : zP ≠ zR));have Du:=Aside0.mk ((by rw [hg];exact Nat.ne_of_gt (bV (g:=zP) (o:=.cells #[.string zV,.int .i64 zU] 89 (0,0)) (bk_ zL.out)) : zR ≠ zP));have Dv:=Aside0.mk ((by rw [hg];exact Nat.ne_of_lt (bV (g:=Ab) (o:=.cells #[.int .u64 t226,z8] 53 (0,0)) (bk_ zS.out)) : Ab ≠ zR));have Dw:=Aside0.mk ((by rw [hg];exact Nat.ne_of_gt (bV (g:=Ab) (o:=.cells #[.int .u64 t226,z8] 53 (0,0)) (bk_ zS.out)) : zR ≠ Ab));clear zM;clear zO;clear zL;clear zS;clear HB;have zM:=Ap;have zO:=Aq;have zL:=Ar;have zS:=AA;have HB:=AO;have zN:=AX;have Jf:=Ch;have AB:=Df;have Ak:=Ht;have Bq:=Hu;have Ai:=Dt;have zZ:=Du;have Al:=Dv;have Br:=Dw;clear Ap Aq Ar AA AO AX Ch Df Ht Hu Dt Du Dv Dw;clear hb hbox hg;have Nt:=AL.out;have Nu:=zQ.out;have Nv:=Av.out;have Nw:=zX.out;have Ny:=Ai.out;have Nz:=zZ.out;have DL : Ns.cell? ⟨zP,0,none⟩ = some (.string zV):=(ay zL.out 0).trans rfl;have DN : Ns.cell? ⟨zP,1,none⟩ = some (.int .i64 zU):=(ay zL.out 1).trans rfl;have DR:=av zL.out 0;have DT:=av zL.out 1)|((with_reducible refine bA (f:=52) rfl ?_);refine cO (some 47) rfl rfl Tryd.func52 (by kernel_rfl) rfl #[.agg #[.string zV,.int .i64 zU]] rfl (by (try simp only [List.map_toArray,List.map_cons,List.map_nil]);first|done|rfl|(simp only [List.length_drop,List.length_take];rfl)|(simp (disch:=first|omega|(simp at *;omega)) only [bY,bJ,dF];rfl)) ?_;(with_reducible refine (bf.calls Ay zV zU t232 t233 t234 _ Nk.out).mono ?_);rintro e Io ⟨rfl,hb⟩;refine ⟨_,rfl,?_⟩;have Ap:=Aside0.mk (Kd.dJ (by (with_reducible repeat (first|apply Kd.cZ|apply Kd.dh|apply Kd.dA));exact zM.out) hb);have Aq:=Aside0.mk (aQ (g:=zY) (o:=.cells #[.int .u64 zT,.slice none 0 0] 53 (0,0)) (bk_ zO.out) hb);have Ar:=Aside0.mk (aQ (g:=zP) (o:=.cells #[.string zV,.int .i64 zU] 89 (0,0)) (bk_ zL.out) hb);have AA:=Aside0.mk (aQ (g:=Ab) (o:=.cells #[.int .u64 t226,z8] 53 (0,0)) (bk_ zS.out) hb);have AO:=Aside0.mk (aQ (g:=zR) (o:=.cells #[.string (⟨#[]⟩ : ByteArray),.string (⟨#[]⟩ : ByteArray),.string (⟨#[]⟩ : ByteArray),.int .u8 0,.int .u16 0,.slice none 0 0] 103 (0,0)) (bk_ zN.out) hb);have AX:=Aside0.mk (aU (by repeat (first|(with_reducible first|exact HB.out|apply aD|apply ak|apply aC|refine aA ?_ Aa.out|refine aA ?_ Ad.out|refine aA ?_ Ah.out|refine aA ?_ AB.out)|exact HB.out)) hb);clear zM;clear zO;clear zL;clear zS;clear zN;clear HB;have zM:=Ap;have zO:=Aq;have zL:=Ar;have zS:=AA;have zN:=AO;have HB:=AX;clear Ap Aq Ar AA AO AX;(try clear hb);(try clear hb2);(try clear hk);(try clear hi);have DU : Io.cell? ⟨zP,0,none⟩ = some (.string zV):=(ay zL.out 0).trans rfl;have DV : Io.cell? ⟨zP,1,none⟩ = some (.int .i64 zU):=(ay zL.out 1).trans rfl;have DW:=av zL.out 0;have DX:=av zL.out 1;have NA:=Bq.out;have NC:=Ak.out;have ND:=Br.out;have NG:=Al.out;have DY : Io.cell? ⟨zR,0,none⟩ = some (.string (⟨#[]⟩ : ByteArray)):=(ay zN.out 0).trans rfl;have DZ : Io.cell? ⟨zR,1,none⟩ = some (.string (⟨#[]⟩ : ByteArray)):=(ay zN.out 1).trans rfl;have D5 : Io.cell? ⟨zR,2,none⟩ = some (.string (⟨#[]⟩ : ByteArray)):=(ay zN.out 2).trans rfl;have D6 : Io.cell? ⟨zR,3,none⟩ = some (.int .u8 0):=(ay zN.out 3).trans rfl;have D7 : Io.cell? ⟨zR,4,none⟩ = some (.int .u16 0):=(ay zN.out 4).trans rfl;have D8 : Io.cell? ⟨zR,5,none⟩ = some (.slice none 0 0):=(ay zN.out 5).trans rfl;have D9:=av zN.out 0;have Ea:=av zN.out 1;have Eb:=av zN.out 2;have Ec:=av zN.out 3;have Ed:=av zN.out 4;have Ee:=av zN.out 5)|((with_reducible refine bA (f:=52) rfl ?_);refine cO (some 53) rfl rfl Tryd.func52 (by kernel_rfl) rfl #[.agg #[.string t232,.int .i64 t233]] rfl (by (try simp only [List.map_toArray,List.map_cons,List.map_nil]);first|done|rfl|(simp only [List.length_drop,List.length_take];rfl)|(simp (disch:=first|omega|(simp at *;omega)) only [bY,bJ,dF];rfl)) ?_;(with_reducible refine (bf.calls Ay t232 t233 BA t236 Am _ Nl.out).mono ?_);rintro e Ip ⟨rfl,hb⟩;refine ⟨_,rfl,?_⟩;have Ap:=Aside0.mk (Kd.dJ (by (with_reducible repeat (first|apply Kd.cZ|apply Kd.dh|apply Kd.dA));exact (Kd.dO (Kd.dO (Kd.dQ (p:=⟨zR,0,none⟩) (Kd.dQ (p:=⟨zP,1,none⟩) (Kd.dQ (p:=⟨zP,0,none⟩) (Kd.dO (Kd.eO zM.out zL.out (by decide)) (fun k_ hk=>(⟨hk,hk.1.2⟩ : _ ∧ k_ ≠ zR))) (fun _ hk=>hk.1.2) (.string t232)) (fun _ hk=>hk.1.2) (.int .i64 t233)) (fun _ hk=>hk.2) (.string t234)) (fun _ h_=>h_.1)) (fun _ h_=>h_.1))) hb);have Aq:=Aside0.mk (aQ (g:=zY) (o:=.cells #[.int .u64 zT,.slice none 0 0] 53 (0,0)) (by (with_reducible repeat (first|apply aj|apply au|apply ah));refine aJ ?_ Ak.out _;(with_reducible repeat (first|apply aj|apply au|apply ah));refine aJ ?_ zQ.out _;(with_reducible repeat (first|apply aj|apply au|apply ah));refine aJ ?_ zQ.out _;(with_reducible repeat (first|apply aj|apply au|apply ah));exact zO.out) hb);have Ar:=Aside0.mk (aQ (g:=zP) (o:=.cells #[.string t232,.int .i64 t233] 89 (0,0)) (by (with_reducible repeat (first|apply aj|apply au|apply ah));refine aJ ?_ Ai.out _;(with_reducible repeat (first|apply aj|apply au|apply ah));refine aX (cs:=#[.string t232,.int .i64 zU]) ?_ 1 _ rfl;(with_reducible repeat (first|apply aj|apply au|apply ah));refine aX (cs:=#[.string zV,.int .i64 zU]) ?_ 0 _ rfl;(with_reducible repeat (first|apply aj|apply au|apply ah));exact zL.out) hb);have AA:=Aside0.mk (aQ (g:=Ab) (o:=.cells #[.int .u64 t226,z8] 53 (0,0)) (by (with_reducible repeat (first|apply aj|apply au|apply ah));refine aJ ?_ Al.out _;(with_reducible repeat (first|apply aj|apply au|apply ah));refine aJ ?_ zX.out _;(with_reducible repeat (first|apply aj|apply au|apply ah));refine aJ ?_ zX.out _;(with_reducible repeat (first|apply aj|apply au|apply ah));exact zS.out) hb);have AO:=Aside0.mk (aQ (g:=zR) (o:=.cells #[.string t234,.string (⟨#[]⟩ : ByteArray),.string (⟨#[]⟩ : ByteArray),.int .u8 0,.int .u16 0,.slice none 0 0] 103 (0,0)) (by (with_reducible repeat (first|apply aj|apply au|apply ah));refine aX (cs:=#[.string (⟨#[]⟩ : ByteArray),.string (⟨#[]⟩ : ByteArray),.string (⟨#[]⟩ : ByteArray),.int .u8 0,.int .u16 0,.slice none 0 0]) ?_ 0 _ rfl;(with_reducible repeat (first|apply aj|apply au|apply ah));refine aJ ?_ zZ.out _;(with_reducible repeat (first|apply aj|apply au|apply ah));refine aJ ?_ zZ.out _;(with_reducible repeat (first|apply aj|apply au|apply ah));exact zN.out) hb);have AX:=Aside0.mk (aU (by repeat (first|(with_reducible first|exact HB.out|apply aD|apply ak|apply aC|refine aA ?_ Aa.out|refine aA ?_ Ad.out|refine aA ?_ Ah.out|refine aA ?_ AB.out)|exact HB.out)) hb);clear zM;clear zO;clear zL;clear zS;clear zN;clear HB;have zM:=Ap;have zO:=Aq;have zL:=Ar;have zS:=AA;have zN:=AO;have HB:=AX;clear Ap Aq Ar AA AO AX;(try clear hb);(try clear hb2);(try clear hk);(try clear hi);have Ef : Ip.cell? ⟨zP,0,none⟩ = some (.string t232):=(ay zL.out 0).trans rfl;have Eh : Ip.cell? ⟨zP,1,none⟩ = some (.int .i64 t233):=(ay zL.out 1).trans rfl;have Ei:=av zL.out 0;have Ej:=av zL.out 1;have El : Ip.cell? ⟨zR,0,none⟩ = some (.string t234):=(ay zN.out 0).trans rfl;have Em : Ip.cell? ⟨zR,1,none⟩ = some (.string (⟨#[]⟩ : ByteArray)):=(ay zN.out 1).trans rfl;have En : Ip.cell? ⟨zR,2,none⟩ = some (.string (⟨#[]⟩ : ByteArray)):=(ay zN.out 2).trans rfl;have Eo : Ip.cell? ⟨zR,3,none⟩ = some (.int .u8 0):=(ay zN.out 3).trans rfl;have Ep : Ip.cell? ⟨zR,4,none⟩ = some (.int .u16 0):=(ay zN.out 4).trans rfl;have Er : Ip.cell? ⟨zR,5,none⟩ = some (.slice none 0 0):=(ay zN.out 5).trans rfl;have Es:=av zN.out 0;have Et:=av zN.out 1;have Eu:=av zN.out 2;have Ew:=av zN.out 3;have Ey:=av zN.out 4;have Ez:=av zN.out 5)|((with_reducible refine bA (f:=52) rfl ?_);refine cO (some 59) rfl rfl Tryd.func52 (by kernel_rfl) rfl #[.agg #[.string BA,.int .i64 t236]] rfl (by (try simp only [List.map_toArray,List.map_cons,List.map_nil]);first|done|rfl|(simp only [List.length_drop,List.length_take];rfl)|(simp (disch:=first|omega|(simp at *;omega)) only [bY,bJ,dF];rfl)) ?_;(with_reducible refine (bf.calls Ay BA t236 BF BG AJ _ Nn.out).mono ?_);rintro e Iq ⟨rfl,hb⟩;refine ⟨_,rfl,?_⟩;have Ap:=Aside0.mk (Kd.dJ (by (with_reducible repeat (first|apply Kd.cZ|apply Kd.dh|apply Kd.dA));exact (Kd.dO (Kd.dO (Kd.dQ (p:=⟨zR,1,none⟩) (Kd.dQ (p:=⟨zP,1,none⟩) (Kd.dQ (p:=⟨zP,0,none⟩) (Kd.dO (Kd.eO zM.out zL.out (by decide)) (fun k_ hk=>(⟨hk,hk.1.2⟩ : _ ∧ k_ ≠ zR))) (fun _ hk=>hk.1.2) (.string BA)) (fun _ hk=>hk.1.2) (.int .i64 t236)) (fun _ hk=>hk.2) (.string Am)) (fun _ h_=>h_.1)) (fun _ h_=>h_.1))) hb);have Aq:=Aside0.mk (aQ (g:=zY) (o:=.cells #[.int .u64 zT,.slice none 0 0] 53 (0,0)) (by (with_reducible repeat (first|apply aj|apply au|apply ah));refine aJ ?_ Ak.out _;(with_reducible repeat (first|apply aj|apply au|apply ah));refine aJ ?_ zQ.out _;(with_reducible repeat (first|apply aj|apply au|apply ah));refine aJ ?_ zQ.out _;(with_reducible repeat (first|apply aj|apply au|apply ah));exact zO.out) hb);have Ar:=Aside0.mk (aQ (g:=zP) (o:=.cells #[.string BA,.int .i64 t236] 89 (0,0)) (by (with_reducible repeat (first|apply aj|apply au|apply ah));refine aJ ?_ Ai.out _;(with_reducible repeat (first|apply aj|apply au|apply ah));refine aX (cs:=#[.string BA,.int .i64 t233]) ?_ 1 _ rfl;(with_reducible repeat (first|apply aj|apply au|apply ah));refine aX (cs:=#[.string t232,.int .i64 t233]) ?_ 0 _ rfl;(with_reducible repeat (first|apply aj|apply au|apply ah));exact zL.out) hb);have AA:=Aside0.mk (aQ (g:=Ab) (o:=.cells #[.int .u64 t226,z8] 53 (0,0)) (by (with_reducible repeat (first|apply aj|apply au|apply ah));refine aJ ?_ Al.out _;(with_reducible repeat (first|apply aj|apply au|apply ah));refine aJ ?_ zX.out _;(with_reducible repeat (first|apply aj|apply au|apply ah));refine aJ ?_ zX.out _;(with_reducible repeat (first|apply aj|apply au|apply ah));exact zS.out) hb);have AO:=Aside0.mk (aQ (g:=zR) (o:=.cells #[.string t234,.string Am,.string (⟨#[]⟩ : ByteArray),.int .u8 0,.int .u16 0,.slice none 0 0] 103 (0,0)) (by (with_reducible repeat (first|apply aj|apply au|apply ah));refine aX (cs:=#[.string t234,.string (⟨#[]⟩ : ByteArray),.string (⟨#[]⟩ : ByteArray),.int .u8 0,.int .u16 0,.slice none 0 0]) ?_ 1 _ rfl;(with_reducible repeat (first|apply aj|apply au|apply ah));refine aJ ?_ zZ.out _;(with_reducible repeat (first|apply aj|apply au|apply ah));refine aJ ?_ zZ.out _;(with_reducible repeat (first|apply aj|apply au|apply ah));exact zN.out) hb);have AX:=Aside0.mk (aU (by repeat (first|(with_reducible first|exact HB.out|apply aD|apply ak|apply aC|refine aA ?_ Aa.out|refine aA ?_ Ad.out|refine aA ?_ Ah.out|refine aA ?_ AB.out)|exact HB.out)) hb);clear zM;clear zO;clear zL;clear zS;clear zN;clear HB;have zM:=Ap;have zO:=Aq;have zL:=Ar;have zS:=AA;have zN:=AO;have HB:=AX;clear Ap Aq Ar AA AO AX;(try clear hb);(try clear hb2);(try clear hk);(try clear hi);have EA : Iq.cell? ⟨zP,0,none⟩ = some (.string BA):=(ay zL.out 0).trans rfl;have EB : Iq.cell? ⟨zP,1,none⟩ = some (.int .i64 t236):=(ay zL.out 1).trans rfl;have EC:=av zL.out 0;have ED:=av zL.out 1;have EF : Iq.cell? ⟨zR,0,none⟩ = some (.string t234):=(ay zN.out 0).trans rfl;have EG : Iq.cell? ⟨zR,1,none⟩ = some (.string Am):=(ay zN.out 1).trans rfl;have EH : Iq.cell? ⟨zR,2,none⟩ = some (.string (⟨#[]⟩ : ByteArray)):=(ay zN.out 2).trans rfl;have EI : Iq.cell? ⟨zR,3,none⟩ = some (.int .u8 0):=(ay zN.out 3).trans rfl;have EJ : Iq.cell? ⟨zR,4,none⟩ = some (.int .u16 0):=(ay zN.out 4).trans rfl;have EK : Iq.cell? ⟨zR,5,none⟩ = some (.slice none 0 0):=(ay zN.out 5).trans rfl;have EL:=av zN.out 0;have EM:=av zN.out 1;have EN:=av zN.out 2;have EO:=av zN.out 3;have EP:=av zN.out 4;have ER:=av zN.out 5)|((with_reducible refine bA (f:=51) rfl ?_);refine cO (some 65) rfl rfl Tryd.func51 (by kernel_rfl) rfl #[.agg #[.string BF,.int .i64 BG],.int .i64 1] rfl (by (try simp only [List.map_toArray,List.map_cons,List.map_nil]);first|done|rfl|(simp only [List.length_drop,List.length_take];rfl)|(simp (disch:=first|omega|(simp at *;omega)) only [bY,bJ,dF];rfl)) ?_;(with_reducible refine (aT.calls Ay BF BG 1 BH BI AY _ Np.out).mono ?_);rintro e NH ⟨rfl,hb⟩;refine ⟨_,rfl,?_⟩;have Ap:=Aside0.mk (Kd.dJ (by (with_reducible repeat (first|apply Kd.cZ|apply Kd.dh|apply Kd.dA));exact (Kd.dO (Kd.dO (Kd.dQ (p:=⟨zR,2,none⟩) (Kd.dQ (p:=⟨zP,1,none⟩) (Kd.dQ (p:=⟨zP,0,none⟩) (Kd.dO (Kd.eO zM.out zL.out (by decide)) (fun k_ hk=>(⟨hk,hk.1.2⟩ : _ ∧ k_ ≠ zR))) (fun _ hk=>hk.1.2) (.string BF)) (fun _ hk=>hk.1.2) (.int .i64 BG)) (fun _ hk=>hk.2) (.string AJ)) (fun _ h_=>h_.1)) (fun _ h_=>h_.1))) hb);have Aq:=Aside0.mk (aQ (g:=zY) (o:=.cells #[.int .u64 zT,.slice none 0 0] 53 (0,0)) (by (with_reducible repeat (first|apply aj|apply au|apply ah));refine aJ ?_ Ak.out _;(with_reducible repeat (first|apply aj|apply au|apply ah));refine aJ ?_ zQ.out _;(with_reducible repeat (first|apply aj|apply au|apply ah));refine aJ ?_ zQ.out _;(with_reducible repeat (first|apply aj|apply au|apply ah));exact zO.out) hb);have Ar:=Aside0.mk (aQ (g:=zP) (o:=.cells #[.string BF,.int .i64 BG] 89 (0,0)) (by (with_reducible repeat (first|apply aj|apply au|apply ah));refine aJ ?_ Ai.out _;(with_reducible repeat (first|apply aj|apply au|apply ah));refine aX (cs:=#[.string BF,.int .i64 t236]) ?_ 1 _ rfl;(with_reducible repeat (first|apply aj|apply au|apply ah));refine aX (cs:=#[.string BA,.int .i64 t236]) ?_ 0 _ rfl;(with_reducible repeat (first|apply aj|apply au|apply ah));exact zL.out) hb);have AA:=Aside0.mk (aQ (g:=Ab) (o:=.cells #[.int .u64 t226,z8] 53 (0,0)) (by (with_reducible repeat (first|apply aj|apply au|apply ah));refine aJ ?_ Al.out _;(with_reducible repeat (first|apply aj|apply au|apply ah));refine aJ ?_ zX.out _;(with_reducible repeat (first|apply aj|apply au|apply ah));refine aJ ?_ zX.out _;(with_reducible repeat (first|apply aj|apply au|apply ah));exact zS.out) hb);have AO:=Aside0.mk (aQ (g:=zR) (o:=.cells #[.string t234,.string Am,.string AJ,.int .u8 0,.int .u16 0,.slice none 0 0] 103 (0,0)) (by (with_reducible repeat (first|apply aj|apply au|apply ah));refine aX (cs:=#[.string t234,.string Am,.string (⟨#[]⟩ : ByteArray),.int .u8 0,.int .u16 0,.slice none 0 0]) ?_ 2 _ rfl;(with_reducible repeat (first|apply aj|apply au|apply ah));refine aJ ?_ zZ.out _;(with_reducible repeat (first|apply aj|apply au|apply ah));refine aJ ?_ zZ.out _;(with_reducible repeat (first|apply aj|apply au|apply ah));exact zN.out) hb);have AX:=Aside0.mk (aU (by repeat (first|(with_reducible first|exact HB.out|apply aD|apply ak|apply aC|refine aA ?_ Aa.out|refine aA ?_ Ad.out|refine aA ?_ Ah.out|refine aA ?_ AB.out)|exact HB.out)) hb);clear zM;clear zO;clear zL;clear zS;clear zN;clear HB;have zM:=Ap;have zO:=Aq;have zL:=Ar;have zS:=AA;have zN:=AO;have HB:=AX;clear Ap Aq Ar AA AO AX;(try clear hb);(try clear hb2);(try clear hk);(try clear hi);have ES : NH.cell? ⟨zP,0,none⟩ = some (.string BF):=(ay zL.out 0).trans rfl;have ET : NH.cell? ⟨zP,1,none⟩ = some (.int .i64 BG):=(ay zL.out 1).trans rfl;have EU:=av zL.out 0;have EW:=av zL.out 1)|((with_reducible refine bA (f:=51) rfl ?_);refine cO (some 70) rfl rfl Tryd.func51 (by kernel_rfl) rfl #[.agg #[.string BH,.int .i64 BI],.int .i64 2] rfl (by (try simp only [List.map_toArray,List.map_cons,List.map_nil]);first|done|rfl|(simp only [List.length_drop,List.length_take];rfl)|(simp (disch:=first|omega|(simp at *;omega)) only [bY,bJ,dF];rfl)) ?_;(with_reducible refine (aT.calls Ay BH BI 2 BM BO A9 _ Nq.out).mono ?_);rintro e NI ⟨rfl,hb⟩;refine ⟨_,rfl,?_⟩;have Ap:=Aside0.mk (Kd.dJ (by (with_reducible repeat (first|apply Kd.cZ|apply Kd.dh|apply Kd.dA));exact (Kd.dO (Kd.dQ (p:=⟨zP,1,none⟩) (Kd.dQ (p:=⟨zP,0,none⟩) (Kd.eO zM.out zL.out (by decide)) (fun _ hk=>hk.2) (.string BH)) (fun _ hk=>hk.2) (.int .i64 BI)) (fun _ h_=>h_.1))) hb);have Aq:=Aside0.mk (aQ (g:=zY) (o:=.cells #[.int .u64 zT,.slice none 0 0] 53 (0,0)) (by (with_reducible repeat (first|apply aj|apply au|apply ah));refine aJ ?_ zQ.out _;(with_reducible repeat (first|apply aj|apply au|apply ah));refine aJ ?_ zQ.out _;(with_reducible repeat (first|apply aj|apply au|apply ah));exact zO.out) hb);have Ar:=Aside0.mk (aQ (g:=zP) (o:=.cells #[.string BH,.int .i64 BI] 89 (0,0)) (by (with_reducible repeat (first|apply aj|apply au|apply ah));refine aX (cs:=#[.string BH,.int .i64 BG]) ?_ 1 _ rfl;(with_reducible repeat (first|apply aj|apply au|apply ah));refine aX (cs:=#[.string BF,.int .i64 BG]) ?_ 0 _ rfl;(with_reducible repeat (first|apply aj|apply au|apply ah));exact zL.out) hb);have AA:=Aside0.mk (aQ (g:=Ab) (o:=.cells #[.int .u64 t226,z8] 53 (0,0)) (by (with_reducible repeat (first|apply aj|apply au|apply ah));refine aJ ?_ zX.out _;(with_reducible repeat (first|apply aj|apply au|apply ah));refine aJ ?_ zX.out _;(with_reducible repeat (first|apply aj|apply au|apply ah));exact zS.out) hb);have AO:=Aside0.mk (aQ (g:=zR) (o:=.cells #[.string t234,.string Am,.string AJ,.int .u8 0,.int .u16 0,.slice none 0 0] 103 (0,0)) (by (with_reducible repeat (first|apply aj|apply au|apply ah));refine aJ ?_ zZ.out _;(with_reducible repeat (first|apply aj|apply au|apply ah));refine aJ ?_ zZ.out _;(with_reducible repeat (first|apply aj|apply au|apply ah));exact zN.out) hb);have AX:=Aside0.mk (aU (by repeat (first|(with_reducible first|exact HB.out|apply aD|apply ak|apply aC|refine aA ?_ Aa.out|refine aA ?_ Ad.out|refine aA ?_ Ah.out|refine aA ?_ AB.out)|exact HB.out)) hb);clear zM;clear zO;clear zL;clear zS;clear zN;clear HB;have zM:=Ap;have zO:=Aq;have zL:=Ar;have zS:=AA;have zN:=AO;have HB:=AX;clear Ap Aq Ar AA AO AX;(try clear hb);(try clear hb2);(try clear hk);(try clear hi);have EX : NI.cell? ⟨zP,0,none⟩ = some (.string BH):=(ay zL.out 0).trans rfl;have EY : NI.cell? ⟨zP,1,none⟩ = some (.int .i64 BI):=(ay zL.out 1).trans rfl;have EZ:=av zL.out 0;have E5:=av zL.out 1)|((with_reducible refine bA (f:=51) rfl ?_);refine cO (some 75) rfl rfl Tryd.func51 (by kernel_rfl) rfl #[.agg #[.string BM,.int .i64 BO],.int .i64 1] rfl (by (try simp only [List.map_toArray,List.map_cons,List.map_nil]);first|done|rfl|(simp only [List.length_drop,List.length_take];rfl)|(simp (disch:=first|omega|(simp at *;omega)) only [bY,bJ,dF];rfl)) ?_;(with_reducible refine (aT.calls Ay BM BO 1 Hf Hw BN _ Nr.out).mono ?_);rintro e LH ⟨rfl,hb⟩;refine ⟨_,rfl,?_⟩;have Ap:=Aside0.mk (Kd.dJ (by (with_reducible repeat (first|apply Kd.cZ|apply Kd.dh|apply Kd.dA));exact (Kd.dO (Kd.dQ (p:=⟨zP,1,none⟩) (Kd.dQ (p:=⟨zP,0,none⟩) (Kd.eO zM.out zL.out (by decide)) (fun _ hk=>hk.2) (.string BM)) (fun _ hk=>hk.2) (.int .i64 BO)) (fun _ h_=>h_.1))) hb);have Aq:=Aside0.mk (aQ (g:=zY) (o:=.cells #[.int .u64 zT,.slice none 0 0] 53 (0,0)) (by (with_reducible repeat (first|apply aj|apply au|apply ah));refine aJ ?_ zQ.out _;(with_reducible repeat (first|apply aj|apply au|apply ah));refine aJ ?_ zQ.out _;(with_reducible repeat (first|apply aj|apply au|apply ah));exact zO.out) hb);have Ar:=Aside0.mk (aQ (g:=zP) (o:=.cells #[.string BM,.int .i64 BO] 89 (0,0)) (by (with_reducible repeat (first|apply aj|apply au|apply ah));refine aX (cs:=#[.string BM,.int .i64 BI]) ?_ 1 _ rfl;(with_reducible repeat (first|apply aj|apply au|apply ah));refine aX (cs:=#[.string BH,.int .i64 BI]) ?_ 0 _ rfl;(with_reducible repeat (first|apply aj|apply au|apply ah));exact zL.out) hb);have AA:=Aside0.mk (aQ (g:=Ab) (o:=.cells #[.int .u64 t226,z8] 53 (0,0)) (by (with_reducible repeat (first|apply aj|apply au|apply ah));refine aJ ?_ zX.out _;(with_reducible repeat (first|apply aj|apply au|apply ah));refine aJ ?_ zX.out _;(with_reducible repeat (first|apply aj|apply au|apply ah));exact zS.out) hb);have AO:=Aside0.mk (aQ (g:=zR) (o:=.cells #[.string t234,.string Am,.string AJ,.int .u8 0,.int .u16 0,.slice none 0 0] 103 (0,0)) (by (with_reducible repeat (first|apply aj|apply au|apply ah));refine aJ ?_ zZ.out _;(with_reducible repeat (first|apply aj|apply au|apply ah));refine aJ ?_ zZ.out _;(with_reducible repeat (first|apply aj|apply au|apply ah));exact zN.out) hb);have AX:=Aside0.mk (aU (by repeat (first|(with_reducible first|exact HB.out|apply aD|apply ak|apply aC|refine aA ?_ Aa.out|refine aA ?_ Ad.out|refine aA ?_ Ah.out|refine aA ?_ AB.out)|exact HB.out)) hb);clear zM;clear zO;clear zL;clear zS;clear zN;clear HB;have zM:=Ap;have zO:=Aq;have zL:=Ar;have zS:=AA;have zN:=AO;have HB:=AX;clear Ap Aq Ar AA AO AX;(try clear hb);(try clear hb2);(try clear hk);(try clear hi);have E8 : LH.cell? ⟨zP,0,none⟩ = some (.string BM):=(ay zL.out 0).trans rfl;have E9 : LH.cell? ⟨zP,1,none⟩ = some (.int .i64 BO):=(ay zL.out 1).trans rfl;have Fa:=av zL.out 0;have Fb:=av zL.out 1;have NJ:=AV.out;have NK:=Bl.out;have Fe : LH.cell? ⟨zY,0,none⟩ = some (.int .u64 zT):=(ay zO.out 0).trans rfl;have Fg : LH.cell? ⟨zY,1,none⟩ = some (.slice none 0 0):=(ay zO.out 1).trans rfl;have Fh:=av zO.out 0;have Fj:=av zO.out 1))
        refine bodyPost_ret (eH rfl _ _ zY 53 #[.int .u64 0,.slice none 0 0] (0,0) _ rfl (by (with_reducible repeat (first|apply aj|apply au|apply ah));refine aX (cs:=#[.int .u64 0,.slice none 0 0]) ?_ 1 _ rfl;(with_reducible repeat (first|apply aj|apply au|apply ah));refine aX (cs:=#[.int .u64 zT,.slice none 0 0]) ?_ 0 _ rfl;(with_reducible repeat (first|apply aj|apply au|apply ah));refine aJ ?_ zQ.out _;(with_reducible repeat (first|apply aj|apply au|apply ah));refine aJ ?_ zQ.out _;(with_reducible repeat (first|apply aj|apply au|apply ah));exact zO.out) Tryd.underlying53 rfl (by kernel_rfl)) rfl ?_
        exact ⟨_,by first|rfl|(simp [aY,aZ] <;> rfl)|(simp [*,aY,aZ] <;> rfl),by first|exact Kd.iU _ _ _ _ _|exact Kd.kV _ _ _ _ _|exact Kd.kW _ _ _ _ _|exact Kd.kR _ _ _ _ _|exact Kd.jl _ _ _ _ _,by repeat (first|(with_reducible first|exact HB.out|apply aD|apply ak|apply aC|refine aA ?_ Aa.out|refine aA ?_ Ad.out|refine aA ?_ Ah.out|refine aA ?_ AB.out)|exact HB.out)⟩
       ·rw [if_neg Im] at H
        have c38b0 : decide (16 < BN) = false:=decide_eq_false Im
        clear Im
        have H':=Aside0.mk H
        clear H
        go_wp2_with (first|((with_reducible refine dw (N:=9) rfl ?_);refine cB ?hg (N:=9) ?hd (cs:=#[.string (⟨#[]⟩ : ByteArray),.string (⟨#[]⟩ : ByteArray),.string (⟨#[]⟩ : ByteArray),.int .u8 0,.int .u16 0,.slice none 0 0]) (t:=103) ?hr ?_;(case hd=>rfl);(case hg=>rfl);(case hr=>first|(go_simp;done)|(go_simp;rfl));intro zR hg NM hbox hb;have Ap:=Aside0.mk (Kd.dJ (Kd.jP (by (with_reducible repeat (first|apply Kd.cZ|apply Kd.dh|apply Kd.dA));exact zM.out) zR (Nat.le_of_eq hg.symm)) hb);have Aq:=Aside0.mk (aQ (g:=zY) (o:=.cells #[.int .u64 zT,.slice none 0 0] 53 (0,0)) (bk_ zO.out) hb);have Ar:=Aside0.mk (aQ (g:=zP) (o:=.cells #[.string zV,.int .i64 zU] 89 (0,0)) (bk_ zL.out) hb);have AA:=Aside0.mk (aQ (g:=Ab) (o:=.cells #[.int .u64 t226,z8] 53 (0,0)) (bk_ zS.out) hb);have AO:=Aside0.mk (aU (by repeat (first|(with_reducible first|exact HB.out|apply aD|apply ak|apply aC|refine aA ?_ Aa.out|refine aA ?_ Ad.out|refine aA ?_ Ah.out)|exact HB.out)) hb);have AX:=Aside0.mk (hbox);have Ch:=Aside0.mk ((by rw [hg];exact (aW (by repeat (first|(with_reducible first|exact HB.out|apply aD|apply ak|apply aC|refine aA ?_ Aa.out|refine aA ?_ Ad.out|refine aA ?_ Ah.out)|exact HB.out))) : w.heap.size ≤ zR));have Df:=Aside0.mk ((by rw [hg];exact (aW (by repeat (first|(with_reducible first|exact HB.out|apply aD|apply ak|apply aC|refine aA ?_ Aa.out|refine aA ?_ Ad.out|refine aA ?_ Ah.out)|exact HB.out))) : w.heap.size ≤ zR));have Ht:=Aside0.mk ((by rw [hg];exact Nat.ne_of_lt (bV (g:=zY) (o:=.cells #[.int .u64 zT,.slice none 0 0] 53 (0,0)) (bk_ zO.out)) : zY ≠ zR));have Hu:=Aside0.mk ((by rw [hg];exact Nat.ne_of_gt (bV (g:=zY) (o:=.cells #[.int .u64 zT,.slice none 0 0] 53 (0,0)) (bk_ zO.out)) : zR ≠ zY));have Dt:=Aside0.mk ((by rw [hg];exact Nat.ne_of_lt (bV (g:=zP) (o:=.cells #[.string zV,.int .i64 zU] 89 (0,0)) (bk_ zL.out)) : zP ≠ zR));have Du:=Aside0.mk ((by rw [hg];exact Nat.ne_of_gt (bV (g:=zP) (o:=.cells #[.string zV,.int .i64 zU] 89 (0,0)) (bk_ zL.out)) : zR ≠ zP));have Dv:=Aside0.mk ((by rw [hg];exact Nat.ne_of_lt (bV (g:=Ab) (o:=.cells #[.int .u64 t226,z8] 53 (0,0)) (bk_ zS.out)) : Ab ≠ zR));have Dw:=Aside0.mk ((by rw [hg];exact Nat.ne_of_gt (bV (g:=Ab) (o:=.cells #[.int .u64 t226,z8] 53 (0,0)) (bk_ zS.out)) : zR ≠ Ab));clear zM;clear zO;clear zL;clear zS;clear HB;have zM:=Ap;have zO:=Aq;have zL:=Ar;have zS:=AA;have HB:=AO;have zN:=AX;have Jf:=Ch;have AB:=Df;have Ak:=Ht;have Bq:=Hu;have Ai:=Dt;have zZ:=Du;have Al:=Dv;have Br:=Dw;clear Ap Aq Ar AA AO AX Ch Df Ht Hu Dt Du Dv Dw;clear hb hbox hg;have NP:=AL.out;have NQ:=zQ.out;have NR:=Av.out;have NS:=zX.out;have NT:=Ai.out;have NU:=zZ.out;have Fp : NM.cell? ⟨zP,0,none⟩ = some (.string zV):=(ay zL.out 0).trans rfl;have Fq : NM.cell? ⟨zP,1,none⟩ = some (.int .i64 zU):=(ay zL.out 1).trans rfl;have Fu:=av zL.out 0;have Fv:=av zL.out 1)|((with_reducible refine bA (f:=52) rfl ?_);refine cO (some 47) rfl rfl Tryd.func52 (by kernel_rfl) rfl #[.agg #[.string zV,.int .i64 zU]] rfl (by (try simp only [List.map_toArray,List.map_cons,List.map_nil]);first|done|rfl|(simp only [List.length_drop,List.length_take];rfl)|(simp (disch:=first|omega|(simp at *;omega)) only [bY,bJ,dF];rfl)) ?_;(with_reducible refine (bf.calls Ay zV zU t232 t233 t234 _ Nk.out).mono ?_);rintro e Ir ⟨rfl,hb⟩;refine ⟨_,rfl,?_⟩;have Ap:=Aside0.mk (Kd.dJ (by (with_reducible repeat (first|apply Kd.cZ|apply Kd.dh|apply Kd.dA));exact zM.out) hb);have Aq:=Aside0.mk (aQ (g:=zY) (o:=.cells #[.int .u64 zT,.slice none 0 0] 53 (0,0)) (bk_ zO.out) hb);have Ar:=Aside0.mk (aQ (g:=zP) (o:=.cells #[.string zV,.int .i64 zU] 89 (0,0)) (bk_ zL.out) hb);have AA:=Aside0.mk (aQ (g:=Ab) (o:=.cells #[.int .u64 t226,z8] 53 (0,0)) (bk_ zS.out) hb);have AO:=Aside0.mk (aQ (g:=zR) (o:=.cells #[.string (⟨#[]⟩ : ByteArray),.string (⟨#[]⟩ : ByteArray),.string (⟨#[]⟩ : ByteArray),.int .u8 0,.int .u16 0,.slice none 0 0] 103 (0,0)) (bk_ zN.out) hb);have AX:=Aside0.mk (aU (by repeat (first|(with_reducible first|exact HB.out|apply aD|apply ak|apply aC|refine aA ?_ Aa.out|refine aA ?_ Ad.out|refine aA ?_ Ah.out|refine aA ?_ AB.out)|exact HB.out)) hb);clear zM;clear zO;clear zL;clear zS;clear zN;clear HB;have zM:=Ap;have zO:=Aq;have zL:=Ar;have zS:=AA;have zN:=AO;have HB:=AX;clear Ap Aq Ar AA AO AX;(try clear hb);(try clear hb2);(try clear hk);(try clear hi);have Fw : Ir.cell? ⟨zP,0,none⟩ = some (.string zV):=(ay zL.out 0).trans rfl;have Fx : Ir.cell? ⟨zP,1,none⟩ = some (.int .i64 zU):=(ay zL.out 1).trans rfl;have Fy:=av zL.out 0;have Fz:=av zL.out 1;have NV:=Bq.out;have NW:=Ak.out;have NY:=Br.out;have NZ:=Al.out;have FB : Ir.cell? ⟨zR,0,none⟩ = some (.string (⟨#[]⟩ : ByteArray)):=(ay zN.out 0).trans rfl;have FC : Ir.cell? ⟨zR,1,none⟩ = some (.string (⟨#[]⟩ : ByteArray)):=(ay zN.out 1).trans rfl;have FD : Ir.cell? ⟨zR,2,none⟩ = some (.string (⟨#[]⟩ : ByteArray)):=(ay zN.out 2).trans rfl;have FE : Ir.cell? ⟨zR,3,none⟩ = some (.int .u8 0):=(ay zN.out 3).trans rfl;have FH : Ir.cell? ⟨zR,4,none⟩ = some (.int .u16 0):=(ay zN.out 4).trans rfl;have FI : Ir.cell? ⟨zR,5,none⟩ = some (.slice none 0 0):=(ay zN.out 5).trans rfl;have FJ:=av zN.out 0;have FL:=av zN.out 1;have FM:=av zN.out 2;have FN:=av zN.out 3;have FP:=av zN.out 4;have FQ:=av zN.out 5)|((with_reducible refine bA (f:=52) rfl ?_);refine cO (some 53) rfl rfl Tryd.func52 (by kernel_rfl) rfl #[.agg #[.string t232,.int .i64 t233]] rfl (by (try simp only [List.map_toArray,List.map_cons,List.map_nil]);first|done|rfl|(simp only [List.length_drop,List.length_take];rfl)|(simp (disch:=first|omega|(simp at *;omega)) only [bY,bJ,dF];rfl)) ?_;(with_reducible refine (bf.calls Ay t232 t233 BA t236 Am _ Nl.out).mono ?_);rintro e Iu ⟨rfl,hb⟩;refine ⟨_,rfl,?_⟩;have Ap:=Aside0.mk (Kd.dJ (by (with_reducible repeat (first|apply Kd.cZ|apply Kd.dh|apply Kd.dA));exact (Kd.dO (Kd.dO (Kd.dQ (p:=⟨zR,0,none⟩) (Kd.dQ (p:=⟨zP,1,none⟩) (Kd.dQ (p:=⟨zP,0,none⟩) (Kd.dO (Kd.eO zM.out zL.out (by decide)) (fun k_ hk=>(⟨hk,hk.1.2⟩ : _ ∧ k_ ≠ zR))) (fun _ hk=>hk.1.2) (.string t232)) (fun _ hk=>hk.1.2) (.int .i64 t233)) (fun _ hk=>hk.2) (.string t234)) (fun _ h_=>h_.1)) (fun _ h_=>h_.1))) hb);have Aq:=Aside0.mk (aQ (g:=zY) (o:=.cells #[.int .u64 zT,.slice none 0 0] 53 (0,0)) (by (with_reducible repeat (first|apply aj|apply au|apply ah));refine aJ ?_ Ak.out _;(with_reducible repeat (first|apply aj|apply au|apply ah));refine aJ ?_ zQ.out _;(with_reducible repeat (first|apply aj|apply au|apply ah));refine aJ ?_ zQ.out _;(with_reducible repeat (first|apply aj|apply au|apply ah));exact zO.out) hb);have Ar:=Aside0.mk (aQ (g:=zP) (o:=.cells #[.string t232,.int .i64 t233] 89 (0,0)) (by (with_reducible repeat (first|apply aj|apply au|apply ah));refine aJ ?_ Ai.out _;(with_reducible repeat (first|apply aj|apply au|apply ah));refine aX (cs:=#[.string t232,.int .i64 zU]) ?_ 1 _ rfl;(with_reducible repeat (first|apply aj|apply au|apply ah));refine aX (cs:=#[.string zV,.int .i64 zU]) ?_ 0 _ rfl;(with_reducible repeat (first|apply aj|apply au|apply ah));exact zL.out) hb);have AA:=Aside0.mk (aQ (g:=Ab) (o:=.cells #[.int .u64 t226,z8] 53 (0,0)) (by (with_reducible repeat (first|apply aj|apply au|apply ah));refine aJ ?_ Al.out _;(with_reducible repeat (first|apply aj|apply au|apply ah));refine aJ ?_ zX.out _;(with_reducible repeat (first|apply aj|apply au|apply ah));refine aJ ?_ zX.out _;(with_reducible repeat (first|apply aj|apply au|apply ah));exact zS.out) hb);have AO:=Aside0.mk (aQ (g:=zR) (o:=.cells #[.string t234,.string (⟨#[]⟩ : ByteArray),.string (⟨#[]⟩ : ByteArray),.int .u8 0,.int .u16 0,.slice none 0 0] 103 (0,0)) (by (with_reducible repeat (first|apply aj|apply au|apply ah));refine aX (cs:=#[.string (⟨#[]⟩ : ByteArray),.string (⟨#[]⟩ : ByteArray),.string (⟨#[]⟩ : ByteArray),.int .u8 0,.int .u16 0,.slice none 0 0]) ?_ 0 _ rfl;(with_reducible repeat (first|apply aj|apply au|apply ah));refine aJ ?_ zZ.out _;(with_reducible repeat (first|apply aj|apply au|apply ah));refine aJ ?_ zZ.out _;(with_reducible repeat (first|apply aj|apply au|apply ah));exact zN.out) hb);have AX:=Aside0.mk (aU (by repeat (first|(with_reducible first|exact HB.out|apply aD|apply ak|apply aC|refine aA ?_ Aa.out|refine aA ?_ Ad.out|refine aA ?_ Ah.out|refine aA ?_ AB.out)|exact HB.out)) hb);clear zM;clear zO;clear zL;clear zS;clear zN;clear HB;have zM:=Ap;have zO:=Aq;have zL:=Ar;have zS:=AA;have zN:=AO;have HB:=AX;clear Ap Aq Ar AA AO AX;(try clear hb);(try clear hb2);(try clear hk);(try clear hi);have FR : Iu.cell? ⟨zP,0,none⟩ = some (.string t232):=(ay zL.out 0).trans rfl;have FT : Iu.cell? ⟨zP,1,none⟩ = some (.int .i64 t233):=(ay zL.out 1).trans rfl;have FU:=av zL.out 0;have FV:=av zL.out 1;have FW : Iu.cell? ⟨zR,0,none⟩ = some (.string t234):=(ay zN.out 0).trans rfl;have FX : Iu.cell? ⟨zR,1,none⟩ = some (.string (⟨#[]⟩ : ByteArray)):=(ay zN.out 1).trans rfl;have FY : Iu.cell? ⟨zR,2,none⟩ = some (.string (⟨#[]⟩ : ByteArray)):=(ay zN.out 2).trans rfl;have FZ : Iu.cell? ⟨zR,3,none⟩ = some (.int .u8 0):=(ay zN.out 3).trans rfl;have F3 : Iu.cell? ⟨zR,4,none⟩ = some (.int .u16 0):=(ay zN.out 4).trans rfl;have F4 : Iu.cell? ⟨zR,5,none⟩ = some (.slice none 0 0):=(ay zN.out 5).trans rfl;have F5:=av zN.out 0;have F6:=av zN.out 1;have F7:=av zN.out 2;have F8:=av zN.out 3;have F9:=av zN.out 4;have Ga:=av zN.out 5)|((with_reducible refine bA (f:=52) rfl ?_);refine cO (some 59) rfl rfl Tryd.func52 (by kernel_rfl) rfl #[.agg #[.string BA,.int .i64 t236]] rfl (by (try simp only [List.map_toArray,List.map_cons,List.map_nil]);first|done|rfl|(simp only [List.length_drop,List.length_take];rfl)|(simp (disch:=first|omega|(simp at *;omega)) only [bY,bJ,dF];rfl)) ?_;(with_reducible refine (bf.calls Ay BA t236 BF BG AJ _ Nn.out).mono ?_);rintro e Iw ⟨rfl,hb⟩;refine ⟨_,rfl,?_⟩;have Ap:=Aside0.mk (Kd.dJ (by (with_reducible repeat (first|apply Kd.cZ|apply Kd.dh|apply Kd.dA));exact (Kd.dO (Kd.dO (Kd.dQ (p:=⟨zR,1,none⟩) (Kd.dQ (p:=⟨zP,1,none⟩) (Kd.dQ (p:=⟨zP,0,none⟩) (Kd.dO (Kd.eO zM.out zL.out (by decide)) (fun k_ hk=>(⟨hk,hk.1.2⟩ : _ ∧ k_ ≠ zR))) (fun _ hk=>hk.1.2) (.string BA)) (fun _ hk=>hk.1.2) (.int .i64 t236)) (fun _ hk=>hk.2) (.string Am)) (fun _ h_=>h_.1)) (fun _ h_=>h_.1))) hb);have Aq:=Aside0.mk (aQ (g:=zY) (o:=.cells #[.int .u64 zT,.slice none 0 0] 53 (0,0)) (by (with_reducible repeat (first|apply aj|apply au|apply ah));refine aJ ?_ Ak.out _;(with_reducible repeat (first|apply aj|apply au|apply ah));refine aJ ?_ zQ.out _;(with_reducible repeat (first|apply aj|apply au|apply ah));refine aJ ?_ zQ.out _;(with_reducible repeat (first|apply aj|apply au|apply ah));exact zO.out) hb);have Ar:=Aside0.mk (aQ (g:=zP) (o:=.cells #[.string BA,.int .i64 t236] 89 (0,0)) (by (with_reducible repeat (first|apply aj|apply au|apply ah));refine aJ ?_ Ai.out _;(with_reducible repeat (first|apply aj|apply au|apply ah));refine aX (cs:=#[.string BA,.int .i64 t233]) ?_ 1 _ rfl;(with_reducible repeat (first|apply aj|apply au|apply ah));refine aX (cs:=#[.string t232,.int .i64 t233]) ?_ 0 _ rfl;(with_reducible repeat (first|apply aj|apply au|apply ah));exact zL.out) hb);have AA:=Aside0.mk (aQ (g:=Ab) (o:=.cells #[.int .u64 t226,z8] 53 (0,0)) (by (with_reducible repeat (first|apply aj|apply au|apply ah));refine aJ ?_ Al.out _;(with_reducible repeat (first|apply aj|apply au|apply ah));refine aJ ?_ zX.out _;(with_reducible repeat (first|apply aj|apply au|apply ah));refine aJ ?_ zX.out _;(with_reducible repeat (first|apply aj|apply au|apply ah));exact zS.out) hb);have AO:=Aside0.mk (aQ (g:=zR) (o:=.cells #[.string t234,.string Am,.string (⟨#[]⟩ : ByteArray),.int .u8 0,.int .u16 0,.slice none 0 0] 103 (0,0)) (by (with_reducible repeat (first|apply aj|apply au|apply ah));refine aX (cs:=#[.string t234,.string (⟨#[]⟩ : ByteArray),.string (⟨#[]⟩ : ByteArray),.int .u8 0,.int .u16 0,.slice none 0 0]) ?_ 1 _ rfl;(with_reducible repeat (first|apply aj|apply au|apply ah));refine aJ ?_ zZ.out _;(with_reducible repeat (first|apply aj|apply au|apply ah));refine aJ ?_ zZ.out _;(with_reducible repeat (first|apply aj|apply au|apply ah));exact zN.out) hb);have AX:=Aside0.mk (aU (by repeat (first|(with_reducible first|exact HB.out|apply aD|apply ak|apply aC|refine aA ?_ Aa.out|refine aA ?_ Ad.out|refine aA ?_ Ah.out|refine aA ?_ AB.out)|exact HB.out)) hb);clear zM;clear zO;clear zL;clear zS;clear zN;clear HB;have zM:=Ap;have zO:=Aq;have zL:=Ar;have zS:=AA;have zN:=AO;have HB:=AX;clear Ap Aq Ar AA AO AX;(try clear hb);(try clear hb2);(try clear hk);(try clear hi);have Gb : Iw.cell? ⟨zP,0,none⟩ = some (.string BA):=(ay zL.out 0).trans rfl;have Gc : Iw.cell? ⟨zP,1,none⟩ = some (.int .i64 t236):=(ay zL.out 1).trans rfl;have Gd:=av zL.out 0;have Gf:=av zL.out 1;have Gg : Iw.cell? ⟨zR,0,none⟩ = some (.string t234):=(ay zN.out 0).trans rfl;have Gh : Iw.cell? ⟨zR,1,none⟩ = some (.string Am):=(ay zN.out 1).trans rfl;have Gi : Iw.cell? ⟨zR,2,none⟩ = some (.string (⟨#[]⟩ : ByteArray)):=(ay zN.out 2).trans rfl;have Gj : Iw.cell? ⟨zR,3,none⟩ = some (.int .u8 0):=(ay zN.out 3).trans rfl;have Gl : Iw.cell? ⟨zR,4,none⟩ = some (.int .u16 0):=(ay zN.out 4).trans rfl;have Gm : Iw.cell? ⟨zR,5,none⟩ = some (.slice none 0 0):=(ay zN.out 5).trans rfl;have Gn:=av zN.out 0;have Gp:=av zN.out 1;have Gq:=av zN.out 2;have Gr:=av zN.out 3;have Gs:=av zN.out 4;have Gt:=av zN.out 5)|((with_reducible refine bA (f:=51) rfl ?_);refine cO (some 65) rfl rfl Tryd.func51 (by kernel_rfl) rfl #[.agg #[.string BF,.int .i64 BG],.int .i64 1] rfl (by (try simp only [List.map_toArray,List.map_cons,List.map_nil]);first|done|rfl|(simp only [List.length_drop,List.length_take];rfl)|(simp (disch:=first|omega|(simp at *;omega)) only [bY,bJ,dF];rfl)) ?_;(with_reducible refine (aT.calls Ay BF BG 1 BH BI AY _ Np.out).mono ?_);rintro e N7 ⟨rfl,hb⟩;refine ⟨_,rfl,?_⟩;have Ap:=Aside0.mk (Kd.dJ (by (with_reducible repeat (first|apply Kd.cZ|apply Kd.dh|apply Kd.dA));exact (Kd.dO (Kd.dO (Kd.dQ (p:=⟨zR,2,none⟩) (Kd.dQ (p:=⟨zP,1,none⟩) (Kd.dQ (p:=⟨zP,0,none⟩) (Kd.dO (Kd.eO zM.out zL.out (by decide)) (fun k_ hk=>(⟨hk,hk.1.2⟩ : _ ∧ k_ ≠ zR))) (fun _ hk=>hk.1.2) (.string BF)) (fun _ hk=>hk.1.2) (.int .i64 BG)) (fun _ hk=>hk.2) (.string AJ)) (fun _ h_=>h_.1)) (fun _ h_=>h_.1))) hb);have Aq:=Aside0.mk (aQ (g:=zY) (o:=.cells #[.int .u64 zT,.slice none 0 0] 53 (0,0)) (by (with_reducible repeat (first|apply aj|apply au|apply ah));refine aJ ?_ Ak.out _;(with_reducible repeat (first|apply aj|apply au|apply ah));refine aJ ?_ zQ.out _;(with_reducible repeat (first|apply aj|apply au|apply ah));refine aJ ?_ zQ.out _;(with_reducible repeat (first|apply aj|apply au|apply ah));exact zO.out) hb);have Ar:=Aside0.mk (aQ (g:=zP) (o:=.cells #[.string BF,.int .i64 BG] 89 (0,0)) (by (with_reducible repeat (first|apply aj|apply au|apply ah));refine aJ ?_ Ai.out _;(with_reducible repeat (first|apply aj|apply au|apply ah));refine aX (cs:=#[.string BF,.int .i64 t236]) ?_ 1 _ rfl;(with_reducible repeat (first|apply aj|apply au|apply ah));refine aX (cs:=#[.string BA,.int .i64 t236]) ?_ 0 _ rfl;(with_reducible repeat (first|apply aj|apply au|apply ah));exact zL.out) hb);have AA:=Aside0.mk (aQ (g:=Ab) (o:=.cells #[.int .u64 t226,z8] 53 (0,0)) (by (with_reducible repeat (first|apply aj|apply au|apply ah));refine aJ ?_ Al.out _;(with_reducible repeat (first|apply aj|apply au|apply ah));refine aJ ?_ zX.out _;(with_reducible repeat (first|apply aj|apply au|apply ah));refine aJ ?_ zX.out _;(with_reducible repeat (first|apply aj|apply au|apply ah));exact zS.out) hb);have AO:=Aside0.mk (aQ (g:=zR) (o:=.cells #[.string t234,.string Am,.string AJ,.int .u8 0,.int .u16 0,.slice none 0 0] 103 (0,0)) (by (with_reducible repeat (first|apply aj|apply au|apply ah));refine aX (cs:=#[.string t234,.string Am,.string (⟨#[]⟩ : ByteArray),.int .u8 0,.int .u16 0,.slice none 0 0]) ?_ 2 _ rfl;(with_reducible repeat (first|apply aj|apply au|apply ah));refine aJ ?_ zZ.out _;(with_reducible repeat (first|apply aj|apply au|apply ah));refine aJ ?_ zZ.out _;(with_reducible repeat (first|apply aj|apply au|apply ah));exact zN.out) hb);have AX:=Aside0.mk (aU (by repeat (first|(with_reducible first|exact HB.out|apply aD|apply ak|apply aC|refine aA ?_ Aa.out|refine aA ?_ Ad.out|refine aA ?_ Ah.out|refine aA ?_ AB.out)|exact HB.out)) hb);clear zM;clear zO;clear zL;clear zS;clear zN;clear HB;have zM:=Ap;have zO:=Aq;have zL:=Ar;have zS:=AA;have zN:=AO;have HB:=AX;clear Ap Aq Ar AA AO AX;(try clear hb);(try clear hb2);(try clear hk);(try clear hi);have Gu : N7.cell? ⟨zP,0,none⟩ = some (.string BF):=(ay zL.out 0).trans rfl;have Gv : N7.cell? ⟨zP,1,none⟩ = some (.int .i64 BG):=(ay zL.out 1).trans rfl;have Gw:=av zL.out 0;have Gx:=av zL.out 1)|((with_reducible refine bA (f:=51) rfl ?_);refine cO (some 70) rfl rfl Tryd.func51 (by kernel_rfl) rfl #[.agg #[.string BH,.int .i64 BI],.int .i64 2] rfl (by (try simp only [List.map_toArray,List.map_cons,List.map_nil]);first|done|rfl|(simp only [List.length_drop,List.length_take];rfl)|(simp (disch:=first|omega|(simp at *;omega)) only [bY,bJ,dF];rfl)) ?_;(with_reducible refine (aT.calls Ay BH BI 2 BM BO A9 _ Nq.out).mono ?_);rintro e N8 ⟨rfl,hb⟩;refine ⟨_,rfl,?_⟩;have Ap:=Aside0.mk (Kd.dJ (by (with_reducible repeat (first|apply Kd.cZ|apply Kd.dh|apply Kd.dA));exact (Kd.dO (Kd.dQ (p:=⟨zP,1,none⟩) (Kd.dQ (p:=⟨zP,0,none⟩) (Kd.eO zM.out zL.out (by decide)) (fun _ hk=>hk.2) (.string BH)) (fun _ hk=>hk.2) (.int .i64 BI)) (fun _ h_=>h_.1))) hb);have Aq:=Aside0.mk (aQ (g:=zY) (o:=.cells #[.int .u64 zT,.slice none 0 0] 53 (0,0)) (by (with_reducible repeat (first|apply aj|apply au|apply ah));refine aJ ?_ zQ.out _;(with_reducible repeat (first|apply aj|apply au|apply ah));refine aJ ?_ zQ.out _;(with_reducible repeat (first|apply aj|apply au|apply ah));exact zO.out) hb);have Ar:=Aside0.mk (aQ (g:=zP) (o:=.cells #[.string BH,.int .i64 BI] 89 (0,0)) (by (with_reducible repeat (first|apply aj|apply au|apply ah));refine aX (cs:=#[.string BH,.int .i64 BG]) ?_ 1 _ rfl;(with_reducible repeat (first|apply aj|apply au|apply ah));refine aX (cs:=#[.string BF,.int .i64 BG]) ?_ 0 _ rfl;(with_reducible repeat (first|apply aj|apply au|apply ah));exact zL.out) hb);have AA:=Aside0.mk (aQ (g:=Ab) (o:=.cells #[.int .u64 t226,z8] 53 (0,0)) (by (with_reducible repeat (first|apply aj|apply au|apply ah));refine aJ ?_ zX.out _;(with_reducible repeat (first|apply aj|apply au|apply ah));refine aJ ?_ zX.out _;(with_reducible repeat (first|apply aj|apply au|apply ah));exact zS.out) hb);have AO:=Aside0.mk (aQ (g:=zR) (o:=.cells #[.string t234,.string Am,.string AJ,.int .u8 0,.int .u16 0,.slice none 0 0] 103 (0,0)) (by (with_reducible repeat (first|apply aj|apply au|apply ah));refine aJ ?_ zZ.out _;(with_reducible repeat (first|apply aj|apply au|apply ah));refine aJ ?_ zZ.out _;(with_reducible repeat (first|apply aj|apply au|apply ah));exact zN.out) hb);have AX:=Aside0.mk (aU (by repeat (first|(with_reducible first|exact HB.out|apply aD|apply ak|apply aC|refine aA ?_ Aa.out|refine aA ?_ Ad.out|refine aA ?_ Ah.out|refine aA ?_ AB.out)|exact HB.out)) hb);clear zM;clear zO;clear zL;clear zS;clear zN;clear HB;have zM:=Ap;have zO:=Aq;have zL:=Ar;have zS:=AA;have zN:=AO;have HB:=AX;clear Ap Aq Ar AA AO AX;(try clear hb);(try clear hb2);(try clear hk);(try clear hi);have Gy : N8.cell? ⟨zP,0,none⟩ = some (.string BH):=(ay zL.out 0).trans rfl;have Gz : N8.cell? ⟨zP,1,none⟩ = some (.int .i64 BI):=(ay zL.out 1).trans rfl;have GA:=av zL.out 0;have GD:=av zL.out 1)|((with_reducible refine bA (f:=51) rfl ?_);refine cO (some 75) rfl rfl Tryd.func51 (by kernel_rfl) rfl #[.agg #[.string BM,.int .i64 BO],.int .i64 1] rfl (by (try simp only [List.map_toArray,List.map_cons,List.map_nil]);first|done|rfl|(simp only [List.length_drop,List.length_take];rfl)|(simp (disch:=first|omega|(simp at *;omega)) only [bY,bJ,dF];rfl)) ?_;(with_reducible refine (aT.calls Ay BM BO 1 Hf Hw BN _ Nr.out).mono ?_);rintro e Iy ⟨rfl,hb⟩;refine ⟨_,rfl,?_⟩;have Ap:=Aside0.mk (Kd.dJ (by (with_reducible repeat (first|apply Kd.cZ|apply Kd.dh|apply Kd.dA));exact (Kd.dO (Kd.dQ (p:=⟨zP,1,none⟩) (Kd.dQ (p:=⟨zP,0,none⟩) (Kd.eO zM.out zL.out (by decide)) (fun _ hk=>hk.2) (.string BM)) (fun _ hk=>hk.2) (.int .i64 BO)) (fun _ h_=>h_.1))) hb);have Aq:=Aside0.mk (aQ (g:=zY) (o:=.cells #[.int .u64 zT,.slice none 0 0] 53 (0,0)) (by (with_reducible repeat (first|apply aj|apply au|apply ah));refine aJ ?_ zQ.out _;(with_reducible repeat (first|apply aj|apply au|apply ah));refine aJ ?_ zQ.out _;(with_reducible repeat (first|apply aj|apply au|apply ah));exact zO.out) hb);have Ar:=Aside0.mk (aQ (g:=zP) (o:=.cells #[.string BM,.int .i64 BO] 89 (0,0)) (by (with_reducible repeat (first|apply aj|apply au|apply ah));refine aX (cs:=#[.string BM,.int .i64 BI]) ?_ 1 _ rfl;(with_reducible repeat (first|apply aj|apply au|apply ah));refine aX (cs:=#[.string BH,.int .i64 BI]) ?_ 0 _ rfl;(with_reducible repeat (first|apply aj|apply au|apply ah));exact zL.out) hb);have AA:=Aside0.mk (aQ (g:=Ab) (o:=.cells #[.int .u64 t226,z8] 53 (0,0)) (by (with_reducible repeat (first|apply aj|apply au|apply ah));refine aJ ?_ zX.out _;(with_reducible repeat (first|apply aj|apply au|apply ah));refine aJ ?_ zX.out _;(with_reducible repeat (first|apply aj|apply au|apply ah));exact zS.out) hb);have AO:=Aside0.mk (aQ (g:=zR) (o:=.cells #[.string t234,.string Am,.string AJ,.int .u8 0,.int .u16 0,.slice none 0 0] 103 (0,0)) (by (with_reducible repeat (first|apply aj|apply au|apply ah));refine aJ ?_ zZ.out _;(with_reducible repeat (first|apply aj|apply au|apply ah));refine aJ ?_ zZ.out _;(with_reducible repeat (first|apply aj|apply au|apply ah));exact zN.out) hb);have AX:=Aside0.mk (aU (by repeat (first|(with_reducible first|exact HB.out|apply aD|apply ak|apply aC|refine aA ?_ Aa.out|refine aA ?_ Ad.out|refine aA ?_ Ah.out|refine aA ?_ AB.out)|exact HB.out)) hb);clear zM;clear zO;clear zL;clear zS;clear zN;clear HB;have zM:=Ap;have zO:=Aq;have zL:=Ar;have zS:=AA;have zN:=AO;have HB:=AX;clear Ap Aq Ar AA AO AX;(try clear hb);(try clear hb2);(try clear hk);(try clear hi);have GH : Iy.cell? ⟨zP,0,none⟩ = some (.string BM):=(ay zL.out 0).trans rfl;have GI : Iy.cell? ⟨zP,1,none⟩ = some (.int .i64 BO):=(ay zL.out 1).trans rfl;have GJ:=av zL.out 0;have GK:=av zL.out 1;have GL : Iy.cell? ⟨zR,0,none⟩ = some (.string t234):=(ay zN.out 0).trans rfl;have GN : Iy.cell? ⟨zR,1,none⟩ = some (.string Am):=(ay zN.out 1).trans rfl;have GQ : Iy.cell? ⟨zR,2,none⟩ = some (.string AJ):=(ay zN.out 2).trans rfl;have GR : Iy.cell? ⟨zR,3,none⟩ = some (.int .u8 0):=(ay zN.out 3).trans rfl;have GU : Iy.cell? ⟨zR,4,none⟩ = some (.int .u16 0):=(ay zN.out 4).trans rfl;have GV : Iy.cell? ⟨zR,5,none⟩ = some (.slice none 0 0):=(ay zN.out 5).trans rfl;have GX:=av zN.out 0;have GY:=av zN.out 1;have GZ:=av zN.out 2;have G5:=av zN.out 3;have G6:=av zN.out 4;have G7:=av zN.out 5))
        go_loopg [13] Ay (fun kq v13 w'=>∃ (Bt : Int) (Ag : ByteArray) (Ae : Int) (Af : List (S104)) (Aw : Value),v13 = .int .i64 Bt ∧ Aside0 (aN.l1 kq t229 Bo BN Bt Ag Ae t226 zW t234 Am AJ ((AY) % 256) (IntKind.u16.wrap (A9)) Af = some (r1,r2,r3)) ∧ Aside0 (kq ≤ Ay) ∧ Aside0 (Kd.S iC 103 w' w.heap.size (fun k_=>some k_ ≠ (Aw : Value).ownBlock ∧ k_ ≠ zR) z8 zW) ∧ Aside0 (Kd.R jK 104 w' w.heap.size (fun _=>True) Aw Af) ∧ Aside0 (w'.heap[zY]? = some (.cells #[.int .u64 zT,(.slice none 0 0)] 53 (0,0))) ∧ Aside0 (w'.heap[zP]? = some (.cells #[.string Ag,.int .i64 Ae] 89 (0,0))) ∧ Aside0 (w'.heap[Ab]? = some (.cells #[.int .u64 t226,z8] 53 (0,0))) ∧ Aside0 (w'.heap[zR]? = some (.cells #[.string t234,.string Am,.string AJ,.int .u8 ((AY) % 256),.int .u16 (IntKind.u16.wrap (A9)),Aw] 103 (0,0))) ∧ Aside0 (Below w.heap.size w w'))
        case atStart=>exact ⟨(0),(Hf),(Hw),(([] : List (S104))),(.slice none 0 0),(by first|rfl|(simp;done)|(simp [*];done)),H',⟨Nat.le_refl _⟩,⟨by (with_reducible repeat (first|apply Kd.cZ|apply Kd.dh|apply Kd.dA));exact Kd.dO (Kd.dQ (p:=⟨zR,4,none⟩) (Kd.dQ (p:=⟨zR,3,none⟩) (Kd.dQ (p:=⟨zP,1,none⟩) (Kd.dQ (p:=⟨zP,0,none⟩) (Kd.dO (Kd.eO zM.out zL.out (by decide)) (fun k_ hk=>(⟨hk,hk.1.2⟩ : _ ∧ k_ ≠ zR))) (fun _ hk=>hk.1.2) (.string Hf)) (fun _ hk=>hk.1.2) (.int .i64 Hw)) (fun _ hk=>hk.2) (.int .u8 ((AY) % 256))) (fun _ hk=>hk.2) (.int .u16 (IntKind.u16.wrap (A9)))) (fun _ hk=>⟨(by simp [Value.ownBlock]),hk.1.1.2⟩)⟩,⟨by first|exact Kd.jl _ _ _ _ _|exact Kd.kV _ _ _ _ _|exact Kd.kW _ _ _ _ _|exact Kd.kR _ _ _ _ _|exact Kd.iU _ _ _ _ _⟩,⟨by (with_reducible repeat (first|apply aj|apply au|apply ah));refine aJ ?_ Ak.out _;(with_reducible repeat (first|apply aj|apply au|apply ah));refine aJ ?_ Ak.out _;(with_reducible repeat (first|apply aj|apply au|apply ah));refine aJ ?_ zQ.out _;(with_reducible repeat (first|apply aj|apply au|apply ah));refine aJ ?_ zQ.out _;(with_reducible repeat (first|apply aj|apply au|apply ah));exact zO.out⟩,⟨by (with_reducible repeat (first|apply aj|apply au|apply ah));refine aJ ?_ Ai.out _;(with_reducible repeat (first|apply aj|apply au|apply ah));refine aJ ?_ Ai.out _;(with_reducible repeat (first|apply aj|apply au|apply ah));refine aX (cs:=#[.string Hf,.int .i64 BO]) ?_ 1 _ rfl;(with_reducible repeat (first|apply aj|apply au|apply ah));refine aX (cs:=#[.string BM,.int .i64 BO]) ?_ 0 _ rfl;(with_reducible repeat (first|apply aj|apply au|apply ah));exact zL.out⟩,⟨by (with_reducible repeat (first|apply aj|apply au|apply ah));refine aJ ?_ Al.out _;(with_reducible repeat (first|apply aj|apply au|apply ah));refine aJ ?_ Al.out _;(with_reducible repeat (first|apply aj|apply au|apply ah));refine aJ ?_ zX.out _;(with_reducible repeat (first|apply aj|apply au|apply ah));refine aJ ?_ zX.out _;(with_reducible repeat (first|apply aj|apply au|apply ah));exact zS.out⟩,⟨by (with_reducible repeat (first|apply aj|apply au|apply ah));refine aX (cs:=#[.string t234,.string Am,.string AJ,.int .u8 ((AY) % 256),.int .u16 0,.slice none 0 0]) ?_ 4 _ rfl;(with_reducible repeat (first|apply aj|apply au|apply ah));refine aX (cs:=#[.string t234,.string Am,.string AJ,.int .u8 0,.int .u16 0,.slice none 0 0]) ?_ 3 _ rfl;(with_reducible repeat (first|apply aj|apply au|apply ah));refine aJ ?_ zZ.out _;(with_reducible repeat (first|apply aj|apply au|apply ah));refine aJ ?_ zZ.out _;(with_reducible repeat (first|apply aj|apply au|apply ah));exact zN.out⟩,⟨by repeat (first|(with_reducible first|exact HB.out|apply aD|apply ak|apply aC|refine aA ?_ Aa.out|refine aA ?_ Ad.out|refine aA ?_ Ah.out|refine aA ?_ AB.out)|exact HB.out)⟩⟩
        case round =>
         clear H'
         try clear c1
         try clear c2
         try clear p2
         try clear c3
         try clear c4
         try clear c4b0
         try clear c5
         try clear c6
         try clear p6
         try clear c7
         try clear c16
         try clear c23
         try clear c24
         try clear Ia
         try clear c27b0
         try clear c28
         try clear Nh
         try clear c31
         try clear c32
         try clear Im
         try clear c38b0
         try clear c40
         try clear Oy
         try clear Oz
         try clear c46
         try clear OA
         try clear c51
         try clear OB
         try clear OC
         try clear c64
         try clear p64
         try clear OD
         try clear OE
         try clear c70
         try clear OG
         try clear Ci
         try clear Cj
         try clear Cn
         try clear Co
         try clear Ct
         try clear Cu
         try clear Cx
         try clear Cy
         try clear CF
         try clear CG
         try clear CO
         try clear CP
         try clear CU
         try clear CV
         try clear Dm
         try clear Dn
         try clear DL
         try clear DN
         try clear DU
         try clear DV
         try clear DY
         try clear DZ
         try clear D5
         try clear D6
         try clear D7
         try clear D8
         try clear Ef
         try clear Eh
         try clear El
         try clear Em
         try clear En
         try clear Eo
         try clear Ep
         try clear Er
         try clear EA
         try clear EB
         try clear EF
         try clear EG
         try clear EH
         try clear EI
         try clear EJ
         try clear EK
         try clear ES
         try clear ET
         try clear EX
         try clear EY
         try clear E8
         try clear E9
         try clear Fe
         try clear Fg
         try clear Fp
         try clear Fq
         try clear Fw
         try clear Fx
         try clear FB
         try clear FC
         try clear FD
         try clear FE
         try clear FH
         try clear FI
         try clear FR
         try clear FT
         try clear FW
         try clear FX
         try clear FY
         try clear FZ
         try clear F3
         try clear F4
         try clear Gb
         try clear Gc
         try clear Gg
         try clear Gh
         try clear Gi
         try clear Gj
         try clear Gl
         try clear Gm
         try clear Gu
         try clear Gv
         try clear Gy
         try clear Gz
         try clear GH
         try clear GI
         try clear GL
         try clear GN
         try clear GQ
         try clear GR
         try clear GU
         try clear GV
         try clear Dh
         try clear Di
         try clear Ck
         try clear Cm
         try clear Cq
         try clear Cr
         try clear Cv
         try clear Cw
         try clear Cz
         try clear CB
         try clear CJ
         try clear CK
         try clear CQ
         try clear CS
         try clear CW
         try clear CX
         try clear Dp
         try clear Dq
         try clear DR
         try clear DT
         try clear DW
         try clear DX
         try clear D9
         try clear Ea
         try clear Eb
         try clear Ec
         try clear Ed
         try clear Ee
         try clear Ei
         try clear Ej
         try clear Es
         try clear Et
         try clear Eu
         try clear Ew
         try clear Ey
         try clear Ez
         try clear EC
         try clear ED
         try clear EL
         try clear EM
         try clear EN
         try clear EO
         try clear EP
         try clear ER
         try clear EU
         try clear EW
         try clear EZ
         try clear E5
         try clear Fa
         try clear Fb
         try clear Fh
         try clear Fj
         try clear Fu
         try clear Fv
         try clear Fy
         try clear Fz
         try clear FJ
         try clear FL
         try clear FM
         try clear FN
         try clear FP
         try clear FQ
         try clear FU
         try clear FV
         try clear F5
         try clear F6
         try clear F7
         try clear F8
         try clear F9
         try clear Ga
         try clear Gd
         try clear Gf
         try clear Gn
         try clear Gp
         try clear Gq
         try clear Gr
         try clear Gs
         try clear Gt
         try clear Gw
         try clear Gx
         try clear GA
         try clear GD
         try clear GJ
         try clear GK
         try clear GX
         try clear GY
         try clear GZ
         try clear G5
         try clear G6
         try clear G7
         try clear Dj
         try clear Dk
         try clear p2
         try clear p6
         obtain ⟨Bt,Ag,Ae,Af,Aw,rfl,HA,I4,zM,Ac,zO,zL,zS,zN,HB⟩:=hrel
         cases gk with
         | zero=>exact absurd HA.out (by simp [aN.l1])
         | succ k3 =>
          have H:=HA.out
          clear HA
          simp only [aN.l1] at H
          have IW:=Aside0.mk H
          clear H
          go_upto_region 22 with (fail)
          go_cut [95] (fun OH wc=>∃ (kq : Nat) (Dr : Bool),OH = .bool Dr ∧ Aside0 (aN.j3 kq t229 Bo BN Bt Dr Ag Ae t226 zW t234 Am AJ ((AY) % 256) (IntKind.u16.wrap (A9)) Af = some (r1,r2,r3)) ∧ Aside0 (kq ≤ k3) ∧ Aside0 (Kd.S iC 103 wc w.heap.size (fun k_=>some k_ ≠ (Aw : Value).ownBlock ∧ k_ ≠ zR) z8 zW) ∧ Aside0 (Kd.R jK 104 wc w.heap.size (fun _=>True) Aw Af) ∧ Aside0 (wc.heap[zY]? = some (.cells #[.int .u64 zT,(.slice none 0 0)] 53 (0,0))) ∧ Aside0 (wc.heap[zP]? = some (.cells #[.string Ag,.int .i64 Ae] 89 (0,0))) ∧ Aside0 (wc.heap[Ab]? = some (.cells #[.int .u64 t226,z8] 53 (0,0))) ∧ Aside0 (wc.heap[zR]? = some (.cells #[.string t234,.string Am,.string AJ,.int .u8 ((AY) % 256),.int .u16 (IntKind.u16.wrap (A9)),Aw] 103 (0,0))) ∧ Aside0 (Below w.heap.size w wc))
          case first =>
           have H:=IW.out
           clear IW
           by_cases c87 : Bt < (wrap64 (BN))
           ·rw [if_pos c87] at H
            have c87b0 : decide (Bt < (wrap64 (BN))) = true:=decide_eq_true c87
            clear c87
            (first|rw [c87b0]|(simp only [bI,bN];rw [c87b0])|skip)
            have H':=Aside0.mk H
            clear H
            have N9:=AL.out
            have Oa:=zQ.out
            have Ob:=Av.out
            have Oc:=zX.out
            have Od:=Ai.out
            have Oe:=zZ.out
            have Ib : wr.cell? ⟨zP,0,none⟩ = some (.string Ag):=(ay zL.out 0).trans rfl
            have Ic : wr.cell? ⟨zP,1,none⟩ = some (.int .i64 Ae):=(ay zL.out 1).trans rfl
            have Ie:=av zL.out 0
            have Ig:=av zL.out 1
            go_wp2
            go_meet
            case rel=>exact ⟨_,((Ae == 0)),(by first|rfl|(simp;done)|(simp [*];done)),H',⟨by have:=Il.out;have:=He.out;have:=I4.out;first|omega|exact Nat.le_refl _⟩,⟨by (with_reducible repeat (first|apply Kd.cZ|apply Kd.dh|apply Kd.dA));exact zM.out⟩,⟨by (with_reducible repeat (first|apply Kd.fH|apply Kd.fI|apply Kd.gy));exact Ac.out⟩,⟨by (with_reducible repeat (first|apply aj|apply au|apply ah));exact zO.out⟩,⟨by (with_reducible repeat (first|apply aj|apply au|apply ah));exact zL.out⟩,⟨by (with_reducible repeat (first|apply aj|apply au|apply ah));exact zS.out⟩,⟨by (with_reducible repeat (first|apply aj|apply au|apply ah));exact zN.out⟩,⟨by repeat (first|(with_reducible first|exact HB.out|apply aD|apply ak|apply aC|refine aA ?_ Aa.out|refine aA ?_ Ad.out|refine aA ?_ Ah.out|refine aA ?_ AB.out)|exact HB.out)⟩⟩
           ·rw [if_neg c87] at H
            have c87b0 : decide (Bt < (wrap64 (BN))) = false:=decide_eq_false c87
            clear c87
            (first|rw [c87b0]|(simp only [bI,bN];rw [c87b0])|skip)
            have H':=Aside0.mk H
            clear H
            go_wp2
            go_meet
            case rel=>exact ⟨_,(false),(by first|rfl|(simp;done)|(simp [*];done)),H',⟨by have:=Il.out;have:=He.out;have:=I4.out;first|omega|exact Nat.le_refl _⟩,⟨by (with_reducible repeat (first|apply Kd.cZ|apply Kd.dh|apply Kd.dA));exact zM.out⟩,⟨by (with_reducible repeat (first|apply Kd.fH|apply Kd.fI|apply Kd.gy));exact Ac.out⟩,⟨by (with_reducible repeat (first|apply aj|apply au|apply ah));exact zO.out⟩,⟨by (with_reducible repeat (first|apply aj|apply au|apply ah));exact zL.out⟩,⟨by (with_reducible repeat (first|apply aj|apply au|apply ah));exact zS.out⟩,⟨by (with_reducible repeat (first|apply aj|apply au|apply ah));exact zN.out⟩,⟨by repeat (first|(with_reducible first|exact HB.out|apply aD|apply ak|apply aC|refine aA ?_ Aa.out|refine aA ?_ Ad.out|refine aA ?_ Ah.out|refine aA ?_ AB.out)|exact HB.out)⟩⟩
          case rest =>
           clear IW
           try clear c1
           try clear c2
           try clear p2
           try clear c3
           try clear c4
           try clear c4b0
           try clear c5
           try clear c6
           try clear p6
           try clear c7
           try clear c8
           try clear c9
           try clear c16
           try clear c23
           try clear c24
           try clear Ia
           try clear c27b0
           try clear c28
           try clear Nh
           try clear c31
           try clear c32
           try clear Im
           try clear c38b0
           try clear c40
           try clear Oy
           try clear Oz
           try clear c46
           try clear OA
           try clear c51
           try clear OB
           try clear OC
           try clear c64
           try clear p64
           try clear OD
           try clear OE
           try clear c70
           try clear OG
           try clear c87
           try clear c87b0
           try clear OP
           try clear OQ
           try clear OT
           try clear Ci
           try clear Cj
           try clear Cn
           try clear Co
           try clear Ct
           try clear Cu
           try clear Cx
           try clear Cy
           try clear CF
           try clear CG
           try clear CO
           try clear CP
           try clear CU
           try clear CV
           try clear Dm
           try clear Dn
           try clear DL
           try clear DN
           try clear DU
           try clear DV
           try clear DY
           try clear DZ
           try clear D5
           try clear D6
           try clear D7
           try clear D8
           try clear Ef
           try clear Eh
           try clear El
           try clear Em
           try clear En
           try clear Eo
           try clear Ep
           try clear Er
           try clear EA
           try clear EB
           try clear EF
           try clear EG
           try clear EH
           try clear EI
           try clear EJ
           try clear EK
           try clear ES
           try clear ET
           try clear EX
           try clear EY
           try clear E8
           try clear E9
           try clear Fe
           try clear Fg
           try clear Fp
           try clear Fq
           try clear Fw
           try clear Fx
           try clear FB
           try clear FC
           try clear FD
           try clear FE
           try clear FH
           try clear FI
           try clear FR
           try clear FT
           try clear FW
           try clear FX
           try clear FY
           try clear FZ
           try clear F3
           try clear F4
           try clear Gb
           try clear Gc
           try clear Gg
           try clear Gh
           try clear Gi
           try clear Gj
           try clear Gl
           try clear Gm
           try clear Gu
           try clear Gv
           try clear Gy
           try clear Gz
           try clear GH
           try clear GI
           try clear GL
           try clear GN
           try clear GQ
           try clear GR
           try clear GU
           try clear GV
           try clear Dh
           try clear Di
           try clear Ib
           try clear Ic
           try clear Ck
           try clear Cm
           try clear Cq
           try clear Cr
           try clear Cv
           try clear Cw
           try clear Cz
           try clear CB
           try clear CJ
           try clear CK
           try clear CQ
           try clear CS
           try clear CW
           try clear CX
           try clear Dp
           try clear Dq
           try clear DR
           try clear DT
           try clear DW
           try clear DX
           try clear D9
           try clear Ea
           try clear Eb
           try clear Ec
           try clear Ed
           try clear Ee
           try clear Ei
           try clear Ej
           try clear Es
           try clear Et
           try clear Eu
           try clear Ew
           try clear Ey
           try clear Ez
           try clear EC
           try clear ED
           try clear EL
           try clear EM
           try clear EN
           try clear EO
           try clear EP
           try clear ER
           try clear EU
           try clear EW
           try clear EZ
           try clear E5
           try clear Fa
           try clear Fb
           try clear Fh
           try clear Fj
           try clear Fu
           try clear Fv
           try clear Fy
           try clear Fz
           try clear FJ
           try clear FL
           try clear FM
           try clear FN
           try clear FP
           try clear FQ
           try clear FU
           try clear FV
           try clear F5
           try clear F6
           try clear F7
           try clear F8
           try clear F9
           try clear Ga
           try clear Gd
           try clear Gf
           try clear Gn
           try clear Gp
           try clear Gq
           try clear Gr
           try clear Gs
           try clear Gt
           try clear Gw
           try clear Gx
           try clear GA
           try clear GD
           try clear GJ
           try clear GK
           try clear GX
           try clear GY
           try clear GZ
           try clear G5
           try clear G6
           try clear G7
           try clear Dj
           try clear Dk
           try clear Ie
           try clear Ig
           try clear p2
           try clear p6
           try clear p64
           obtain ⟨kq,Dr,rfl,HA,Ih,zM,Ac,zO,zL,zS,zN,HB⟩:=hcut
           cases kq with
           | zero=>exact absurd HA.out (by simp [aN.j3])
           | succ Ca =>
            have H:=HA.out
            clear HA
            simp only [aN.j3] at H
            by_cases LJ : Dr = true
            ·subst LJ
             have H1 : ((bf.f Ca Ag Ae).bind fun CZ=>((bf.f Ca CZ.1 CZ.2.1).bind fun Bw=>(if Af.length < 4398046511104 then (aN.l1 Ca t229 Bo BN (wrap64 (Bt + 1)) Bw.1 Bw.2.1 t226 zW t234 Am AJ ((AY) % 256) (IntKind.u16.wrap (A9)) (Af ++ [(⟨CZ.2.2,Bw.2.2⟩ : S104)])) else (none)))) = some (r1,r2,r3):=by rw [if_pos rfl] at H;exact H
             clear H
             have H:=H1
             clear H1
             replace H:=Option.bind_eq_some_iff.mp H
             obtain ⟨⟨C9,Da,BP⟩,Jg,H⟩:=H
             replace H : ((bf.f Ca C9 Da).bind fun Bw=>(if Af.length < 4398046511104 then (aN.l1 Ca t229 Bo BN (wrap64 (Bt + 1)) Bw.1 Bw.2.1 t226 zW t234 Am AJ ((AY) % 256) (IntKind.u16.wrap (A9)) (Af ++ [(⟨BP,Bw.2.2⟩ : S104)])) else (none))) = some (r1,r2,r3):=H
             have OI:=Aside0.mk Jg
             clear Jg
             replace H:=Option.bind_eq_some_iff.mp H
             obtain ⟨⟨Dx,DJ,Db⟩,Jh,H⟩:=H
             replace H : (if Af.length < 4398046511104 then (aN.l1 Ca t229 Bo BN (wrap64 (Bt + 1)) Dx DJ t226 zW t234 Am AJ ((AY) % 256) (IntKind.u16.wrap (A9)) (Af ++ [(⟨BP,Db⟩ : S104)])) else (none)) = some (r1,r2,r3):=H
             have OJ:=Aside0.mk Jh
             clear Jh
             by_cases LK : Af.length < 4398046511104
             ·rw [if_pos LK] at H
              have Ji:=Aside0.mk LK
              clear LK
              obtain ⟨Hy,Dy⟩ : ∃ y_ : List (S104),y_ = (Af ++ [(⟨BP,Db⟩ : S104)]):=⟨_,rfl⟩
              replace H : (aN.l1 Ca t229 Bo BN (wrap64 (Bt + 1)) Dx DJ t226 zW t234 Am AJ ((AY) % 256) (IntKind.u16.wrap (A9)) Hy) = some (r1,r2,r3):=by first|(rw [Dy];with_reducible exact H)|(have IX:=(Option.bind_some _ _).symm.trans H;rw [Dy];with_reducible exact IX)|(have IX:=(Option.bind_some _ _).symm.trans H;with_reducible exact IX)|with_reducible exact H|(rw [Dy];exact H)|exact H
              have Jj:=Aside0.mk Dy
              clear Dy
              have H':=Aside0.mk H
              clear H
              go_wp2_with (first|((with_reducible refine dw (N:=14) rfl ?_);refine cB ?hg (N:=14) ?hd (cs:=#[.string (⟨#[]⟩ : ByteArray),.string (⟨#[]⟩ : ByteArray)]) (t:=104) ?hr ?_;(case hd=>rfl);(case hg=>rfl);(case hr=>first|(go_simp;done)|(go_simp;rfl));intro Az hg Og hbox hb;have Ap:=Aside0.mk (Kd.dJ (Kd.jP (by (with_reducible repeat (first|apply Kd.cZ|apply Kd.dh|apply Kd.dA));exact zM.out) Az (Nat.le_of_eq hg.symm)) hb);have Aq:=Aside0.mk (Kd.jA (Kd.tu (by (with_reducible repeat (first|apply Kd.fH|apply Kd.fI|apply Kd.gy));exact Ac.out) Az (Nat.le_of_eq hg.symm)) hb);have Ar:=Aside0.mk (aQ (g:=zY) (o:=.cells #[.int .u64 zT,.slice none 0 0] 53 (0,0)) (bk_ zO.out) hb);have AA:=Aside0.mk (aQ (g:=zP) (o:=.cells #[.string Ag,.int .i64 Ae] 89 (0,0)) (bk_ zL.out) hb);have AO:=Aside0.mk (aQ (g:=Ab) (o:=.cells #[.int .u64 t226,z8] 53 (0,0)) (bk_ zS.out) hb);have AX:=Aside0.mk (aQ (g:=zR) (o:=.cells #[.string t234,.string Am,.string AJ,.int .u8 ((AY) % 256),.int .u16 (IntKind.u16.wrap (A9)),Aw] 103 (0,0)) (bk_ zN.out) hb);have Ch:=Aside0.mk (aU (by repeat (first|(with_reducible first|exact HB.out|apply aD|apply ak|apply aC|refine aA ?_ Aa.out|refine aA ?_ Ad.out|refine aA ?_ Ah.out|refine aA ?_ AB.out)|exact HB.out)) hb);have Df:=Aside0.mk (hbox);have Ht:=Aside0.mk ((by rw [hg];exact (aW (by repeat (first|(with_reducible first|exact HB.out|apply aD|apply ak|apply aC|refine aA ?_ Aa.out|refine aA ?_ Ad.out|refine aA ?_ Ah.out|refine aA ?_ AB.out)|exact HB.out))) : w.heap.size ≤ Az));have Hu:=Aside0.mk ((by rw [hg];exact (aW (by repeat (first|(with_reducible first|exact HB.out|apply aD|apply ak|apply aC|refine aA ?_ Aa.out|refine aA ?_ Ad.out|refine aA ?_ Ah.out|refine aA ?_ AB.out)|exact HB.out))) : w.heap.size ≤ Az));have Dt:=Aside0.mk ((by rw [hg];exact Nat.ne_of_lt (bV (g:=zY) (o:=.cells #[.int .u64 zT,.slice none 0 0] 53 (0,0)) (bk_ zO.out)) : zY ≠ Az));have Du:=Aside0.mk ((by rw [hg];exact Nat.ne_of_gt (bV (g:=zY) (o:=.cells #[.int .u64 zT,.slice none 0 0] 53 (0,0)) (bk_ zO.out)) : Az ≠ zY));have Dv:=Aside0.mk ((by rw [hg];exact Nat.ne_of_lt (bV (g:=zP) (o:=.cells #[.string Ag,.int .i64 Ae] 89 (0,0)) (bk_ zL.out)) : zP ≠ Az));have Dw:=Aside0.mk ((by rw [hg];exact Nat.ne_of_gt (bV (g:=zP) (o:=.cells #[.string Ag,.int .i64 Ae] 89 (0,0)) (bk_ zL.out)) : Az ≠ zP));have Jk:=Aside0.mk ((by rw [hg];exact Nat.ne_of_lt (bV (g:=Ab) (o:=.cells #[.int .u64 t226,z8] 53 (0,0)) (bk_ zS.out)) : Ab ≠ Az));have Jl:=Aside0.mk ((by rw [hg];exact Nat.ne_of_gt (bV (g:=Ab) (o:=.cells #[.int .u64 t226,z8] 53 (0,0)) (bk_ zS.out)) : Az ≠ Ab));have Jm:=Aside0.mk ((by rw [hg];exact Nat.ne_of_lt (bV (g:=zR) (o:=.cells #[.string t234,.string Am,.string AJ,.int .u8 ((AY) % 256),.int .u16 (IntKind.u16.wrap (A9)),Aw] 103 (0,0)) (bk_ zN.out)) : zR ≠ Az));have Jo:=Aside0.mk ((by rw [hg];exact Nat.ne_of_gt (bV (g:=zR) (o:=.cells #[.string t234,.string Am,.string AJ,.int .u8 ((AY) % 256),.int .u16 (IntKind.u16.wrap (A9)),Aw] 103 (0,0)) (bk_ zN.out)) : Az ≠ zR));clear zM;clear Ac;clear zO;clear zL;clear zS;clear zN;clear HB;have zM:=Ap;have Ac:=Aq;have zO:=Ar;have zL:=AA;have zS:=AO;have zN:=AX;have HB:=Ch;have Bh:=Df;have Oh:=Ht;have Dz:=Hu;have Cb:=Dt;have Hg:=Du;have Cc:=Dv;have Bj:=Dw;have Ce:=Jk;have Hl:=Jl;have Cg:=Jm;have Ho:=Jo;clear Ap Aq Ar AA AO AX Ch Df Ht Hu Dt Du Dv Dw Jk Jl Jm Jo;clear hb hbox hg;have Oi:=AL.out;have Oj:=zQ.out;have Ol:=Av.out;have Om:=zX.out;have Oo:=Ai.out;have Oq:=zZ.out;have LP:=Cc.out;have LQ:=Bj.out;have Jp : Og.cell? ⟨zP,0,none⟩ = some (.string Ag):=(ay zL.out 0).trans rfl;have Jq : Og.cell? ⟨zP,1,none⟩ = some (.int .i64 Ae):=(ay zL.out 1).trans rfl;have Jr:=av zL.out 0;have Js:=av zL.out 1)|((with_reducible refine bA (f:=52) rfl ?_);refine cO (some 100) rfl rfl Tryd.func52 (by kernel_rfl) rfl #[.agg #[.string Ag,.int .i64 Ae]] rfl (by (try simp only [List.map_toArray,List.map_cons,List.map_nil]);first|done|rfl|(simp only [List.length_drop,List.length_take];rfl)|(simp (disch:=first|omega|(simp at *;omega)) only [bY,bJ,dF];rfl)) ?_;(with_reducible refine (bf.calls Ca Ag Ae C9 Da BP _ OI.out).mono ?_);rintro e Ii ⟨rfl,hb⟩;refine ⟨_,rfl,?_⟩;have Ap:=Aside0.mk (Kd.dJ (by (with_reducible repeat (first|apply Kd.cZ|apply Kd.dh|apply Kd.dA));exact zM.out) hb);have Aq:=Aside0.mk (Kd.jA (by (with_reducible repeat (first|apply Kd.fH|apply Kd.fI|apply Kd.gy));exact Ac.out) hb);have Ar:=Aside0.mk (aQ (g:=zY) (o:=.cells #[.int .u64 zT,.slice none 0 0] 53 (0,0)) (bk_ zO.out) hb);have AA:=Aside0.mk (aQ (g:=zP) (o:=.cells #[.string Ag,.int .i64 Ae] 89 (0,0)) (bk_ zL.out) hb);have AO:=Aside0.mk (aQ (g:=Ab) (o:=.cells #[.int .u64 t226,z8] 53 (0,0)) (bk_ zS.out) hb);have AX:=Aside0.mk (aQ (g:=zR) (o:=.cells #[.string t234,.string Am,.string AJ,.int .u8 ((AY) % 256),.int .u16 (IntKind.u16.wrap (A9)),Aw] 103 (0,0)) (bk_ zN.out) hb);have Ch:=Aside0.mk (aQ (g:=Az) (o:=.cells #[.string (⟨#[]⟩ : ByteArray),.string (⟨#[]⟩ : ByteArray)] 104 (0,0)) (bk_ Bh.out) hb);have Df:=Aside0.mk (aU (by repeat (first|(with_reducible first|exact HB.out|apply aD|apply ak|apply aC|refine aA ?_ Aa.out|refine aA ?_ Ad.out|refine aA ?_ Ah.out|refine aA ?_ AB.out|refine aA ?_ Dz.out)|exact HB.out)) hb);clear zM;clear Ac;clear zO;clear zL;clear zS;clear zN;clear Bh;clear HB;have zM:=Ap;have Ac:=Aq;have zO:=Ar;have zL:=AA;have zS:=AO;have zN:=AX;have Bh:=Ch;have HB:=Df;clear Ap Aq Ar AA AO AX Ch Df;(try clear hb);(try clear hb2);(try clear hk);(try clear hi);have Jt : Ii.cell? ⟨zP,0,none⟩ = some (.string Ag):=(ay zL.out 0).trans rfl;have Ju : Ii.cell? ⟨zP,1,none⟩ = some (.int .i64 Ae):=(ay zL.out 1).trans rfl;have Jv:=av zL.out 0;have Jw:=av zL.out 1;have LU:=Hg.out;have LV:=Cb.out;have LX:=Hl.out;have LY:=Ce.out;have LZ:=Ho.out;have L6:=Cg.out;have Jy : Ii.cell? ⟨Az,0,none⟩ = some (.string (⟨#[]⟩ : ByteArray)):=(ay Bh.out 0).trans rfl;have Jz : Ii.cell? ⟨Az,1,none⟩ = some (.string (⟨#[]⟩ : ByteArray)):=(ay Bh.out 1).trans rfl;have JA:=av Bh.out 0;have JB:=av Bh.out 1)|((with_reducible refine bA (f:=52) rfl ?_);refine cO (some 106) rfl rfl Tryd.func52 (by kernel_rfl) rfl #[.agg #[.string C9,.int .i64 Da]] rfl (by (try simp only [List.map_toArray,List.map_cons,List.map_nil]);first|done|rfl|(simp only [List.length_drop,List.length_take];rfl)|(simp (disch:=first|omega|(simp at *;omega)) only [bY,bJ,dF];rfl)) ?_;(with_reducible refine (bf.calls Ca C9 Da Dx DJ Db _ OJ.out).mono ?_);rintro e Dc ⟨rfl,hb⟩;refine ⟨_,rfl,?_⟩;have Ap:=Aside0.mk (Kd.dJ (by (with_reducible repeat (first|apply Kd.cZ|apply Kd.dh|apply Kd.dA));exact (Kd.dO (Kd.dO (Kd.dQ (p:=⟨Az,0,none⟩) (Kd.dQ (p:=⟨zP,1,none⟩) (Kd.dQ (p:=⟨zP,0,none⟩) (Kd.dO (Kd.eO zM.out zL.out (by decide)) (fun k_ hk=>(⟨hk,hk.1.2⟩ : _ ∧ k_ ≠ Az))) (fun _ hk=>hk.1.2) (.string C9)) (fun _ hk=>hk.1.2) (.int .i64 Da)) (fun _ hk=>hk.2) (.string BP)) (fun _ h_=>h_.1)) (fun _ h_=>h_.1))) hb);have Aq:=Aside0.mk (Kd.jA (by (with_reducible repeat (first|apply Kd.fH|apply Kd.fI|apply Kd.gy));exact (Kd.fE (Kd.fE (Kd.jG (p:=⟨Az,0,none⟩) (Kd.jG (p:=⟨zP,1,none⟩) (Kd.jG (p:=⟨zP,0,none⟩) (Kd.fE (Kd.gP Ac.out zL.out (by decide)) (fun k_ hk=>(⟨hk,hk.1.2⟩ : _ ∧ k_ ≠ Az))) (fun _ hk=>hk.1.2) (.string C9)) (fun _ hk=>hk.1.2) (.int .i64 Da)) (fun _ hk=>hk.2) (.string BP)) (fun _ h_=>h_.1)) (fun _ h_=>h_.1))) hb);have Ar:=Aside0.mk (aQ (g:=zY) (o:=.cells #[.int .u64 zT,.slice none 0 0] 53 (0,0)) (by (with_reducible repeat (first|apply aj|apply au|apply ah));refine aJ ?_ Cb.out _;(with_reducible repeat (first|apply aj|apply au|apply ah));refine aJ ?_ zQ.out _;(with_reducible repeat (first|apply aj|apply au|apply ah));refine aJ ?_ zQ.out _;(with_reducible repeat (first|apply aj|apply au|apply ah));exact zO.out) hb);have AA:=Aside0.mk (aQ (g:=zP) (o:=.cells #[.string C9,.int .i64 Da] 89 (0,0)) (by (with_reducible repeat (first|apply aj|apply au|apply ah));refine aJ ?_ Cc.out _;(with_reducible repeat (first|apply aj|apply au|apply ah));refine aX (cs:=#[.string C9,.int .i64 Ae]) ?_ 1 _ rfl;(with_reducible repeat (first|apply aj|apply au|apply ah));refine aX (cs:=#[.string Ag,.int .i64 Ae]) ?_ 0 _ rfl;(with_reducible repeat (first|apply aj|apply au|apply ah));exact zL.out) hb);have AO:=Aside0.mk (aQ (g:=Ab) (o:=.cells #[.int .u64 t226,z8] 53 (0,0)) (by (with_reducible repeat (first|apply aj|apply au|apply ah));refine aJ ?_ Ce.out _;(with_reducible repeat (first|apply aj|apply au|apply ah));refine aJ ?_ zX.out _;(with_reducible repeat (first|apply aj|apply au|apply ah));refine aJ ?_ zX.out _;(with_reducible repeat (first|apply aj|apply au|apply ah));exact zS.out) hb);have AX:=Aside0.mk (aQ (g:=zR) (o:=.cells #[.string t234,.string Am,.string AJ,.int .u8 ((AY) % 256),.int .u16 (IntKind.u16.wrap (A9)),Aw] 103 (0,0)) (by (with_reducible repeat (first|apply aj|apply au|apply ah));refine aJ ?_ Cg.out _;(with_reducible repeat (first|apply aj|apply au|apply ah));refine aJ ?_ zZ.out _;(with_reducible repeat (first|apply aj|apply au|apply ah));refine aJ ?_ zZ.out _;(with_reducible repeat (first|apply aj|apply au|apply ah));exact zN.out) hb);have Ch:=Aside0.mk (aQ (g:=Az) (o:=.cells #[.string BP,.string (⟨#[]⟩ : ByteArray)] 104 (0,0)) (by (with_reducible repeat (first|apply aj|apply au|apply ah));refine aX (cs:=#[.string (⟨#[]⟩ : ByteArray),.string (⟨#[]⟩ : ByteArray)]) ?_ 0 _ rfl;(with_reducible repeat (first|apply aj|apply au|apply ah));refine aJ ?_ Bj.out _;(with_reducible repeat (first|apply aj|apply au|apply ah));refine aJ ?_ Bj.out _;(with_reducible repeat (first|apply aj|apply au|apply ah));exact Bh.out) hb);have Df:=Aside0.mk (aU (by repeat (first|(with_reducible first|exact HB.out|apply aD|apply ak|apply aC|refine aA ?_ Aa.out|refine aA ?_ Ad.out|refine aA ?_ Ah.out|refine aA ?_ AB.out|refine aA ?_ Dz.out)|exact HB.out)) hb);clear zM;clear Ac;clear zO;clear zL;clear zS;clear zN;clear Bh;clear HB;have zM:=Ap;have Ac:=Aq;have zO:=Ar;have zL:=AA;have zS:=AO;have zN:=AX;have Bh:=Ch;have HB:=Df;clear Ap Aq Ar AA AO AX Ch Df;(try clear hb);(try clear hb2);(try clear hk);(try clear hi);have JC : Dc.cell? ⟨zP,0,none⟩ = some (.string C9):=(ay zL.out 0).trans rfl;have JD : Dc.cell? ⟨zP,1,none⟩ = some (.int .i64 Da):=(ay zL.out 1).trans rfl;have JE:=av zL.out 0;have JF:=av zL.out 1;have JG : Dc.cell? ⟨Az,0,none⟩ = some (.string BP):=(ay Bh.out 0).trans rfl;have JH : Dc.cell? ⟨Az,1,none⟩ = some (.string (⟨#[]⟩ : ByteArray)):=(ay Bh.out 1).trans rfl;have JI:=av Bh.out 0;have JJ:=av Bh.out 1;have L8:=Bq.out;have L9:=Ak.out;have Ma:=Br.out;have Mc:=Al.out;have JK : Dc.cell? ⟨zR,0,none⟩ = some (.string t234):=(ay zN.out 0).trans rfl;have JL : Dc.cell? ⟨zR,1,none⟩ = some (.string Am):=(ay zN.out 1).trans rfl;have JM : Dc.cell? ⟨zR,2,none⟩ = some (.string AJ):=(ay zN.out 2).trans rfl;have JN : Dc.cell? ⟨zR,3,none⟩ = some (.int .u8 ((AY) % 256)):=(ay zN.out 3).trans rfl;have JO : Dc.cell? ⟨zR,4,none⟩ = some (.int .u16 (IntKind.u16.wrap (A9))):=(ay zN.out 4).trans rfl;have JQ : Dc.cell? ⟨zR,5,none⟩ = some (Aw):=(ay zN.out 5).trans rfl;have JR:=av zN.out 0;have JU:=av zN.out 1;have JV:=av zN.out 2;have JW:=av zN.out 3;have JX:=av zN.out 4;have JY:=av zN.out 5)|((with_reducible refine gU (b:=.append) (xs:=#[.tmp 111,.tmp 113]) rfl ?_);at_builtin;refine Kd.jN jK (w0:=w) w.heap.size rfl (.tmp 111) (.tmp 113) 101 104 (.agg #[(.string ⟨#[]⟩),(.string ⟨#[]⟩)]) 32 rfl Tryd.underlying101 ru rfl (by decide) (by omega) Aw Af (⟨BP,Db⟩ : S104) [.string BP,.string Db] (fun k_=>k_ ≠ Az) (fun _=>False) rfl (by first|(go_simp;done)|(go_simp;rfl)) ?aP (fun _ hk=>hk.elim) ?aF ?aO ?aB ?aS ?aL ?_;(case aP=>exact pO _ _ _ (⟨BP,Db⟩ : S104));(case aB=>exact (by repeat (first|(with_reducible first|exact HB.out|apply aD|apply ak|apply aC|refine aA ?_ Aa.out|refine aA ?_ Ad.out|refine aA ?_ Ah.out|refine aA ?_ AB.out|refine aA ?_ Dz.out)|exact HB.out)));(case aF=>exact (fun k_ hk=>Kd.oK (g:=Az) (o:=.cells #[.string BP,.string Db] 104 (0,0)) (by (with_reducible repeat (first|apply aj|apply au|apply ah));refine aX (cs:=#[.string BP,.string (⟨#[]⟩ : ByteArray)]) ?_ 1 _ rfl;(with_reducible repeat (first|apply aj|apply au|apply ah));refine aJ ?_ Bj.out _;(with_reducible repeat (first|apply aj|apply au|apply ah));refine aJ ?_ Bj.out _;(with_reducible repeat (first|apply aj|apply au|apply ah));exact Bh.out) k_ hk));(case aO=>exact (by (with_reducible repeat (first|apply Kd.fH|apply Kd.fI|apply Kd.gy));exact Kd.fE (Kd.jG (p:=⟨Az,1,none⟩) (Kd.jG (p:=⟨zP,1,none⟩) (Kd.jG (p:=⟨zP,0,none⟩) (Kd.fE (Kd.gP Ac.out zL.out (by decide)) (fun k_ hk=>(⟨hk,hk.1.2⟩ : _ ∧ k_ ≠ Az))) (fun _ hk=>hk.1.2) (.string Dx)) (fun _ hk=>hk.1.2) (.int .i64 DJ)) (fun _ hk=>hk.2) (.string Db)) (fun _ hk=>hk.1.1.2)));(case aS=>exact (aW (by repeat (first|(with_reducible first|exact HB.out|apply aD|apply ak|apply aC|refine aA ?_ Aa.out|refine aA ?_ Ad.out|refine aA ?_ Ah.out|refine aA ?_ AB.out|refine aA ?_ Dz.out)|exact HB.out))));(case aL=>have:=Ji.out;omega);intro OL Hq ho hb hg hat;rw [← Jj.out] at ho;have Ap:=Aside0.mk (Kd.oO (ok:=(fun k_=>k_ ≠ zR ∧ k_ ≠ Az)) (by (with_reducible repeat (first|apply Kd.cZ|apply Kd.dh|apply Kd.dA));exact Kd.dO (Kd.dQ (p:=⟨Az,1,none⟩) (Kd.dQ (p:=⟨zP,1,none⟩) (Kd.dQ (p:=⟨zP,0,none⟩) (Kd.dO (Kd.eO zM.out zL.out (by decide)) (fun k_ hk=>(⟨hk,hk.1.2⟩ : _ ∧ k_ ≠ Az))) (fun _ hk=>hk.1.2) (.string Dx)) (fun _ hk=>hk.1.2) (.int .i64 DJ)) (fun _ hk=>hk.2) (.string Db)) (fun _ hk=>⟨⟨hk.1.1.1.2,hk.1.1.2⟩,hk.1.1.1.1⟩)) hg hat);have Aq:=Aside0.mk (dS (g:=zY) (o:=.cells #[.int .u64 zT,.slice none 0 0] 53 (0,0)) (by (with_reducible repeat (first|apply aj|apply au|apply ah));refine aJ ?_ Cb.out _;(with_reducible repeat (first|apply aj|apply au|apply ah));refine aJ ?_ zQ.out _;(with_reducible repeat (first|apply aj|apply au|apply ah));refine aJ ?_ zQ.out _;(with_reducible repeat (first|apply aj|apply au|apply ah));exact zO.out) hg (Kd.jI Ac.out zO.out (by decide)));have Ar:=Aside0.mk (dS (g:=zP) (o:=.cells #[.string Dx,.int .i64 DJ] 89 (0,0)) (by (with_reducible repeat (first|apply aj|apply au|apply ah));refine aJ ?_ Cc.out _;(with_reducible repeat (first|apply aj|apply au|apply ah));refine aX (cs:=#[.string Dx,.int .i64 Da]) ?_ 1 _ rfl;(with_reducible repeat (first|apply aj|apply au|apply ah));refine aX (cs:=#[.string C9,.int .i64 Da]) ?_ 0 _ rfl;(with_reducible repeat (first|apply aj|apply au|apply ah));exact zL.out) hg (Kd.jI Ac.out zL.out (by decide)));have AA:=Aside0.mk (dS (g:=Ab) (o:=.cells #[.int .u64 t226,z8] 53 (0,0)) (by (with_reducible repeat (first|apply aj|apply au|apply ah));refine aJ ?_ Ce.out _;(with_reducible repeat (first|apply aj|apply au|apply ah));refine aJ ?_ zX.out _;(with_reducible repeat (first|apply aj|apply au|apply ah));refine aJ ?_ zX.out _;(with_reducible repeat (first|apply aj|apply au|apply ah));exact zS.out) hg (Kd.jI Ac.out zS.out (by decide)));have AO:=Aside0.mk (dS (g:=zR) (o:=.cells #[.string t234,.string Am,.string AJ,.int .u8 ((AY) % 256),.int .u16 (IntKind.u16.wrap (A9)),Aw] 103 (0,0)) (by (with_reducible repeat (first|apply aj|apply au|apply ah));refine aJ ?_ Cg.out _;(with_reducible repeat (first|apply aj|apply au|apply ah));refine aJ ?_ zZ.out _;(with_reducible repeat (first|apply aj|apply au|apply ah));refine aJ ?_ zZ.out _;(with_reducible repeat (first|apply aj|apply au|apply ah));exact zN.out) hg (Kd.jI Ac.out zN.out (by decide)));have AX:=Aside0.mk (dS (g:=Az) (o:=.cells #[.string BP,.string Db] 104 (0,0)) (by (with_reducible repeat (first|apply aj|apply au|apply ah));refine aX (cs:=#[.string BP,.string (⟨#[]⟩ : ByteArray)]) ?_ 1 _ rfl;(with_reducible repeat (first|apply aj|apply au|apply ah));refine aJ ?_ Bj.out _;(with_reducible repeat (first|apply aj|apply au|apply ah));refine aJ ?_ Bj.out _;(with_reducible repeat (first|apply aj|apply au|apply ah));exact Bh.out) hg (Kd.sW Ac.out (fun _ hk=>hk.2)));have Ch:=Aside0.mk (hb);have Df:=Aside0.mk (ho);clear zM;clear zO;clear zL;clear zS;clear zN;clear Bh;clear HB;clear Ac;have zM:=Ap;have zO:=Aq;have zL:=Ar;have zS:=AA;have zN:=AO;have Bh:=AX;have HB:=Ch;have Iz:=Df;clear Ap Aq Ar AA AO AX Ch Df;clear ho hb hg hat;obtain ⟨Hz,HY,JZ⟩:=Kd.iH Iz.out;subst JZ;have J2 : Hq.cell? ⟨zR,0,none⟩ = some (.string t234):=(ay zN.out 0).trans rfl;have J3 : Hq.cell? ⟨zR,1,none⟩ = some (.string Am):=(ay zN.out 1).trans rfl;have J4 : Hq.cell? ⟨zR,2,none⟩ = some (.string AJ):=(ay zN.out 2).trans rfl;have J5 : Hq.cell? ⟨zR,3,none⟩ = some (.int .u8 ((AY) % 256)):=(ay zN.out 3).trans rfl;have J6 : Hq.cell? ⟨zR,4,none⟩ = some (.int .u16 (IntKind.u16.wrap (A9))):=(ay zN.out 4).trans rfl;have J7 : Hq.cell? ⟨zR,5,none⟩ = some (Aw):=(ay zN.out 5).trans rfl;have J8:=av zN.out 0;have J9:=av zN.out 1;have Ka:=av zN.out 2;have Ke:=av zN.out 3;have Kg:=av zN.out 4;have Kh:=av zN.out 5))
              go_roundg Ca
              case measure=>have:=Il.out;have:=He.out;have:=I4.out;have:=Ih.out;omega
              case rel=>exact ⟨(wrap64 (Bt + 1)),(Dx),(DJ),(Hy),(.slice Hz Hy.length HY),(by first|rfl|(simp;done)|(simp [*];done)),H',⟨by have:=Il.out;have:=He.out;have:=I4.out;have:=Ih.out;omega⟩,⟨by (with_reducible repeat (first|apply Kd.cZ|apply Kd.dh|apply Kd.dA));exact Kd.dO (Kd.dQ (p:=⟨zR,5,none⟩) (Kd.dO zM.out (fun k_ hk=>(⟨hk,hk.1.1⟩ : _ ∧ k_ ≠ zR))) (fun _ hk=>hk.2) (.slice Hz Hy.length HY)) (fun _ hk=>⟨hk.1.2,hk.1.1.1⟩)⟩,⟨by (with_reducible repeat (first|apply Kd.fH|apply Kd.fI|apply Kd.gy));exact Kd.fE (Kd.jG (p:=⟨zR,5,none⟩) (Kd.gP Iz.out zN.out (by decide)) (fun _ hk=>hk.2) (.slice Hz Hy.length HY)) (fun _ hk=>trivial)⟩,⟨by (with_reducible repeat (first|apply aj|apply au|apply ah));refine aJ ?_ Ak.out _;(with_reducible repeat (first|apply aj|apply au|apply ah));exact zO.out⟩,⟨by (with_reducible repeat (first|apply aj|apply au|apply ah));refine aJ ?_ Ai.out _;(with_reducible repeat (first|apply aj|apply au|apply ah));exact zL.out⟩,⟨by (with_reducible repeat (first|apply aj|apply au|apply ah));refine aJ ?_ Al.out _;(with_reducible repeat (first|apply aj|apply au|apply ah));exact zS.out⟩,⟨by (with_reducible repeat (first|apply aj|apply au|apply ah));refine aX (cs:=#[.string t234,.string Am,.string AJ,.int .u8 ((AY) % 256),.int .u16 (IntKind.u16.wrap (A9)),Aw]) ?_ 5 _ rfl;(with_reducible repeat (first|apply aj|apply au|apply ah));exact zN.out⟩,⟨by repeat (first|(with_reducible first|exact HB.out|apply aD|apply ak|apply aC|refine aA ?_ Aa.out|refine aA ?_ Ad.out|refine aA ?_ Ah.out|refine aA ?_ AB.out|refine aA ?_ Dz.out)|exact HB.out)⟩⟩
             ·rw [if_neg LK] at H
              exact absurd H (by simp)
            ·replace LJ:=Bool.eq_false_iff.mpr LJ
             subst LJ
             have H1 : (if zW.length < 1759218604441 then (aN.l0 Ca t229 (wrap64 (Bo + 1)) Ag Ae t226 (zW ++ [(⟨t234,Am,AJ,((AY) % 256),(IntKind.u16.wrap (A9)),Af⟩ : S103)])) else (none)) = some (r1,r2,r3):=by rw [if_neg (show ¬ (false = true) by decide)] at H;exact H
             clear H
             have H:=H1
             clear H1
             by_cases c117 : zW.length < 1759218604441
             ·rw [if_pos c117] at H
              have IY:=Aside0.mk c117
              clear c117
              obtain ⟨Ij,DC⟩ : ∃ y_ : List (S103),y_ = (zW ++ [(⟨t234,Am,AJ,((AY) % 256),(IntKind.u16.wrap (A9)),Af⟩ : S103)]):=⟨_,rfl⟩
              replace H : (aN.l0 Ca t229 (wrap64 (Bo + 1)) Ag Ae t226 Ij) = some (r1,r2,r3):=by first|(rw [DC];with_reducible exact H)|(have IX:=(Option.bind_some _ _).symm.trans H;rw [DC];with_reducible exact IX)|(have IX:=(Option.bind_some _ _).symm.trans H;with_reducible exact IX)|with_reducible exact H|(rw [DC];exact H)|exact H
              have Ki:=Aside0.mk DC
              clear DC
              have H':=Aside0.mk H
              clear H
              have Md:=Bl.out
              have Me:=AV.out
              have Mf:=zX.out
              have Mg:=Av.out
              have Mh:=Al.out
              have Mi:=Br.out
              have Kj : wc.cell? ⟨Ab,0,none⟩ = some (.int .u64 t226):=(ay zS.out 0).trans rfl
              have Kk : wc.cell? ⟨Ab,1,none⟩ = some (z8):=(ay zS.out 1).trans rfl
              have Kl:=av zS.out 0
              have Km:=av zS.out 1
              have Mj:=Bq.out
              have Mk:=Ak.out
              have Ml:=zZ.out
              have Mq:=Ai.out
              have Kn : wc.cell? ⟨zR,0,none⟩ = some (.string t234):=(ay zN.out 0).trans rfl
              have Ko : wc.cell? ⟨zR,1,none⟩ = some (.string Am):=(ay zN.out 1).trans rfl
              have Kq : wc.cell? ⟨zR,2,none⟩ = some (.string AJ):=(ay zN.out 2).trans rfl
              have Kr : wc.cell? ⟨zR,3,none⟩ = some (.int .u8 ((AY) % 256)):=(ay zN.out 3).trans rfl
              have Kt : wc.cell? ⟨zR,4,none⟩ = some (.int .u16 (IntKind.u16.wrap (A9))):=(ay zN.out 4).trans rfl
              have Ku : wc.cell? ⟨zR,5,none⟩ = some (Aw):=(ay zN.out 5).trans rfl
              have Kv:=av zN.out 0
              have Kw:=av zN.out 1
              have Ky:=av zN.out 2
              have Kz:=av zN.out 3
              have KA:=av zN.out 4
              have KC:=av zN.out 5
              obtain ⟨G8,G9,KD⟩:=Kd.iH Ac.out
              subst KD
              go_wp2_with (first|((with_reducible refine gU (b:=.append) (xs:=#[.tmp 117,.tmp 119]) rfl ?_);at_builtin;refine Kd.mX iC (w0:=w) w.heap.size rfl (.tmp 117) (.tmp 119) 51 103 (.agg #[(.string ⟨#[]⟩),(.string ⟨#[]⟩),(.string ⟨#[]⟩),(.int .u8 0),(.int .u16 0),(.slice none 0 0)]) 80 rfl Tryd.underlying51 q8 rfl (by decide) (by omega) z8 zW (⟨t234,Am,AJ,((AY) % 256),(IntKind.u16.wrap (A9)),Af⟩ : S103) [.string t234,.string Am,.string AJ,.int .u8 ((AY) % 256),.int .u16 (IntKind.u16.wrap (A9)),.slice G8 Af.length G9] (fun k_=>k_ ≠ zR) (fun k_=>some k_ = (.slice G8 Af.length G9 : Value).ownBlock) rfl rfl ?aP (fun k_ hk_=>((Kd.fE (ok':=fun k_=>((fun k_=>k_ ≠ zR)) k_ ∧ some k_ ≠ (z8 : Value).ownBlock) (Kd.gP (Kd.kS (Ac.out) (Kd.mF zM.out) (by decide)) zN.out (by decide)) (fun k_ hk=>⟨hk.2,hk.1.2⟩))).1 k_ hk_.symm) ?aF ?aO ?aB ?aS ?aL ?_;(case aP=>exact pQ _ _ _ (⟨t234,Am,AJ,((AY) % 256),(IntKind.u16.wrap (A9)),Af⟩ : S103) (Kd.fE (Kd.oN rfl (Kd.fE (ok':=fun k_=>((fun k_=>k_ ≠ zR)) k_ ∧ some k_ ≠ (z8 : Value).ownBlock) (Kd.gP (Kd.kS (Ac.out) (Kd.mF zM.out) (by decide)) zN.out (by decide)) (fun k_ hk=>⟨hk.2,hk.1.2⟩))) (fun _ h_=>h_)));(case aB=>exact (by repeat (first|(with_reducible first|exact HB.out|apply aD|apply ak|apply aC|refine aA ?_ Aa.out|refine aA ?_ Ad.out|refine aA ?_ Ah.out|refine aA ?_ AB.out)|exact HB.out)));(case aF=>exact (fun k_ hk=>Kd.oK (g:=zR) (o:=.cells #[.string t234,.string Am,.string AJ,.int .u8 ((AY) % 256),.int .u16 (IntKind.u16.wrap (A9)),.slice G8 Af.length G9] 103 (0,0)) (bk_ zN.out) k_ hk));(case aO=>exact (by (with_reducible repeat (first|apply Kd.cZ|apply Kd.dh|apply Kd.dA));exact Kd.dO zM.out (fun k_ hk=>⟨hk.2,fun e_=>hk.1 e_⟩)));(case aS=>exact (aW (by repeat (first|(with_reducible first|exact HB.out|apply aD|apply ak|apply aC|refine aA ?_ Aa.out|refine aA ?_ Ad.out|refine aA ?_ Ah.out|refine aA ?_ AB.out)|exact HB.out))));(case aL=>have:=IY.out;omega);intro OM KE ho hb hg hat;rw [← Ki.out] at ho;have Ap:=Aside0.mk (dS (g:=zY) (o:=.cells #[.int .u64 zT,.slice none 0 0] 53 (0,0)) (bk_ zO.out) hg (Kd.lH zM.out zO.out (by decide)));have Aq:=Aside0.mk (dS (g:=zP) (o:=.cells #[.string Ag,.int .i64 Ae] 89 (0,0)) (bk_ zL.out) hg (Kd.lH zM.out zL.out (by decide)));have Ar:=Aside0.mk (dS (g:=Ab) (o:=.cells #[.int .u64 t226,z8] 53 (0,0)) (bk_ zS.out) hg (Kd.lH zM.out zS.out (by decide)));have AA:=Aside0.mk (dS (g:=zR) (o:=.cells #[.string t234,.string Am,.string AJ,.int .u8 ((AY) % 256),.int .u16 (IntKind.u16.wrap (A9)),.slice G8 Af.length G9] 103 (0,0)) (bk_ zN.out) hg (Kd.tJ zM.out (fun _ hk=>hk.2)));have AO:=Aside0.mk (hb);have AX:=Aside0.mk (ho);clear zO;clear zL;clear zS;clear zN;clear HB;clear zM;clear Ac;have zO:=Ap;have zL:=Aq;have zS:=Ar;have zN:=AA;have HB:=AO;have IB:=AX;clear Ap Aq Ar AA AO AX;clear ho hb hg hat;obtain ⟨IC,IE,KF⟩:=Kd.gq IB.out;subst KF;have KG : KE.cell? ⟨Ab,0,none⟩ = some (.int .u64 t226):=(ay zS.out 0).trans rfl;have KH : KE.cell? ⟨Ab,1,none⟩ = some (z8):=(ay zS.out 1).trans rfl;have KI:=av zS.out 0;have KJ:=av zS.out 1))
              go_roundg Ca
              case measure=>have:=Il.out;have:=He.out;have:=I4.out;have:=Ih.out;omega
              case rel=>exact ⟨(wrap64 (Bo + 1)),(zT),(Ag),(Ae),(Ij),(.slice IC Ij.length IE),(by first|rfl|(simp;done)|(simp [*];done)),H',⟨by have:=Il.out;have:=He.out;have:=I4.out;have:=Ih.out;omega⟩,⟨by (with_reducible repeat (first|apply Kd.cZ|apply Kd.dh|apply Kd.dA));exact Kd.dO (Kd.dQ (p:=⟨Ab,1,none⟩) (Kd.eO IB.out zS.out (by decide)) (fun _ hk=>hk.2) (.slice IC Ij.length IE)) (fun _ hk=>trivial)⟩,⟨by (with_reducible repeat (first|apply aj|apply au|apply ah));refine aJ ?_ AV.out _;(with_reducible repeat (first|apply aj|apply au|apply ah));exact zO.out⟩,⟨by (with_reducible repeat (first|apply aj|apply au|apply ah));refine aJ ?_ Av.out _;(with_reducible repeat (first|apply aj|apply au|apply ah));exact zL.out⟩,⟨by (with_reducible repeat (first|apply aj|apply au|apply ah));refine aX (cs:=#[.int .u64 t226,z8]) ?_ 1 _ rfl;(with_reducible repeat (first|apply aj|apply au|apply ah));exact zS.out⟩,⟨by repeat (first|(with_reducible first|exact HB.out|apply aD|apply ak|apply aC|refine aA ?_ Aa.out|refine aA ?_ Ad.out|refine aA ?_ Ah.out|refine aA ?_ AB.out)|exact HB.out)⟩⟩
             ·rw [if_neg c117] at H
              exact absurd H (by simp)
      ·replace c31:=Bool.eq_false_iff.mpr c31
       subst c31
       have H1 : ((fq.f zV zU).bind fun BK=>(if BK = 0 then ((aI.f Ay t226 zW).bind fun Bu=>(if Bu = 0 then (some (t226,zW,0)) else (some (0,([] : List (S103)),Bu)))) else (some (0,([] : List (S103)),BK)))) = some (r1,r2,r3):=by rw [if_neg (show ¬ (false = true) by decide)] at H;exact H
       clear H
       have H:=H1
       clear H1
       replace H:=Option.bind_eq_some_iff.mp H
       obtain ⟨BK,IG,H⟩:=H
       replace H : (if BK = 0 then ((aI.f Ay t226 zW).bind fun Bu=>(if Bu = 0 then (some (t226,zW,0)) else (some (0,([] : List (S103)),Bu)))) else (some (0,([] : List (S103)),BK))) = some (r1,r2,r3):=H
       have IZ:=Aside0.mk IG
       clear IG
       by_cases c130 : BK = 0
       ·rw [if_pos c130] at H
        have c130b0 : (BK == 0) = true:=beq_iff_eq.mpr c130
        have c130b1 : (BK != 0) = false:=bne_eq_false_iff_eq.mpr c130
        clear c130
        replace H:=Option.bind_eq_some_iff.mp H
        obtain ⟨Bu,II,H⟩:=H
        replace H : (if Bu = 0 then (some (t226,zW,0)) else (some (0,([] : List (S103)),Bu))) = some (r1,r2,r3):=H
        have KL:=Aside0.mk II
        clear II
        by_cases DK : Bu = 0
        ·rw [if_pos DK] at H
         have c132b0 : (Bu == 0) = true:=beq_iff_eq.mpr DK
         have c132b1 : (Bu != 0) = false:=bne_eq_false_iff_eq.mpr DK
         clear DK
         simp only [Option.some.injEq,Prod.mk.injEq] at H
         obtain ⟨rfl,rfl,rfl⟩:=H
         have Mr:=AL.out
         have Ms:=zQ.out
         have Mt:=Av.out
         have Mv:=zX.out
         have KM : wc.cell? ⟨zP,0,none⟩ = some (.string zV):=(ay zL.out 0).trans rfl
         have KN : wc.cell? ⟨zP,1,none⟩ = some (.int .i64 zU):=(ay zL.out 1).trans rfl
         have KO:=av zL.out 0
         have KP:=av zL.out 1
         go_wp2_with (first|((with_reducible refine bA (f:=53) rfl ?_);refine cO (some 123) rfl rfl Tryd.func53 (by kernel_rfl) rfl #[.agg #[.string zV,.int .i64 zU]] rfl (by (try simp only [List.map_toArray,List.map_cons,List.map_nil]);first|done|rfl|(simp only [List.length_drop,List.length_take];rfl)|(simp (disch:=first|omega|(simp at *;omega)) only [bY,bJ,dF];rfl)) ?_;(with_reducible refine (fq.calls zV zU BK _ IZ.out).mono ?_);rintro e KQ ⟨rfl,hb⟩;refine ⟨_,rfl,?_⟩;have Ap:=Aside0.mk (Kd.dJ (by (with_reducible repeat (first|apply Kd.cZ|apply Kd.dh|apply Kd.dA));exact zM.out) hb);have Aq:=Aside0.mk (aQ (g:=zY) (o:=.cells #[.int .u64 zT,.slice none 0 0] 53 (0,0)) (bk_ zO.out) hb);have Ar:=Aside0.mk (aQ (g:=zP) (o:=.cells #[.string zV,.int .i64 zU] 89 (0,0)) (bk_ zL.out) hb);have AA:=Aside0.mk (aQ (g:=Ab) (o:=.cells #[.int .u64 t226,z8] 53 (0,0)) (bk_ zS.out) hb);have AO:=Aside0.mk (aU (by repeat (first|(with_reducible first|exact HB.out|apply aD|apply ak|apply aC|refine aA ?_ Aa.out|refine aA ?_ Ad.out|refine aA ?_ Ah.out)|exact HB.out)) hb);clear zM;clear zO;clear zL;clear zS;clear HB;have zM:=Ap;have zO:=Aq;have zL:=Ar;have zS:=AA;have HB:=AO;clear Ap Aq Ar AA AO;(try clear hb);(try clear hb2);(try clear hk);(try clear hi);have Mw:=Bl.out;have Mx:=AV.out;have KR : KQ.cell? ⟨Ab,0,none⟩ = some (.int .u64 t226):=(ay zS.out 0).trans rfl;have KS : KQ.cell? ⟨Ab,1,none⟩ = some (z8):=(ay zS.out 1).trans rfl;have KT:=av zS.out 0;have KU:=av zS.out 1;obtain ⟨DF,DI,KV⟩:=Kd.gq zM.out;subst KV)|((with_reducible refine bA (f:=25) rfl ?_);refine cO (some 129) rfl rfl Tryd.func25 (by kernel_rfl) rfl #[.agg #[.int .u64 t226,.slice DF zW.length DI]] rfl (by (try simp only [List.map_toArray,List.map_cons,List.map_nil]);first|done|rfl|(simp only [List.length_drop,List.length_take];rfl)|(simp (disch:=first|omega|(simp at *;omega)) only [bY,bJ,dF];rfl)) ?_;(with_reducible refine (aI.calls Ay t226 _ _ zW Bu _ ?HZ ?H6 KL.out).mono ?_);(case HZ=>repeat (first|exact (Kd.gu zM.out).2.2|(with_reducible refine Kd.gQ ?_ _)|(with_reducible refine Kd.iA ?_ _)|(with_reducible refine Kd.iT ?_)));(case H6=>exact (Kd.gu zM.out).2.1);rintro e Ik ⟨rfl,hb⟩;refine ⟨_,rfl,?_⟩;have Ap:=Aside0.mk (Kd.dJ (by (with_reducible repeat (first|apply Kd.cZ|apply Kd.dh|apply Kd.dA));exact zM.out) hb);have Aq:=Aside0.mk (aQ (g:=zY) (o:=.cells #[.int .u64 zT,.slice none 0 0] 53 (0,0)) (bk_ zO.out) hb);have Ar:=Aside0.mk (aQ (g:=zP) (o:=.cells #[.string zV,.int .i64 zU] 89 (0,0)) (bk_ zL.out) hb);have AA:=Aside0.mk (aQ (g:=Ab) (o:=.cells #[.int .u64 t226,.slice DF zW.length DI] 53 (0,0)) (bk_ zS.out) hb);have AO:=Aside0.mk (aU (by repeat (first|(with_reducible first|exact HB.out|apply aD|apply ak|apply aC|refine aA ?_ Aa.out|refine aA ?_ Ad.out|refine aA ?_ Ah.out)|exact HB.out)) hb);clear zM;clear zO;clear zL;clear zS;clear HB;have zM:=Ap;have zO:=Aq;have zL:=Ar;have zS:=AA;have HB:=AO;clear Ap Aq Ar AA AO;(try clear hb);(try clear hb2);(try clear hk);(try clear hi);have KW : Ik.cell? ⟨Ab,0,none⟩ = some (.int .u64 t226):=(ay zS.out 0).trans rfl;have KX : Ik.cell? ⟨Ab,1,none⟩ = some (.slice DF zW.length DI):=(ay zS.out 1).trans rfl;have KY:=av zS.out 0;have KZ:=av zS.out 1;have K3 : Ik.cell? ⟨zY,0,none⟩ = some (.int .u64 zT):=(ay zO.out 0).trans rfl;have K4 : Ik.cell? ⟨zY,1,none⟩ = some (.slice none 0 0):=(ay zO.out 1).trans rfl;have K6:=av zO.out 0;have K7:=av zO.out 1))
         refine bodyPost_ret (eH rfl _ _ zY 53 #[.int .u64 t226,.slice DF zW.length DI] (0,0) _ rfl (by (with_reducible repeat (first|apply aj|apply au|apply ah));refine aX (cs:=#[.int .u64 t226,.slice none 0 0]) ?_ 1 _ rfl;(with_reducible repeat (first|apply aj|apply au|apply ah));refine aX (cs:=#[.int .u64 zT,.slice none 0 0]) ?_ 0 _ rfl;(with_reducible repeat (first|apply aj|apply au|apply ah));exact zO.out) Tryd.underlying53 rfl (by kernel_rfl)) rfl ?_
         exact ⟨_,by first|rfl|(simp [aY,aZ] <;> rfl)|(simp [*,aY,aZ] <;> rfl),by (with_reducible repeat (first|apply Kd.cZ|apply Kd.dh|apply Kd.dA));exact Kd.dO (Kd.dQ (p:=⟨zY,1,none⟩) (Kd.dQ (p:=⟨zY,0,none⟩) (Kd.eO zM.out zO.out (by decide)) (fun _ hk=>hk.2) (.int .u64 t226)) (fun _ hk=>hk.2) (.slice DF zW.length DI)) (fun _ hk=>trivial),by repeat (first|(with_reducible first|exact HB.out|apply aD|apply ak|apply aC|refine aA ?_ Aa.out|refine aA ?_ Ad.out|refine aA ?_ Ah.out)|exact HB.out)⟩
        ·rw [if_neg DK] at H
         have c132b0 : (Bu == 0) = false:=beq_eq_false_iff_ne.mpr DK
         have c132b1 : (Bu != 0) = true:=bne_iff_ne.mpr DK
         simp only [Option.some.injEq,Prod.mk.injEq] at H
         obtain ⟨rfl,rfl,rfl⟩:=H
         have MB:=AL.out
         have MC:=zQ.out
         have ME:=Av.out
         have MF:=zX.out
         have K8 : wc.cell? ⟨zP,0,none⟩ = some (.string zV):=(ay zL.out 0).trans rfl
         have K9 : wc.cell? ⟨zP,1,none⟩ = some (.int .i64 zU):=(ay zL.out 1).trans rfl
         have La:=av zL.out 0
         have Lb:=av zL.out 1
         go_wp2_with (first|((with_reducible refine bA (f:=53) rfl ?_);refine cO (some 123) rfl rfl Tryd.func53 (by kernel_rfl) rfl #[.agg #[.string zV,.int .i64 zU]] rfl (by (try simp only [List.map_toArray,List.map_cons,List.map_nil]);first|done|rfl|(simp only [List.length_drop,List.length_take];rfl)|(simp (disch:=first|omega|(simp at *;omega)) only [bY,bJ,dF];rfl)) ?_;(with_reducible refine (fq.calls zV zU BK _ IZ.out).mono ?_);rintro e Lc ⟨rfl,hb⟩;refine ⟨_,rfl,?_⟩;have Ap:=Aside0.mk (Kd.dJ (by (with_reducible repeat (first|apply Kd.cZ|apply Kd.dh|apply Kd.dA));exact zM.out) hb);have Aq:=Aside0.mk (aQ (g:=zY) (o:=.cells #[.int .u64 zT,.slice none 0 0] 53 (0,0)) (bk_ zO.out) hb);have Ar:=Aside0.mk (aQ (g:=zP) (o:=.cells #[.string zV,.int .i64 zU] 89 (0,0)) (bk_ zL.out) hb);have AA:=Aside0.mk (aQ (g:=Ab) (o:=.cells #[.int .u64 t226,z8] 53 (0,0)) (bk_ zS.out) hb);have AO:=Aside0.mk (aU (by repeat (first|(with_reducible first|exact HB.out|apply aD|apply ak|apply aC|refine aA ?_ Aa.out|refine aA ?_ Ad.out|refine aA ?_ Ah.out)|exact HB.out)) hb);clear zM;clear zO;clear zL;clear zS;clear HB;have zM:=Ap;have zO:=Aq;have zL:=Ar;have zS:=AA;have HB:=AO;clear Ap Aq Ar AA AO;(try clear hb);(try clear hb2);(try clear hk);(try clear hi);have MG:=Bl.out;have MH:=AV.out;have Ld : Lc.cell? ⟨Ab,0,none⟩ = some (.int .u64 t226):=(ay zS.out 0).trans rfl;have Le : Lc.cell? ⟨Ab,1,none⟩ = some (z8):=(ay zS.out 1).trans rfl;have Lf:=av zS.out 0;have Lg:=av zS.out 1;obtain ⟨IJ,IK,Lh⟩:=Kd.gq zM.out;subst Lh)|((with_reducible refine bA (f:=25) rfl ?_);refine cO (some 129) rfl rfl Tryd.func25 (by kernel_rfl) rfl #[.agg #[.int .u64 t226,.slice IJ zW.length IK]] rfl (by (try simp only [List.map_toArray,List.map_cons,List.map_nil]);first|done|rfl|(simp only [List.length_drop,List.length_take];rfl)|(simp (disch:=first|omega|(simp at *;omega)) only [bY,bJ,dF];rfl)) ?_;(with_reducible refine (aI.calls Ay t226 _ _ zW Bu _ ?HZ ?H6 KL.out).mono ?_);(case HZ=>repeat (first|exact (Kd.gu zM.out).2.2|(with_reducible refine Kd.gQ ?_ _)|(with_reducible refine Kd.iA ?_ _)|(with_reducible refine Kd.iT ?_)));(case H6=>exact (Kd.gu zM.out).2.1);rintro e Li ⟨rfl,hb⟩;refine ⟨_,rfl,?_⟩;have Ap:=Aside0.mk (Kd.dJ (by (with_reducible repeat (first|apply Kd.cZ|apply Kd.dh|apply Kd.dA));exact zM.out) hb);have Aq:=Aside0.mk (aQ (g:=zY) (o:=.cells #[.int .u64 zT,.slice none 0 0] 53 (0,0)) (bk_ zO.out) hb);have Ar:=Aside0.mk (aQ (g:=zP) (o:=.cells #[.string zV,.int .i64 zU] 89 (0,0)) (bk_ zL.out) hb);have AA:=Aside0.mk (aQ (g:=Ab) (o:=.cells #[.int .u64 t226,.slice IJ zW.length IK] 53 (0,0)) (bk_ zS.out) hb);have AO:=Aside0.mk (aU (by repeat (first|(with_reducible first|exact HB.out|apply aD|apply ak|apply aC|refine aA ?_ Aa.out|refine aA ?_ Ad.out|refine aA ?_ Ah.out)|exact HB.out)) hb);clear zM;clear zO;clear zL;clear zS;clear HB;have zM:=Ap;have zO:=Aq;have zL:=Ar;have zS:=AA;have HB:=AO;clear Ap Aq Ar AA AO;(try clear hb);(try clear hb2);(try clear hk);(try clear hi);have Lj : Li.cell? ⟨zY,0,none⟩ = some (.int .u64 zT):=(ay zO.out 0).trans rfl;have Ll : Li.cell? ⟨zY,1,none⟩ = some (.slice none 0 0):=(ay zO.out 1).trans rfl;have Lm:=av zO.out 0;have Lp:=av zO.out 1))
         refine bodyPost_ret (eH rfl _ _ zY 53 #[.int .u64 0,.slice none 0 0] (0,0) _ rfl (by (with_reducible repeat (first|apply aj|apply au|apply ah));refine aX (cs:=#[.int .u64 0,.slice none 0 0]) ?_ 1 _ rfl;(with_reducible repeat (first|apply aj|apply au|apply ah));refine aX (cs:=#[.int .u64 zT,.slice none 0 0]) ?_ 0 _ rfl;(with_reducible repeat (first|apply aj|apply au|apply ah));exact zO.out) Tryd.underlying53 rfl (by kernel_rfl)) rfl ?_
         exact ⟨_,by first|rfl|(simp [aY,aZ] <;> rfl)|(simp [*,aY,aZ] <;> rfl),by first|exact Kd.iU _ _ _ _ _|exact Kd.kV _ _ _ _ _|exact Kd.kW _ _ _ _ _|exact Kd.kR _ _ _ _ _|exact Kd.jl _ _ _ _ _,by repeat (first|(with_reducible first|exact HB.out|apply aD|apply ak|apply aC|refine aA ?_ Aa.out|refine aA ?_ Ad.out|refine aA ?_ Ah.out)|exact HB.out)⟩
       ·rw [if_neg c130] at H
        have c130b0 : (BK == 0) = false:=beq_eq_false_iff_ne.mpr c130
        have c130b1 : (BK != 0) = true:=bne_iff_ne.mpr c130
        simp only [Option.some.injEq,Prod.mk.injEq] at H
        obtain ⟨rfl,rfl,rfl⟩:=H
        have MI:=AL.out
        have MJ:=zQ.out
        have MK:=Av.out
        have ML:=zX.out
        have Lr : wc.cell? ⟨zP,0,none⟩ = some (.string zV):=(ay zL.out 0).trans rfl
        have Ls : wc.cell? ⟨zP,1,none⟩ = some (.int .i64 zU):=(ay zL.out 1).trans rfl
        have Lu:=av zL.out 0
        have Lv:=av zL.out 1
        go_wp2_with (first|((with_reducible refine bA (f:=53) rfl ?_);refine cO (some 123) rfl rfl Tryd.func53 (by kernel_rfl) rfl #[.agg #[.string zV,.int .i64 zU]] rfl (by (try simp only [List.map_toArray,List.map_cons,List.map_nil]);first|done|rfl|(simp only [List.length_drop,List.length_take];rfl)|(simp (disch:=first|omega|(simp at *;omega)) only [bY,bJ,dF];rfl)) ?_;(with_reducible refine (fq.calls zV zU BK _ IZ.out).mono ?_);rintro e Lx ⟨rfl,hb⟩;refine ⟨_,rfl,?_⟩;have Ap:=Aside0.mk (Kd.dJ (by (with_reducible repeat (first|apply Kd.cZ|apply Kd.dh|apply Kd.dA));exact zM.out) hb);have Aq:=Aside0.mk (aQ (g:=zY) (o:=.cells #[.int .u64 zT,.slice none 0 0] 53 (0,0)) (bk_ zO.out) hb);have Ar:=Aside0.mk (aQ (g:=zP) (o:=.cells #[.string zV,.int .i64 zU] 89 (0,0)) (bk_ zL.out) hb);have AA:=Aside0.mk (aQ (g:=Ab) (o:=.cells #[.int .u64 t226,z8] 53 (0,0)) (bk_ zS.out) hb);have AO:=Aside0.mk (aU (by repeat (first|(with_reducible first|exact HB.out|apply aD|apply ak|apply aC|refine aA ?_ Aa.out|refine aA ?_ Ad.out|refine aA ?_ Ah.out)|exact HB.out)) hb);clear zM;clear zO;clear zL;clear zS;clear HB;have zM:=Ap;have zO:=Aq;have zL:=Ar;have zS:=AA;have HB:=AO;clear Ap Aq Ar AA AO;(try clear hb);(try clear hb2);(try clear hk);(try clear hi);have MN:=AV.out;have MO:=Bl.out;have LA : Lx.cell? ⟨zY,0,none⟩ = some (.int .u64 zT):=(ay zO.out 0).trans rfl;have LB : Lx.cell? ⟨zY,1,none⟩ = some (.slice none 0 0):=(ay zO.out 1).trans rfl;have LC:=av zO.out 0;have LD:=av zO.out 1))
        refine bodyPost_ret (eH rfl _ _ zY 53 #[.int .u64 0,.slice none 0 0] (0,0) _ rfl (by (with_reducible repeat (first|apply aj|apply au|apply ah));refine aX (cs:=#[.int .u64 0,.slice none 0 0]) ?_ 1 _ rfl;(with_reducible repeat (first|apply aj|apply au|apply ah));refine aX (cs:=#[.int .u64 zT,.slice none 0 0]) ?_ 0 _ rfl;(with_reducible repeat (first|apply aj|apply au|apply ah));exact zO.out) Tryd.underlying53 rfl (by kernel_rfl)) rfl ?_
        exact ⟨_,by first|rfl|(simp [aY,aZ] <;> rfl)|(simp [*,aY,aZ] <;> rfl),by first|exact Kd.iU _ _ _ _ _|exact Kd.kV _ _ _ _ _|exact Kd.kW _ _ _ _ _|exact Kd.kR _ _ _ _ _|exact Kd.jl _ _ _ _ _,by repeat (first|(with_reducible first|exact HB.out|apply aD|apply ak|apply aC|refine aA ?_ Aa.out|refine aA ?_ Ad.out|refine aA ?_ Ah.out)|exact HB.out)⟩
end Go.Proofs.YtpmbdcljphpcnaaDoor.GC2
