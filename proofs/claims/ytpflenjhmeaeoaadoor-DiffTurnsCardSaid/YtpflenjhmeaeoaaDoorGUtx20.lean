/- Written by this session's own program (wip/gen.py) out of the translation: plain Lean functions of the Go functions, and proofs that the calls come to their answers. No conditions beside those in the statements. -/
import Derived.Test.YtpflenjhmeaeoaaDoorCp
import Derived.Test.YtpflenjhmeaeoaaDoorGUtx0
import Derived.Test.YtpflenjhmeaeoaaDoorGUtx6
import Derived.Test.YtpflenjhmeaeoaaDoorGUtx7
import Derived.Test.YtpflenjhmeaeoaaDoorGUtx18
import Derived.Test.YtpflenjhmeaeoaaDoorGUtx19
import Derived.Test.YtpflenjhmeaeoaaDoorGW
namespace Go.Proofs.YtpflenjhmeaeoaaDoor.GUt
open Go.RowKit Go.Proofs.YtpflenjhmeaeoaaDoorW.PrintWords Go.Proofs.YtpflenjhmeaeoaaDoorW.PrintLast Go.Proofs.YtpflenjhmeaeoaaDoorW.PrintMore
attribute [local go_sem] fC fD gu gD eP eT fE fF
set_option linter.unusedVariables false
set_option linter.unusedSimpArgs false
def bJ.f (k : Nat)  : Option (Bool):=(bX.f).bind fun Aq=>((aA.f k 0 ([] : List (S102)) 0 (([(⟨(⟨#[97]⟩ : ByteArray),(⟨Aq.1,Aq.2.1,Aq.2.2.1,Aq.2.2.2.1,Aq.2.2.2.2.1,Aq.2.2.2.2.2⟩ : S25)⟩ : S102)] : List (S102)))).bind fun Al=>((dJ.f k).bind fun AP=>(if AP = true then (if (Al.length : Int) = 1 then (if 0 < (Al.length : Int) then ((cK.f ((dB Al 0).f0) ((dB Al 0).f1) ((dB Al 0).f2)).bind fun AO=>(some (AO.toList == ([97,100,100,32,97,32,119,101,98] : List UInt8)))) else (none)) else (some false)) else (some false))))
theorem bJ.mono : ∀ k,LeO (bJ.f k ) (bJ.f (k + 1) ):=by
 intro  k
 unfold bJ.f
 repeat' first
   | (with_reducible exact dJ.mono _)
   | (with_reducible exact aA.mono _ _ _ _ _)
   | (with_reducible exact LeO.refl _)
   | (with_reducible exact LeO.none _)
   | (with_reducible refine LeO.ite ?_ ?_)
   | (with_reducible refine LeO.bind ?_ (fun _=>?_))
   | exact dJ.mono _
   | exact aA.mono _ _ _ _ _
   | exact LeO.none _
   | refine LeO.ite ?_ ?_
   | refine LeO.bind ?_ (fun _=>?_)
set_option maxHeartbeats 8000000 in
set_option maxRecDepth 100000 in
theorem bJ.calls (k : Nat)  (r : Bool) (w : World) (h : bJ.f k  = some r) (hG : GW.GW w) :
  Calls Tryd.prog 26 #[] w fun e w'=>e = .returned (.bool r) ∧ Below w.heap.size w w':=by
 have Ci:=Tryd.underlying59
 have BU:=Tryd.underlying102
 have Cj:=Tryd.underlying65
 have HB:=Aside0.mk (Below.refl w.heap.size w)
 have H : ((bX.f).bind fun Aq=>((aA.f k 0 ([] : List (S102)) 0 (([(⟨(⟨#[97]⟩ : ByteArray),(⟨Aq.1,Aq.2.1,Aq.2.2.1,Aq.2.2.2.1,Aq.2.2.2.2.1,Aq.2.2.2.2.2⟩ : S25)⟩ : S102)] : List (S102)))).bind fun Al=>((dJ.f k).bind fun AP=>(if AP = true then (if (Al.length : Int) = 1 then (if 0 < (Al.length : Int) then ((cK.f ((dB Al 0).f0) ((dB Al 0).f1) ((dB Al 0).f2)).bind fun AO=>(some (AO.toList == ([97,100,100,32,97,32,119,101,98] : List UInt8)))) else (none)) else (some false)) else (some false))))) = some r:=h
 clear h
 replace H:=Option.bind_eq_some_iff.mp H
 obtain ⟨⟨Au,Aw,Ay,Az,AA,AB⟩,BX,H⟩:=H
 replace H : ((aA.f k 0 ([] : List (S102)) 0 (([(⟨(⟨#[97]⟩ : ByteArray),(⟨Au,Aw,Ay,Az,AA,AB⟩ : S25)⟩ : S102)] : List (S102)))).bind fun Al=>((dJ.f k).bind fun AP=>(if AP = true then (if (Al.length : Int) = 1 then (if 0 < (Al.length : Int) then ((cK.f ((dB Al 0).f0) ((dB Al 0).f1) ((dB Al 0).f2)).bind fun AO=>(some (AO.toList == ([97,100,100,32,97,32,119,101,98] : List UInt8)))) else (none)) else (some false)) else (some false)))) = some r:=H
 have A1:=Aside0.mk BX
 clear BX
 obtain ⟨Bh,AZ⟩ : ∃ y_ : List (S102),y_ = (([(⟨(⟨#[97]⟩ : ByteArray),(⟨Au,Aw,Ay,Az,AA,AB⟩ : S25)⟩ : S102)] : List (S102))):=⟨_,rfl⟩
 replace H : ((aA.f k 0 ([] : List (S102)) 0 Bh).bind fun Al=>((dJ.f k).bind fun AP=>(if AP = true then (if (Al.length : Int) = 1 then (if 0 < (Al.length : Int) then ((cK.f ((dB Al 0).f0) ((dB Al 0).f1) ((dB Al 0).f2)).bind fun AO=>(some (AO.toList == ([97,100,100,32,97,32,119,101,98] : List UInt8)))) else (none)) else (some false)) else (some false)))) = some r:=by first|(rw [AZ];with_reducible exact H)|(have BD:=(Option.bind_some _ _).symm.trans H;rw [AZ];with_reducible exact BD)|(have BD:=(Option.bind_some _ _).symm.trans H;with_reducible exact BD)|with_reducible exact H|(rw [AZ];exact H)|exact H
 have AQ:=Aside0.mk AZ
 clear AZ
 replace H:=Option.bind_eq_some_iff.mp H
 obtain ⟨Al,BZ,H⟩:=H
 replace H : ((dJ.f k).bind fun AP=>(if AP = true then (if (Al.length : Int) = 1 then (if 0 < (Al.length : Int) then ((cK.f ((dB Al 0).f0) ((dB Al 0).f1) ((dB Al 0).f2)).bind fun AO=>(some (AO.toList == ([97,100,100,32,97,32,119,101,98] : List UInt8)))) else (none)) else (some false)) else (some false))) = some r:=H
 have A2:=Aside0.mk BZ
 clear BZ
 replace H:=Option.bind_eq_some_iff.mp H
 obtain ⟨AP,Ca,H⟩:=H
 replace H : (if AP = true then (if (Al.length : Int) = 1 then (if 0 < (Al.length : Int) then ((cK.f ((dB Al 0).f0) ((dB Al 0).f1) ((dB Al 0).f2)).bind fun AO=>(some (AO.toList == ([97,100,100,32,97,32,119,101,98] : List UInt8)))) else (none)) else (some false)) else (some false)) = some r:=H
 have A3:=Aside0.mk Ca
 clear Ca
 by_cases c4 : AP = true
 ·subst c4
  have H1 : (if (Al.length : Int) = 1 then (if 0 < (Al.length : Int) then ((cK.f ((dB Al 0).f0) ((dB Al 0).f1) ((dB Al 0).f2)).bind fun AO=>(some (AO.toList == ([97,100,100,32,97,32,119,101,98] : List UInt8)))) else (none)) else (some false)) = some r:=by rw [if_pos rfl] at H;exact H
  clear H
  have H:=H1
  clear H1
  by_cases c5 : (Al.length : Int) = 1
  ·rw [if_pos c5] at H
   have c5b0 : ((Al.length : Int) == 1) = true:=beq_iff_eq.mpr c5
   have c5b1 : ((Al.length : Int) != 1) = false:=bne_eq_false_iff_eq.mpr c5
   clear c5
   by_cases c6 : 0 < (Al.length : Int)
   ·rw [if_pos c6] at H
    have c6b0 : decide (0 < (Al.length : Int)) = true:=decide_eq_true c6
    have c6b1 : decide (0 < Al.length) = true:=decide_eq_true (by omega)
    clear c6
    replace H:=Option.bind_eq_some_iff.mp H
    obtain ⟨AO,Cb,H⟩:=H
    replace H : (some (AO.toList == ([97,100,100,32,97,32,119,101,98] : List UInt8))) = some r:=H
    have A7:=Aside0.mk Cb
    clear Cb
    obtain rfl:=Option.some.inj H
    go_enter Tryd.func26,Tryd.ntmps26
    go_wp2_with (first|((with_reducible refine bq (f:=31) rfl ?_);refine cO (some 3) rfl rfl Tryd.func31 (by kernel_rfl) rfl #[] rfl (by (try simp only [List.map_toArray,List.map_cons,List.map_nil]);first|done|rfl|(simp only [List.length_drop,List.length_take];rfl)|(simp (disch:=first|omega|(simp at *;omega)) only [cZ,bS,dQ];rfl)) ?_;(with_reducible refine (bX.calls  Au Aw Ay Az AA AB _ A1.out).mono ?_);rintro e w8 ⟨Bq,rfl,ho0,hb⟩;refine ⟨_,rfl,?_⟩;have AJ:=Aside0.mk (Kd.kR (Kd.iF (ok':=fun k_=>True) (Kd.S_N (Kd.nG ho0)) (fun k_ hk_=>trivial)) (aY hb_));have AL:=Aside0.mk (aJ hb_ hb);clear HB;have Ap:=AJ;have HB:=AL;clear AJ AL;(try clear hb);(try clear hb2);(try clear hk);(try clear hi);(try clear ho0);obtain ⟨Cc,Ce,Ck⟩:=Kd.iT Ap.out;subst Ck)|((with_reducible refine dA (N:=5) rfl ?_);(try (refine gH (by rfl) ?_;dsimp only));refine Kd.nX fP _ 102 ?hg (N':=5) ?hd (xs:=([(⟨(⟨#[97]⟩ : ByteArray),(⟨Au,Aw,Ay,Az,AA,AB⟩ : S25)⟩ : S102)] : List (S102))) (inner:=[.string (⟨#[97]⟩ : ByteArray),.string Au,.string Aw,.int .i64 Ay,.int .i64 Az,.bool AA,.slice Cc AB.length Ce]) (ok:=(fun _=>True)) (okp:=(fun _=>True)) ?hr ?hp (fun _ hk=>hk) ((show ∀ k_,w8.heap.size ≤ k_ → (fun _=>True) k_ from fun k_ hk=>trivial) _ (Nat.le_refl _)) (Below.refl _ _) (Nat.le_refl _) (by simp) ?_;(case hd=>rfl);(case hg=>rfl);(case hr=>first|(go_simp;done)|(go_simp;rfl));(case hp=>exact (dX.c7 (show Kd.FK fP _ _ (⟨(⟨#[97]⟩ : ByteArray),(⟨Au,Aw,Ay,Az,AA,AB⟩ : S25)⟩ : S102) [.string (⟨#[97]⟩ : ByteArray),.string Au,.string Aw,.int .i64 Ay,.int .i64 Az,.bool AA,.slice Cc AB.length Ce] from (oh _ _ (⟨(⟨#[97]⟩ : ByteArray),(⟨Au,Aw,Ay,Az,AA,AB⟩ : S25)⟩ : S102) (Kd.kE (Kd.iF (ok':=(fun _=>True)) (Ap.out) (fun k_ hk=>trivial))).2.1 (Kd.N_F (Kd.iF (ok':=(fun _=>True)) (Ap.out) (fun k_ hk=>trivial))))) (dX.none _ _)));intro Br Cu Bj hb hg_ hnew_;clear hg_ hnew_;(first|rw [← AQ.out] at Bj|(simp only [Int.reduceToNat] at Bj;rw [← AQ.out] at Bj));have AJ:=Aside0.mk (Kd.kR Bj (aY hb_));have AL:=Aside0.mk (aJ hb_ hb);clear HB;clear Ap;have Am:=AJ;have HB:=AL;clear AJ AL;clear hb Bj;obtain ⟨BF,BG,BH⟩:=Kd.iT Am.out;subst BH)|((with_reducible refine bq (f:=27) rfl ?_);refine cO (some 7) rfl rfl Tryd.func27 (by kernel_rfl) rfl #[.agg #[.int .u64 0,.slice none 0 0],.agg #[.int .u64 0,.slice BF Bh.length BG]] rfl (by (try simp only [List.map_toArray,List.map_cons,List.map_nil]);first|done|rfl|(simp only [List.length_drop,List.length_take];rfl)|(simp (disch:=first|omega|(simp at *;omega)) only [cZ,bS,dQ];rfl)) ?_;(refine (aA.calls k 0 (fun k_=>False) _ _ ([] : List (S102)) 0 (fun k_=>True) _ _ Bh Al _ ?Bf ?Bg A2.out).mono ?_);(case Bf=>exact Kd.sI _ _ _ _ _);(case Bg=>exact Kd.N_V (Am.out));rintro e Cv ⟨Bt,rfl,ho0,hb⟩;refine ⟨_,rfl,?_⟩;have AJ:=Aside0.mk (Kd.nW (by (with_reducible repeat (first|apply Kd.jY|apply Kd.jZ|apply Kd.lG));exact Am.out) (Kd.iX ho0) hb);have AL:=Aside0.mk (Kd.iI (Kd.gQ (ok':=fun k_=>True) ho0 (fun _ hk_=>trivial)) (aY hb_));have AU:=Aside0.mk (aJ hb_ hb);clear Am;clear HB;have Am:=AJ;have Ao:=AL;have HB:=AU;clear AJ AL AU;(try clear hb);(try clear hb2);(try clear hk);(try clear hi);(try clear ho0))|((with_reducible refine bq (f:=57) rfl ?_);refine cO (some 8) rfl rfl Tryd.func57 (by kernel_rfl) rfl #[] rfl (by (try simp only [List.map_toArray,List.map_cons,List.map_nil]);first|done|rfl|(simp only [List.length_drop,List.length_take];rfl)|(simp (disch:=first|omega|(simp at *;omega)) only [cZ,bS,dQ];rfl)) ?_;(with_reducible refine (dJ.calls k  true _ A3.out (by first|assumption|exact GW.below hG (by first|exact HB.out|assumption|(repeat (first|(with_reducible first|exact HB.out|apply bG|apply aT|apply aZ)|exact HB.out)))|exact GW.drawn hG (by first|assumption|(repeat (first|exact Drawn0.refl _|assumption|apply Drawn0.step))))).mono ?_);rintro e Cw ⟨rfl,hb⟩;refine ⟨_,rfl,?_⟩;have AJ:=Aside0.mk (Kd.jl (by (with_reducible repeat (first|apply Kd.jY|apply Kd.jZ|apply Kd.lG));exact Am.out) hb);have AL:=Aside0.mk (Kd.fZ (kr_ Ao.out) hb);have AU:=Aside0.mk (aJ hb_ hb);clear Am;clear Ao;clear HB;have Am:=AJ;have Ao:=AL;have HB:=AU;clear AJ AL AU;(try clear hb);(try clear hb2);(try clear hk);(try clear hi);obtain ⟨Cm,Cn,BI⟩:=Kd.ig Ao.out;subst BI;have Bo : 0 ≤ (0 : Int):=(by omega);have Bp : 0 < (Al.length : Int):=of_decide_eq_true (by first|(with_reducible assumption)|assumption);obtain ⟨Cg,e273,AV,AX,AY⟩:=oo (Kd.gI Ao.out).2.2 0 Bo Bp;cases e273;have Ch : (0 < Al.length) = True:=eq_true (by omega);(try rw [show ((0 : Int)).toNat = 0 from rfl] at AV);(try rw [show 0 * 3 = 0 from rfl] at AV);(try rw [Addr.add_zero'] at AV);(try rw [show ((0 : Int)).toNat = 0 from rfl] at AX);(try rw [show 0 * 3 = 0 from rfl] at AX);(try rw [Addr.add_zero'] at AX);(try rw [show ((0 : Int)).toNat = 0 from rfl] at AY);(try rw [show 0 * 3 = 0 from rfl] at AY);(try rw [Addr.add_zero'] at AY);replace Bo:=eq_true Bo;replace Bp:=eq_true Bp)|(go_at_call 58;(with_reducible refine (cK.calls ((dB Al 0).f0) ((dB Al 0).f1) ((dB Al 0).f2) AO _ A7.out).mono ?_);rintro e w16 ⟨rfl,hb⟩;have AJ:=Aside0.mk (Kd.jl (by (with_reducible repeat (first|apply Kd.jY|apply Kd.jZ|apply Kd.lG));exact Am.out) hb);have AL:=Aside0.mk (Kd.fZ (kr_ Ao.out) hb);have AU:=Aside0.mk (aJ hb_ hb);clear Am;clear Ao;clear HB;have Am:=AJ;have Ao:=AL;have HB:=AU;clear AJ AL AU;(try clear hb);(try clear hb2);(try clear hk);(try clear hi)))
    go_ret
    exact ⟨by first|rfl|(simp [aV,aW] <;> rfl)|(simp [*,aV,aW] <;> rfl),hb_⟩
   ·rw [if_neg c6] at H
    exact absurd H (by simp)
  ·rw [if_neg c5] at H
   have c5b0 : ((Al.length : Int) == 1) = false:=beq_eq_false_iff_ne.mpr c5
   have c5b1 : ((Al.length : Int) != 1) = true:=bne_iff_ne.mpr c5
   obtain rfl:=Option.some.inj H
   go_enter Tryd.func26,Tryd.ntmps26
   go_wp2_with (first|((with_reducible refine bq (f:=31) rfl ?_);refine cO (some 3) rfl rfl Tryd.func31 (by kernel_rfl) rfl #[] rfl (by (try simp only [List.map_toArray,List.map_cons,List.map_nil]);first|done|rfl|(simp only [List.length_drop,List.length_take];rfl)|(simp (disch:=first|omega|(simp at *;omega)) only [cZ,bS,dQ];rfl)) ?_;(with_reducible refine (bX.calls  Au Aw Ay Az AA AB _ A1.out).mono ?_);rintro e Co ⟨Bq,rfl,ho0,hb⟩;refine ⟨_,rfl,?_⟩;have AJ:=Aside0.mk (Kd.kR (Kd.iF (ok':=fun k_=>True) (Kd.S_N (Kd.nG ho0)) (fun k_ hk_=>trivial)) (aY hb_));have AL:=Aside0.mk (aJ hb_ hb);clear HB;have Ap:=AJ;have HB:=AL;clear AJ AL;(try clear hb);(try clear hb2);(try clear hk);(try clear hi);(try clear ho0);obtain ⟨Bu,Bv,BJ⟩:=Kd.iT Ap.out;subst BJ)|((with_reducible refine dA (N:=5) rfl ?_);(try (refine gH (by rfl) ?_;dsimp only));refine Kd.nX fP _ 102 ?hg (N':=5) ?hd (xs:=([(⟨(⟨#[97]⟩ : ByteArray),(⟨Au,Aw,Ay,Az,AA,AB⟩ : S25)⟩ : S102)] : List (S102))) (inner:=[.string (⟨#[97]⟩ : ByteArray),.string Au,.string Aw,.int .i64 Ay,.int .i64 Az,.bool AA,.slice Bu AB.length Bv]) (ok:=(fun _=>True)) (okp:=(fun _=>True)) ?hr ?hp (fun _ hk=>hk) ((show ∀ k_,Co.heap.size ≤ k_ → (fun _=>True) k_ from fun k_ hk=>trivial) _ (Nat.le_refl _)) (Below.refl _ _) (Nat.le_refl _) (by simp) ?_;(case hd=>rfl);(case hg=>rfl);(case hr=>first|(go_simp;done)|(go_simp;rfl));(case hp=>exact (dX.c7 (show Kd.FK fP _ _ (⟨(⟨#[97]⟩ : ByteArray),(⟨Au,Aw,Ay,Az,AA,AB⟩ : S25)⟩ : S102) [.string (⟨#[97]⟩ : ByteArray),.string Au,.string Aw,.int .i64 Ay,.int .i64 Az,.bool AA,.slice Bu AB.length Bv] from (oh _ _ (⟨(⟨#[97]⟩ : ByteArray),(⟨Au,Aw,Ay,Az,AA,AB⟩ : S25)⟩ : S102) (Kd.kE (Kd.iF (ok':=(fun _=>True)) (Ap.out) (fun k_ hk=>trivial))).2.1 (Kd.N_F (Kd.iF (ok':=(fun _=>True)) (Ap.out) (fun k_ hk=>trivial))))) (dX.none _ _)));intro Br Cz Bl hb hg_ hnew_;clear hg_ hnew_;(first|rw [← AQ.out] at Bl|(simp only [Int.reduceToNat] at Bl;rw [← AQ.out] at Bl));have AJ:=Aside0.mk (Kd.kR Bl (aY hb_));have AL:=Aside0.mk (aJ hb_ hb);clear HB;clear Ap;have Am:=AJ;have HB:=AL;clear AJ AL;clear hb Bl;obtain ⟨BK,BL,BN⟩:=Kd.iT Am.out;subst BN)|((with_reducible refine bq (f:=27) rfl ?_);refine cO (some 7) rfl rfl Tryd.func27 (by kernel_rfl) rfl #[.agg #[.int .u64 0,.slice none 0 0],.agg #[.int .u64 0,.slice BK Bh.length BL]] rfl (by (try simp only [List.map_toArray,List.map_cons,List.map_nil]);first|done|rfl|(simp only [List.length_drop,List.length_take];rfl)|(simp (disch:=first|omega|(simp at *;omega)) only [cZ,bS,dQ];rfl)) ?_;(refine (aA.calls k 0 (fun k_=>False) _ _ ([] : List (S102)) 0 (fun k_=>True) _ _ Bh Al _ ?Bf ?Bg A2.out).mono ?_);(case Bf=>exact Kd.sI _ _ _ _ _);(case Bg=>exact Kd.N_V (Am.out));rintro e CB ⟨Bt,rfl,ho0,hb⟩;refine ⟨_,rfl,?_⟩;have AJ:=Aside0.mk (Kd.nW (by (with_reducible repeat (first|apply Kd.jY|apply Kd.jZ|apply Kd.lG));exact Am.out) (Kd.iX ho0) hb);have AL:=Aside0.mk (Kd.iI (Kd.gQ (ok':=fun k_=>True) ho0 (fun _ hk_=>trivial)) (aY hb_));have AU:=Aside0.mk (aJ hb_ hb);clear Am;clear HB;have Am:=AJ;have Ao:=AL;have HB:=AU;clear AJ AL AU;(try clear hb);(try clear hb2);(try clear hk);(try clear hi);(try clear ho0))|((with_reducible refine bq (f:=57) rfl ?_);refine cO (some 8) rfl rfl Tryd.func57 (by kernel_rfl) rfl #[] rfl (by (try simp only [List.map_toArray,List.map_cons,List.map_nil]);first|done|rfl|(simp only [List.length_drop,List.length_take];rfl)|(simp (disch:=first|omega|(simp at *;omega)) only [cZ,bS,dQ];rfl)) ?_;(with_reducible refine (dJ.calls k  true _ A3.out (by first|assumption|exact GW.below hG (by first|exact HB.out|assumption|(repeat (first|(with_reducible first|exact HB.out|apply bG|apply aT|apply aZ)|exact HB.out)))|exact GW.drawn hG (by first|assumption|(repeat (first|exact Drawn0.refl _|assumption|apply Drawn0.step))))).mono ?_);rintro e CF ⟨rfl,hb⟩;refine ⟨_,rfl,?_⟩;have AJ:=Aside0.mk (Kd.jl (by (with_reducible repeat (first|apply Kd.jY|apply Kd.jZ|apply Kd.lG));exact Am.out) hb);have AL:=Aside0.mk (Kd.fZ (kr_ Ao.out) hb);have AU:=Aside0.mk (aJ hb_ hb);clear Am;clear Ao;clear HB;have Am:=AJ;have Ao:=AL;have HB:=AU;clear AJ AL AU;(try clear hb);(try clear hb2);(try clear hk);(try clear hi);obtain ⟨Cq,Cr,BO⟩:=Kd.ig Ao.out;subst BO))
   go_ret
   exact ⟨by first|rfl|(simp [aV,aW] <;> rfl)|(simp [*,aV,aW] <;> rfl),hb_⟩
 ·replace c4:=Bool.eq_false_iff.mpr c4
  subst c4
  have H1 : (some false) = some r:=by rw [if_neg (show ¬ (false = true) by decide)] at H;exact H
  clear H
  have H:=H1
  clear H1
  obtain rfl:=Option.some.inj H
  go_enter Tryd.func26,Tryd.ntmps26
  go_wp2_with (first|((with_reducible refine bq (f:=31) rfl ?_);refine cO (some 3) rfl rfl Tryd.func31 (by kernel_rfl) rfl #[] rfl (by (try simp only [List.map_toArray,List.map_cons,List.map_nil]);first|done|rfl|(simp only [List.length_drop,List.length_take];rfl)|(simp (disch:=first|omega|(simp at *;omega)) only [cZ,bS,dQ];rfl)) ?_;(with_reducible refine (bX.calls  Au Aw Ay Az AA AB _ A1.out).mono ?_);rintro e Ct ⟨Bq,rfl,ho0,hb⟩;refine ⟨_,rfl,?_⟩;have AJ:=Aside0.mk (Kd.kR (Kd.iF (ok':=fun k_=>True) (Kd.S_N (Kd.nG ho0)) (fun k_ hk_=>trivial)) (aY hb_));have AL:=Aside0.mk (aJ hb_ hb);clear HB;have Ap:=AJ;have HB:=AL;clear AJ AL;(try clear hb);(try clear hb2);(try clear hk);(try clear hi);(try clear ho0);obtain ⟨Bw,Bz,BP⟩:=Kd.iT Ap.out;subst BP)|((with_reducible refine dA (N:=5) rfl ?_);(try (refine gH (by rfl) ?_;dsimp only));refine Kd.nX fP _ 102 ?hg (N':=5) ?hd (xs:=([(⟨(⟨#[97]⟩ : ByteArray),(⟨Au,Aw,Ay,Az,AA,AB⟩ : S25)⟩ : S102)] : List (S102))) (inner:=[.string (⟨#[97]⟩ : ByteArray),.string Au,.string Aw,.int .i64 Ay,.int .i64 Az,.bool AA,.slice Bw AB.length Bz]) (ok:=(fun _=>True)) (okp:=(fun _=>True)) ?hr ?hp (fun _ hk=>hk) ((show ∀ k_,Ct.heap.size ≤ k_ → (fun _=>True) k_ from fun k_ hk=>trivial) _ (Nat.le_refl _)) (Below.refl _ _) (Nat.le_refl _) (by simp) ?_;(case hd=>rfl);(case hg=>rfl);(case hr=>first|(go_simp;done)|(go_simp;rfl));(case hp=>exact (dX.c7 (show Kd.FK fP _ _ (⟨(⟨#[97]⟩ : ByteArray),(⟨Au,Aw,Ay,Az,AA,AB⟩ : S25)⟩ : S102) [.string (⟨#[97]⟩ : ByteArray),.string Au,.string Aw,.int .i64 Ay,.int .i64 Az,.bool AA,.slice Bw AB.length Bz] from (oh _ _ (⟨(⟨#[97]⟩ : ByteArray),(⟨Au,Aw,Ay,Az,AA,AB⟩ : S25)⟩ : S102) (Kd.kE (Kd.iF (ok':=(fun _=>True)) (Ap.out) (fun k_ hk=>trivial))).2.1 (Kd.N_F (Kd.iF (ok':=(fun _=>True)) (Ap.out) (fun k_ hk=>trivial))))) (dX.none _ _)));intro Br CG Bn hb hg_ hnew_;clear hg_ hnew_;(first|rw [← AQ.out] at Bn|(simp only [Int.reduceToNat] at Bn;rw [← AQ.out] at Bn));have AJ:=Aside0.mk (Kd.kR Bn (aY hb_));have AL:=Aside0.mk (aJ hb_ hb);clear HB;clear Ap;have Am:=AJ;have HB:=AL;clear AJ AL;clear hb Bn;obtain ⟨BQ,BR,BS⟩:=Kd.iT Am.out;subst BS)|((with_reducible refine bq (f:=27) rfl ?_);refine cO (some 7) rfl rfl Tryd.func27 (by kernel_rfl) rfl #[.agg #[.int .u64 0,.slice none 0 0],.agg #[.int .u64 0,.slice BQ Bh.length BR]] rfl (by (try simp only [List.map_toArray,List.map_cons,List.map_nil]);first|done|rfl|(simp only [List.length_drop,List.length_take];rfl)|(simp (disch:=first|omega|(simp at *;omega)) only [cZ,bS,dQ];rfl)) ?_;(refine (aA.calls k 0 (fun k_=>False) _ _ ([] : List (S102)) 0 (fun k_=>True) _ _ Bh Al _ ?Bf ?Bg A2.out).mono ?_);(case Bf=>exact Kd.sI _ _ _ _ _);(case Bg=>exact Kd.N_V (Am.out));rintro e CJ ⟨Bt,rfl,ho0,hb⟩;refine ⟨_,rfl,?_⟩;have AJ:=Aside0.mk (Kd.nW (by (with_reducible repeat (first|apply Kd.jY|apply Kd.jZ|apply Kd.lG));exact Am.out) (Kd.iX ho0) hb);have AL:=Aside0.mk (Kd.iI (Kd.gQ (ok':=fun k_=>True) ho0 (fun _ hk_=>trivial)) (aY hb_));have AU:=Aside0.mk (aJ hb_ hb);clear Am;clear HB;have Am:=AJ;have Ao:=AL;have HB:=AU;clear AJ AL AU;(try clear hb);(try clear hb2);(try clear hk);(try clear hi);(try clear ho0))|((with_reducible refine bq (f:=57) rfl ?_);refine cO (some 8) rfl rfl Tryd.func57 (by kernel_rfl) rfl #[] rfl (by (try simp only [List.map_toArray,List.map_cons,List.map_nil]);first|done|rfl|(simp only [List.length_drop,List.length_take];rfl)|(simp (disch:=first|omega|(simp at *;omega)) only [cZ,bS,dQ];rfl)) ?_;(with_reducible refine (dJ.calls k  false _ A3.out (by first|assumption|exact GW.below hG (by first|exact HB.out|assumption|(repeat (first|(with_reducible first|exact HB.out|apply bG|apply aT|apply aZ)|exact HB.out)))|exact GW.drawn hG (by first|assumption|(repeat (first|exact Drawn0.refl _|assumption|apply Drawn0.step))))).mono ?_);rintro e CK ⟨rfl,hb⟩;refine ⟨_,rfl,?_⟩;have AJ:=Aside0.mk (Kd.jl (by (with_reducible repeat (first|apply Kd.jY|apply Kd.jZ|apply Kd.lG));exact Am.out) hb);have AL:=Aside0.mk (Kd.fZ (kr_ Ao.out) hb);have AU:=Aside0.mk (aJ hb_ hb);clear Am;clear Ao;clear HB;have Am:=AJ;have Ao:=AL;have HB:=AU;clear AJ AL AU;(try clear hb);(try clear hb2);(try clear hk);(try clear hi)))
  go_ret
  exact ⟨by first|rfl|(simp [aV,aW] <;> rfl)|(simp [*,aV,aW] <;> rfl),hb_⟩
end Go.Proofs.YtpflenjhmeaeoaaDoor.GUt
