/- Written by this session's own program (wip/gen.py) out of the translation: plain Lean functions of the Go functions, and proofs that the calls come to their answers. No conditions beside those in the statements. -/
import Derived.Test.YtpflenjhmeaeoaaGreatDoorCp
import Derived.Test.YtpflenjhmeaeoaaGreatDoorGUtx0
import Derived.Test.YtpflenjhmeaeoaaGreatDoorGUtx6
import Derived.Test.YtpflenjhmeaeoaaGreatDoorGUtx7
import Derived.Test.YtpflenjhmeaeoaaGreatDoorGUtx8
import Derived.Test.YtpflenjhmeaeoaaGreatDoorGUtx19
import Derived.Test.YtpflenjhmeaeoaaGreatDoorGW
namespace Go.Proofs.YtpflenjhmeaeoaaGreatDoor.GUt
open Go.RowKit Go.Proofs.YtpflenjhmeaeoaaGreatDoorW.PrintWords Go.Proofs.YtpflenjhmeaeoaaGreatDoorW.PrintLast Go.Proofs.YtpflenjhmeaeoaaGreatDoorW.PrintMore
attribute [local go_sem] fJ fK gH gI eO eP fM fO
set_option linter.unusedVariables false
set_option linter.unusedSimpArgs false
def bQ.f (k : Nat)  : Option (Bool):=(dw.f).bind fun Bg=>((av.f k 0 ([] : List (S51)) 0 (([(⟨(⟨#[97]⟩ : ByteArray),(⟨Bg.1,Bg.2.1,Bg.2.2.1,Bg.2.2.2.1,Bg.2.2.2.2.1,Bg.2.2.2.2.2⟩ : S49)⟩ : S51)] : List (S51)))).bind fun AZ=>((cO.f k).bind fun Bw=>(if Bw = true then (if (AZ.length : Int) = 1 then (if 0 < (AZ.length : Int) then ((bI.f ((eT AZ 0).f0) ((eT AZ 0).f1) ((eT AZ 0).f2)).bind fun Bj=>(some (Bj.toList == ([97,100,100,32,97,32,119,101,98] : List UInt8)))) else (none)) else (some false)) else (some false))))
theorem bQ.mono : ∀ k,LeO (bQ.f k ) (bQ.f (k + 1) ):=by
 intro  k
 unfold bQ.f
 repeat' first
   | (with_reducible exact cO.mono _)
   | (with_reducible exact av.mono _ _ _ _ _)
   | (with_reducible exact LeO.refl _)
   | (with_reducible exact LeO.none _)
   | (with_reducible refine LeO.ite ?_ ?_)
   | (with_reducible refine LeO.bind ?_ (fun _=>?_))
   | exact cO.mono _
   | exact av.mono _ _ _ _ _
   | exact LeO.none _
   | refine LeO.ite ?_ ?_
   | refine LeO.bind ?_ (fun _=>?_)
set_option maxHeartbeats 8000000 in
set_option maxRecDepth 100000 in
theorem bQ.lS (k : Nat)  (r : Bool) (w : World) (h : bQ.f k  = some r) (hG : GW.GW w) (hT : r = true) :
  Calls Tryz.prog 6 #[] w fun e w'=>e = .returned (.bool r) ∧ Below w.heap.size w w':=by
 have HTr:=Aside0.mk hT
 clear hT
 have Cz:=Tryz.underlying25
 have CB:=Tryz.underlying51
 have CF:=Tryz.underlying30
 have HB:=Aside0.mk (Below.refl w.heap.size w)
 have H : ((dw.f).bind fun Bg=>((av.f k 0 ([] : List (S51)) 0 (([(⟨(⟨#[97]⟩ : ByteArray),(⟨Bg.1,Bg.2.1,Bg.2.2.1,Bg.2.2.2.1,Bg.2.2.2.2.1,Bg.2.2.2.2.2⟩ : S49)⟩ : S51)] : List (S51)))).bind fun AZ=>((cO.f k).bind fun Bw=>(if Bw = true then (if (AZ.length : Int) = 1 then (if 0 < (AZ.length : Int) then ((bI.f ((eT AZ 0).f0) ((eT AZ 0).f1) ((eT AZ 0).f2)).bind fun Bj=>(some (Bj.toList == ([97,100,100,32,97,32,119,101,98] : List UInt8)))) else (none)) else (some false)) else (some false))))) = some r:=h
 clear h
 replace H:=Option.bind_eq_some_iff.mp H
 obtain ⟨⟨Bl,Bn,Bo,Bp,Bq,Br⟩,Cn,H⟩:=H
 replace H : ((av.f k 0 ([] : List (S51)) 0 (([(⟨(⟨#[97]⟩ : ByteArray),(⟨Bl,Bn,Bo,Bp,Bq,Br⟩ : S49)⟩ : S51)] : List (S51)))).bind fun AZ=>((cO.f k).bind fun Bw=>(if Bw = true then (if (AZ.length : Int) = 1 then (if 0 < (AZ.length : Int) then ((bI.f ((eT AZ 0).f0) ((eT AZ 0).f1) ((eT AZ 0).f2)).bind fun Bj=>(some (Bj.toList == ([97,100,100,32,97,32,119,101,98] : List UInt8)))) else (none)) else (some false)) else (some false)))) = some r:=H
 have A1:=Aside0.mk Cn
 clear Cn
 obtain ⟨BJ,BG⟩ : ∃ y_ : List (S51),y_ = (([(⟨(⟨#[97]⟩ : ByteArray),(⟨Bl,Bn,Bo,Bp,Bq,Br⟩ : S49)⟩ : S51)] : List (S51))):=⟨_,rfl⟩
 replace H : ((av.f k 0 ([] : List (S51)) 0 BJ).bind fun AZ=>((cO.f k).bind fun Bw=>(if Bw = true then (if (AZ.length : Int) = 1 then (if 0 < (AZ.length : Int) then ((bI.f ((eT AZ 0).f0) ((eT AZ 0).f1) ((eT AZ 0).f2)).bind fun Bj=>(some (Bj.toList == ([97,100,100,32,97,32,119,101,98] : List UInt8)))) else (none)) else (some false)) else (some false)))) = some r:=by first|(rw [BG];with_reducible exact H)|(have BU:=(Option.bind_some _ _).symm.trans H;rw [BG];with_reducible exact BU)|(have BU:=(Option.bind_some _ _).symm.trans H;with_reducible exact BU)|with_reducible exact H|(rw [BG];exact H)|exact H
 have BH:=Aside0.mk BG
 clear BG
 replace H:=Option.bind_eq_some_iff.mp H
 obtain ⟨AZ,Co,H⟩:=H
 replace H : ((cO.f k).bind fun Bw=>(if Bw = true then (if (AZ.length : Int) = 1 then (if 0 < (AZ.length : Int) then ((bI.f ((eT AZ 0).f0) ((eT AZ 0).f1) ((eT AZ 0).f2)).bind fun Bj=>(some (Bj.toList == ([97,100,100,32,97,32,119,101,98] : List UInt8)))) else (none)) else (some false)) else (some false))) = some r:=H
 have A2:=Aside0.mk Co
 clear Co
 replace H:=Option.bind_eq_some_iff.mp H
 obtain ⟨Bw,Cq,H⟩:=H
 replace H : (if Bw = true then (if (AZ.length : Int) = 1 then (if 0 < (AZ.length : Int) then ((bI.f ((eT AZ 0).f0) ((eT AZ 0).f1) ((eT AZ 0).f2)).bind fun Bj=>(some (Bj.toList == ([97,100,100,32,97,32,119,101,98] : List UInt8)))) else (none)) else (some false)) else (some false)) = some r:=H
 have A3:=Aside0.mk Cq
 clear Cq
 by_cases c4 : Bw = true
 ·subst c4
  have H1 : (if (AZ.length : Int) = 1 then (if 0 < (AZ.length : Int) then ((bI.f ((eT AZ 0).f0) ((eT AZ 0).f1) ((eT AZ 0).f2)).bind fun Bj=>(some (Bj.toList == ([97,100,100,32,97,32,119,101,98] : List UInt8)))) else (none)) else (some false)) = some r:=by rw [if_pos rfl] at H;exact H
  clear H
  have H:=H1
  clear H1
  by_cases c5 : (AZ.length : Int) = 1
  ·rw [if_pos c5] at H
   have c5b0 : ((AZ.length : Int) == 1) = true:=beq_iff_eq.mpr c5
   have c5b1 : ((AZ.length : Int) != 1) = false:=bne_eq_false_iff_eq.mpr c5
   clear c5
   by_cases c6 : 0 < (AZ.length : Int)
   ·rw [if_pos c6] at H
    have c6b0 : decide (0 < (AZ.length : Int)) = true:=decide_eq_true c6
    have c6b1 : decide (0 < AZ.length) = true:=decide_eq_true (by omega)
    clear c6
    replace H:=Option.bind_eq_some_iff.mp H
    obtain ⟨Bj,Cr,H⟩:=H
    replace H : (some (Bj.toList == ([97,100,100,32,97,32,119,101,98] : List UInt8))) = some r:=H
    have A7:=Aside0.mk Cr
    clear Cr
    obtain rfl:=Option.some.inj H
    go_enter Tryz.func6,Tryz.ntmps6
    go_wp2_with (first|((with_reducible refine bF (f:=16) rfl ?_);refine dN (some 3) rfl rfl Tryz.func16 (by kernel_rfl) rfl #[] rfl (by (try simp only [List.map_toArray,List.map_cons,List.map_nil]);first|done|rfl|(simp only [List.length_drop,List.length_take];rfl)|(simp (disch:=first|omega|(simp at *;omega)) only [dO,dG,eH];rfl)) ?_;(with_reducible refine (dw.calls  Bl Bn Bo Bp Bq Br _ A1.out).mono ?_);rintro e w8 ⟨BX,rfl,ho0,hb⟩;refine ⟨_,rfl,?_⟩;have Bu:=Aside0.mk (Kd.nN (Kd.je (ok':=fun k_=>True) (Kd.S_N (Kd.qw ho0)) (fun k_ hk_=>trivial)) (aM hb_));have Bv:=Aside0.mk (aK hb_ hb);clear HB;have Bt:=Bu;have HB:=Bv;clear Bu Bv;(try clear hb);(try clear hb2);(try clear hk);(try clear hi);(try clear ho0);obtain ⟨Ct,Cu,CG⟩:=Kd.jC Bt.out;subst CG)|((with_reducible refine cZ (N:=5) rfl ?_);(try (refine iw (by rfl) ?_;dsimp only));refine Kd.pQ k51 _ 51 ?hg (N':=5) ?hd (xs:=([(⟨(⟨#[97]⟩ : ByteArray),(⟨Bl,Bn,Bo,Bp,Bq,Br⟩ : S49)⟩ : S51)] : List (S51))) (inner:=[.string (⟨#[97]⟩ : ByteArray),.string Bl,.string Bn,.int .i64 Bo,.int .i64 Bp,.bool Bq,.slice Ct Br.length Cu]) (ok:=(fun _=>True)) (okp:=(fun _=>True)) ?hr ?hp (fun _ hk=>hk) ((show ∀ k_,w8.heap.size ≤ k_ → (fun _=>True) k_ from fun k_ hk=>trivial) _ (Nat.le_refl _)) (Below.refl _ _) (Nat.le_refl _) (by simp) ?_;(case hd=>rfl);(case hg=>rfl);(case hr=>first|(go_simp;done)|(go_simp;rfl));(case hp=>exact (dX.c7 (show Kd.FK k51 _ _ (⟨(⟨#[97]⟩ : ByteArray),(⟨Bl,Bn,Bo,Bp,Bq,Br⟩ : S49)⟩ : S51) [.string (⟨#[97]⟩ : ByteArray),.string Bl,.string Bn,.int .i64 Bo,.int .i64 Bp,.bool Bq,.slice Ct Br.length Cu] from (tH _ _ (⟨(⟨#[97]⟩ : ByteArray),(⟨Bl,Bn,Bo,Bp,Bq,Br⟩ : S49)⟩ : S51) (Kd.mo (Kd.je (ok':=(fun _=>True)) (Bt.out) (fun k_ hk=>trivial))).2.1 (Kd.N_F (Kd.je (ok':=(fun _=>True)) (Bt.out) (fun k_ hk=>trivial))))) (dX.none _ _)));intro BZ CS BK hb hg_ hnew_;clear hg_ hnew_;(first|rw [← BH.out] at BK|(simp only [Int.reduceToNat] at BK;rw [← BH.out] at BK));have Bu:=Aside0.mk (Kd.nN BK (aM hb_));have Bv:=Aside0.mk (aK hb_ hb);clear HB;clear Bt;have Bf:=Bu;have HB:=Bv;clear Bu Bv;clear hb BK;obtain ⟨Ca,Cb,Cc⟩:=Kd.jC Bf.out;subst Cc)|((with_reducible refine bF (f:=8) rfl ?_);refine dN (some 7) rfl rfl Tryz.func8 (by kernel_rfl) rfl #[.agg #[.int .u64 0,.slice none 0 0],.agg #[.int .u64 0,.slice Ca BJ.length Cb]] rfl (by (try simp only [List.map_toArray,List.map_cons,List.map_nil]);first|done|rfl|(simp only [List.length_drop,List.length_take];rfl)|(simp (disch:=first|omega|(simp at *;omega)) only [dO,dG,eH];rfl)) ?_;(refine (av.calls k 0 (fun k_=>False) _ _ ([] : List (S51)) 0 (fun k_=>True) _ _ BJ AZ _ ?BL ?BN A2.out).mono ?_);(case BL=>exact Kd.rA _ _ _ _ _);(case BN=>exact Kd.N_V (Bf.out));rintro e CU ⟨Ce,rfl,ho0,hb⟩;refine ⟨_,rfl,?_⟩;have Bu:=Aside0.mk (Kd.rz (by (with_reducible repeat (first|apply Kd.mg|apply Kd.mh|apply Kd.oo));exact Bf.out) (Kd.jo ho0) hb);have Bv:=Aside0.mk (Kd.iD (Kd.gW (ok':=fun k_=>True) ho0 (fun _ hk_=>trivial)) (aM hb_));have BI:=Aside0.mk (aK hb_ hb);clear Bf;clear HB;have Bf:=Bu;have Bh:=Bv;have HB:=BI;clear Bu Bv BI;(try clear hb);(try clear hb2);(try clear hk);(try clear hi);(try clear ho0))|((with_reducible refine bF (f:=17) rfl ?_);refine dN (some 8) rfl rfl Tryz.func17 (by kernel_rfl) rfl #[] rfl (by (try simp only [List.map_toArray,List.map_cons,List.map_nil]);first|done|rfl|(simp only [List.length_drop,List.length_take];rfl)|(simp (disch:=first|omega|(simp at *;omega)) only [dO,dG,eH];rfl)) ?_;(with_reducible refine (cO.calls k  true _ A3.out (by first|assumption|exact GW.below hG (by first|exact HB.out|assumption|(repeat (first|(with_reducible first|exact HB.out|apply bV|apply aW|apply bB)|exact HB.out)))|exact GW.drawn hG (by first|assumption|(repeat (first|exact Drawn0.refl _|assumption|apply Drawn0.step))))).mono ?_);rintro e CV ⟨rfl,hb⟩;refine ⟨_,rfl,?_⟩;have Bu:=Aside0.mk (Kd.jL (by (with_reducible repeat (first|apply Kd.mg|apply Kd.mh|apply Kd.oo));exact Bf.out) hb);have Bv:=Aside0.mk (Kd.fu (kr_ Bh.out) hb);have BI:=Aside0.mk (aK hb_ hb);clear Bf;clear Bh;clear HB;have Bf:=Bu;have Bh:=Bv;have HB:=BI;clear Bu Bv BI;(try clear hb);(try clear hb2);(try clear hk);(try clear hi);obtain ⟨CJ,CK,Cg⟩:=Kd.iE Bh.out;subst Cg;have BP : 0 ≤ (0 : Int):=(by omega);have BQ : 0 < (AZ.length : Int):=of_decide_eq_true (by first|(with_reducible assumption)|assumption);obtain ⟨Cv,e271,Bz,BD,BF⟩:=lN (Kd.fI Bh.out).2.2 0 BP BQ;cases e271;have Cw : (0 < AZ.length) = True:=eq_true (by omega);(try rw [show ((0 : Int)).toNat = 0 from rfl] at Bz);(try rw [show 0 * 3 = 0 from rfl] at Bz);(try rw [Addr.add_zero'] at Bz);(try rw [show ((0 : Int)).toNat = 0 from rfl] at BD);(try rw [show 0 * 3 = 0 from rfl] at BD);(try rw [Addr.add_zero'] at BD);(try rw [show ((0 : Int)).toNat = 0 from rfl] at BF);(try rw [show 0 * 3 = 0 from rfl] at BF);(try rw [Addr.add_zero'] at BF);replace BP:=eq_true BP;replace BQ:=eq_true BQ)|(go_at_call 11;(with_reducible refine (bI.calls ((eT AZ 0).f0) ((eT AZ 0).f1) ((eT AZ 0).f2) Bj _ A7.out).mono ?_);rintro e w16 ⟨rfl,hb⟩;have Bu:=Aside0.mk (Kd.jL (by (with_reducible repeat (first|apply Kd.mg|apply Kd.mh|apply Kd.oo));exact Bf.out) hb);have Bv:=Aside0.mk (Kd.fu (kr_ Bh.out) hb);have BI:=Aside0.mk (aK hb_ hb);clear Bf;clear Bh;clear HB;have Bf:=Bu;have Bh:=Bv;have HB:=BI;clear Bu Bv BI;(try clear hb);(try clear hb2);(try clear hk);(try clear hi)))
    go_ret
    exact ⟨by first|rfl|(simp [aY,aZ] <;> rfl)|(simp [*,aY,aZ] <;> rfl),hb_⟩
   ·rw [if_neg c6] at H
    exact absurd H (by simp)
  ·rw [if_neg c5] at H
   have c5b0 : ((AZ.length : Int) == 1) = false:=beq_eq_false_iff_ne.mpr c5
   have c5b1 : ((AZ.length : Int) != 1) = true:=bne_iff_ne.mpr c5
   obtain rfl:=Option.some.inj H
   go_enter Tryz.func6,Tryz.ntmps6
   go_wp2_with (first|((with_reducible refine bF (f:=16) rfl ?_);refine dN (some 3) rfl rfl Tryz.func16 (by kernel_rfl) rfl #[] rfl (by (try simp only [List.map_toArray,List.map_cons,List.map_nil]);first|done|rfl|(simp only [List.length_drop,List.length_take];rfl)|(simp (disch:=first|omega|(simp at *;omega)) only [dO,dG,eH];rfl)) ?_;(with_reducible refine (dw.calls  Bl Bn Bo Bp Bq Br _ A1.out).mono ?_);rintro e CO ⟨BX,rfl,ho0,hb⟩;refine ⟨_,rfl,?_⟩;have Bu:=Aside0.mk (Kd.nN (Kd.je (ok':=fun k_=>True) (Kd.S_N (Kd.qw ho0)) (fun k_ hk_=>trivial)) (aM hb_));have Bv:=Aside0.mk (aK hb_ hb);clear HB;have Bt:=Bu;have HB:=Bv;clear Bu Bv;(try clear hb);(try clear hb2);(try clear hk);(try clear hi);(try clear ho0);obtain ⟨BR,BS,Ch⟩:=Kd.jC Bt.out;subst Ch)|((with_reducible refine cZ (N:=5) rfl ?_);(try (refine iw (by rfl) ?_;dsimp only));refine Kd.pQ k51 _ 51 ?hg (N':=5) ?hd (xs:=([(⟨(⟨#[97]⟩ : ByteArray),(⟨Bl,Bn,Bo,Bp,Bq,Br⟩ : S49)⟩ : S51)] : List (S51))) (inner:=[.string (⟨#[97]⟩ : ByteArray),.string Bl,.string Bn,.int .i64 Bo,.int .i64 Bp,.bool Bq,.slice BR Br.length BS]) (ok:=(fun _=>True)) (okp:=(fun _=>True)) ?hr ?hp (fun _ hk=>hk) ((show ∀ k_,CO.heap.size ≤ k_ → (fun _=>True) k_ from fun k_ hk=>trivial) _ (Nat.le_refl _)) (Below.refl _ _) (Nat.le_refl _) (by simp) ?_;(case hd=>rfl);(case hg=>rfl);(case hr=>first|(go_simp;done)|(go_simp;rfl));(case hp=>exact (dX.c7 (show Kd.FK k51 _ _ (⟨(⟨#[97]⟩ : ByteArray),(⟨Bl,Bn,Bo,Bp,Bq,Br⟩ : S49)⟩ : S51) [.string (⟨#[97]⟩ : ByteArray),.string Bl,.string Bn,.int .i64 Bo,.int .i64 Bp,.bool Bq,.slice BR Br.length BS] from (tH _ _ (⟨(⟨#[97]⟩ : ByteArray),(⟨Bl,Bn,Bo,Bp,Bq,Br⟩ : S49)⟩ : S51) (Kd.mo (Kd.je (ok':=(fun _=>True)) (Bt.out) (fun k_ hk=>trivial))).2.1 (Kd.N_F (Kd.je (ok':=(fun _=>True)) (Bt.out) (fun k_ hk=>trivial))))) (dX.none _ _)));intro BZ CW BO hb hg_ hnew_;clear hg_ hnew_;(first|rw [← BH.out] at BO|(simp only [Int.reduceToNat] at BO;rw [← BH.out] at BO));have Bu:=Aside0.mk (Kd.nN BO (aM hb_));have Bv:=Aside0.mk (aK hb_ hb);clear HB;clear Bt;have Bf:=Bu;have HB:=Bv;clear Bu Bv;clear hb BO;obtain ⟨Ci,Cj,Ck⟩:=Kd.jC Bf.out;subst Ck)|((with_reducible refine bF (f:=8) rfl ?_);refine dN (some 7) rfl rfl Tryz.func8 (by kernel_rfl) rfl #[.agg #[.int .u64 0,.slice none 0 0],.agg #[.int .u64 0,.slice Ci BJ.length Cj]] rfl (by (try simp only [List.map_toArray,List.map_cons,List.map_nil]);first|done|rfl|(simp only [List.length_drop,List.length_take];rfl)|(simp (disch:=first|omega|(simp at *;omega)) only [dO,dG,eH];rfl)) ?_;(refine (av.calls k 0 (fun k_=>False) _ _ ([] : List (S51)) 0 (fun k_=>True) _ _ BJ AZ _ ?BL ?BN A2.out).mono ?_);(case BL=>exact Kd.rA _ _ _ _ _);(case BN=>exact Kd.N_V (Bf.out));rintro e CX ⟨Ce,rfl,ho0,hb⟩;refine ⟨_,rfl,?_⟩;have Bu:=Aside0.mk (Kd.rz (by (with_reducible repeat (first|apply Kd.mg|apply Kd.mh|apply Kd.oo));exact Bf.out) (Kd.jo ho0) hb);have Bv:=Aside0.mk (Kd.iD (Kd.gW (ok':=fun k_=>True) ho0 (fun _ hk_=>trivial)) (aM hb_));have BI:=Aside0.mk (aK hb_ hb);clear Bf;clear HB;have Bf:=Bu;have Bh:=Bv;have HB:=BI;clear Bu Bv BI;(try clear hb);(try clear hb2);(try clear hk);(try clear hi);(try clear ho0))|((with_reducible refine bF (f:=17) rfl ?_);refine dN (some 8) rfl rfl Tryz.func17 (by kernel_rfl) rfl #[] rfl (by (try simp only [List.map_toArray,List.map_cons,List.map_nil]);first|done|rfl|(simp only [List.length_drop,List.length_take];rfl)|(simp (disch:=first|omega|(simp at *;omega)) only [dO,dG,eH];rfl)) ?_;(with_reducible refine (cO.calls k  true _ A3.out (by first|assumption|exact GW.below hG (by first|exact HB.out|assumption|(repeat (first|(with_reducible first|exact HB.out|apply bV|apply aW|apply bB)|exact HB.out)))|exact GW.drawn hG (by first|assumption|(repeat (first|exact Drawn0.refl _|assumption|apply Drawn0.step))))).mono ?_);rintro e CY ⟨rfl,hb⟩;refine ⟨_,rfl,?_⟩;have Bu:=Aside0.mk (Kd.jL (by (with_reducible repeat (first|apply Kd.mg|apply Kd.mh|apply Kd.oo));exact Bf.out) hb);have Bv:=Aside0.mk (Kd.fu (kr_ Bh.out) hb);have BI:=Aside0.mk (aK hb_ hb);clear Bf;clear Bh;clear HB;have Bf:=Bu;have Bh:=Bv;have HB:=BI;clear Bu Bv BI;(try clear hb);(try clear hb2);(try clear hk);(try clear hi);obtain ⟨CP,CQ,Cm⟩:=Kd.iE Bh.out;subst Cm))
   go_ret
   exact ⟨by first|rfl|(simp [aY,aZ] <;> rfl)|(simp [*,aY,aZ] <;> rfl),hb_⟩
 ·replace c4:=Bool.eq_false_iff.mpr c4
  subst c4
  have H1 : (some false) = some r:=by rw [if_neg (show ¬ (false = true) by decide)] at H;exact H
  clear H
  have H:=H1
  clear H1
  exact absurd ((Option.some.inj H).trans HTr.out) (by decide)
theorem bQ.calls (k : Nat)  (r : Bool) (w : World) (h : bQ.f k  = some r) (hG : GW.GW w) :   Calls Tryz.prog 6 #[] w fun e w'=>e = .returned (.bool r) ∧ Below w.heap.size w w':=by
 cases r with
 | true=>exact bQ.lS k true w h hG rfl
 | false=>
  exfalso
  have a : bQ.f 60 = some true:=by decide +kernel
  have b:=iQ (g:=fun k=>bQ.f k) (fun k=>bQ.mono k) (Nat.le_max_left k 60) h
  have c:=iQ (g:=fun k=>bQ.f k) (fun k=>bQ.mono k) (Nat.le_max_right k 60) a
  exact Bool.noConfusion (Option.some.inj (b.symm.trans c))
end Go.Proofs.YtpflenjhmeaeoaaGreatDoor.GUt
