/- Written by this session's own program (wip/gen.py) out of the translation: plain Lean functions of the Go functions, and proofs that the calls come to their answers. No conditions beside those in the statements. -/
import Derived.Test.YtpflenjhmeaeoaaGreatDoorCp
import Derived.Test.YtpflenjhmeaeoaaGreatDoorGUtx0
namespace Go.Proofs.YtpflenjhmeaeoaaGreatDoor.GUt
open Go.RowKit Go.Proofs.YtpflenjhmeaeoaaGreatDoorW.PrintWords Go.Proofs.YtpflenjhmeaeoaaGreatDoorW.PrintLast Go.Proofs.YtpflenjhmeaeoaaGreatDoorW.PrintMore
attribute [local go_sem] fJ fK gH gI eO eP fM fO
set_option linter.unusedVariables false
set_option linter.unusedSimpArgs false
def dI.f (a0 : Int) : Option (ByteArray):=(some (([(⟨#[97,100,100]⟩ : ByteArray),(⟨#[117,112,100,97,116,101]⟩ : ByteArray),(⟨#[114,101,109,111,118,101]⟩ : ByteArray)] : List ByteArray) : List ByteArray)).bind fun Bj=>(if a0 < 0 then (some (⟨#[110,111,110,101]⟩ : ByteArray)) else (if a0 > 2 then (some (⟨#[110,111,110,101]⟩ : ByteArray)) else (if 0 ≤ a0 then (if a0 < (Bj.length : Int) then (some (iO ByteArray.empty Bj a0)) else (none)) else (none))))
set_option maxHeartbeats 8000000 in
set_option maxRecDepth 100000 in
theorem dI.calls (a0 : Int) (r : ByteArray) (w : World) (h : dI.f a0 = some r) :
  Calls Tryz.prog 14 #[.int .i64 a0] w fun e w'=>e = .returned (.string r) ∧ Below w.heap.size w w':=by
 have HB:=Aside0.mk (Below.refl w.heap.size w)
 have H : ((some (([(⟨#[97,100,100]⟩ : ByteArray),(⟨#[117,112,100,97,116,101]⟩ : ByteArray),(⟨#[114,101,109,111,118,101]⟩ : ByteArray)] : List ByteArray) : List ByteArray)).bind fun Bj=>(if a0 < 0 then (some (⟨#[110,111,110,101]⟩ : ByteArray)) else (if a0 > 2 then (some (⟨#[110,111,110,101]⟩ : ByteArray)) else (if 0 ≤ a0 then (if a0 < (Bj.length : Int) then (some (iO ByteArray.empty Bj a0)) else (none)) else (none))))) = some r:=h
 clear h
 obtain ⟨Bj,Bp⟩ : ∃ y_ : List ByteArray,y_ = (([(⟨#[97,100,100]⟩ : ByteArray),(⟨#[117,112,100,97,116,101]⟩ : ByteArray),(⟨#[114,101,109,111,118,101]⟩ : ByteArray)] : List ByteArray)):=⟨_,rfl⟩
 replace H : (if a0 < 0 then (some (⟨#[110,111,110,101]⟩ : ByteArray)) else (if a0 > 2 then (some (⟨#[110,111,110,101]⟩ : ByteArray)) else (if 0 ≤ a0 then (if a0 < (Bj.length : Int) then (some (iO ByteArray.empty Bj a0)) else (none)) else (none)))) = some r:=by first|(rw [Bp];with_reducible exact H)|(have BH:=(Option.bind_some _ _).symm.trans H;rw [Bp];with_reducible exact BH)|(have BH:=(Option.bind_some _ _).symm.trans H;with_reducible exact BH)|with_reducible exact H|(rw [Bp];exact H)|exact H
 have Bn:=Aside0.mk Bp
 clear Bp
 by_cases c2 : a0 < 0
 ·rw [if_pos c2] at H
  have c2b0 : decide (a0 < 0) = true:=decide_eq_true c2
  clear c2
  obtain rfl:=Option.some.inj H
  go_enter Tryz.func14,Tryz.ntmps14
  go_wp2_with (first|((with_reducible refine cZ (N:=4) rfl ?_);refine Kd.pG Kd.string _ 9 ?hg (N:=4) ?hd (xs:=([(⟨#[97,100,100]⟩ : ByteArray),(⟨#[117,112,100,97,116,101]⟩ : ByteArray),(⟨#[114,101,109,111,118,101]⟩ : ByteArray)] : List ByteArray)) (inner:=[.string (⟨#[97,100,100]⟩ : ByteArray),.string (⟨#[117,112,100,97,116,101]⟩ : ByteArray),.string (⟨#[114,101,109,111,118,101]⟩ : ByteArray)]) (ok:=fun _=>True) (okp:=fun _=>True) ?hr ?hp (fun _ hk=>hk) trivial (Below.refl _ _) (Nat.le_refl _) (by simp) ?_;(case hd=>rfl);(case hg=>rfl);(case hr=>first|(go_simp;done)|(go_simp;rfl));(case hp=>exact (dX.one (show Kd.M Kd.string _ _ _ (⟨#[97,100,100]⟩ : ByteArray) [.string (⟨#[97,100,100]⟩ : ByteArray)] from rfl) (dX.one (show Kd.M Kd.string _ _ _ (⟨#[117,112,100,97,116,101]⟩ : ByteArray) [.string (⟨#[117,112,100,97,116,101]⟩ : ByteArray)] from rfl) (dX.one (show Kd.M Kd.string _ _ _ (⟨#[114,101,109,111,118,101]⟩ : ByteArray) [.string (⟨#[114,101,109,111,118,101]⟩ : ByteArray)] from rfl) (dX.none _ _)))));intro Bz w3 BD hb hg_ hnew_;clear hg_ hnew_;(first|rw [← Bn.out] at BD|(simp only [Int.reduceToNat] at BD;rw [← Bn.out] at BD));have Bq:=Aside0.mk (Kd.iD BD (aM hb_));have Br:=Aside0.mk (aK hb_ hb);clear HB;have Bt:=Bq;have HB:=Br;clear Bq Br;clear hb BD))
  go_ret
  exact ⟨by first|rfl|(simp [aY,aZ] <;> rfl)|(simp [*,aY,aZ] <;> rfl),hb_⟩
 ·rw [if_neg c2] at H
  have c2b0 : decide (a0 < 0) = false:=decide_eq_false c2
  clear c2
  by_cases c5 : a0 > 2
  ·rw [if_pos c5] at H
   have c5b0 : decide (2 < a0) = true:=decide_eq_true c5
   clear c5
   obtain rfl:=Option.some.inj H
   go_enter Tryz.func14,Tryz.ntmps14
   go_wp2_with (first|((with_reducible refine cZ (N:=4) rfl ?_);refine Kd.pG Kd.string _ 9 ?hg (N:=4) ?hd (xs:=([(⟨#[97,100,100]⟩ : ByteArray),(⟨#[117,112,100,97,116,101]⟩ : ByteArray),(⟨#[114,101,109,111,118,101]⟩ : ByteArray)] : List ByteArray)) (inner:=[.string (⟨#[97,100,100]⟩ : ByteArray),.string (⟨#[117,112,100,97,116,101]⟩ : ByteArray),.string (⟨#[114,101,109,111,118,101]⟩ : ByteArray)]) (ok:=fun _=>True) (okp:=fun _=>True) ?hr ?hp (fun _ hk=>hk) trivial (Below.refl _ _) (Nat.le_refl _) (by simp) ?_;(case hd=>rfl);(case hg=>rfl);(case hr=>first|(go_simp;done)|(go_simp;rfl));(case hp=>exact (dX.one (show Kd.M Kd.string _ _ _ (⟨#[97,100,100]⟩ : ByteArray) [.string (⟨#[97,100,100]⟩ : ByteArray)] from rfl) (dX.one (show Kd.M Kd.string _ _ _ (⟨#[117,112,100,97,116,101]⟩ : ByteArray) [.string (⟨#[117,112,100,97,116,101]⟩ : ByteArray)] from rfl) (dX.one (show Kd.M Kd.string _ _ _ (⟨#[114,101,109,111,118,101]⟩ : ByteArray) [.string (⟨#[114,101,109,111,118,101]⟩ : ByteArray)] from rfl) (dX.none _ _)))));intro Bz w6 BF hb hg_ hnew_;clear hg_ hnew_;(first|rw [← Bn.out] at BF|(simp only [Int.reduceToNat] at BF;rw [← Bn.out] at BF));have Bq:=Aside0.mk (Kd.iD BF (aM hb_));have Br:=Aside0.mk (aK hb_ hb);clear HB;have Bt:=Bq;have HB:=Br;clear Bq Br;clear hb BF))
   go_ret
   exact ⟨by first|rfl|(simp [aY,aZ] <;> rfl)|(simp [*,aY,aZ] <;> rfl),hb_⟩
  ·rw [if_neg c5] at H
   have c5b0 : decide (2 < a0) = false:=decide_eq_false c5
   clear c5
   by_cases c8 : 0 ≤ a0
   ·rw [if_pos c8] at H
    have c8b0 : decide (0 ≤ a0) = true:=decide_eq_true c8
    clear c8
    by_cases c9 : a0 < (Bj.length : Int)
    ·rw [if_pos c9] at H
     have c9b0 : decide (a0 < (Bj.length : Int)) = true:=decide_eq_true c9
     clear c9
     obtain rfl:=Option.some.inj H
     go_enter Tryz.func14,Tryz.ntmps14
     go_wp2_with (first|((with_reducible refine cZ (N:=4) rfl ?_);refine Kd.pG Kd.string _ 9 ?hg (N:=4) ?hd (xs:=([(⟨#[97,100,100]⟩ : ByteArray),(⟨#[117,112,100,97,116,101]⟩ : ByteArray),(⟨#[114,101,109,111,118,101]⟩ : ByteArray)] : List ByteArray)) (inner:=[.string (⟨#[97,100,100]⟩ : ByteArray),.string (⟨#[117,112,100,97,116,101]⟩ : ByteArray),.string (⟨#[114,101,109,111,118,101]⟩ : ByteArray)]) (ok:=fun _=>True) (okp:=fun _=>True) ?hr ?hp (fun _ hk=>hk) trivial (Below.refl _ _) (Nat.le_refl _) (by simp) ?_;(case hd=>rfl);(case hg=>rfl);(case hr=>first|(go_simp;done)|(go_simp;rfl));(case hp=>exact (dX.one (show Kd.M Kd.string _ _ _ (⟨#[97,100,100]⟩ : ByteArray) [.string (⟨#[97,100,100]⟩ : ByteArray)] from rfl) (dX.one (show Kd.M Kd.string _ _ _ (⟨#[117,112,100,97,116,101]⟩ : ByteArray) [.string (⟨#[117,112,100,97,116,101]⟩ : ByteArray)] from rfl) (dX.one (show Kd.M Kd.string _ _ _ (⟨#[114,101,109,111,118,101]⟩ : ByteArray) [.string (⟨#[114,101,109,111,118,101]⟩ : ByteArray)] from rfl) (dX.none _ _)))));intro Bz BU Bu hb hg_ hnew_;clear hg_ hnew_;(first|rw [← Bn.out] at Bu|(simp only [Int.reduceToNat] at Bu;rw [← Bn.out] at Bu));have Bq:=Aside0.mk (Kd.iD Bu (aM hb_));have Br:=Aside0.mk (aK hb_ hb);clear HB;have Bt:=Bq;have HB:=Br;clear Bq Br;clear hb Bu;obtain ⟨BQ,BR,BI⟩:=Kd.iE Bt.out;subst BI;have Bv : 0 ≤ (a0 : Int):=of_decide_eq_true (by first|(with_reducible assumption)|assumption);have Bw : a0 < (Bj.length : Int):=of_decide_eq_true (by first|(with_reducible assumption)|assumption);obtain ⟨BJ,e330,BG⟩:=Kd.iN (Kd.fI Bt.out).2.2 a0 Bv Bw;cases e330;replace Bv:=eq_true Bv;replace Bw:=eq_true Bw))
     go_ret
     exact ⟨by first|rfl|(simp [aY,aZ] <;> rfl)|(simp [*,aY,aZ] <;> rfl),hb_⟩
    ·rw [if_neg c9] at H
     exact absurd H (by simp)
   ·rw [if_neg c8] at H
    exact absurd H (by simp)
def cB.f (Bl : Int) (Bf : ByteArray) (Bh : ByteArray) : Option (ByteArray):=(dI.f Bl).bind fun AZ=>(if AZ.size + 1 ≤ 9223372036854775807 then (if (AZ ++ (⟨#[32]⟩ : ByteArray)).size + Bf.size ≤ 9223372036854775807 then (if ((AZ ++ (⟨#[32]⟩ : ByteArray)) ++ Bf).size + 1 ≤ 9223372036854775807 then (if (((AZ ++ (⟨#[32]⟩ : ByteArray)) ++ Bf) ++ (⟨#[32]⟩ : ByteArray)).size + Bh.size ≤ 9223372036854775807 then (some ((((AZ ++ (⟨#[32]⟩ : ByteArray)) ++ Bf) ++ (⟨#[32]⟩ : ByteArray)) ++ Bh)) else (none)) else (none)) else (none)) else (none))
def cB.T1 : Bool × List (List Nat × List Nat):=(true,[([],[]),([0],[0]),([1],[1]),([2],[2]),([],[]),([4],[4]),([3,5],[3,5]),([6],[6]),([],[]),([8],[8]),([7,9],[7,9]),([10,2,0,1,2,3,4,5,6,7,8,9,10],[10])])
def cB.B1 : List Nat:=[0,1,3,7,0,16,63,127,0,256,1023,2047]
theorem cB.wm : gV .any (opsOf Tryz.f12 1) = cB.T1:=by kernel_rfl
theorem cB.rF : fQ cB.T1.2 cB.B1 = true:=by kernel_rfl
set_option maxHeartbeats 8000000 in
set_option maxRecDepth 100000 in
theorem cB.calls (Bl : Int) (Bf : ByteArray) (Bh : ByteArray) (r : ByteArray) (w : World) (h : cB.f Bl Bf Bh = some r) :
  Calls Tryz.prog 12 #[.agg #[.int .i64 Bl,.string Bf,.string Bh]] w fun e w'=>e = .returned (.string r) ∧ Below w.heap.size w w':=by
 have BS:=Tryz.underlying43
 have HB:=Aside0.mk (Below.refl w.heap.size w)
 have H : ((dI.f Bl).bind fun AZ=>(if AZ.size + 1 ≤ 9223372036854775807 then (if (AZ ++ (⟨#[32]⟩ : ByteArray)).size + Bf.size ≤ 9223372036854775807 then (if ((AZ ++ (⟨#[32]⟩ : ByteArray)) ++ Bf).size + 1 ≤ 9223372036854775807 then (if (((AZ ++ (⟨#[32]⟩ : ByteArray)) ++ Bf) ++ (⟨#[32]⟩ : ByteArray)).size + Bh.size ≤ 9223372036854775807 then (some ((((AZ ++ (⟨#[32]⟩ : ByteArray)) ++ Bf) ++ (⟨#[32]⟩ : ByteArray)) ++ Bh)) else (none)) else (none)) else (none)) else (none))) = some r:=h
 clear h
 replace H:=Option.bind_eq_some_iff.mp H
 obtain ⟨AZ,BK,H⟩:=H
 replace H : (if AZ.size + 1 ≤ 9223372036854775807 then (if (AZ ++ (⟨#[32]⟩ : ByteArray)).size + Bf.size ≤ 9223372036854775807 then (if ((AZ ++ (⟨#[32]⟩ : ByteArray)) ++ Bf).size + 1 ≤ 9223372036854775807 then (if (((AZ ++ (⟨#[32]⟩ : ByteArray)) ++ Bf) ++ (⟨#[32]⟩ : ByteArray)).size + Bh.size ≤ 9223372036854775807 then (some ((((AZ ++ (⟨#[32]⟩ : ByteArray)) ++ Bf) ++ (⟨#[32]⟩ : ByteArray)) ++ Bh)) else (none)) else (none)) else (none)) else (none)) = some r:=H
 have A2:=Aside0.mk BK
 clear BK
 by_cases c3 : AZ.size + 1 ≤ 9223372036854775807
 ·rw [if_pos c3] at H
  have c3b0:=eq_true c3
  have c3b1 : decide (AZ.size + 1 ≤ 9223372036854775807) = true:=decide_eq_true c3
  try have c3b2 : (9223372036854775807 < AZ.size + 1) = False:=eq_false (Nat.not_lt.2 c3)
  by_cases c4 : (AZ ++ (⟨#[32]⟩ : ByteArray)).size + Bf.size ≤ 9223372036854775807
  ·rw [if_pos c4] at H
   have c4b0:=eq_true c4
   have c4b1 : decide ((AZ ++ (⟨#[32]⟩ : ByteArray)).size + Bf.size ≤ 9223372036854775807) = true:=decide_eq_true c4
   try have c4b2 : (9223372036854775807 < (AZ ++ (⟨#[32]⟩ : ByteArray)).size + Bf.size) = False:=eq_false (Nat.not_lt.2 c4)
   have c4s:=c4
   try simp only [ByteArray.size_append,show (⟨#[32]⟩ : ByteArray).size = 1 from rfl] at c4s
   try have c4s0:=eq_false (Nat.not_lt.2 c4s)
   try have c4s1:=eq_true c4s
   by_cases c5 : ((AZ ++ (⟨#[32]⟩ : ByteArray)) ++ Bf).size + 1 ≤ 9223372036854775807
   ·rw [if_pos c5] at H
    have c5b0:=eq_true c5
    have c5b1 : decide (((AZ ++ (⟨#[32]⟩ : ByteArray)) ++ Bf).size + 1 ≤ 9223372036854775807) = true:=decide_eq_true c5
    try have c5b2 : (9223372036854775807 < ((AZ ++ (⟨#[32]⟩ : ByteArray)) ++ Bf).size + 1) = False:=eq_false (Nat.not_lt.2 c5)
    have c5s:=c5
    try simp only [ByteArray.size_append,show (⟨#[32]⟩ : ByteArray).size = 1 from rfl] at c5s
    try have c5s0:=eq_false (Nat.not_lt.2 c5s)
    try have c5s1:=eq_true c5s
    by_cases c6 : (((AZ ++ (⟨#[32]⟩ : ByteArray)) ++ Bf) ++ (⟨#[32]⟩ : ByteArray)).size + Bh.size ≤ 9223372036854775807
    ·rw [if_pos c6] at H
     have c6b0:=eq_true c6
     have c6b1 : decide ((((AZ ++ (⟨#[32]⟩ : ByteArray)) ++ Bf) ++ (⟨#[32]⟩ : ByteArray)).size + Bh.size ≤ 9223372036854775807) = true:=decide_eq_true c6
     try have c6b2 : (9223372036854775807 < (((AZ ++ (⟨#[32]⟩ : ByteArray)) ++ Bf) ++ (⟨#[32]⟩ : ByteArray)).size + Bh.size) = False:=eq_false (Nat.not_lt.2 c6)
     have c6s:=c6
     try simp only [ByteArray.size_append,show (⟨#[32]⟩ : ByteArray).size = 1 from rfl] at c6s
     try have c6s0:=eq_false (Nat.not_lt.2 c6s)
     try have c6s1:=eq_true c6s
     obtain rfl:=Option.some.inj H
     go_enter Tryz.func12,Tryz.ntmps12
     try go_wp2_with (first|((with_reducible refine cZ (N:=1) rfl ?_);refine dA ?hg (N:=1) ?hd (cs:=#[.int .i64 Bl,.string Bf,.string Bh]) (t:=43) ?hr ?_;(case hd=>rfl);(case hg=>rfl);(case hr=>first|(go_simp;done)|(go_simp;rfl));intro Bo hg w7 hbox hb;have Bq:=Aside0.mk (aK hb_ hb);have Br:=Aside0.mk (hbox);have BL:=Aside0.mk ((by rw [hg];exact (aM hb_) : w.heap.size ≤ Bo));have BN:=Aside0.mk ((by rw [hg];exact (aM hb_) : w.heap.size ≤ Bo));clear HB;have HB:=Bq;have Bg:=Br;have BO:=BL;have BP:=BN;clear Bq Br BL BN;clear hb hbox hg))
     have Bq:=Aside0.mk (aG Bg.out)
     have Br:=Aside0.mk (bB HB.out)
     clear Bg
     clear HB
     have Bg:=Bq
     have HB:=Br
     clear Bq Br
     refine fU (n:=12) (S:=fun w'=>w'.cell? ⟨Bo,0,none⟩ = some (.int .i64 Bl) ∧ w'.cell? ⟨Bo,1,none⟩ = some (.string Bf) ∧ w'.cell? ⟨Bo,2,none⟩ = some (.string Bh)) (ds:=[]) #[O,O,O,O,O,O,O,O,O,O,O,O] (by kernel_rfl) rfl rfl ⟨(ah Bg.out 0).trans rfl,(ah Bg.out 1).trans rfl,(ah Bg.out 2).trans rfl⟩ (fun hHeld=>?_);refine dY cB.wm cB.rF (fun HT_ HW_=>?_)
     generalize w7.drew = w8 at Bg HB hHeld ⊢
     refine pu_ 0 3 #[I,O,O,O,O,O,O,O,O,O,O,O] HT_.out ?_
     refine pu_ 4 7 #[I,O,O,O,I,O,O,O,O,O,O,O] HT_.out ?_
     refine pu_ 8 11 #[I,O,O,O,I,O,O,O,I,O,O,O] HT_.out ?_
     refine ta_ 1 4 #[I,I,O,O,I,O,O,O,I,O,O,O] HT_.out HW_.out hHeld ?_
     refine ta_ 5 8 #[I,I,O,O,I,I,O,O,I,O,O,O] HT_.out HW_.out hHeld ?_
     refine ta_ 9 12 #[I,I,O,O,I,I,O,O,I,I,O,O] HT_.out HW_.out hHeld ?_
     refine gq (i:=2) (N:=some 5) #[I,I,I,O,I,I,O,O,I,I,O,O] rfl rfl (dD HT_.out (by kernel_rfl)) (by decide) (fun K hK=>?_)
     refine eX Tryz.func14 (by kernel_rfl) rfl #[.int .i64 Bl] (by rfl) rfl rfl (by (try simp only [List.map_toArray,List.map_cons,List.map_nil]);first|done|rfl|(simp only [List.length_drop,List.length_take];rfl)) ?_
     with_reducible refine (dI.calls Bl AZ _ A2.out).mono ?_
     rintro e w9 ⟨rfl,hb⟩
     refine ⟨_,rfl,?_⟩
     have Bq:=Aside0.mk (aN (g:=Bo) (o:=.cells #[.int .i64 Bl,.string Bf,.string Bh] 43 (0,0)) (bk_ Bg.out) hb)
     have Br:=Aside0.mk (aK hb_ hb)
     clear Bg
     clear HB
     have Bg:=Bq
     have HB:=Br
     clear Bq Br
     (try clear hb)
     (try clear hb2)
     (try clear hk)
     (try clear hi)
     refine hK.out _ _ ⟨(ah Bg.out 0).trans rfl,(ah Bg.out 1).trans rfl,(ah Bg.out 2).trans rfl⟩ (fun hHeld=>?_)
     clear hK K
     refine dW (a':=?_) ?_ ?_
     rotate_left
     ·show Act.put _ (some 5) _ = _
      simp only [Act.put,List.setIfInBounds_toArray,List.set_cons_zero,List.set_cons_succ,bJ,bM]
      rfl
     refine pu_ 3 6 #[I,I,I,I,I,I,O,O,I,I,O,O] HT_.out ?_
     refine pu_ 6 9 #[I,I,I,I,I,I,I,O,I,I,O,O] HT_.out ?_
     refine pu_ 7 10 #[I,I,I,I,I,I,I,I,I,I,O,O] HT_.out ?_
     refine pu_ 10 13 #[I,I,I,I,I,I,I,I,I,I,I,O] HT_.out ?_
     refine pu_ 11 2 #[I,I,I,I,I,I,I,I,I,I,I,I] HT_.out ?_
     refine gP (fF HT_.out (by kernel_rfl)) ?_
     try go_wp2
     go_ret
     exact ⟨by first|rfl|(simp [aY,aZ] <;> rfl)|(simp [*,aY,aZ] <;> rfl),hb_⟩
    ·rw [if_neg c6] at H
     exact absurd H (by simp)
   ·rw [if_neg c5] at H
    exact absurd H (by simp)
  ·rw [if_neg c4] at H
   exact absurd H (by simp)
 ·rw [if_neg c3] at H
  exact absurd H (by simp)
end Go.Proofs.YtpflenjhmeaeoaaGreatDoor.GUt
