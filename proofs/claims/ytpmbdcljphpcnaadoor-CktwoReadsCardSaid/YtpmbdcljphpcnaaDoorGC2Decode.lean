/- cktwo.Decode: its contract. No conditions beside those stated. -/
import Derived.Test.YtpmbdcljphpcnaaDoorGC2Dec1
import Derived.Test.YtpmbdcljphpcnaaDoorGC2x9
namespace Go.Proofs.YtpmbdcljphpcnaaDoor.GC2
open Go.RowKit Go.Proofs.YtpmbdcljphpcnaaDoorW.PrintWords Go.Proofs.YtpmbdcljphpcnaaDoorW.PrintLast Go.Proofs.YtpmbdcljphpcnaaDoorW.PrintMore
set_option linter.unusedVariables false
set_option linter.unusedSimpArgs false
theorem OutI.ret {w0 w : World} {gT gt gs gf gr : Nat} {rest : ByteArray} {err seq : Int} {full : Bool} {ok : Nat → Prop} {us : Value} {ps : List Pod2} (h : OutI w0 w gT gt gs gf gr rest err seq full ok us ps) (a b : Value) (hge : w0.heap.size ≤ gr) :
  ((w.setCell ⟨gr,0,none⟩ a).setCell ⟨gr,1,none⟩ b).heap[gr]? = some (.cells #[a,b] 49 (0,0)) ∧ Kd.S k98 98 ((w.setCell ⟨gr,0,none⟩ a).setCell ⟨gr,1,none⟩ b) w0.heap.size ok us ps ∧ Below w0.heap.size w0 ((w.setCell ⟨gr,0,none⟩ a).setCell ⟨gr,1,none⟩ b) :=
 have h0:=aX h.r 0 a rfl
 ⟨aX h0 1 b rfl,Kd.qZ (Kd.qZ h.S h.r (by decide) 0 a) h0 (by decide) 1 b,aA (aA h.B hge) hge⟩
set_option maxHeartbeats 16000000 in
set_option maxRecDepth 100000 in
theorem dx.calls (k : Nat) (a0 : ByteArray) (r1 : Int) (r2 : List Pod2) (r3 : Int) (w : World) (h : dx.f k a0 = some (r1,r2,r3)) :
  Calls Tryd.prog 31 #[.string a0] w fun e w'=>∃ zM : Value,e = .returned (.tuple #[.agg #[.int .u64 r1,zM],.int .i64 r3]) ∧ Kd.S k98 98 w' w.heap.size (fun _=>True) zM r2 ∧ Below w.heap.size w w':=by
 obtain ⟨s,hs,h⟩:=Option.bind_eq_some_iff.1 h
 obtain ⟨m,hm,h⟩:=Option.bind_eq_some_iff.1 h
 obtain ⟨⟨okk,rest,err,full,ps⟩,hr,h⟩:=Option.bind_eq_some_iff.1 h
 have HR:=Aside0.mk (ko hr)
 have HM:=Aside0.mk hm
 have HS:=Aside0.mk hs
 clear hr hm hs
 have HH:=Aside0.mk h
 clear h
 go_enter Tryd.func31,Tryd.ntmps31
 go_upto_region 2 with (fail)
 obtain ⟨W0,hW0⟩ : ∃ W0,((w.alloc (.cells #[.int .u64 0,.slice none 0 0] 49)).alloc (.cells #[.string a0,.int .i64 0] 86)).alloc (.cells #[.pointer (some ⟨w.heap.size + 1,0,none⟩)] 84) = W0:=⟨_,rfl⟩
 rw [hW0]
 have z1 : (w.alloc (.cells #[.int .u64 0,.slice none 0 0] 49)).heap.size = w.heap.size + 1:=by simp
 have z2 : ((w.alloc (.cells #[.int .u64 0,.slice none 0 0] 49)).alloc (.cells #[.string a0,.int .i64 0] 86)).heap.size = w.heap.size + 1 + 1:=by simp
 have b0:=ah (ah (ig w (.cells #[.int .u64 0,.slice none 0 0] 49)) (.cells #[.string a0,.int .i64 0] 86)) (.cells #[.pointer (some ⟨w.heap.size + 1,0,none⟩)] 84)
 have b1:=ah (ig (w.alloc (.cells #[.int .u64 0,.slice none 0 0] 49)) (.cells #[.string a0,.int .i64 0] 86)) (.cells #[.pointer (some ⟨w.heap.size + 1,0,none⟩)] 84)
 have b2:=ig ((w.alloc (.cells #[.int .u64 0,.slice none 0 0] 49)).alloc (.cells #[.string a0,.int .i64 0] 86)) (.cells #[.pointer (some ⟨w.heap.size + 1,0,none⟩)] 84)
 have hB:=aD (aD (aD (Below.refl w.heap.size w) (.cells #[.int .u64 0,.slice none 0 0] 49)) (.cells #[.string a0,.int .i64 0] 86)) (.cells #[.pointer (some ⟨w.heap.size + 1,0,none⟩)] 84)
 rw [z1] at b1
 rw [z2] at b2
 rw [hW0] at b0 b1 b2 hB
 obtain ⟨gT,hgT⟩ : ∃ gT,w.heap.size + 1 = gT:=⟨_,rfl⟩
 rw [hgT] at b1 b2 ⊢
 obtain ⟨gt,hgt⟩ : ∃ gt,gT + 1 = gt:=⟨_,rfl⟩
 rw [hgt] at b2 ⊢
 have T0 : Aside0 (bC w W0 gT a0 0):=⟨⟨b1,by omega⟩⟩
 have HB:=Aside0.mk hB
 have B0:=Aside0.mk b0
 have B2:=Aside0.mk b2
 have c2 : W0.cell? ⟨gt,0,none⟩ = some (.pointer (some ⟨gT,0,none⟩)):=(ay B2.out 0).trans rfl
 clear b0 b1 b2 hB hW0 z1 z2 hgT hgt
 go_upto_region 4 with (first | (go_at_call 48;refine (aR.calls k gT a0 0 8 _ _ _ w _ T0.out HB.out HS.out).mono ?_;rintro e w1 ⟨rfl,hi,hb,hk⟩;have T1:=Aside0.mk hi;have B3:=Aside0.mk (bO.blk hk B0.out (Ne.symm (T0.out.fK B0.out (by decide))) (by simp));have B4:=Aside0.mk (bO.blk hk B2.out (Ne.symm (T0.out.fK B2.out (by decide))) (by simp));have HB1:=Aside0.mk hb;clear hi hb hk))
 obtain ⟨W3,hW3⟩ : ∃ W3,(w1.alloc (.cells #[.int .u64 s.1,.slice none 0 0] 49)).alloc (.cells #[.bool false] 4) = W3:=⟨_,rfl⟩
 rw [hW3]
 have z1 : (w1.alloc (.cells #[.int .u64 s.1,.slice none 0 0] 49)).heap.size = w1.heap.size + 1:=by simp
 have b1:=ah (ig w1 (.cells #[.int .u64 s.1,.slice none 0 0] 49)) (.cells #[.bool false] 4)
 have b2:=ig (w1.alloc (.cells #[.int .u64 s.1,.slice none 0 0] 49)) (.cells #[.bool false] 4)
 have b3:=ah (ah B3.out (.cells #[.int .u64 s.1,.slice none 0 0] 49)) (.cells #[.bool false] 4)
 have b4:=ah (ah B4.out (.cells #[.int .u64 s.1,.slice none 0 0] 49)) (.cells #[.bool false] 4)
 have hT:=(T1.out.alloc (.cells #[.int .u64 s.1,.slice none 0 0] 49)).alloc (.cells #[.bool false] 4)
 have hB:=aD (aD HB1.out (.cells #[.int .u64 s.1,.slice none 0 0] 49)) (.cells #[.bool false] 4)
 have l1:=aW HB1.out
 have lr:=bV B3.out
 rw [z1] at b2
 rw [hW3] at b1 b2 b3 b4 hT hB
 obtain ⟨gs,hgs⟩ : ∃ gs,w1.heap.size = gs:=⟨_,rfl⟩
 rw [hgs] at b1 b2 l1 lr ⊢
 obtain ⟨gf,hgf⟩ : ∃ gf,gs + 1 = gf:=⟨_,rfl⟩
 rw [hgf] at b2 ⊢
 have HI3 : Aside0 (OutI w W3 gT gt gs gf w.heap.size s.2.1 s.2.2 s.1 false (fun _=>True) (.slice none 0 0) []):=⟨⟨hT,b4,b1,b2,b3,Kd.iU _ _ _ _ _,hB⟩⟩
 have L1:=Aside0.mk l1
 have L2 : Aside0 (w.heap.size ≤ gf):=⟨by omega⟩
 have L3 : Aside0 (w.heap.size ≠ gs):=⟨by omega⟩
 have c3 : W3.cell? ⟨gt,0,none⟩ = some (.pointer (some ⟨gT,0,none⟩)):=(ay HI3.out.t 0).trans rfl
 clear b1 b2 b3 b4 hT hB l1 lr hW3 hgs hgf z1 c2 B0 B2 B3 B4 T0 T1 HB HB1
 have hmany:=yh.calls (I:=fun (a : DS) w'=>∃ us,OutI w w' gT gt gs gf w.heap.size a.1 a.2.1 s.1 a.2.2.1 (fun _=>True) us a.2.2.2) (fun c=>c.2.1) gT 2 1024 (.pointer (some ⟨gf,0,none⟩)) (.pointer (some ⟨gt,0,none⟩)) (.pointer (some ⟨gs,0,none⟩)) (iy k) ((m.2.1,m.2.2,false,[]) : DS) (rest,err,full,ps) m.1 okk W3
  (fun a w' ⟨u,hi⟩=>(ay hi.T.1 1).trans rfl) (fun a w' n ⟨u,hi⟩=>⟨u,hi.drewN n⟩) (by decide) (fun a b w' ⟨u,hi⟩ _ hs=>nW.calls k w w' gT gt gs gf w.heap.size a.1 a.2.1 s.1 a.2.2.1 u a.2.2.2 b L1.out L2.out L3.out hi hs)
  ((aR.calls k gT s.2.1 s.2.2 2 _ _ _ w _ HI3.out.T HI3.out.B HM.out).mono (fun e w' ⟨he,hi,hb,hk⟩=>⟨he,_,HI3.out.taker hi hb hk⟩)) HR.out
 by_cases hbad : okk = false ∨ full = true
 ·have h:=HH.out
  replace h : (if okk = false ∨ full = true then some (0,[],18) else _) = some (r1,r2,r3):=h
  rw [if_pos hbad] at h
  simp only [Option.some.injEq,Prod.mk.injEq] at h
  obtain ⟨rfl,rfl,rfl⟩:=h
  clear HH
  cases okk
  ·clear hbad
   cases full
   ·go_wp2_with (first | (go_at_call 60;refine hmany.mono ?_;rintro e w5 ⟨rfl,us,zL⟩;have HI : Aside0 (OutI w w5 gT gt gs gf w.heap.size rest err s.1 false (fun _=>True) us ps):=⟨zL⟩;replace zL:=HI.out;have y0 : w5.cell? ⟨gf,0,none⟩ = some (.bool false):=(ay zL.f 0).trans rfl;have x0 : w5.cell? ⟨w.heap.size,0,none⟩ = some (.int .u64 0):=(ay zL.r 0).trans rfl;have x1 : w5.cell? ⟨w.heap.size,1,none⟩ = some (.slice none 0 0):=(ay zL.r 1).trans rfl;have xf0:=av zL.r 0;have xf1:=av zL.r 1;have yt : w5.cell? ⟨gt,0,none⟩ = some (.pointer (some ⟨gT,0,none⟩)):=(ay zL.t 0).trans rfl;clear zL))
    obtain ⟨q1,q2,q3⟩:=HI.out.ret (.int .u64 0) (.slice none 0 0) (Nat.le_refl _)
    refine bodyPost_ret (eH rfl _ _ w.heap.size 49 #[.int .u64 0,.slice none 0 0] (0,0) _ rfl q1 Tryd.underlying49 rfl (by kernel_rfl)) rfl ?_
    exact ⟨_,rfl,Kd.iU _ _ _ _ _,q3⟩
   ·go_wp2_with (first | (go_at_call 60;refine hmany.mono ?_;rintro e w5 ⟨rfl,us,zL⟩;have HI : Aside0 (OutI w w5 gT gt gs gf w.heap.size rest err s.1 true (fun _=>True) us ps):=⟨zL⟩;replace zL:=HI.out;have y0 : w5.cell? ⟨gf,0,none⟩ = some (.bool true):=(ay zL.f 0).trans rfl;have x0 : w5.cell? ⟨w.heap.size,0,none⟩ = some (.int .u64 0):=(ay zL.r 0).trans rfl;have x1 : w5.cell? ⟨w.heap.size,1,none⟩ = some (.slice none 0 0):=(ay zL.r 1).trans rfl;have xf0:=av zL.r 0;have xf1:=av zL.r 1;have yt : w5.cell? ⟨gt,0,none⟩ = some (.pointer (some ⟨gT,0,none⟩)):=(ay zL.t 0).trans rfl;clear zL))
    obtain ⟨q1,q2,q3⟩:=HI.out.ret (.int .u64 0) (.slice none 0 0) (Nat.le_refl _)
    refine bodyPost_ret (eH rfl _ _ w.heap.size 49 #[.int .u64 0,.slice none 0 0] (0,0) _ rfl q1 Tryd.underlying49 rfl (by kernel_rfl)) rfl ?_
    exact ⟨_,rfl,Kd.iU _ _ _ _ _,q3⟩
  ·cases full
   ·exact absurd hbad (by decide)
   ·clear hbad
    go_wp2_with (first | (go_at_call 60;refine hmany.mono ?_;rintro e w5 ⟨rfl,us,zL⟩;have HI : Aside0 (OutI w w5 gT gt gs gf w.heap.size rest err s.1 true (fun _=>True) us ps):=⟨zL⟩;replace zL:=HI.out;have y0 : w5.cell? ⟨gf,0,none⟩ = some (.bool true):=(ay zL.f 0).trans rfl;have x0 : w5.cell? ⟨w.heap.size,0,none⟩ = some (.int .u64 0):=(ay zL.r 0).trans rfl;have x1 : w5.cell? ⟨w.heap.size,1,none⟩ = some (.slice none 0 0):=(ay zL.r 1).trans rfl;have xf0:=av zL.r 0;have xf1:=av zL.r 1;have yt : w5.cell? ⟨gt,0,none⟩ = some (.pointer (some ⟨gT,0,none⟩)):=(ay zL.t 0).trans rfl;clear zL))
    obtain ⟨q1,q2,q3⟩:=HI.out.ret (.int .u64 0) (.slice none 0 0) (Nat.le_refl _)
    refine bodyPost_ret (eH rfl _ _ w.heap.size 49 #[.int .u64 0,.slice none 0 0] (0,0) _ rfl q1 Tryd.underlying49 rfl (by kernel_rfl)) rfl ?_
    exact ⟨_,rfl,Kd.iU _ _ _ _ _,q3⟩
 ·obtain rfl : okk = true:=by cases okk <;> simp_all
  obtain rfl : full = false:=by cases full <;> simp_all
  have h:=HH.out
  replace h : (if true = false ∨ false = true then _ else (dB.f rest err).bind fun e=>if e.1 = 0 then (aM.f k s.1 ps).bind fun c=>if c = 0 then some (s.1,ps,0) else some (0,[],c) else some (0,[],e.1)) = some (r1,r2,r3):=h
  rw [if_neg hbad] at h
  obtain ⟨⟨e,zN,zO⟩,he,h⟩:=Option.bind_eq_some_iff.1 h
  replace h : (if e = 0 then (aM.f k s.1 ps).bind fun c=>if c = 0 then some (s.1,ps,0) else some (0,[],c) else some (0,[],e)) = some (r1,r2,r3):=h
  have HE:=Aside0.mk he
  clear HH he hbad
  by_cases e0 : e = 0
  ·subst e0
   rw [if_pos rfl] at h
   obtain ⟨c,hc,h⟩:=Option.bind_eq_some_iff.1 h
   have HC:=Aside0.mk hc
   clear hc
   by_cases c0 : c = 0
   ·subst c0
    rw [if_pos rfl] at h
    simp only [Option.some.injEq,Prod.mk.injEq] at h
    obtain ⟨rfl,rfl,rfl⟩:=h
    go_wp2_with (first | (go_at_call 60;refine hmany.mono ?_;rintro e w5 ⟨rfl,us,zL⟩;have HI : Aside0 (OutI w w5 gT gt gs gf w.heap.size rest err s.1 false (fun _=>True) us ps):=⟨zL⟩;replace zL:=HI.out;have y0 : w5.cell? ⟨gf,0,none⟩ = some (.bool false):=(ay zL.f 0).trans rfl;have x0 : w5.cell? ⟨w.heap.size,0,none⟩ = some (.int .u64 0):=(ay zL.r 0).trans rfl;have x1 : w5.cell? ⟨w.heap.size,1,none⟩ = some (.slice none 0 0):=(ay zL.r 1).trans rfl;have xf0:=av zL.r 0;have xf1:=av zL.r 1;have yt : w5.cell? ⟨gt,0,none⟩ = some (.pointer (some ⟨gT,0,none⟩)):=(ay zL.t 0).trans rfl;clear zL) | (go_at_call 50;refine (dB.calls gT rest err _ _ _ w _ HI.out.T HI.out.B HE.out).mono ?_;rintro e w7 ⟨rfl,hi,hb,hk⟩;replace HI:=Aside0.mk (HI.out.taker hi hb hk);clear hi hb hk x0 x1 xf0 xf1 y0;obtain ⟨As,cs,es⟩:=Kd.gq HI.out.S;subst es;have x0 : w7.cell? ⟨w.heap.size,0,none⟩ = some (.int .u64 0):=(ay HI.out.r 0).trans rfl;have x1 : w7.cell? ⟨w.heap.size,1,none⟩ = some (.slice none 0 0):=(ay HI.out.r 1).trans rfl;have xf0:=av HI.out.r 0;have xf1:=av HI.out.r 1;have g0 : w7.cell? ⟨gs,0,none⟩ = some (.int .u64 s.1):=(ay HI.out.s 0).trans rfl;have g1 : w7.cell? ⟨gs,1,none⟩ = some (.slice As ps.length cs):=(ay HI.out.s 1).trans rfl) | (go_at_call 27;refine (aM.calls k s.1 As cs ps _ _ (Kd.gu HI.out.S).2.2 (Kd.gu HI.out.S).2.1 HC.out).mono ?_;rintro e w9 ⟨rfl,hb⟩;replace HI:=Aside0.mk (HI.out.below hb);clear hb x0 x1 xf0 xf1 g0 g1;have x0 : w9.cell? ⟨w.heap.size,0,none⟩ = some (.int .u64 0):=(ay HI.out.r 0).trans rfl;have x1 : w9.cell? ⟨w.heap.size,1,none⟩ = some (.slice none 0 0):=(ay HI.out.r 1).trans rfl;have xf0:=av HI.out.r 0;have xf1:=av HI.out.r 1;have g0 : w9.cell? ⟨gs,0,none⟩ = some (.int .u64 s.1):=(ay HI.out.s 0).trans rfl;have g1 : w9.cell? ⟨gs,1,none⟩ = some (.slice As ps.length cs):=(ay HI.out.s 1).trans rfl))
    obtain ⟨q1,q2,q3⟩:=HI.out.ret (.int .u64 s.1) (.slice As ps.length cs) (Nat.le_refl _)
    refine bodyPost_ret (eH rfl _ _ w.heap.size 49 #[.int .u64 s.1,.slice As ps.length cs] (0,0) _ rfl q1 Tryd.underlying49 rfl (by kernel_rfl)) rfl ?_
    exact ⟨_,rfl,q2,q3⟩
   ·rw [if_neg c0] at h
    simp only [Option.some.injEq,Prod.mk.injEq] at h
    obtain ⟨rfl,rfl,rfl⟩:=h
    have d1 : (c != 0) = true:=by simpa using c0
    have d2 : (c == 0) = false:=by simpa using c0
    have C0:=Aside0.mk c0
    clear c0
    go_wp2_with (first | (go_at_call 60;refine hmany.mono ?_;rintro e w5 ⟨rfl,us,zL⟩;have HI : Aside0 (OutI w w5 gT gt gs gf w.heap.size rest err s.1 false (fun _=>True) us ps):=⟨zL⟩;replace zL:=HI.out;have y0 : w5.cell? ⟨gf,0,none⟩ = some (.bool false):=(ay zL.f 0).trans rfl;have x0 : w5.cell? ⟨w.heap.size,0,none⟩ = some (.int .u64 0):=(ay zL.r 0).trans rfl;have x1 : w5.cell? ⟨w.heap.size,1,none⟩ = some (.slice none 0 0):=(ay zL.r 1).trans rfl;have xf0:=av zL.r 0;have xf1:=av zL.r 1;have yt : w5.cell? ⟨gt,0,none⟩ = some (.pointer (some ⟨gT,0,none⟩)):=(ay zL.t 0).trans rfl;clear zL) | (go_at_call 50;refine (dB.calls gT rest err _ _ _ w _ HI.out.T HI.out.B HE.out).mono ?_;rintro e w7 ⟨rfl,hi,hb,hk⟩;replace HI:=Aside0.mk (HI.out.taker hi hb hk);clear hi hb hk x0 x1 xf0 xf1 y0;obtain ⟨As,cs,es⟩:=Kd.gq HI.out.S;subst es;have x0 : w7.cell? ⟨w.heap.size,0,none⟩ = some (.int .u64 0):=(ay HI.out.r 0).trans rfl;have x1 : w7.cell? ⟨w.heap.size,1,none⟩ = some (.slice none 0 0):=(ay HI.out.r 1).trans rfl;have xf0:=av HI.out.r 0;have xf1:=av HI.out.r 1;have g0 : w7.cell? ⟨gs,0,none⟩ = some (.int .u64 s.1):=(ay HI.out.s 0).trans rfl;have g1 : w7.cell? ⟨gs,1,none⟩ = some (.slice As ps.length cs):=(ay HI.out.s 1).trans rfl) | (go_at_call 27;refine (aM.calls k s.1 As cs ps _ _ (Kd.gu HI.out.S).2.2 (Kd.gu HI.out.S).2.1 HC.out).mono ?_;rintro e w9 ⟨rfl,hb⟩;replace HI:=Aside0.mk (HI.out.below hb);clear hb x0 x1 xf0 xf1 g0 g1;have x0 : w9.cell? ⟨w.heap.size,0,none⟩ = some (.int .u64 0):=(ay HI.out.r 0).trans rfl;have x1 : w9.cell? ⟨w.heap.size,1,none⟩ = some (.slice none 0 0):=(ay HI.out.r 1).trans rfl;have xf0:=av HI.out.r 0;have xf1:=av HI.out.r 1;have g0 : w9.cell? ⟨gs,0,none⟩ = some (.int .u64 s.1):=(ay HI.out.s 0).trans rfl;have g1 : w9.cell? ⟨gs,1,none⟩ = some (.slice As ps.length cs):=(ay HI.out.s 1).trans rfl))
    obtain ⟨q1,q2,q3⟩:=HI.out.ret (.int .u64 0) (.slice none 0 0) (Nat.le_refl _)
    refine bodyPost_ret (eH rfl _ _ w.heap.size 49 #[.int .u64 0,.slice none 0 0] (0,0) _ rfl q1 Tryd.underlying49 rfl (by kernel_rfl)) rfl ?_
    exact ⟨_,rfl,Kd.iU _ _ _ _ _,q3⟩
  ·rw [if_neg e0] at h
   simp only [Option.some.injEq,Prod.mk.injEq] at h
   obtain ⟨rfl,rfl,rfl⟩:=h
   have d1 : (e != 0) = true:=by simpa using e0
   have d2 : (e == 0) = false:=by simpa using e0
   clear e0
   go_wp2_with (first | (go_at_call 60;refine hmany.mono ?_;rintro e w5 ⟨rfl,us,zL⟩;have HI : Aside0 (OutI w w5 gT gt gs gf w.heap.size rest err s.1 false (fun _=>True) us ps):=⟨zL⟩;replace zL:=HI.out;have y0 : w5.cell? ⟨gf,0,none⟩ = some (.bool false):=(ay zL.f 0).trans rfl;have x0 : w5.cell? ⟨w.heap.size,0,none⟩ = some (.int .u64 0):=(ay zL.r 0).trans rfl;have x1 : w5.cell? ⟨w.heap.size,1,none⟩ = some (.slice none 0 0):=(ay zL.r 1).trans rfl;have xf0:=av zL.r 0;have xf1:=av zL.r 1;have yt : w5.cell? ⟨gt,0,none⟩ = some (.pointer (some ⟨gT,0,none⟩)):=(ay zL.t 0).trans rfl;clear zL) | (go_at_call 50;refine (dB.calls gT rest err _ _ _ w _ HI.out.T HI.out.B HE.out).mono ?_;rintro e w7 ⟨rfl,hi,hb,hk⟩;replace HI:=Aside0.mk (HI.out.taker hi hb hk);clear hi hb hk x0 x1 xf0 xf1 y0;obtain ⟨As,cs,es⟩:=Kd.gq HI.out.S;subst es;have x0 : w7.cell? ⟨w.heap.size,0,none⟩ = some (.int .u64 0):=(ay HI.out.r 0).trans rfl;have x1 : w7.cell? ⟨w.heap.size,1,none⟩ = some (.slice none 0 0):=(ay HI.out.r 1).trans rfl;have xf0:=av HI.out.r 0;have xf1:=av HI.out.r 1;have g0 : w7.cell? ⟨gs,0,none⟩ = some (.int .u64 s.1):=(ay HI.out.s 0).trans rfl;have g1 : w7.cell? ⟨gs,1,none⟩ = some (.slice As ps.length cs):=(ay HI.out.s 1).trans rfl))
   obtain ⟨q1,q2,q3⟩:=HI.out.ret (.int .u64 0) (.slice none 0 0) (Nat.le_refl _)
   refine bodyPost_ret (eH rfl _ _ w.heap.size 49 #[.int .u64 0,.slice none 0 0] (0,0) _ rfl q1 Tryd.underlying49 rfl (by kernel_rfl)) rfl ?_
   exact ⟨_,rfl,Kd.iU _ _ _ _ _,q3⟩
end Go.Proofs.YtpmbdcljphpcnaaDoor.GC2
