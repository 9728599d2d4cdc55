/- Written by this session's own program (wip/gen.py) out of the translation: plain Lean functions of the Go functions, and proofs that the calls come to their answers. No conditions beside those in the statements. -/
import Derived.Test.YtpmbdcljphpcnaaDoorGC2x0
import Derived.Test.YtpmbdcljphpcnaaDoorGC2x7
import Derived.Test.YtpmbdcljphpcnaaDoorGC2x8
import Derived.Test.YtpmbdcljphpcnaaDoorGC2x13
import Derived.Test.YtpmbdcljphpcnaaDoorGC2Decode
import Derived.Test.YtpmbdcljphpcnaaDoorGC2RSame
namespace Go.Proofs.YtpmbdcljphpcnaaDoor.GC2
open Go.RowKit Go.Proofs.YtpmbdcljphpcnaaDoorW.PrintWords Go.Proofs.YtpmbdcljphpcnaaDoorW.PrintLast Go.Proofs.YtpmbdcljphpcnaaDoorW.PrintMore
attribute [local go_sem] fO fP gI gJ fF fG fQ fT
set_option linter.unusedVariables false
set_option linter.unusedSimpArgs false
def bP.f (k : Nat) (a0 : ByteArray) : Option (Bool):=if (a0.size : Int) > 20000 then ((dD.f k).bind fun AO=>(some AO)) else ((dx.f k a0).bind fun Al=>((aN.f k a0).bind fun Ae=>((dD.f k).bind fun Aw=>(if Aw = true then (if Al.2.2 = Ae.2.2 then ((bM.f k Al.1 Al.2.1).bind fun Aa=>((eD.f Aa.1 Aa.2 Ae.1 Ae.2.1).bind fun Af=>(some Af))) else (some false)) else (some false)))))
theorem bP.mono : ∀ a0 k,LeO (bP.f k a0) (bP.f (k + 1) a0):=by
 intro a0 k
 unfold bP.f
 repeat' first
   | (with_reducible exact dD.mono _)
   | (with_reducible exact bM.mono _ _ _)
   | (with_reducible exact aN.mono _ _)
   | (with_reducible exact dx.mono _ _)
   | (with_reducible exact LeO.refl _)
   | (with_reducible exact LeO.none _)
   | (with_reducible refine LeO.ite ?_ ?_)
   | (with_reducible refine LeO.bind ?_ (fun _=>?_))
   | exact dD.mono _
   | exact bM.mono _ _ _
   | exact aN.mono _ _
   | exact dx.mono _ _
   | exact LeO.none _
   | refine LeO.ite ?_ ?_
   | refine LeO.bind ?_ (fun _=>?_)
def bP.T5 : Bool × List (List Nat × List Nat):=(true,[([],[]),([0,0],[0]),([1],[1]),([1],[1]),([2,3,1],[1,2,3]),([1,4],[1,4]),([5,1],[5]),([6],[6]),([7,6,6],[6,7]),([6],[6]),([8,9,8,6],[6,8,9]),([6,10],[6,10]),([11,10,0,1,2,3,4,5,6,7,8,9,10,11],[11])])
def bP.B5 : List Nat:=[0,1,3,3,15,31,63,127,255,127,1023,2047,4095]
theorem bP.uh : iB .any (opsOf Tryd.f7 5) = bP.T5:=by kernel_rfl
theorem bP.pU : iq bP.T5.2 bP.B5 = true:=by kernel_rfl
set_option maxHeartbeats 8000000 in
set_option maxRecDepth 100000 in
theorem bP.calls (k : Nat) (a0 : ByteArray) (r : Bool) (w : World) (h : bP.f k a0 = some r) :
  Calls Tryd.prog 7 #[.string a0] w fun e w'=>e = .returned (.bool r) ∧ Below w.heap.size w w':=by
 have CK:=Tryd.underlying49
 have CO:=Tryd.underlying53
 have HB:=Aside0.mk (Below.refl w.heap.size w)
 have H : (if (a0.size : Int) > 20000 then ((dD.f k).bind fun AO=>(some AO)) else ((dx.f k a0).bind fun Al=>((aN.f k a0).bind fun Ae=>((dD.f k).bind fun Aw=>(if Aw = true then (if Al.2.2 = Ae.2.2 then ((bM.f k Al.1 Al.2.1).bind fun Aa=>((eD.f Aa.1 Aa.2 Ae.1 Ae.2.1).bind fun Af=>(some Af))) else (some false)) else (some false)))))) = some r:=h
 clear h
 by_cases c2 : (a0.size : Int) > 20000
 ·rw [if_pos c2] at H
  have c2b0 : decide (20000 < (a0.size : Int)) = true:=decide_eq_true c2
  have c2b1 : decide (20000 < a0.size) = true:=decide_eq_true (by omega)
  clear c2
  replace H:=Option.bind_eq_some_iff.mp H
  obtain ⟨AO,Cn,H⟩:=H
  replace H : (some AO) = some r:=H
  have A3:=Aside0.mk Cn
  clear Cn
  obtain rfl:=Option.some.inj H
  go_enter Tryd.func7,Tryd.ntmps7
  go_wp2_with (first|((with_reducible refine bA (f:=23) rfl ?_);refine cO (some 10) rfl rfl Tryd.func23 (by kernel_rfl) rfl #[] rfl (by (try simp only [List.map_toArray,List.map_cons,List.map_nil]);first|done|rfl|(simp only [List.length_drop,List.length_take];rfl)|(simp (disch:=first|omega|(simp at *;omega)) only [bY,bJ,dF];rfl)) ?_;(with_reducible refine (dD.calls k  AO _ A3.out).mono ?_);rintro e w4 ⟨rfl,hb⟩;refine ⟨_,rfl,?_⟩;have zW:=Aside0.mk (aU (by repeat (first|(with_reducible first|exact HB.out|apply aD|apply ak|apply aC)|exact HB.out)) hb);clear HB;have HB:=zW;clear zW;(try clear hb);(try clear hb2);(try clear hk);(try clear hi)))
  go_ret
  exact ⟨by first|rfl|(simp [aY,aZ] <;> rfl)|(simp [*,aY,aZ] <;> rfl),by repeat (first|(with_reducible first|exact HB.out|apply aD|apply ak|apply aC)|exact HB.out)⟩
 ·rw [if_neg c2] at H
  have c2b0 : decide (20000 < (a0.size : Int)) = false:=decide_eq_false c2
  have c2b1 : decide (20000 < a0.size) = false:=decide_eq_false (by omega)
  clear c2
  replace H:=Option.bind_eq_some_iff.mp H
  obtain ⟨⟨zX,zV,Ai⟩,Co,H⟩:=H
  replace H : ((aN.f k a0).bind fun Ae=>((dD.f k).bind fun Aw=>(if Aw = true then (if Ai = Ae.2.2 then ((bM.f k zX zV).bind fun Aa=>((eD.f Aa.1 Aa.2 Ae.1 Ae.2.1).bind fun Af=>(some Af))) else (some false)) else (some false)))) = some r:=H
  have A5:=Aside0.mk Co
  clear Co
  replace H:=Option.bind_eq_some_iff.mp H
  obtain ⟨⟨zS,zR,Am⟩,Cq,H⟩:=H
  replace H : ((dD.f k).bind fun Aw=>(if Aw = true then (if Ai = Am then ((bM.f k zX zV).bind fun Aa=>((eD.f Aa.1 Aa.2 zS zR).bind fun Af=>(some Af))) else (some false)) else (some false))) = some r:=H
  have A6:=Aside0.mk Cq
  clear Cq
  replace H:=Option.bind_eq_some_iff.mp H
  obtain ⟨Aw,Cr,H⟩:=H
  replace H : (if Aw = true then (if Ai = Am then ((bM.f k zX zV).bind fun Aa=>((eD.f Aa.1 Aa.2 zS zR).bind fun Af=>(some Af))) else (some false)) else (some false)) = some r:=H
  have A7:=Aside0.mk Cr
  clear Cr
  by_cases c8 : Aw = true
  ·subst c8
   have H1 : (if Ai = Am then ((bM.f k zX zV).bind fun Aa=>((eD.f Aa.1 Aa.2 zS zR).bind fun Af=>(some Af))) else (some false)) = some r:=by rw [if_pos rfl] at H;exact H
   clear H
   have H:=H1
   clear H1
   by_cases c9 : Ai = Am
   ·rw [if_pos c9] at H
    have c9b0 : (Ai == Am) = true:=beq_iff_eq.mpr c9
    have c9b1 : (Ai != Am) = false:=bne_eq_false_iff_eq.mpr c9
    clear c9
    replace H:=Option.bind_eq_some_iff.mp H
    obtain ⟨⟨AU,AV⟩,Bj,H⟩:=H
    replace H : ((eD.f AU AV zS zR).bind fun Af=>(some Af)) = some r:=H
    have CP:=Aside0.mk Bj
    clear Bj
    replace H:=Option.bind_eq_some_iff.mp H
    obtain ⟨Af,Bl,H⟩:=H
    replace H : (some Af) = some r:=H
    have CQ:=Aside0.mk Bl
    clear Bl
    obtain rfl:=Option.some.inj H
    go_enter Tryd.func7,Tryd.ntmps7
    try go_wp2_with (first|((with_reducible refine bA (f:=31) rfl ?_);refine cO (some 13) rfl rfl Tryd.func31 (by kernel_rfl) rfl #[.string a0] rfl (by (try simp only [List.map_toArray,List.map_cons,List.map_nil]);first|done|rfl|(simp only [List.length_drop,List.length_take];rfl)|(simp (disch:=first|omega|(simp at *;omega)) only [bY,bJ,dF];rfl)) ?_;(with_reducible refine (dx.calls k a0 zX zV Ai _ A5.out).mono ?_);rintro e C8 ⟨Bn,rfl,ho0,hb⟩;refine ⟨_,rfl,?_⟩;have zW:=Aside0.mk (Kd.jB ho0 (aW (by repeat (first|(with_reducible first|exact HB.out|apply aD|apply ak|apply aC)|exact HB.out))));have zY:=Aside0.mk (aU (by repeat (first|(with_reducible first|exact HB.out|apply aD|apply ak|apply aC)|exact HB.out)) hb);clear HB;have zN:=zW;have HB:=zY;clear zW zY;(try clear hb);(try clear hb2);(try clear hk);(try clear hi);(try clear ho0))|((with_reducible refine dw (N:=3) rfl ?_);refine cB ?hg (N:=3) ?hd (cs:=#[.int .u64 0,.slice none 0 0]) (t:=49) ?hr ?_;(case hd=>rfl);(case hg=>rfl);(case hr=>first|(go_simp;done)|(go_simp;rfl));intro zQ hg Ct hbox hb;have zW:=Aside0.mk (Kd.dJ (by (with_reducible repeat (first|apply Kd.cZ|apply Kd.dh|apply Kd.dA));exact zN.out) hb);have zY:=Aside0.mk (aU (by repeat (first|(with_reducible first|exact HB.out|apply aD|apply ak|apply aC)|exact HB.out)) hb);have zZ:=Aside0.mk (hbox);have z8:=Aside0.mk ((by rw [hg];exact (aW (by repeat (first|(with_reducible first|exact HB.out|apply aD|apply ak|apply aC)|exact HB.out))) : w.heap.size ≤ zQ));have Ab:=Aside0.mk ((by rw [hg];exact (aW (by repeat (first|(with_reducible first|exact HB.out|apply aD|apply ak|apply aC)|exact HB.out))) : w.heap.size ≤ zQ));clear zN;clear HB;have zN:=zW;have HB:=zY;have zL:=zZ;have AX:=z8;have zT:=Ab;clear zW zY zZ z8 Ab;clear hb hbox hg;have Bt : Ct.cell? ⟨zQ,0,none⟩ = some (.int .u64 0):=(ay zL.out 0).trans rfl;have Bu : Ct.cell? ⟨zQ,1,none⟩ = some (.slice none 0 0):=(ay zL.out 1).trans rfl;have Bv:=av zL.out 0;have Bw:=av zL.out 1;obtain ⟨Aj,Ak,Cc⟩:=Kd.gq zN.out;subst Cc)|((with_reducible refine bA (f:=32) rfl ?_);refine cO (some 18) rfl rfl Tryd.func32 (by kernel_rfl) rfl #[.string a0] rfl (by (try simp only [List.map_toArray,List.map_cons,List.map_nil]);first|done|rfl|(simp only [List.length_drop,List.length_take];rfl)|(simp (disch:=first|omega|(simp at *;omega)) only [bY,bJ,dF];rfl)) ?_;(with_reducible refine (aN.calls k a0 zS zR Am _ A6.out).mono ?_);rintro e w16 ⟨Bo,rfl,ho0,hb⟩;refine ⟨_,rfl,?_⟩;have zW:=Aside0.mk (Kd.dJ (by (with_reducible repeat (first|apply Kd.cZ|apply Kd.dh|apply Kd.dA));exact (Kd.dO (Kd.dQ (p:=⟨zQ,1,none⟩) (Kd.dQ (p:=⟨zQ,0,none⟩) (Kd.eO zN.out zL.out (by decide)) (fun _ hk=>hk.2) (.int .u64 zX)) (fun _ hk=>hk.2) (.slice Aj zV.length Ak)) (fun _ h_=>h_.1))) hb);have zY:=Aside0.mk (Kd.jB ho0 (aW (by repeat (first|(with_reducible first|exact HB.out|apply aD|apply ak|apply aC|refine aA ?_ zT.out)|exact HB.out))));have zZ:=Aside0.mk (aQ (g:=zQ) (o:=.cells #[.int .u64 zX,.slice Aj zV.length Ak] 49 (0,0)) (by (with_reducible repeat (first|apply aj|apply au|apply ah));refine aX (cs:=#[.int .u64 zX,.slice none 0 0]) ?_ 1 _ rfl;(with_reducible repeat (first|apply aj|apply au|apply ah));refine aX (cs:=#[.int .u64 0,.slice none 0 0]) ?_ 0 _ rfl;(with_reducible repeat (first|apply aj|apply au|apply ah));exact zL.out) hb);have z8:=Aside0.mk (aU (by repeat (first|(with_reducible first|exact HB.out|apply aD|apply ak|apply aC|refine aA ?_ zT.out)|exact HB.out)) hb);clear zN;clear zL;clear HB;have zN:=zW;have zP:=zY;have zL:=zZ;have HB:=z8;clear zW zY zZ z8;(try clear hb);(try clear hb2);(try clear hk);(try clear hi);(try clear ho0))|((with_reducible refine dw (N:=5) rfl ?_);refine cB ?hg (N:=5) ?hd (cs:=#[.int .u64 0,.slice none 0 0]) (t:=53) ?hr ?_;(case hd=>rfl);(case hg=>rfl);(case hr=>first|(go_simp;done)|(go_simp;rfl));intro zM hg AY hbox hb;have zW:=Aside0.mk (Kd.dJ (by (with_reducible repeat (first|apply Kd.cZ|apply Kd.dh|apply Kd.dA));exact zN.out) hb);have zY:=Aside0.mk (Kd.dJ (by (with_reducible repeat (first|apply Kd.cZ|apply Kd.dh|apply Kd.dA));exact zP.out) hb);have zZ:=Aside0.mk (aQ (g:=zQ) (o:=.cells #[.int .u64 zX,.slice Aj zV.length Ak] 49 (0,0)) (bk_ zL.out) hb);have z8:=Aside0.mk (aU (by repeat (first|(with_reducible first|exact HB.out|apply aD|apply ak|apply aC|refine aA ?_ zT.out)|exact HB.out)) hb);have Ab:=Aside0.mk (hbox);have AL:=Aside0.mk ((by rw [hg];exact (aW (by repeat (first|(with_reducible first|exact HB.out|apply aD|apply ak|apply aC|refine aA ?_ zT.out)|exact HB.out))) : w.heap.size ≤ zM));have AZ:=Aside0.mk ((by rw [hg];exact (aW (by repeat (first|(with_reducible first|exact HB.out|apply aD|apply ak|apply aC|refine aA ?_ zT.out)|exact HB.out))) : w.heap.size ≤ zM));have A9:=Aside0.mk ((by rw [hg];exact Nat.ne_of_lt (bV (g:=zQ) (o:=.cells #[.int .u64 zX,.slice Aj zV.length Ak] 49 (0,0)) (bk_ zL.out)) : zQ ≠ zM));have Bf:=Aside0.mk ((by rw [hg];exact Nat.ne_of_gt (bV (g:=zQ) (o:=.cells #[.int .u64 zX,.slice Aj zV.length Ak] 49 (0,0)) (bk_ zL.out)) : zM ≠ zQ));clear zN;clear zP;clear zL;clear HB;have zN:=zW;have zP:=zY;have zL:=zZ;have HB:=z8;have zO:=Ab;have Bg:=AL;have Ac:=AZ;have zU:=A9;have Ad:=Bf;clear zW zY zZ z8 Ab AL AZ A9 Bf;clear hb hbox hg;have Cu:=Ad.out;have Cv:=zU.out;have Bz : AY.cell? ⟨zM,0,none⟩ = some (.int .u64 0):=(ay zO.out 0).trans rfl;have BA : AY.cell? ⟨zM,1,none⟩ = some (.slice none 0 0):=(ay zO.out 1).trans rfl;have BF:=av zO.out 0;have BG:=av zO.out 1;obtain ⟨Ag,Ah,Ce⟩:=Kd.gq zP.out;subst Ce))
    have zW : Aside0 (Kd.S k98 98 ((AY.setCell ⟨zM,0,none⟩ (.int .u64 zS)).setCell ⟨zM,1,none⟩ (.slice Ag zR.length Ah)) w.heap.size (fun _=>True) (.slice Aj zV.length Ak) zV):=⟨by (with_reducible repeat (first|apply Kd.cZ|apply Kd.dh|apply Kd.dA));exact Kd.dO (Kd.dQ (p:=⟨zM,1,none⟩) (Kd.dQ (p:=⟨zM,0,none⟩) (Kd.eO zN.out zO.out (by decide)) (fun _ hk=>hk.2) (.int .u64 zS)) (fun _ hk=>hk.2) (.slice Ag zR.length Ah)) (fun _ hk=>trivial)⟩
    have zY : Aside0 (Kd.S iC 103 ((AY.setCell ⟨zM,0,none⟩ (.int .u64 zS)).setCell ⟨zM,1,none⟩ (.slice Ag zR.length Ah)) w.heap.size (fun _=>True) (.slice Ag zR.length Ah) zR):=⟨by (with_reducible repeat (first|apply Kd.cZ|apply Kd.dh|apply Kd.dA));exact Kd.dO (Kd.dQ (p:=⟨zM,1,none⟩) (Kd.dQ (p:=⟨zM,0,none⟩) (Kd.eO zP.out zO.out (by decide)) (fun _ hk=>hk.2) (.int .u64 zS)) (fun _ hk=>hk.2) (.slice Ag zR.length Ah)) (fun _ hk=>trivial)⟩
    have zZ : Aside0 (((AY.setCell ⟨zM,0,none⟩ (.int .u64 zS)).setCell ⟨zM,1,none⟩ (.slice Ag zR.length Ah)).heap[zQ]? = some (.cells #[.int .u64 zX,.slice Aj zV.length Ak] 49 (0,0))):=⟨by (with_reducible repeat (first|apply aj|apply au|apply ah));refine aJ ?_ zU.out _;(with_reducible repeat (first|apply aj|apply au|apply ah));refine aJ ?_ zU.out _;(with_reducible repeat (first|apply aj|apply au|apply ah));exact zL.out⟩
    have z8 : Aside0 (((AY.setCell ⟨zM,0,none⟩ (.int .u64 zS)).setCell ⟨zM,1,none⟩ (.slice Ag zR.length Ah)).heap[zM]? = some (.cells #[.int .u64 zS,.slice Ag zR.length Ah] 53 (0,0))):=⟨by (with_reducible repeat (first|apply aj|apply au|apply ah));refine aX (cs:=#[.int .u64 zS,.slice none 0 0]) ?_ 1 _ rfl;(with_reducible repeat (first|apply aj|apply au|apply ah));refine aX (cs:=#[.int .u64 0,.slice none 0 0]) ?_ 0 _ rfl;(with_reducible repeat (first|apply aj|apply au|apply ah));exact zO.out⟩
    have Ab : Aside0 (Below w.heap.size w ((AY.setCell ⟨zM,0,none⟩ (.int .u64 zS)).setCell ⟨zM,1,none⟩ (.slice Ag zR.length Ah))):=⟨by repeat (first|(with_reducible first|exact HB.out|apply aD|apply ak|apply aC|refine aA ?_ zT.out|refine aA ?_ Ac.out)|exact HB.out)⟩
    (try clear zN)
    (try clear zP)
    (try clear zL)
    (try clear zO)
    (try clear HB)
    generalize ((AY.setCell ⟨zM,0,none⟩ (.int .u64 zS)).setCell ⟨zM,1,none⟩ (.slice Ag zR.length Ah)) = CS at zW zY zZ z8 Ab ⊢
    have zN:=zW
    have zP:=zY
    have zL:=zZ
    have zO:=z8
    have HB:=Ab
    clear zW zY zZ z8 Ab
    have zW:=Aside0.mk (Kd.dA zN.out)
    have zY:=Aside0.mk (Kd.dA zP.out)
    have zZ:=Aside0.mk (au zL.out)
    have z8:=Aside0.mk (au zO.out)
    have Ab:=Aside0.mk (aC HB.out)
    clear zN
    clear zP
    clear zL
    clear zO
    clear HB
    have zN:=zW
    have zP:=zY
    have zL:=zZ
    have zO:=z8
    have HB:=Ab
    clear zW zY zZ z8 Ab
    refine ji (n:=13) (S:=fun w'=>w'.cell? ⟨zQ,0,none⟩ = some (.int .u64 zX) ∧ w'.cell? ⟨zQ,1,none⟩ = some (.slice Aj zV.length Ak) ∧ w'.cell? ⟨zM,0,none⟩ = some (.int .u64 zS) ∧ w'.cell? ⟨zM,1,none⟩ = some (.slice Ag zR.length Ah)) (ds:=[]) #[false,false,false,false,false,false,false,false,false,false,false,false,false] (by kernel_rfl) rfl rfl ⟨(ay zL.out 0).trans rfl,(ay zL.out 1).trans rfl,(ay zO.out 0).trans rfl,(ay zO.out 1).trans rfl⟩ (fun hHeld=>?_);refine gM bP.uh bP.pU (fun HT_ HW_=>?_)
    generalize CS.drew = C9 at zN zP zL zO HB hHeld ⊢
    refine gH (i:=0) (N:=some 21) #[true,false,false,false,false,false,false,false,false,false,false,false,false] rfl rfl (eF HT_.out (by kernel_rfl)) (by decide) (fun K hK=>?_)
    refine fD Tryd.func23 (by kernel_rfl) rfl #[] (by rfl) rfl rfl (by (try simp only [List.map_toArray,List.map_cons,List.map_nil]);first|done|rfl|(simp only [List.length_drop,List.length_take];rfl)) ?_
    with_reducible refine (dD.calls k  true _ A7.out).mono ?_
    rintro e Da ⟨rfl,hb⟩
    refine ⟨_,rfl,?_⟩
    have zW:=Aside0.mk (Kd.dJ (by (with_reducible repeat (first|apply Kd.cZ|apply Kd.dh|apply Kd.dA));exact zN.out) hb)
    have zY:=Aside0.mk (Kd.dJ (by (with_reducible repeat (first|apply Kd.cZ|apply Kd.dh|apply Kd.dA));exact zP.out) hb)
    have zZ:=Aside0.mk (aQ (g:=zQ) (o:=.cells #[.int .u64 zX,.slice Aj zV.length Ak] 49 (0,0)) (bk_ zL.out) hb)
    have z8:=Aside0.mk (aQ (g:=zM) (o:=.cells #[.int .u64 zS,.slice Ag zR.length Ah] 53 (0,0)) (bk_ zO.out) hb)
    have Ab:=Aside0.mk (aU (by repeat (first|(with_reducible first|exact HB.out|apply aD|apply ak|apply aC|refine aA ?_ zT.out|refine aA ?_ Ac.out)|exact HB.out)) hb)
    clear zN
    clear zP
    clear zL
    clear zO
    clear HB
    have zN:=zW
    have zP:=zY
    have zL:=zZ
    have zO:=z8
    have HB:=Ab
    clear zW zY zZ z8 Ab
    (try clear hb)
    (try clear hb2)
    (try clear hk)
    (try clear hi)
    refine hK.out _ _ ⟨(ay zL.out 0).trans rfl,(ay zL.out 1).trans rfl,(ay zO.out 0).trans rfl,(ay zO.out 1).trans rfl⟩ (fun hHeld=>?_)
    clear hK K
    refine eG (a':=?_) ?_ ?_
    rotate_left
    ·show Act.put _ (some 21) _ = _
     simp only [Act.put,List.setIfInBounds_toArray,List.set_cons_zero,List.set_cons_succ,bI,bN]
     rfl
    refine dH (i:=1) (N:=some 22) (v:=?_) (a':=?_) #[true,true,false,false,false,false,false,false,false,false,false,false,false] rfl rfl (dn HT_.out (by kernel_rfl)) (fun _ _ _ h=>h) (Or.inl ⟨by rfl,?_⟩) ?_ ?_
    rotate_left
    ·intro w'
     go_simp
     with_reducible rfl
    rotate_left
    ·simp only [Act.put,List.setIfInBounds_toArray,List.set_cons_zero,List.set_cons_succ,bI,bN]
     rfl
    refine dH (i:=2) (N:=some 23) (v:=?_) (a':=?_) #[true,true,true,false,false,false,false,false,false,false,false,false,false] rfl rfl (dn HT_.out (by kernel_rfl)) (fun _ _ _ h=>h) (Or.inl ⟨by rfl,?_⟩) ?_ ?_
    rotate_left
    ·intro w'
     go_simp
     with_reducible rfl
    rotate_left
    ·simp only [Act.put,List.setIfInBounds_toArray,List.set_cons_zero,List.set_cons_succ,bI,bN]
     rfl
    refine dH (i:=3) (N:=some 24) (v:=?_) (a':=?_) #[true,true,true,true,false,false,false,false,false,false,false,false,false] rfl rfl (dn HT_.out (by kernel_rfl)) (fun _ _ _ h=>h) (Or.inl ⟨by rfl,?_⟩) ?_ ?_
    rotate_left
    ·intro w'
     go_simp
     with_reducible rfl
    rotate_left
    ·simp only [Act.put,List.setIfInBounds_toArray,List.set_cons_zero,List.set_cons_succ,bI,bN]
     rfl
    refine dH (i:=4) (N:=some 25) (v:=?_) (a':=?_) #[true,true,true,true,true,false,false,false,false,false,false,false,false] rfl rfl (dn HT_.out (by kernel_rfl)) (fun _ _ _ h=>h) (Or.inl ⟨by rfl,?_⟩) ?_ ?_
    rotate_left
    ·intro w'
     go_simp
     with_reducible rfl
    rotate_left
    ·simp only [Act.put,List.setIfInBounds_toArray,List.set_cons_zero,List.set_cons_succ,bI,bN]
     rfl
    refine dH (i:=5) (N:=some 26) (v:=?_) (a':=?_) #[true,true,true,true,true,true,false,false,false,false,false,false,false] rfl rfl (dn HT_.out (by kernel_rfl)) (fun _ _ _ h=>h) (Or.inl ⟨by rfl,?_⟩) ?_ ?_
    rotate_left
    ·intro w'
     go_simp
     with_reducible rfl
    rotate_left
    ·simp only [Act.put,List.setIfInBounds_toArray,List.set_cons_zero,List.set_cons_succ,bI,bN]
     rfl
    refine dH (i:=6) (N:=some 27) (v:=?_) (a':=?_) #[true,true,true,true,true,true,true,false,false,false,false,false,false] rfl rfl (dn HT_.out (by kernel_rfl)) (fun _ _ _ h=>h) (Or.inl ⟨by rfl,?_⟩) ?_ ?_
    rotate_left
    ·intro w'
     go_simp
     with_reducible rfl
    rotate_left
    ·simp only [Act.put,List.setIfInBounds_toArray,List.set_cons_zero,List.set_cons_succ,bI,bN]
     rfl
    refine gN (i:=7) (N:=some 28) (v:=?_) (a':=?_) #[true,true,true,true,true,true,true,true,false,false,false,false,false] rfl rfl (eZ HT_.out HW_.out (by kernel_rfl)) (fun _ _ _ h=>h) (Or.inl ⟨by rfl,?_⟩) hHeld ?_ ?_
    rotate_left
    ·rintro w' ⟨s0,s1,s2,s3⟩
     go_simp
     with_reducible rfl
    rotate_left
    ·simp only [Act.put,List.setIfInBounds_toArray,List.set_cons_zero,List.set_cons_succ,bI,bN]
     rfl
    refine gN (i:=9) (N:=some 30) (v:=?_) (a':=?_) #[true,true,true,true,true,true,true,true,false,true,false,false,false] rfl rfl (eZ HT_.out HW_.out (by kernel_rfl)) (fun _ _ _ h=>h) (Or.inl ⟨by rfl,?_⟩) hHeld ?_ ?_
    rotate_left
    ·rintro w' ⟨s0,s1,s2,s3⟩
     go_simp
     with_reducible rfl
    rotate_left
    ·simp only [Act.put,List.setIfInBounds_toArray,List.set_cons_zero,List.set_cons_succ,bI,bN]
     rfl
    refine gH (i:=8) (N:=some 29) #[true,true,true,true,true,true,true,true,true,true,false,false,false] rfl rfl (eF HT_.out (by kernel_rfl)) (by decide) (fun K hK=>?_)
    refine fD Tryd.func24 (by kernel_rfl) rfl #[.agg #[.int .u64 zX,.slice Aj zV.length Ak]] (by rfl) rfl rfl (by (try simp only [List.map_toArray,List.map_cons,List.map_nil]);first|done|rfl|(simp only [List.length_drop,List.length_take];rfl)) ?_
    with_reducible refine (bM.calls k zX _ _ zV AU AV _ ?AP ?AQ CP.out).mono ?_
    (case AP=>repeat (first|exact (Kd.gu zN.out).2.2|(with_reducible refine Kd.gQ ?_ _)|(with_reducible refine Kd.iA ?_ _)|(with_reducible refine Kd.iT ?_)))
    (case AQ=>exact (Kd.gu zN.out).2.1)
    rintro e Db ⟨CU,rfl,ho0,hb⟩
    refine ⟨_,rfl,?_⟩
    have zW:=Aside0.mk (Kd.dJ (by (with_reducible repeat (first|apply Kd.cZ|apply Kd.dh|apply Kd.dA));exact zN.out) hb)
    have zY:=Aside0.mk (Kd.tH (by (with_reducible repeat (first|apply Kd.cZ|apply Kd.dh|apply Kd.dA));exact zP.out) (Kd.wO ho0) hb)
    have zZ:=Aside0.mk (Kd.jB (Kd.wP ho0 (Kd.yZ (by (with_reducible repeat (first|apply Kd.cZ|apply Kd.dh|apply Kd.dA));exact zP.out))) (aW (by repeat (first|(with_reducible first|exact HB.out|apply aD|apply ak|apply aC|refine aA ?_ zT.out|refine aA ?_ Ac.out)|exact HB.out))))
    have z8:=Aside0.mk (aQ (g:=zQ) (o:=.cells #[.int .u64 zX,.slice Aj zV.length Ak] 49 (0,0)) (bk_ zL.out) hb)
    have Ab:=Aside0.mk (aQ (g:=zM) (o:=.cells #[.int .u64 zS,.slice Ag zR.length Ah] 53 (0,0)) (bk_ zO.out) hb)
    have AL:=Aside0.mk (aU (by repeat (first|(with_reducible first|exact HB.out|apply aD|apply ak|apply aC|refine aA ?_ zT.out|refine aA ?_ Ac.out)|exact HB.out)) hb)
    clear zN
    clear zP
    clear zL
    clear zO
    clear HB
    have zN:=zW
    have zP:=zY
    have Ay:=zZ
    have zL:=z8
    have zO:=Ab
    have HB:=AL
    clear zW zY zZ z8 Ab AL
    (try clear hb)
    (try clear hb2)
    (try clear hk)
    (try clear hi)
    (try clear ho0)
    obtain ⟨Cg,Ch,Bp⟩:=Kd.gq Ay.out
    (first|subst Bp|(injection Bp with Cw CV Cx;have CW:=Cw.symm;have CX:=Cx.symm;clear Cw CV Cx;subst CW;subst CX))
    refine hK.out _ _ ⟨(ay zL.out 0).trans rfl,(ay zL.out 1).trans rfl,(ay zO.out 0).trans rfl,(ay zO.out 1).trans rfl⟩ (fun hHeld=>?_)
    clear hK K
    refine eG (a':=?_) ?_ ?_
    rotate_left
    ·show Act.put _ (some 29) _ = _
     simp only [Act.put,List.setIfInBounds_toArray,List.set_cons_zero,List.set_cons_succ,bI,bN]
     rfl
    refine gH (i:=10) (N:=some 31) #[true,true,true,true,true,true,true,true,true,true,true,false,false] rfl rfl (eF HT_.out (by kernel_rfl)) (by decide) (fun K hK=>?_)
    refine fD Tryd.func30 (by kernel_rfl) rfl #[.agg #[.int .u64 AU,.slice Cg AV.length Ch],.agg #[.int .u64 zS,.slice Ag zR.length Ah]] (by rfl) rfl rfl (by (try simp only [List.map_toArray,List.map_cons,List.map_nil]);first|done|rfl|(simp only [List.length_drop,List.length_take];rfl)) ?_
    with_reducible refine (eD.calls AU _ _ AV zS _ _ zR Af _ ?AP ?AQ ?Bq ?Br CQ.out).mono ?_
    (case AP=>repeat (first|exact (Kd.gu Ay.out).2.2|(with_reducible refine Kd.gQ ?_ _)|(with_reducible refine Kd.iA ?_ _)|(with_reducible refine Kd.iT ?_)))
    (case AQ=>exact (Kd.gu Ay.out).2.1)
    (case Bq=>repeat (first|exact (Kd.gu zP.out).2.2|(with_reducible refine Kd.gQ ?_ _)|(with_reducible refine Kd.iA ?_ _)|(with_reducible refine Kd.iT ?_)))
    (case Br=>exact (Kd.gu zP.out).2.1)
    rintro e Dc ⟨rfl,hb⟩
    refine ⟨_,rfl,?_⟩
    have zW:=Aside0.mk (Kd.dJ (by (with_reducible repeat (first|apply Kd.cZ|apply Kd.dh|apply Kd.dA));exact zN.out) hb)
    have zY:=Aside0.mk (Kd.dJ (by (with_reducible repeat (first|apply Kd.cZ|apply Kd.dh|apply Kd.dA));exact zP.out) hb)
    have zZ:=Aside0.mk (Kd.dJ (by (with_reducible repeat (first|apply Kd.cZ|apply Kd.dh|apply Kd.dA));exact Ay.out) hb)
    have z8:=Aside0.mk (aQ (g:=zQ) (o:=.cells #[.int .u64 zX,.slice Aj zV.length Ak] 49 (0,0)) (bk_ zL.out) hb)
    have Ab:=Aside0.mk (aQ (g:=zM) (o:=.cells #[.int .u64 zS,.slice Ag zR.length Ah] 53 (0,0)) (bk_ zO.out) hb)
    have AL:=Aside0.mk (aU (by repeat (first|(with_reducible first|exact HB.out|apply aD|apply ak|apply aC|refine aA ?_ zT.out|refine aA ?_ Ac.out)|exact HB.out)) hb)
    clear zN
    clear zP
    clear Ay
    clear zL
    clear zO
    clear HB
    have zN:=zW
    have zP:=zY
    have Ay:=zZ
    have zL:=z8
    have zO:=Ab
    have HB:=AL
    clear zW zY zZ z8 Ab AL
    (try clear hb)
    (try clear hb2)
    (try clear hk)
    (try clear hi)
    refine hK.out _ _ ⟨(ay zL.out 0).trans rfl,(ay zL.out 1).trans rfl,(ay zO.out 0).trans rfl,(ay zO.out 1).trans rfl⟩ (fun hHeld=>?_)
    clear hK K
    refine eG (a':=?_) ?_ ?_
    rotate_left
    ·show Act.put _ (some 31) _ = _
     simp only [Act.put,List.setIfInBounds_toArray,List.set_cons_zero,List.set_cons_succ,bI,bN]
     rfl
    refine dH (i:=11) (N:=some 32) (v:=?_) (a':=?_) #[true,true,true,true,true,true,true,true,true,true,true,true,false] rfl rfl (dn HT_.out (by kernel_rfl)) (fun _ _ _ h=>h) (Or.inl ⟨by rfl,?_⟩) ?_ ?_
    rotate_left
    ·intro w'
     go_simp
     with_reducible rfl
    rotate_left
    ·simp only [Act.put,List.setIfInBounds_toArray,List.set_cons_zero,List.set_cons_succ,bI,bN]
     rfl
    refine dH (i:=12) (N:=some 2) (v:=?_) (a':=?_) #[true,true,true,true,true,true,true,true,true,true,true,true,true] rfl rfl (dn HT_.out (by kernel_rfl)) (fun _ _ _ h=>h) (Or.inl ⟨by rfl,?_⟩) ?_ ?_
    rotate_left
    ·intro w'
     go_simp
     with_reducible rfl
    rotate_left
    ·simp only [Act.put,List.setIfInBounds_toArray,List.set_cons_zero,List.set_cons_succ,bI,bN]
     rfl
    refine kE (iI HT_.out (by kernel_rfl)) ?_
    try go_wp2
    go_ret
    exact ⟨by first|rfl|(simp [aY,aZ] <;> rfl)|(simp [*,aY,aZ] <;> rfl),by repeat (first|(with_reducible first|exact HB.out|apply aD|apply ak|apply aC|refine aA ?_ zT.out|refine aA ?_ Ac.out)|exact HB.out)⟩
   ·rw [if_neg c9] at H
    have c9b0 : (Ai == Am) = false:=beq_eq_false_iff_ne.mpr c9
    have c9b1 : (Ai != Am) = true:=bne_iff_ne.mpr c9
    obtain rfl:=Option.some.inj H
    go_enter Tryd.func7,Tryd.ntmps7
    try go_wp2_with (first|((with_reducible refine bA (f:=31) rfl ?_);refine cO (some 13) rfl rfl Tryd.func31 (by kernel_rfl) rfl #[.string a0] rfl (by (try simp only [List.map_toArray,List.map_cons,List.map_nil]);first|done|rfl|(simp only [List.length_drop,List.length_take];rfl)|(simp (disch:=first|omega|(simp at *;omega)) only [bY,bJ,dF];rfl)) ?_;(with_reducible refine (dx.calls k a0 zX zV Ai _ A5.out).mono ?_);rintro e Df ⟨Bn,rfl,ho0,hb⟩;refine ⟨_,rfl,?_⟩;have zW:=Aside0.mk (Kd.jB ho0 (aW (by repeat (first|(with_reducible first|exact HB.out|apply aD|apply ak|apply aC)|exact HB.out))));have zY:=Aside0.mk (aU (by repeat (first|(with_reducible first|exact HB.out|apply aD|apply ak|apply aC)|exact HB.out)) hb);clear HB;have zN:=zW;have HB:=zY;clear zW zY;(try clear hb);(try clear hb2);(try clear hk);(try clear hi);(try clear ho0))|((with_reducible refine dw (N:=3) rfl ?_);refine cB ?hg (N:=3) ?hd (cs:=#[.int .u64 0,.slice none 0 0]) (t:=49) ?hr ?_;(case hd=>rfl);(case hg=>rfl);(case hr=>first|(go_simp;done)|(go_simp;rfl));intro zQ hg Cy hbox hb;have zW:=Aside0.mk (Kd.dJ (by (with_reducible repeat (first|apply Kd.cZ|apply Kd.dh|apply Kd.dA));exact zN.out) hb);have zY:=Aside0.mk (aU (by repeat (first|(with_reducible first|exact HB.out|apply aD|apply ak|apply aC)|exact HB.out)) hb);have zZ:=Aside0.mk (hbox);have z8:=Aside0.mk ((by rw [hg];exact (aW (by repeat (first|(with_reducible first|exact HB.out|apply aD|apply ak|apply aC)|exact HB.out))) : w.heap.size ≤ zQ));have Ab:=Aside0.mk ((by rw [hg];exact (aW (by repeat (first|(with_reducible first|exact HB.out|apply aD|apply ak|apply aC)|exact HB.out))) : w.heap.size ≤ zQ));clear zN;clear HB;have zN:=zW;have HB:=zY;have zL:=zZ;have AX:=z8;have zT:=Ab;clear zW zY zZ z8 Ab;clear hb hbox hg;have BH : Cy.cell? ⟨zQ,0,none⟩ = some (.int .u64 0):=(ay zL.out 0).trans rfl;have BI : Cy.cell? ⟨zQ,1,none⟩ = some (.slice none 0 0):=(ay zL.out 1).trans rfl;have BJ:=av zL.out 0;have BK:=av zL.out 1;obtain ⟨Az,AA,Ci⟩:=Kd.gq zN.out;subst Ci)|((with_reducible refine bA (f:=32) rfl ?_);refine cO (some 18) rfl rfl Tryd.func32 (by kernel_rfl) rfl #[.string a0] rfl (by (try simp only [List.map_toArray,List.map_cons,List.map_nil]);first|done|rfl|(simp only [List.length_drop,List.length_take];rfl)|(simp (disch:=first|omega|(simp at *;omega)) only [bY,bJ,dF];rfl)) ?_;(with_reducible refine (aN.calls k a0 zS zR Am _ A6.out).mono ?_);rintro e Dh ⟨Bo,rfl,ho0,hb⟩;refine ⟨_,rfl,?_⟩;have zW:=Aside0.mk (Kd.dJ (by (with_reducible repeat (first|apply Kd.cZ|apply Kd.dh|apply Kd.dA));exact (Kd.dO (Kd.dQ (p:=⟨zQ,1,none⟩) (Kd.dQ (p:=⟨zQ,0,none⟩) (Kd.eO zN.out zL.out (by decide)) (fun _ hk=>hk.2) (.int .u64 zX)) (fun _ hk=>hk.2) (.slice Az zV.length AA)) (fun _ h_=>h_.1))) hb);have zY:=Aside0.mk (Kd.jB ho0 (aW (by repeat (first|(with_reducible first|exact HB.out|apply aD|apply ak|apply aC|refine aA ?_ zT.out)|exact HB.out))));have zZ:=Aside0.mk (aQ (g:=zQ) (o:=.cells #[.int .u64 zX,.slice Az zV.length AA] 49 (0,0)) (by (with_reducible repeat (first|apply aj|apply au|apply ah));refine aX (cs:=#[.int .u64 zX,.slice none 0 0]) ?_ 1 _ rfl;(with_reducible repeat (first|apply aj|apply au|apply ah));refine aX (cs:=#[.int .u64 0,.slice none 0 0]) ?_ 0 _ rfl;(with_reducible repeat (first|apply aj|apply au|apply ah));exact zL.out) hb);have z8:=Aside0.mk (aU (by repeat (first|(with_reducible first|exact HB.out|apply aD|apply ak|apply aC|refine aA ?_ zT.out)|exact HB.out)) hb);clear zN;clear zL;clear HB;have zN:=zW;have zP:=zY;have zL:=zZ;have HB:=z8;clear zW zY zZ z8;(try clear hb);(try clear hb2);(try clear hk);(try clear hi);(try clear ho0))|((with_reducible refine dw (N:=5) rfl ?_);refine cB ?hg (N:=5) ?hd (cs:=#[.int .u64 0,.slice none 0 0]) (t:=53) ?hr ?_;(case hd=>rfl);(case hg=>rfl);(case hr=>first|(go_simp;done)|(go_simp;rfl));intro zM hg w32 hbox hb;have zW:=Aside0.mk (Kd.dJ (by (with_reducible repeat (first|apply Kd.cZ|apply Kd.dh|apply Kd.dA));exact zN.out) hb);have zY:=Aside0.mk (Kd.dJ (by (with_reducible repeat (first|apply Kd.cZ|apply Kd.dh|apply Kd.dA));exact zP.out) hb);have zZ:=Aside0.mk (aQ (g:=zQ) (o:=.cells #[.int .u64 zX,.slice Az zV.length AA] 49 (0,0)) (bk_ zL.out) hb);have z8:=Aside0.mk (aU (by repeat (first|(with_reducible first|exact HB.out|apply aD|apply ak|apply aC|refine aA ?_ zT.out)|exact HB.out)) hb);have Ab:=Aside0.mk (hbox);have AL:=Aside0.mk ((by rw [hg];exact (aW (by repeat (first|(with_reducible first|exact HB.out|apply aD|apply ak|apply aC|refine aA ?_ zT.out)|exact HB.out))) : w.heap.size ≤ zM));have AZ:=Aside0.mk ((by rw [hg];exact (aW (by repeat (first|(with_reducible first|exact HB.out|apply aD|apply ak|apply aC|refine aA ?_ zT.out)|exact HB.out))) : w.heap.size ≤ zM));have A9:=Aside0.mk ((by rw [hg];exact Nat.ne_of_lt (bV (g:=zQ) (o:=.cells #[.int .u64 zX,.slice Az zV.length AA] 49 (0,0)) (bk_ zL.out)) : zQ ≠ zM));have Bf:=Aside0.mk ((by rw [hg];exact Nat.ne_of_gt (bV (g:=zQ) (o:=.cells #[.int .u64 zX,.slice Az zV.length AA] 49 (0,0)) (bk_ zL.out)) : zM ≠ zQ));clear zN;clear zP;clear zL;clear HB;have zN:=zW;have zP:=zY;have zL:=zZ;have HB:=z8;have zO:=Ab;have Bg:=AL;have Ac:=AZ;have zU:=A9;have Ad:=Bf;clear zW zY zZ z8 Ab AL AZ A9 Bf;clear hb hbox hg;have Cz:=Ad.out;have CB:=zU.out;have BL : w32.cell? ⟨zM,0,none⟩ = some (.int .u64 0):=(ay zO.out 0).trans rfl;have BM : w32.cell? ⟨zM,1,none⟩ = some (.slice none 0 0):=(ay zO.out 1).trans rfl;have BN:=av zO.out 0;have BO:=av zO.out 1;obtain ⟨Ap,Aq,Cj⟩:=Kd.gq zP.out;subst Cj))
    have zW : Aside0 (Kd.S k98 98 ((w32.setCell ⟨zM,0,none⟩ (.int .u64 zS)).setCell ⟨zM,1,none⟩ (.slice Ap zR.length Aq)) w.heap.size (fun _=>True) (.slice Az zV.length AA) zV):=⟨by (with_reducible repeat (first|apply Kd.cZ|apply Kd.dh|apply Kd.dA));exact Kd.dO (Kd.dQ (p:=⟨zM,1,none⟩) (Kd.dQ (p:=⟨zM,0,none⟩) (Kd.eO zN.out zO.out (by decide)) (fun _ hk=>hk.2) (.int .u64 zS)) (fun _ hk=>hk.2) (.slice Ap zR.length Aq)) (fun _ hk=>trivial)⟩
    have zY : Aside0 (Kd.S iC 103 ((w32.setCell ⟨zM,0,none⟩ (.int .u64 zS)).setCell ⟨zM,1,none⟩ (.slice Ap zR.length Aq)) w.heap.size (fun _=>True) (.slice Ap zR.length Aq) zR):=⟨by (with_reducible repeat (first|apply Kd.cZ|apply Kd.dh|apply Kd.dA));exact Kd.dO (Kd.dQ (p:=⟨zM,1,none⟩) (Kd.dQ (p:=⟨zM,0,none⟩) (Kd.eO zP.out zO.out (by decide)) (fun _ hk=>hk.2) (.int .u64 zS)) (fun _ hk=>hk.2) (.slice Ap zR.length Aq)) (fun _ hk=>trivial)⟩
    have zZ : Aside0 (((w32.setCell ⟨zM,0,none⟩ (.int .u64 zS)).setCell ⟨zM,1,none⟩ (.slice Ap zR.length Aq)).heap[zQ]? = some (.cells #[.int .u64 zX,.slice Az zV.length AA] 49 (0,0))):=⟨by (with_reducible repeat (first|apply aj|apply au|apply ah));refine aJ ?_ zU.out _;(with_reducible repeat (first|apply aj|apply au|apply ah));refine aJ ?_ zU.out _;(with_reducible repeat (first|apply aj|apply au|apply ah));exact zL.out⟩
    have z8 : Aside0 (((w32.setCell ⟨zM,0,none⟩ (.int .u64 zS)).setCell ⟨zM,1,none⟩ (.slice Ap zR.length Aq)).heap[zM]? = some (.cells #[.int .u64 zS,.slice Ap zR.length Aq] 53 (0,0))):=⟨by (with_reducible repeat (first|apply aj|apply au|apply ah));refine aX (cs:=#[.int .u64 zS,.slice none 0 0]) ?_ 1 _ rfl;(with_reducible repeat (first|apply aj|apply au|apply ah));refine aX (cs:=#[.int .u64 0,.slice none 0 0]) ?_ 0 _ rfl;(with_reducible repeat (first|apply aj|apply au|apply ah));exact zO.out⟩
    have Ab : Aside0 (Below w.heap.size w ((w32.setCell ⟨zM,0,none⟩ (.int .u64 zS)).setCell ⟨zM,1,none⟩ (.slice Ap zR.length Aq))):=⟨by repeat (first|(with_reducible first|exact HB.out|apply aD|apply ak|apply aC|refine aA ?_ zT.out|refine aA ?_ Ac.out)|exact HB.out)⟩
    (try clear zN)
    (try clear zP)
    (try clear zL)
    (try clear zO)
    (try clear HB)
    generalize ((w32.setCell ⟨zM,0,none⟩ (.int .u64 zS)).setCell ⟨zM,1,none⟩ (.slice Ap zR.length Aq)) = CY at zW zY zZ z8 Ab ⊢
    have zN:=zW
    have zP:=zY
    have zL:=zZ
    have zO:=z8
    have HB:=Ab
    clear zW zY zZ z8 Ab
    have zW:=Aside0.mk (Kd.dA zN.out)
    have zY:=Aside0.mk (Kd.dA zP.out)
    have zZ:=Aside0.mk (au zL.out)
    have z8:=Aside0.mk (au zO.out)
    have Ab:=Aside0.mk (aC HB.out)
    clear zN
    clear zP
    clear zL
    clear zO
    clear HB
    have zN:=zW
    have zP:=zY
    have zL:=zZ
    have zO:=z8
    have HB:=Ab
    clear zW zY zZ z8 Ab
    refine ji (n:=13) (S:=fun w'=>True) (ds:=[]) #[false,false,false,false,false,false,false,false,false,false,false,false,false] (by kernel_rfl) rfl rfl trivial (fun hHeld=>?_);refine gM bP.uh bP.pU (fun HT_ HW_=>?_)
    generalize CY.drew = Di at zN zP zL zO HB hHeld ⊢
    refine gH (i:=0) (N:=some 21) #[true,false,false,false,false,false,false,false,false,false,false,false,false] rfl rfl (eF HT_.out (by kernel_rfl)) (by decide) (fun K hK=>?_)
    refine fD Tryd.func23 (by kernel_rfl) rfl #[] (by rfl) rfl rfl (by (try simp only [List.map_toArray,List.map_cons,List.map_nil]);first|done|rfl|(simp only [List.length_drop,List.length_take];rfl)) ?_
    with_reducible refine (dD.calls k  true _ A7.out).mono ?_
    rintro e Dj ⟨rfl,hb⟩
    refine ⟨_,rfl,?_⟩
    have zW:=Aside0.mk (Kd.dJ (by (with_reducible repeat (first|apply Kd.cZ|apply Kd.dh|apply Kd.dA));exact zN.out) hb)
    have zY:=Aside0.mk (Kd.dJ (by (with_reducible repeat (first|apply Kd.cZ|apply Kd.dh|apply Kd.dA));exact zP.out) hb)
    have zZ:=Aside0.mk (aQ (g:=zQ) (o:=.cells #[.int .u64 zX,.slice Az zV.length AA] 49 (0,0)) (bk_ zL.out) hb)
    have z8:=Aside0.mk (aQ (g:=zM) (o:=.cells #[.int .u64 zS,.slice Ap zR.length Aq] 53 (0,0)) (bk_ zO.out) hb)
    have Ab:=Aside0.mk (aU (by repeat (first|(with_reducible first|exact HB.out|apply aD|apply ak|apply aC|refine aA ?_ zT.out|refine aA ?_ Ac.out)|exact HB.out)) hb)
    clear zN
    clear zP
    clear zL
    clear zO
    clear HB
    have zN:=zW
    have zP:=zY
    have zL:=zZ
    have zO:=z8
    have HB:=Ab
    clear zW zY zZ z8 Ab
    (try clear hb)
    (try clear hb2)
    (try clear hk)
    (try clear hi)
    refine hK.out _ _ trivial (fun hHeld=>?_)
    clear hK K
    refine eG (a':=?_) ?_ ?_
    rotate_left
    ·show Act.put _ (some 21) _ = _
     simp only [Act.put,List.setIfInBounds_toArray,List.set_cons_zero,List.set_cons_succ,bI,bN]
     rfl
    refine dH (i:=1) (N:=some 22) (v:=?_) (a':=?_) #[true,true,false,false,false,false,false,false,false,false,false,false,false] rfl rfl (dn HT_.out (by kernel_rfl)) (fun _ _ _ h=>h) (Or.inl ⟨by rfl,?_⟩) ?_ ?_
    rotate_left
    ·intro w'
     go_simp
     with_reducible rfl
    rotate_left
    ·simp only [Act.put,List.setIfInBounds_toArray,List.set_cons_zero,List.set_cons_succ,bI,bN]
     rfl
    refine dH (i:=2) (N:=some 23) (v:=?_) (a':=?_) #[true,true,true,false,false,false,false,false,false,false,false,false,false] rfl rfl (dn HT_.out (by kernel_rfl)) (fun _ _ _ h=>h) (Or.inl ⟨by rfl,?_⟩) ?_ ?_
    rotate_left
    ·intro w'
     go_simp
     with_reducible rfl
    rotate_left
    ·simp only [Act.put,List.setIfInBounds_toArray,List.set_cons_zero,List.set_cons_succ,bI,bN]
     rfl
    refine dH (i:=3) (N:=some 24) (v:=?_) (a':=?_) #[true,true,true,true,false,false,false,false,false,false,false,false,false] rfl rfl (dn HT_.out (by kernel_rfl)) (fun _ _ _ h=>h) (Or.inl ⟨by rfl,?_⟩) ?_ ?_
    rotate_left
    ·intro w'
     go_simp
     with_reducible rfl
    rotate_left
    ·simp only [Act.put,List.setIfInBounds_toArray,List.set_cons_zero,List.set_cons_succ,bI,bN]
     rfl
    refine dH (i:=4) (N:=some 25) (v:=?_) (a':=?_) #[true,true,true,true,true,false,false,false,false,false,false,false,false] rfl rfl (dn HT_.out (by kernel_rfl)) (fun _ _ _ h=>h) (Or.inl ⟨by rfl,?_⟩) ?_ ?_
    rotate_left
    ·intro w'
     go_simp
     with_reducible rfl
    rotate_left
    ·simp only [Act.put,List.setIfInBounds_toArray,List.set_cons_zero,List.set_cons_succ,bI,bN]
     rfl
    refine dH (i:=5) (N:=some 26) (v:=?_) (a':=?_) #[true,true,true,true,true,true,false,false,false,false,false,false,false] rfl rfl (dn HT_.out (by kernel_rfl)) (fun _ _ _ h=>h) (Or.inl ⟨by rfl,?_⟩) ?_ ?_
    rotate_left
    ·intro w'
     go_simp
     with_reducible rfl
    rotate_left
    ·simp only [Act.put,List.setIfInBounds_toArray,List.set_cons_zero,List.set_cons_succ,bI,bN]
     rfl
    refine dH (i:=6) (N:=some 27) (v:=?_) (a':=?_) #[true,true,true,true,true,true,true,false,false,false,false,false,false] rfl rfl (dn HT_.out (by kernel_rfl)) (fun _ _ _ h=>h) (Or.inl ⟨by rfl,?_⟩) ?_ ?_
    rotate_left
    ·intro w'
     go_simp
     with_reducible rfl
    rotate_left
    ·simp only [Act.put,List.setIfInBounds_toArray,List.set_cons_zero,List.set_cons_succ,bI,bN]
     rfl
    refine dH (i:=7) (N:=some 28) (v:=undef) (a':=?_) #[true,true,true,true,true,true,true,true,false,false,false,false,false] rfl rfl (dn HT_.out (by kernel_rfl)) (fun _ _ _ h=>h) (Or.inr ⟨by rfl,rfl⟩) ?_ ?_
    rotate_left
    ·simp only [Act.put,List.setIfInBounds_toArray,List.set_cons_zero,List.set_cons_succ,bI,bN]
     rfl
    refine dH (i:=8) (N:=some 29) (v:=undef) (a':=?_) #[true,true,true,true,true,true,true,true,true,false,false,false,false] rfl rfl (dn HT_.out (by kernel_rfl)) (fun _ _ _ h=>h) (Or.inr ⟨by rfl,rfl⟩) ?_ ?_
    rotate_left
    ·simp only [Act.put,List.setIfInBounds_toArray,List.set_cons_zero,List.set_cons_succ,bI,bN]
     rfl
    refine dH (i:=9) (N:=some 30) (v:=undef) (a':=?_) #[true,true,true,true,true,true,true,true,true,true,false,false,false] rfl rfl (dn HT_.out (by kernel_rfl)) (fun _ _ _ h=>h) (Or.inr ⟨by rfl,rfl⟩) ?_ ?_
    rotate_left
    ·simp only [Act.put,List.setIfInBounds_toArray,List.set_cons_zero,List.set_cons_succ,bI,bN]
     rfl
    refine dH (i:=10) (N:=some 31) (v:=undef) (a':=?_) #[true,true,true,true,true,true,true,true,true,true,true,false,false] rfl rfl (dn HT_.out (by kernel_rfl)) (fun _ _ _ h=>h) (Or.inr ⟨by rfl,rfl⟩) ?_ ?_
    rotate_left
    ·simp only [Act.put,List.setIfInBounds_toArray,List.set_cons_zero,List.set_cons_succ,bI,bN]
     rfl
    refine dH (i:=11) (N:=some 32) (v:=?_) (a':=?_) #[true,true,true,true,true,true,true,true,true,true,true,true,false] rfl rfl (dn HT_.out (by kernel_rfl)) (fun _ _ _ h=>h) (Or.inl ⟨by rfl,?_⟩) ?_ ?_
    rotate_left
    ·intro w'
     go_simp
     with_reducible rfl
    rotate_left
    ·simp only [Act.put,List.setIfInBounds_toArray,List.set_cons_zero,List.set_cons_succ,bI,bN]
     rfl
    refine dH (i:=12) (N:=some 2) (v:=?_) (a':=?_) #[true,true,true,true,true,true,true,true,true,true,true,true,true] rfl rfl (dn HT_.out (by kernel_rfl)) (fun _ _ _ h=>h) (Or.inl ⟨by rfl,?_⟩) ?_ ?_
    rotate_left
    ·intro w'
     go_simp
     with_reducible rfl
    rotate_left
    ·simp only [Act.put,List.setIfInBounds_toArray,List.set_cons_zero,List.set_cons_succ,bI,bN]
     rfl
    refine kE (iI HT_.out (by kernel_rfl)) ?_
    try go_wp2
    go_ret
    exact ⟨by first|rfl|(simp [aY,aZ] <;> rfl)|(simp [*,aY,aZ] <;> rfl),by repeat (first|(with_reducible first|exact HB.out|apply aD|apply ak|apply aC|refine aA ?_ zT.out|refine aA ?_ Ac.out)|exact HB.out)⟩
  ·replace c8:=Bool.eq_false_iff.mpr c8
   subst c8
   have H1 : (some false) = some r:=by rw [if_neg (show ¬ (false = true) by decide)] at H;exact H
   clear H
   have H:=H1
   clear H1
   obtain rfl:=Option.some.inj H
   go_enter Tryd.func7,Tryd.ntmps7
   try go_wp2_with (first|((with_reducible refine bA (f:=31) rfl ?_);refine cO (some 13) rfl rfl Tryd.func31 (by kernel_rfl) rfl #[.string a0] rfl (by (try simp only [List.map_toArray,List.map_cons,List.map_nil]);first|done|rfl|(simp only [List.length_drop,List.length_take];rfl)|(simp (disch:=first|omega|(simp at *;omega)) only [bY,bJ,dF];rfl)) ?_;(with_reducible refine (dx.calls k a0 zX zV Ai _ A5.out).mono ?_);rintro e Dk ⟨Bn,rfl,ho0,hb⟩;refine ⟨_,rfl,?_⟩;have zW:=Aside0.mk (Kd.jB ho0 (aW (by repeat (first|(with_reducible first|exact HB.out|apply aD|apply ak|apply aC)|exact HB.out))));have zY:=Aside0.mk (aU (by repeat (first|(with_reducible first|exact HB.out|apply aD|apply ak|apply aC)|exact HB.out)) hb);clear HB;have zN:=zW;have HB:=zY;clear zW zY;(try clear hb);(try clear hb2);(try clear hk);(try clear hi);(try clear ho0))|((with_reducible refine dw (N:=3) rfl ?_);refine cB ?hg (N:=3) ?hd (cs:=#[.int .u64 0,.slice none 0 0]) (t:=49) ?hr ?_;(case hd=>rfl);(case hg=>rfl);(case hr=>first|(go_simp;done)|(go_simp;rfl));intro zQ hg CF hbox hb;have zW:=Aside0.mk (Kd.dJ (by (with_reducible repeat (first|apply Kd.cZ|apply Kd.dh|apply Kd.dA));exact zN.out) hb);have zY:=Aside0.mk (aU (by repeat (first|(with_reducible first|exact HB.out|apply aD|apply ak|apply aC)|exact HB.out)) hb);have zZ:=Aside0.mk (hbox);have z8:=Aside0.mk ((by rw [hg];exact (aW (by repeat (first|(with_reducible first|exact HB.out|apply aD|apply ak|apply aC)|exact HB.out))) : w.heap.size ≤ zQ));have Ab:=Aside0.mk ((by rw [hg];exact (aW (by repeat (first|(with_reducible first|exact HB.out|apply aD|apply ak|apply aC)|exact HB.out))) : w.heap.size ≤ zQ));clear zN;clear HB;have zN:=zW;have HB:=zY;have zL:=zZ;have AX:=z8;have zT:=Ab;clear zW zY zZ z8 Ab;clear hb hbox hg;have BP : CF.cell? ⟨zQ,0,none⟩ = some (.int .u64 0):=(ay zL.out 0).trans rfl;have BQ : CF.cell? ⟨zQ,1,none⟩ = some (.slice none 0 0):=(ay zL.out 1).trans rfl;have BR:=av zL.out 0;have BS:=av zL.out 1;obtain ⟨AB,AJ,Ck⟩:=Kd.gq zN.out;subst Ck)|((with_reducible refine bA (f:=32) rfl ?_);refine cO (some 18) rfl rfl Tryd.func32 (by kernel_rfl) rfl #[.string a0] rfl (by (try simp only [List.map_toArray,List.map_cons,List.map_nil]);first|done|rfl|(simp only [List.length_drop,List.length_take];rfl)|(simp (disch:=first|omega|(simp at *;omega)) only [bY,bJ,dF];rfl)) ?_;(with_reducible refine (aN.calls k a0 zS zR Am _ A6.out).mono ?_);rintro e Dl ⟨Bo,rfl,ho0,hb⟩;refine ⟨_,rfl,?_⟩;have zW:=Aside0.mk (Kd.dJ (by (with_reducible repeat (first|apply Kd.cZ|apply Kd.dh|apply Kd.dA));exact (Kd.dO (Kd.dQ (p:=⟨zQ,1,none⟩) (Kd.dQ (p:=⟨zQ,0,none⟩) (Kd.eO zN.out zL.out (by decide)) (fun _ hk=>hk.2) (.int .u64 zX)) (fun _ hk=>hk.2) (.slice AB zV.length AJ)) (fun _ h_=>h_.1))) hb);have zY:=Aside0.mk (Kd.jB ho0 (aW (by repeat (first|(with_reducible first|exact HB.out|apply aD|apply ak|apply aC|refine aA ?_ zT.out)|exact HB.out))));have zZ:=Aside0.mk (aQ (g:=zQ) (o:=.cells #[.int .u64 zX,.slice AB zV.length AJ] 49 (0,0)) (by (with_reducible repeat (first|apply aj|apply au|apply ah));refine aX (cs:=#[.int .u64 zX,.slice none 0 0]) ?_ 1 _ rfl;(with_reducible repeat (first|apply aj|apply au|apply ah));refine aX (cs:=#[.int .u64 0,.slice none 0 0]) ?_ 0 _ rfl;(with_reducible repeat (first|apply aj|apply au|apply ah));exact zL.out) hb);have z8:=Aside0.mk (aU (by repeat (first|(with_reducible first|exact HB.out|apply aD|apply ak|apply aC|refine aA ?_ zT.out)|exact HB.out)) hb);clear zN;clear zL;clear HB;have zN:=zW;have zP:=zY;have zL:=zZ;have HB:=z8;clear zW zY zZ z8;(try clear hb);(try clear hb2);(try clear hk);(try clear hi);(try clear ho0))|((with_reducible refine dw (N:=5) rfl ?_);refine cB ?hg (N:=5) ?hd (cs:=#[.int .u64 0,.slice none 0 0]) (t:=53) ?hr ?_;(case hd=>rfl);(case hg=>rfl);(case hr=>first|(go_simp;done)|(go_simp;rfl));intro zM hg Bh hbox hb;have zW:=Aside0.mk (Kd.dJ (by (with_reducible repeat (first|apply Kd.cZ|apply Kd.dh|apply Kd.dA));exact zN.out) hb);have zY:=Aside0.mk (Kd.dJ (by (with_reducible repeat (first|apply Kd.cZ|apply Kd.dh|apply Kd.dA));exact zP.out) hb);have zZ:=Aside0.mk (aQ (g:=zQ) (o:=.cells #[.int .u64 zX,.slice AB zV.length AJ] 49 (0,0)) (bk_ zL.out) hb);have z8:=Aside0.mk (aU (by repeat (first|(with_reducible first|exact HB.out|apply aD|apply ak|apply aC|refine aA ?_ zT.out)|exact HB.out)) hb);have Ab:=Aside0.mk (hbox);have AL:=Aside0.mk ((by rw [hg];exact (aW (by repeat (first|(with_reducible first|exact HB.out|apply aD|apply ak|apply aC|refine aA ?_ zT.out)|exact HB.out))) : w.heap.size ≤ zM));have AZ:=Aside0.mk ((by rw [hg];exact (aW (by repeat (first|(with_reducible first|exact HB.out|apply aD|apply ak|apply aC|refine aA ?_ zT.out)|exact HB.out))) : w.heap.size ≤ zM));have A9:=Aside0.mk ((by rw [hg];exact Nat.ne_of_lt (bV (g:=zQ) (o:=.cells #[.int .u64 zX,.slice AB zV.length AJ] 49 (0,0)) (bk_ zL.out)) : zQ ≠ zM));have Bf:=Aside0.mk ((by rw [hg];exact Nat.ne_of_gt (bV (g:=zQ) (o:=.cells #[.int .u64 zX,.slice AB zV.length AJ] 49 (0,0)) (bk_ zL.out)) : zM ≠ zQ));clear zN;clear zP;clear zL;clear HB;have zN:=zW;have zP:=zY;have zL:=zZ;have HB:=z8;have zO:=Ab;have Bg:=AL;have Ac:=AZ;have zU:=A9;have Ad:=Bf;clear zW zY zZ z8 Ab AL AZ A9 Bf;clear hb hbox hg;have CG:=Ad.out;have CJ:=zU.out;have BU : Bh.cell? ⟨zM,0,none⟩ = some (.int .u64 0):=(ay zO.out 0).trans rfl;have BZ : Bh.cell? ⟨zM,1,none⟩ = some (.slice none 0 0):=(ay zO.out 1).trans rfl;have Ca:=av zO.out 0;have Cb:=av zO.out 1;obtain ⟨Ar,Av,Cm⟩:=Kd.gq zP.out;subst Cm))
   have zW : Aside0 (Kd.S k98 98 ((Bh.setCell ⟨zM,0,none⟩ (.int .u64 zS)).setCell ⟨zM,1,none⟩ (.slice Ar zR.length Av)) w.heap.size (fun _=>True) (.slice AB zV.length AJ) zV):=⟨by (with_reducible repeat (first|apply Kd.cZ|apply Kd.dh|apply Kd.dA));exact Kd.dO (Kd.dQ (p:=⟨zM,1,none⟩) (Kd.dQ (p:=⟨zM,0,none⟩) (Kd.eO zN.out zO.out (by decide)) (fun _ hk=>hk.2) (.int .u64 zS)) (fun _ hk=>hk.2) (.slice Ar zR.length Av)) (fun _ hk=>trivial)⟩
   have zY : Aside0 (Kd.S iC 103 ((Bh.setCell ⟨zM,0,none⟩ (.int .u64 zS)).setCell ⟨zM,1,none⟩ (.slice Ar zR.length Av)) w.heap.size (fun _=>True) (.slice Ar zR.length Av) zR):=⟨by (with_reducible repeat (first|apply Kd.cZ|apply Kd.dh|apply Kd.dA));exact Kd.dO (Kd.dQ (p:=⟨zM,1,none⟩) (Kd.dQ (p:=⟨zM,0,none⟩) (Kd.eO zP.out zO.out (by decide)) (fun _ hk=>hk.2) (.int .u64 zS)) (fun _ hk=>hk.2) (.slice Ar zR.length Av)) (fun _ hk=>trivial)⟩
   have zZ : Aside0 (((Bh.setCell ⟨zM,0,none⟩ (.int .u64 zS)).setCell ⟨zM,1,none⟩ (.slice Ar zR.length Av)).heap[zQ]? = some (.cells #[.int .u64 zX,.slice AB zV.length AJ] 49 (0,0))):=⟨by (with_reducible repeat (first|apply aj|apply au|apply ah));refine aJ ?_ zU.out _;(with_reducible repeat (first|apply aj|apply au|apply ah));refine aJ ?_ zU.out _;(with_reducible repeat (first|apply aj|apply au|apply ah));exact zL.out⟩
   have z8 : Aside0 (((Bh.setCell ⟨zM,0,none⟩ (.int .u64 zS)).setCell ⟨zM,1,none⟩ (.slice Ar zR.length Av)).heap[zM]? = some (.cells #[.int .u64 zS,.slice Ar zR.length Av] 53 (0,0))):=⟨by (with_reducible repeat (first|apply aj|apply au|apply ah));refine aX (cs:=#[.int .u64 zS,.slice none 0 0]) ?_ 1 _ rfl;(with_reducible repeat (first|apply aj|apply au|apply ah));refine aX (cs:=#[.int .u64 0,.slice none 0 0]) ?_ 0 _ rfl;(with_reducible repeat (first|apply aj|apply au|apply ah));exact zO.out⟩
   have Ab : Aside0 (Below w.heap.size w ((Bh.setCell ⟨zM,0,none⟩ (.int .u64 zS)).setCell ⟨zM,1,none⟩ (.slice Ar zR.length Av))):=⟨by repeat (first|(with_reducible first|exact HB.out|apply aD|apply ak|apply aC|refine aA ?_ zT.out|refine aA ?_ Ac.out)|exact HB.out)⟩
   (try clear zN)
   (try clear zP)
   (try clear zL)
   (try clear zO)
   (try clear HB)
   generalize ((Bh.setCell ⟨zM,0,none⟩ (.int .u64 zS)).setCell ⟨zM,1,none⟩ (.slice Ar zR.length Av)) = CZ at zW zY zZ z8 Ab ⊢
   have zN:=zW
   have zP:=zY
   have zL:=zZ
   have zO:=z8
   have HB:=Ab
   clear zW zY zZ z8 Ab
   have zW:=Aside0.mk (Kd.dA zN.out)
   have zY:=Aside0.mk (Kd.dA zP.out)
   have zZ:=Aside0.mk (au zL.out)
   have z8:=Aside0.mk (au zO.out)
   have Ab:=Aside0.mk (aC HB.out)
   clear zN
   clear zP
   clear zL
   clear zO
   clear HB
   have zN:=zW
   have zP:=zY
   have zL:=zZ
   have zO:=z8
   have HB:=Ab
   clear zW zY zZ z8 Ab
   refine ji (n:=13) (S:=fun w'=>True) (ds:=[]) #[false,false,false,false,false,false,false,false,false,false,false,false,false] (by kernel_rfl) rfl rfl trivial (fun hHeld=>?_);refine gM bP.uh bP.pU (fun HT_ HW_=>?_)
   generalize CZ.drew = Dm at zN zP zL zO HB hHeld ⊢
   refine gH (i:=0) (N:=some 21) #[true,false,false,false,false,false,false,false,false,false,false,false,false] rfl rfl (eF HT_.out (by kernel_rfl)) (by decide) (fun K hK=>?_)
   refine fD Tryd.func23 (by kernel_rfl) rfl #[] (by rfl) rfl rfl (by (try simp only [List.map_toArray,List.map_cons,List.map_nil]);first|done|rfl|(simp only [List.length_drop,List.length_take];rfl)) ?_
   with_reducible refine (dD.calls k  false _ A7.out).mono ?_
   rintro e Dn ⟨rfl,hb⟩
   refine ⟨_,rfl,?_⟩
   have zW:=Aside0.mk (Kd.dJ (by (with_reducible repeat (first|apply Kd.cZ|apply Kd.dh|apply Kd.dA));exact zN.out) hb)
   have zY:=Aside0.mk (Kd.dJ (by (with_reducible repeat (first|apply Kd.cZ|apply Kd.dh|apply Kd.dA));exact zP.out) hb)
   have zZ:=Aside0.mk (aQ (g:=zQ) (o:=.cells #[.int .u64 zX,.slice AB zV.length AJ] 49 (0,0)) (bk_ zL.out) hb)
   have z8:=Aside0.mk (aQ (g:=zM) (o:=.cells #[.int .u64 zS,.slice Ar zR.length Av] 53 (0,0)) (bk_ zO.out) hb)
   have Ab:=Aside0.mk (aU (by repeat (first|(with_reducible first|exact HB.out|apply aD|apply ak|apply aC|refine aA ?_ zT.out|refine aA ?_ Ac.out)|exact HB.out)) hb)
   clear zN
   clear zP
   clear zL
   clear zO
   clear HB
   have zN:=zW
   have zP:=zY
   have zL:=zZ
   have zO:=z8
   have HB:=Ab
   clear zW zY zZ z8 Ab
   (try clear hb)
   (try clear hb2)
   (try clear hk)
   (try clear hi)
   refine hK.out _ _ trivial (fun hHeld=>?_)
   clear hK K
   refine eG (a':=?_) ?_ ?_
   rotate_left
   ·show Act.put _ (some 21) _ = _
    simp only [Act.put,List.setIfInBounds_toArray,List.set_cons_zero,List.set_cons_succ,bI,bN]
    rfl
   refine dH (i:=1) (N:=some 22) (v:=?_) (a':=?_) #[true,true,false,false,false,false,false,false,false,false,false,false,false] rfl rfl (dn HT_.out (by kernel_rfl)) (fun _ _ _ h=>h) (Or.inl ⟨by rfl,?_⟩) ?_ ?_
   rotate_left
   ·intro w'
    go_simp
    with_reducible rfl
   rotate_left
   ·simp only [Act.put,List.setIfInBounds_toArray,List.set_cons_zero,List.set_cons_succ,bI,bN]
    rfl
   refine dH (i:=2) (N:=some 23) (v:=undef) (a':=?_) #[true,true,true,false,false,false,false,false,false,false,false,false,false] rfl rfl (dn HT_.out (by kernel_rfl)) (fun _ _ _ h=>h) (Or.inr ⟨by rfl,rfl⟩) ?_ ?_
   rotate_left
   ·simp only [Act.put,List.setIfInBounds_toArray,List.set_cons_zero,List.set_cons_succ,bI,bN]
    rfl
   refine dH (i:=3) (N:=some 24) (v:=undef) (a':=?_) #[true,true,true,true,false,false,false,false,false,false,false,false,false] rfl rfl (dn HT_.out (by kernel_rfl)) (fun _ _ _ h=>h) (Or.inr ⟨by rfl,rfl⟩) ?_ ?_
   rotate_left
   ·simp only [Act.put,List.setIfInBounds_toArray,List.set_cons_zero,List.set_cons_succ,bI,bN]
    rfl
   refine dH (i:=4) (N:=some 25) (v:=undef) (a':=?_) #[true,true,true,true,true,false,false,false,false,false,false,false,false] rfl rfl (dn HT_.out (by kernel_rfl)) (fun _ _ _ h=>h) (Or.inr ⟨by rfl,rfl⟩) ?_ ?_
   rotate_left
   ·simp only [Act.put,List.setIfInBounds_toArray,List.set_cons_zero,List.set_cons_succ,bI,bN]
    rfl
   refine dH (i:=5) (N:=some 26) (v:=?_) (a':=?_) #[true,true,true,true,true,true,false,false,false,false,false,false,false] rfl rfl (dn HT_.out (by kernel_rfl)) (fun _ _ _ h=>h) (Or.inl ⟨by rfl,?_⟩) ?_ ?_
   rotate_left
   ·intro w'
    go_simp
    with_reducible rfl
   rotate_left
   ·simp only [Act.put,List.setIfInBounds_toArray,List.set_cons_zero,List.set_cons_succ,bI,bN]
    rfl
   refine dH (i:=6) (N:=some 27) (v:=?_) (a':=?_) #[true,true,true,true,true,true,true,false,false,false,false,false,false] rfl rfl (dn HT_.out (by kernel_rfl)) (fun _ _ _ h=>h) (Or.inl ⟨by rfl,?_⟩) ?_ ?_
   rotate_left
   ·intro w'
    go_simp
    with_reducible rfl
   rotate_left
   ·simp only [Act.put,List.setIfInBounds_toArray,List.set_cons_zero,List.set_cons_succ,bI,bN]
    rfl
   refine dH (i:=7) (N:=some 28) (v:=undef) (a':=?_) #[true,true,true,true,true,true,true,true,false,false,false,false,false] rfl rfl (dn HT_.out (by kernel_rfl)) (fun _ _ _ h=>h) (Or.inr ⟨by rfl,rfl⟩) ?_ ?_
   rotate_left
   ·simp only [Act.put,List.setIfInBounds_toArray,List.set_cons_zero,List.set_cons_succ,bI,bN]
    rfl
   refine dH (i:=8) (N:=some 29) (v:=undef) (a':=?_) #[true,true,true,true,true,true,true,true,true,false,false,false,false] rfl rfl (dn HT_.out (by kernel_rfl)) (fun _ _ _ h=>h) (Or.inr ⟨by rfl,rfl⟩) ?_ ?_
   rotate_left
   ·simp only [Act.put,List.setIfInBounds_toArray,List.set_cons_zero,List.set_cons_succ,bI,bN]
    rfl
   refine dH (i:=9) (N:=some 30) (v:=undef) (a':=?_) #[true,true,true,true,true,true,true,true,true,true,false,false,false] rfl rfl (dn HT_.out (by kernel_rfl)) (fun _ _ _ h=>h) (Or.inr ⟨by rfl,rfl⟩) ?_ ?_
   rotate_left
   ·simp only [Act.put,List.setIfInBounds_toArray,List.set_cons_zero,List.set_cons_succ,bI,bN]
    rfl
   refine dH (i:=10) (N:=some 31) (v:=undef) (a':=?_) #[true,true,true,true,true,true,true,true,true,true,true,false,false] rfl rfl (dn HT_.out (by kernel_rfl)) (fun _ _ _ h=>h) (Or.inr ⟨by rfl,rfl⟩) ?_ ?_
   rotate_left
   ·simp only [Act.put,List.setIfInBounds_toArray,List.set_cons_zero,List.set_cons_succ,bI,bN]
    rfl
   refine dH (i:=11) (N:=some 32) (v:=?_) (a':=?_) #[true,true,true,true,true,true,true,true,true,true,true,true,false] rfl rfl (dn HT_.out (by kernel_rfl)) (fun _ _ _ h=>h) (Or.inl ⟨by rfl,?_⟩) ?_ ?_
   rotate_left
   ·intro w'
    go_simp
    with_reducible rfl
   rotate_left
   ·simp only [Act.put,List.setIfInBounds_toArray,List.set_cons_zero,List.set_cons_succ,bI,bN]
    rfl
   refine dH (i:=12) (N:=some 2) (v:=?_) (a':=?_) #[true,true,true,true,true,true,true,true,true,true,true,true,true] rfl rfl (dn HT_.out (by kernel_rfl)) (fun _ _ _ h=>h) (Or.inl ⟨by rfl,?_⟩) ?_ ?_
   rotate_left
   ·intro w'
    go_simp
    with_reducible rfl
   rotate_left
   ·simp only [Act.put,List.setIfInBounds_toArray,List.set_cons_zero,List.set_cons_succ,bI,bN]
    rfl
   refine kE (iI HT_.out (by kernel_rfl)) ?_
   try go_wp2
   go_ret
   exact ⟨by first|rfl|(simp [aY,aZ] <;> rfl)|(simp [*,aY,aZ] <;> rfl),by repeat (first|(with_reducible first|exact HB.out|apply aD|apply ak|apply aC|refine aA ?_ zT.out|refine aA ?_ Ac.out)|exact HB.out)⟩
end Go.Proofs.YtpmbdcljphpcnaaDoor.GC2
