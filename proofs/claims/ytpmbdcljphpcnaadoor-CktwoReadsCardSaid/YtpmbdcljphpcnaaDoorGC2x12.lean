/- Written by this session's own program (wip/gen.py) out of the translation: plain Lean functions of the Go functions, and proofs that the calls come to their answers. No conditions beside those in the statements. -/
import Derived.Test.YtpmbdcljphpcnaaDoorGC2x0
namespace Go.Proofs.YtpmbdcljphpcnaaDoor.GC2
open Go.RowKit Go.Proofs.YtpmbdcljphpcnaaDoorW.PrintWords Go.Proofs.YtpmbdcljphpcnaaDoorW.PrintLast Go.Proofs.YtpmbdcljphpcnaaDoorW.PrintMore
attribute [local go_sem] fO fP gI gJ fF fG fQ fT
set_option linter.unusedVariables false
set_option linter.unusedSimpArgs false
def bR.l0 : Nat → ByteArray → Int → Int → Option (Int)
 | 0,_,_,_=>none
 | k + 1,x0,x3,x4=>if x4 < (x0.size : Int) then (if 0 ≤ x4 then (bR.l0 k x0 (IntKind.u64.wrap ((IntKind.u64.wrap (x3 * 256)) + (IntKind.u64.wrap (bt x0 x4)))) (wrap64 (x4 + 1))) else (none)) else (some x3)
def bR.f (k : Nat) (a0 : ByteArray) : Option (Int):=bR.l0 k a0 0 0
theorem bR.dX : ∀ k,(∀ y0 y1 y2,LeO (bR.l0 k y0 y1 y2) (bR.l0 (k + 1) y0 y1 y2))
 | 0=>fun _ _ _ r h=>by simp [bR.l0] at h
 | k + 1=>by
  have AV:=bR.dX k
  ·intro y0 y1 y2
   unfold bR.l0
   repeat' first
   | (with_reducible exact AV _ _ _)
   | (with_reducible exact LeO.refl _)
   | (with_reducible exact LeO.none _)
   | (with_reducible refine LeO.ite ?_ ?_)
   | (with_reducible refine LeO.bind ?_ (fun _=>?_))
   | exact AV _ _ _
   | exact LeO.none _
   | refine LeO.ite ?_ ?_
   | refine LeO.bind ?_ (fun _=>?_)
theorem bR.mono : ∀ a0 k,LeO (bR.f k a0) (bR.f (k + 1) a0):=by
 intro a0 k
 have AV:=bR.dX k
 unfold bR.f
 repeat' first
   | (with_reducible exact AV _ _ _)
   | (with_reducible exact LeO.refl _)
   | (with_reducible exact LeO.none _)
   | (with_reducible refine LeO.ite ?_ ?_)
   | (with_reducible refine LeO.bind ?_ (fun _=>?_))
   | exact AV _ _ _
   | exact LeO.none _
   | refine LeO.ite ?_ ?_
   | refine LeO.bind ?_ (fun _=>?_)
set_option maxHeartbeats 8000000 in
set_option maxRecDepth 100000 in
theorem bR.calls (k : Nat) (a0 : ByteArray) (r : Int) (w : World) (h : bR.f k a0 = some r) :
  Calls Tryd.prog 79 #[.string a0] w fun e w'=>e = .returned (.int .u64 r) ∧ Drawn0 w w':=by
 have H : (bR.l0 k a0 0 0) = some r:=h
 clear h
 have H':=Aside0.mk H
 clear H
 go_enter Tryd.func79,Tryd.ntmps79
 go_wp2
 go_loopg [3,4] k (fun kq v3 v4 w'=>∃ (Bo : Int) (AB : Int),v3 = .int .u64 Bo ∧ v4 = .int .i64 AB ∧ Aside0 (bR.l0 kq a0 Bo AB = some r) ∧ Aside0 (kq ≤ k) ∧ Drawn0 w w')
 case atStart=>exact ⟨(0),(0),(by first|rfl|(simp;done)|(simp [*];done)),(by first|rfl|(simp;done)|(simp [*];done)),H',⟨Nat.le_refl _⟩,by repeat (first|exact Drawn0.refl _|apply Drawn0.step)⟩
 case round =>
  clear H'
  obtain ⟨Bo,AB,rfl,rfl,HA,Ea,⟨m1,rfl⟩⟩:=hrel
  cases gk with
  | zero=>exact absurd HA.out (by simp [bR.l0])
  | succ k1 =>
   have H:=HA.out
   clear HA
   simp only [bR.l0] at H
   by_cases c2 : AB < (a0.size : Int)
   ·rw [if_pos c2] at H
    have c2b0 : decide (AB < (a0.size : Int)) = true:=decide_eq_true c2
    clear c2
    by_cases c3 : 0 ≤ AB
    ·rw [if_pos c3] at H
     have c3b0 : decide (0 ≤ AB) = true:=decide_eq_true c3
     clear c3
     have H':=Aside0.mk H
     clear H
     have p4 : 0 ≤ (AB : Int):=of_decide_eq_true (by first|(with_reducible assumption)|assumption)
     have q4 : AB < (a0.size : Int):=of_decide_eq_true (by first|(with_reducible assumption)|assumption)
     have hx4:=dG a0 AB
     replace p4:=eq_true p4
     replace q4:=eq_true q4
     go_wp2
     go_roundg k1
     case measure=>have:=Ea.out;omega
     case rel=>exact ⟨(IntKind.u64.wrap ((IntKind.u64.wrap (Bo * 256)) + (IntKind.u64.wrap (bt a0 AB)))),(wrap64 (AB + 1)),(by first|rfl|(simp;done)|(simp [*];done)),(by first|rfl|(simp;done)|(simp [*];done)),H',⟨by have:=Ea.out;omega⟩,by repeat (first|exact Drawn0.refl _|apply Drawn0.step)⟩
    ·rw [if_neg c3] at H
     exact absurd H (by simp)
   ·rw [if_neg c2] at H
    have c2b0 : decide (AB < (a0.size : Int)) = false:=decide_eq_false c2
    clear c2
    obtain rfl:=Option.some.inj H
    go_wp2
    go_ret
    exact ⟨by first|rfl|(simp;done)|(simp [*];done),by repeat (first|exact Drawn0.refl _|apply Drawn0.step)⟩
def aT.j0 : Nat → Int → Bool → ByteArray → Int → Option (ByteArray × Int × Int)
 | 0,_,_,_,_=>none
 | k + 1,x1,x23,Ar,BS=>if x23 = true then (some (Ar,7,0)) else (if (Ar.size : Int) < x1 then (some (Ar,1,0)) else (if 0 ≤ x1 then (if x1 ≤ (Ar.size : Int) then ((bR.f k (Ar.extract 0 (x1 : Int).toNat)).bind fun AU=>(some (Ar.extract (x1 : Int).toNat Ar.size,0,AU))) else (none)) else (none)))
def aT.f (k : Nat) (zL : ByteArray) (zN : Int) (a1 : Int) : Option (ByteArray × Int × Int):=if zN = 0 then (if a1 = 1 then (aT.j0 k a1 false zL zN) else (if a1 = 2 then (aT.j0 k a1 false zL zN) else (if a1 = 4 then (aT.j0 k a1 false zL zN) else (aT.j0 k a1 (a1 != 8) zL zN)))) else (some (zL,zN,0))
theorem aT.dX : ∀ k,(∀ y0 y1 y2 y3,LeO (aT.j0 k y0 y1 y2 y3) (aT.j0 (k + 1) y0 y1 y2 y3))
 | 0=>fun _ _ _ _ r h=>by simp [aT.j0] at h
 | k + 1=>by
  have AV:=aT.dX k
  ·intro y0 y1 y2 y3
   unfold aT.j0
   repeat' first
   | (with_reducible exact AV _ _ _ _)
   | (with_reducible exact bR.mono _ _)
   | (with_reducible exact LeO.refl _)
   | (with_reducible exact LeO.none _)
   | (with_reducible refine LeO.ite ?_ ?_)
   | (with_reducible refine LeO.bind ?_ (fun _=>?_))
   | exact AV _ _ _ _
   | exact bR.mono _ _
   | exact LeO.none _
   | refine LeO.ite ?_ ?_
   | refine LeO.bind ?_ (fun _=>?_)
theorem aT.mono : ∀ a0 a1 a2 k,LeO (aT.f k a0 a1 a2) (aT.f (k + 1) a0 a1 a2):=by
 intro a0 a1 a2 k
 have AV:=aT.dX k
 unfold aT.f
 repeat' first
   | (with_reducible exact AV _ _ _ _)
   | (with_reducible exact bR.mono _ _)
   | (with_reducible exact LeO.refl _)
   | (with_reducible exact LeO.none _)
   | (with_reducible refine LeO.ite ?_ ?_)
   | (with_reducible refine LeO.bind ?_ (fun _=>?_))
   | exact AV _ _ _ _
   | exact bR.mono _ _
   | exact LeO.none _
   | refine LeO.ite ?_ ?_
   | refine LeO.bind ?_ (fun _=>?_)
def aT.T9 : Bool × List (List Nat × List Nat):=(true,[([],[]),([0],[0]),([],[]),([1,2],[1,2]),([3],[3]),([],[]),([5],[5]),([],[]),([6,7],[6,7]),([8],[8]),([4,9,0,1,2,3,4],[4]),([9,10,0,1,2,3,4,5,6,7,8,9,10],[9])])
def aT.B9 : List Nat:=[0,1,0,7,15,0,32,0,224,480,1023,2047]
theorem aT.zB : iB .any (opsOf Tryd.f51 9) = aT.T9:=by kernel_rfl
theorem aT.yg : iq aT.T9.2 aT.B9 = true:=by kernel_rfl
set_option maxHeartbeats 8000000 in
set_option maxRecDepth 100000 in
theorem aT.calls (k : Nat) (zL : ByteArray) (zN : Int) (a1 : Int) (r1 : ByteArray) (r2 : Int) (r3 : Int) (w : World) (h : aT.f k zL zN a1 = some (r1,r2,r3)) :
  Calls Tryd.prog 51 #[.agg #[.string zL,.int .i64 zN],.int .i64 a1] w fun e w'=>e = .returned (.tuple #[.agg #[.string r1,.int .i64 r2],.int .u64 r3]) ∧ Below w.heap.size w w':=by
 have BM:=Tryd.underlying89
 have HB:=Aside0.mk (Below.refl w.heap.size w)
 have H : (if zN = 0 then (if a1 = 1 then (aT.j0 k a1 false zL zN) else (if a1 = 2 then (aT.j0 k a1 false zL zN) else (if a1 = 4 then (aT.j0 k a1 false zL zN) else (aT.j0 k a1 (a1 != 8) zL zN)))) else (some (zL,zN,0))) = some (r1,r2,r3):=h
 clear h
 by_cases c3 : zN = 0
 ·rw [if_pos c3] at H
  have c3b0 : (zN == 0) = true:=beq_iff_eq.mpr c3
  have c3b1 : (zN != 0) = false:=bne_eq_false_iff_eq.mpr c3
  clear c3
  have DL:=Aside0.mk H
  clear H
  go_enter Tryd.func51,Tryd.ntmps51
  go_upto_region 3 with (first|((with_reducible refine dw (N:=2) rfl ?_);refine cB ?hg (N:=2) ?hd (cs:=#[.string zL,.int .i64 zN]) (t:=89) ?hr ?_;(case hd=>rfl);(case hg=>rfl);(case hr=>first|(go_simp;done)|(go_simp;rfl));intro zZ hg w5 hbox hb;have Ac:=Aside0.mk (aU (by repeat (first|(with_reducible first|exact HB.out|apply aD|apply ak|apply aC)|exact HB.out)) hb);have Ad:=Aside0.mk (hbox);have Ae:=Aside0.mk ((by rw [hg];exact (aW (by repeat (first|(with_reducible first|exact HB.out|apply aD|apply ak|apply aC)|exact HB.out))) : w.heap.size ≤ zZ));have Ak:=Aside0.mk ((by rw [hg];exact (aW (by repeat (first|(with_reducible first|exact HB.out|apply aD|apply ak|apply aC)|exact HB.out))) : w.heap.size ≤ zZ));clear HB;have HB:=Ac;have zS:=Ad;have BN:=Ae;have Am:=Ak;clear Ac Ad Ae Ak;clear hb hbox hg)|((with_reducible refine dw (N:=4) rfl ?_);refine cB ?hg (N:=4) ?hd (cs:=#[.string (⟨#[]⟩ : ByteArray),.int .i64 0]) (t:=89) ?hr ?_;(case hd=>rfl);(case hg=>rfl);(case hr=>first|(go_simp;done)|(go_simp;rfl));intro Ab hg w6 hbox hb;have Ac:=Aside0.mk (aQ (g:=zZ) (o:=.cells #[.string zL,.int .i64 zN] 89 (0,0)) (bk_ zS.out) hb);have Ad:=Aside0.mk (aU (by repeat (first|(with_reducible first|exact HB.out|apply aD|apply ak|apply aC|refine aA ?_ Am.out)|exact HB.out)) hb);have Ae:=Aside0.mk (hbox);have Ak:=Aside0.mk ((by rw [hg];exact (aW (by repeat (first|(with_reducible first|exact HB.out|apply aD|apply ak|apply aC|refine aA ?_ Am.out)|exact HB.out))) : w.heap.size ≤ Ab));have Aw:=Aside0.mk ((by rw [hg];exact (aW (by repeat (first|(with_reducible first|exact HB.out|apply aD|apply ak|apply aC|refine aA ?_ Am.out)|exact HB.out))) : w.heap.size ≤ Ab));have Ay:=Aside0.mk ((by rw [hg];exact Nat.ne_of_lt (bV (g:=zZ) (o:=.cells #[.string zL,.int .i64 zN] 89 (0,0)) (bk_ zS.out)) : zZ ≠ Ab));have Az:=Aside0.mk ((by rw [hg];exact Nat.ne_of_gt (bV (g:=zZ) (o:=.cells #[.string zL,.int .i64 zN] 89 (0,0)) (bk_ zS.out)) : Ab ≠ zZ));clear zS;clear HB;have zS:=Ac;have HB:=Ad;have zW:=Ae;have BO:=Ak;have AA:=Aw;have zX:=Ay;have Af:=Az;clear Ac Ad Ae Ak Aw Ay Az;clear hb hbox hg;have DN:=zX.out;have DR:=Af.out;have AX : w6.cell? ⟨zZ,0,none⟩ = some (.string zL):=(ay zS.out 0).trans rfl;have AY : w6.cell? ⟨zZ,1,none⟩ = some (.int .i64 zN):=(ay zS.out 1).trans rfl;have AZ:=av zS.out 0;have A9:=av zS.out 1))
  (try simp only [Act.put,List.setIfInBounds_toArray,List.set_cons_zero,List.set_cons_succ])
  go_cut [23] (fun v23 wc=>∃ (kq : Nat) (AQ : Bool),v23 = .bool AQ ∧ Aside0 (aT.j0 kq a1 AQ zL zN = some (r1,r2,r3)) ∧ Aside0 (kq ≤ k) ∧ Aside0 (wc.heap[zZ]? = some (.cells #[.string zL,.int .i64 zN] 89 (0,0))) ∧ Aside0 (wc.heap[Ab]? = some (.cells #[.string (⟨#[]⟩ : ByteArray),.int .i64 0] 89 (0,0))) ∧ Aside0 (Below w.heap.size w wc))
  case first =>
   have H:=DL.out
   clear DL
   by_cases c9 : a1 = 1
   ·rw [if_pos c9] at H
    have c9b0 : (a1 == 1) = true:=beq_iff_eq.mpr c9
    have c9b1 : (a1 != 1) = false:=bne_eq_false_iff_eq.mpr c9
    clear c9
    (first|rw [c9b0]|(simp only [bI,bN];rw [c9b0])|skip)
    have H':=Aside0.mk H
    clear H
    go_wp2
    go_meet
    case rel=>exact ⟨_,(false),(by first|rfl|(simp;done)|(simp [*];done)),H',⟨by first|omega|exact Nat.le_refl _⟩,⟨by (with_reducible repeat (first|apply aj|apply au|apply ah));exact zS.out⟩,⟨by (with_reducible repeat (first|apply aj|apply au|apply ah));exact zW.out⟩,⟨by repeat (first|(with_reducible first|exact HB.out|apply aD|apply ak|apply aC|refine aA ?_ Am.out|refine aA ?_ AA.out)|exact HB.out)⟩⟩
   ·rw [if_neg c9] at H
    have c9b0 : (a1 == 1) = false:=beq_eq_false_iff_ne.mpr c9
    have c9b1 : (a1 != 1) = true:=bne_iff_ne.mpr c9
    (first|rw [c9b0]|(simp only [bI,bN];rw [c9b0])|skip)
    by_cases c10 : a1 = 2
    ·rw [if_pos c10] at H
     have c10b0 : (a1 == 2) = true:=beq_iff_eq.mpr c10
     have c10b1 : (a1 != 2) = false:=bne_eq_false_iff_eq.mpr c10
     clear c10
     have H':=Aside0.mk H
     clear H
     go_wp2
     go_meet
     case rel=>exact ⟨_,(false),(by first|rfl|(simp;done)|(simp [*];done)),H',⟨by first|omega|exact Nat.le_refl _⟩,⟨by (with_reducible repeat (first|apply aj|apply au|apply ah));exact zS.out⟩,⟨by (with_reducible repeat (first|apply aj|apply au|apply ah));exact zW.out⟩,⟨by repeat (first|(with_reducible first|exact HB.out|apply aD|apply ak|apply aC|refine aA ?_ Am.out|refine aA ?_ AA.out)|exact HB.out)⟩⟩
    ·rw [if_neg c10] at H
     have c10b0 : (a1 == 2) = false:=beq_eq_false_iff_ne.mpr c10
     have c10b1 : (a1 != 2) = true:=bne_iff_ne.mpr c10
     by_cases c11 : a1 = 4
     ·rw [if_pos c11] at H
      have c11b0 : (a1 == 4) = true:=beq_iff_eq.mpr c11
      have c11b1 : (a1 != 4) = false:=bne_eq_false_iff_eq.mpr c11
      clear c11
      have H':=Aside0.mk H
      clear H
      go_wp2
      go_meet
      case rel=>exact ⟨_,(false),(by first|rfl|(simp;done)|(simp [*];done)),H',⟨by first|omega|exact Nat.le_refl _⟩,⟨by (with_reducible repeat (first|apply aj|apply au|apply ah));exact zS.out⟩,⟨by (with_reducible repeat (first|apply aj|apply au|apply ah));exact zW.out⟩,⟨by repeat (first|(with_reducible first|exact HB.out|apply aD|apply ak|apply aC|refine aA ?_ Am.out|refine aA ?_ AA.out)|exact HB.out)⟩⟩
     ·rw [if_neg c11] at H
      have c11b0 : (a1 == 4) = false:=beq_eq_false_iff_ne.mpr c11
      have c11b1 : (a1 != 4) = true:=bne_iff_ne.mpr c11
      have H':=Aside0.mk H
      clear H
      go_wp2
      go_meet
      case rel=>exact ⟨_,((a1 != 8)),(by first|rfl|(simp;done)|(simp [*];done)),H',⟨by first|omega|exact Nat.le_refl _⟩,⟨by (with_reducible repeat (first|apply aj|apply au|apply ah));exact zS.out⟩,⟨by (with_reducible repeat (first|apply aj|apply au|apply ah));exact zW.out⟩,⟨by repeat (first|(with_reducible first|exact HB.out|apply aD|apply ak|apply aC|refine aA ?_ Am.out|refine aA ?_ AA.out)|exact HB.out)⟩⟩
  case rest =>
   clear DL
   try clear c1
   try clear p2
   try clear c3
   try clear c3b0
   try clear c3b1
   try clear c5
   try clear c7
   try clear c9
   try clear c9b0
   try clear c9b1
   try clear c10
   try clear c10b0
   try clear c10b1
   try clear c11
   try clear c11b0
   try clear c11b1
   try clear AX
   try clear AY
   try clear AZ
   try clear A9
   obtain ⟨kq,AQ,rfl,HA,Fb,zS,zW,HB⟩:=hcut
   cases kq with
   | zero=>exact absurd HA.out (by simp [aT.j0])
   | succ Eb =>
    have H:=HA.out
    clear HA
    simp only [aT.j0] at H
    by_cases c12 : AQ = true
    ·subst c12
     have H1 : (some (zL,7,0)) = some (r1,r2,r3):=by rw [if_pos rfl] at H;exact H
     clear H
     have H:=H1
     clear H1
     simp only [Option.some.injEq,Prod.mk.injEq] at H
     obtain ⟨rfl,rfl,rfl⟩:=H
     have Ec:=zX.out
     have Ed:=Af.out
     have Bp : wc.cell? ⟨zZ,0,none⟩ = some (.string zL):=(ay zS.out 0).trans rfl
     have Bq : wc.cell? ⟨zZ,1,none⟩ = some (.int .i64 zN):=(ay zS.out 1).trans rfl
     have Br:=av zS.out 0
     have Bt:=av zS.out 1
     have Bu : wc.cell? ⟨Ab,0,none⟩ = some (.string (⟨#[]⟩ : ByteArray)):=(ay zW.out 0).trans rfl
     have Bv : wc.cell? ⟨Ab,1,none⟩ = some (.int .i64 0):=(ay zW.out 1).trans rfl
     have Bw:=av zW.out 0
     have Bz:=av zW.out 1
     go_wp2
     refine bodyPost_ret (eH rfl _ _ Ab 89 #[.string zL,.int .i64 7] (0,0) _ rfl (by (with_reducible repeat (first|apply aj|apply au|apply ah));refine aX (cs:=#[.string zL,.int .i64 0]) ?_ 1 _ rfl;(with_reducible repeat (first|apply aj|apply au|apply ah));refine aX (cs:=#[.string (⟨#[]⟩ : ByteArray),.int .i64 0]) ?_ 0 _ rfl;(with_reducible repeat (first|apply aj|apply au|apply ah));refine aJ ?_ Af.out _;(with_reducible repeat (first|apply aj|apply au|apply ah));exact zW.out) Tryd.underlying89 rfl (by kernel_rfl)) rfl ?_
     exact ⟨by first|rfl|(simp [aY,aZ] <;> rfl)|(simp [*,aY,aZ] <;> rfl),by repeat (first|(with_reducible first|exact HB.out|apply aD|apply ak|apply aC|refine aA ?_ Am.out|refine aA ?_ AA.out)|exact HB.out)⟩
    ·replace c12:=Bool.eq_false_iff.mpr c12
     subst c12
     have H1 : (if (zL.size : Int) < a1 then (some (zL,1,0)) else (if 0 ≤ a1 then (if a1 ≤ (zL.size : Int) then ((bR.f Eb (zL.extract 0 (a1 : Int).toNat)).bind fun AU=>(some (zL.extract (a1 : Int).toNat zL.size,0,AU))) else (none)) else (none))) = some (r1,r2,r3):=by rw [if_neg (show ¬ (false = true) by decide)] at H;exact H
     clear H
     have H:=H1
     clear H1
     by_cases c16 : (zL.size : Int) < a1
     ·rw [if_pos c16] at H
      have c16b0 : decide ((zL.size : Int) < a1) = true:=decide_eq_true c16
      clear c16
      simp only [Option.some.injEq,Prod.mk.injEq] at H
      obtain ⟨rfl,rfl,rfl⟩:=H
      have Ee:=zX.out
      have Ef:=Af.out
      have BU : wc.cell? ⟨zZ,0,none⟩ = some (.string zL):=(ay zS.out 0).trans rfl
      have BZ : wc.cell? ⟨zZ,1,none⟩ = some (.int .i64 zN):=(ay zS.out 1).trans rfl
      have Ca:=av zS.out 0
      have Cb:=av zS.out 1
      have Cc : wc.cell? ⟨Ab,0,none⟩ = some (.string (⟨#[]⟩ : ByteArray)):=(ay zW.out 0).trans rfl
      have Ce : wc.cell? ⟨Ab,1,none⟩ = some (.int .i64 0):=(ay zW.out 1).trans rfl
      have Cg:=av zW.out 0
      have Ch:=av zW.out 1
      go_wp2
      refine bodyPost_ret (eH rfl _ _ Ab 89 #[.string zL,.int .i64 1] (0,0) _ rfl (by (with_reducible repeat (first|apply aj|apply au|apply ah));refine aX (cs:=#[.string zL,.int .i64 0]) ?_ 1 _ rfl;(with_reducible repeat (first|apply aj|apply au|apply ah));refine aX (cs:=#[.string (⟨#[]⟩ : ByteArray),.int .i64 0]) ?_ 0 _ rfl;(with_reducible repeat (first|apply aj|apply au|apply ah));refine aJ ?_ Af.out _;(with_reducible repeat (first|apply aj|apply au|apply ah));exact zW.out) Tryd.underlying89 rfl (by kernel_rfl)) rfl ?_
      exact ⟨by first|rfl|(simp [aY,aZ] <;> rfl)|(simp [*,aY,aZ] <;> rfl),by repeat (first|(with_reducible first|exact HB.out|apply aD|apply ak|apply aC|refine aA ?_ Am.out|refine aA ?_ AA.out)|exact HB.out)⟩
     ·rw [if_neg c16] at H
      have c16b0 : decide ((zL.size : Int) < a1) = false:=decide_eq_false c16
      clear c16
      by_cases c20 : 0 ≤ a1
      ·rw [if_pos c20] at H
       have c20b0:=eq_true c20
       have c20b1 : decide (0 ≤ a1) = true:=decide_eq_true c20
       clear c20
       by_cases c21 : a1 ≤ (zL.size : Int)
       ·rw [if_pos c21] at H
        have c21b0:=eq_true c21
        have c21b1 : decide (a1 ≤ (zL.size : Int)) = true:=decide_eq_true c21
        clear c21
        have c22b0:=eq_true (of_decide_eq_true (by first|(with_reducible assumption)|assumption) : 0 ≤ a1)
        have c23b0:=eq_true (of_decide_eq_true (by first|(with_reducible assumption)|assumption) : a1 ≤ (zL.size : Int))
        replace H:=Option.bind_eq_some_iff.mp H
        obtain ⟨AU,BP,H⟩:=H
        replace H : (some (zL.extract (a1 : Int).toNat zL.size,0,AU)) = some (r1,r2,r3):=H
        have EY:=Aside0.mk BP
        clear BP
        simp only [Option.some.injEq,Prod.mk.injEq] at H
        obtain ⟨rfl,rfl,rfl⟩:=H
        have Eh:=zX.out
        have Ei:=Af.out
        have BA : wc.cell? ⟨zZ,0,none⟩ = some (.string zL):=(ay zS.out 0).trans rfl
        have BF : wc.cell? ⟨zZ,1,none⟩ = some (.int .i64 zN):=(ay zS.out 1).trans rfl
        have BG:=av zS.out 0
        have BH:=av zS.out 1
        try go_wp2
        have Ac:=Aside0.mk (au zS.out)
        have Ad:=Aside0.mk (au zW.out)
        have Ae:=Aside0.mk (aC HB.out)
        clear zS
        clear zW
        clear HB
        have zS:=Ac
        have zW:=Ad
        have HB:=Ae
        clear Ac Ad Ae
        refine ji (n:=12) (S:=fun w'=>w'.cell? ⟨zZ,0,none⟩ = some (.string zL) ∧ w'.cell? ⟨zZ,1,none⟩ = some (.int .i64 zN)) (ds:=[]) #[false,false,false,false,false,false,false,false,false,false,false,false] (by kernel_rfl) rfl rfl ⟨(ay zS.out 0).trans rfl,(ay zS.out 1).trans rfl⟩ (fun hHeld=>?_);refine gM aT.zB aT.yg (fun HT_ HW_=>?_)
        generalize wc.drew = Ej at zS zW HB hHeld ⊢
        refine dH (i:=0) (N:=some 33) (v:=?_) (a':=?_) #[true,false,false,false,false,false,false,false,false,false,false,false] rfl rfl (dn HT_.out (by kernel_rfl)) (fun _ _ _ h=>h) (Or.inl ⟨by rfl,?_⟩) ?_ ?_
        rotate_left
        ·intro w'
         go_simp
         with_reducible rfl
        rotate_left
        ·simp only [Act.put,List.setIfInBounds_toArray,List.set_cons_zero,List.set_cons_succ,bI,bN]
         rfl
        refine dH (i:=2) (N:=some 35) (v:=?_) (a':=?_) #[true,false,true,false,false,false,false,false,false,false,false,false] rfl rfl (dn HT_.out (by kernel_rfl)) (fun _ _ _ h=>h) (Or.inl ⟨by rfl,?_⟩) ?_ ?_
        rotate_left
        ·intro w'
         go_simp
         with_reducible rfl
        rotate_left
        ·simp only [Act.put,List.setIfInBounds_toArray,List.set_cons_zero,List.set_cons_succ,bI,bN]
         rfl
        refine dH (i:=5) (N:=some 38) (v:=?_) (a':=?_) #[true,false,true,false,false,true,false,false,false,false,false,false] rfl rfl (dn HT_.out (by kernel_rfl)) (fun _ _ _ h=>h) (Or.inl ⟨by rfl,?_⟩) ?_ ?_
        rotate_left
        ·intro w'
         go_simp
         with_reducible rfl
        rotate_left
        ·simp only [Act.put,List.setIfInBounds_toArray,List.set_cons_zero,List.set_cons_succ,bI,bN]
         rfl
        refine dH (i:=7) (N:=some 40) (v:=?_) (a':=?_) #[true,false,true,false,false,true,false,true,false,false,false,false] rfl rfl (dn HT_.out (by kernel_rfl)) (fun _ _ _ h=>h) (Or.inl ⟨by rfl,?_⟩) ?_ ?_
        rotate_left
        ·intro w'
         go_simp
         with_reducible rfl
        rotate_left
        ·simp only [Act.put,List.setIfInBounds_toArray,List.set_cons_zero,List.set_cons_succ,bI,bN]
         rfl
        refine gN (i:=1) (N:=some 34) (v:=?_) (a':=?_) #[true,true,true,false,false,true,false,true,false,false,false,false] rfl rfl (eZ HT_.out HW_.out (by kernel_rfl)) (fun _ _ _ h=>h) (Or.inl ⟨by rfl,?_⟩) hHeld ?_ ?_
        rotate_left
        ·rintro w' ⟨s0,s1⟩
         go_simp
         with_reducible rfl
        rotate_left
        ·simp only [Act.put,List.setIfInBounds_toArray,List.set_cons_zero,List.set_cons_succ,bI,bN]
         rfl
        refine dH (i:=3) (N:=some 36) (v:=?_) (a':=?_) #[true,true,true,true,false,true,false,true,false,false,false,false] rfl rfl (dn HT_.out (by kernel_rfl)) (fun _ _ _ h=>h) (Or.inl ⟨by rfl,?_⟩) ?_ ?_
        rotate_left
        ·intro w'
         go_simp
         with_reducible rfl
        rotate_left
        ·simp only [Act.put,List.setIfInBounds_toArray,List.set_cons_zero,List.set_cons_succ,bI,bN]
         rfl
        refine dH (i:=4) (N:=some 37) (v:=?_) (a':=?_) #[true,true,true,true,true,true,false,true,false,false,false,false] rfl rfl (dn HT_.out (by kernel_rfl)) (fun _ _ _ h=>h) (Or.inl ⟨by rfl,?_⟩) ?_ ?_
        rotate_left
        ·intro w'
         go_simp
         with_reducible rfl
        rotate_left
        ·simp only [Act.put,List.setIfInBounds_toArray,List.set_cons_zero,List.set_cons_succ,bI,bN]
         rfl
        refine gN (i:=6) (N:=some 39) (v:=?_) (a':=?_) #[true,true,true,true,true,true,true,true,false,false,false,false] rfl rfl (eZ HT_.out HW_.out (by kernel_rfl)) (fun _ _ _ h=>h) (Or.inl ⟨by rfl,?_⟩) hHeld ?_ ?_
        rotate_left
        ·rintro w' ⟨s0,s1⟩
         go_simp
         with_reducible rfl
        rotate_left
        ·simp only [Act.put,List.setIfInBounds_toArray,List.set_cons_zero,List.set_cons_succ,bI,bN]
         rfl
        refine dH (i:=8) (N:=some 41) (v:=?_) (a':=?_) #[true,true,true,true,true,true,true,true,true,false,false,false] rfl rfl (dn HT_.out (by kernel_rfl)) (fun _ _ _ h=>h) (Or.inl ⟨by rfl,?_⟩) ?_ ?_
        rotate_left
        ·intro w'
         go_simp
         with_reducible rfl
        rotate_left
        ·simp only [Act.put,List.setIfInBounds_toArray,List.set_cons_zero,List.set_cons_succ,bI,bN]
         rfl
        refine gH (i:=9) (N:=some 42) #[true,true,true,true,true,true,true,true,true,true,false,false] rfl rfl (eF HT_.out (by kernel_rfl)) (by decide) (fun K hK=>?_)
        refine fD Tryd.func79 (by kernel_rfl) rfl #[.string (zL.extract 0 (a1 : Int).toNat)] (by rfl) rfl rfl (by (try simp only [List.map_toArray,List.map_cons,List.map_nil]);first|done|rfl|(simp only [List.length_drop,List.length_take];rfl)) ?_
        with_reducible refine (bR.calls Eb (zL.extract 0 (a1 : Int).toNat) AU _ EY.out).mono ?_
        rintro e w' ⟨rfl,⟨nd,rfl⟩⟩
        refine ⟨_,rfl,?_⟩
        refine hK.out _ _ ⟨(ay zS.out 0).trans rfl,(ay zS.out 1).trans rfl⟩ (fun hHeld=>?_)
        clear hK K
        refine eG (a':=?_) ?_ ?_
        rotate_left
        ·show Act.put _ (some 42) _ = _
         simp only [Act.put,List.setIfInBounds_toArray,List.set_cons_zero,List.set_cons_succ,bI,bN]
         rfl
        refine gH (i:=10) (N:=none) #[true,true,true,true,true,true,true,true,true,true,true,false] rfl rfl (eF HT_.out (by kernel_rfl)) (by decide) (fun K hK=>?_)
        have EZ : Ej.cell? ⟨Ab,0,none⟩ = some (.string (⟨#[]⟩ : ByteArray)):=(ay zW.out 0).trans rfl
        have El:=av zW.out 0
        have Ci:=zX.out
        have Cj:=Af.out
        have E5 : Ej.cell? ⟨Ab,1,none⟩ = some (.int .i64 0):=(ay zW.out 1).trans rfl
        have Em:=av zW.out 1
        have Ck:=zX.out
        have Cm:=Af.out
        refine qW (w1:=?_) (by rfl) rfl ?_ ?_
        rotate_left
        ·go_simp
         rfl
        refine hK.out _ _ ⟨((cell_far (p:=⟨Ab,_,none⟩) zX.out _).trans (((cell_far (p:=⟨Ab,_,none⟩) zX.out _).trans (hHeld.1)))),((cell_far (p:=⟨Ab,_,none⟩) zX.out _).trans (((cell_far (p:=⟨Ab,_,none⟩) zX.out _).trans (hHeld.2))))⟩ (fun hHeld=>?_)
        clear hK K
        refine dH (i:=11) (N:=some 5) (v:=?_) (a':=?_) #[true,true,true,true,true,true,true,true,true,true,true,true] rfl rfl (dn HT_.out (by kernel_rfl)) (fun _ _ _ h=>h) (Or.inl ⟨by rfl,?_⟩) ?_ ?_
        rotate_left
        ·intro w'
         go_simp
         with_reducible rfl
        rotate_left
        ·simp only [Act.put,List.setIfInBounds_toArray,List.set_cons_zero,List.set_cons_succ,bI,bN]
         rfl
        refine kE (iI HT_.out (by kernel_rfl)) ?_
        try go_wp2
        refine bodyPost_ret (eH rfl _ _ Ab 89 #[.string (zL.extract (a1 : Int).toNat zL.size),.int .i64 0] (0,0) _ rfl (by (with_reducible repeat (first|apply aj|apply au|apply ah));refine aX (cs:=#[.string (zL.extract (a1 : Int).toNat zL.size),.int .i64 0]) ?_ 1 _ rfl;(with_reducible repeat (first|apply aj|apply au|apply ah));refine aX (cs:=#[.string (⟨#[]⟩ : ByteArray),.int .i64 0]) ?_ 0 _ rfl;(with_reducible repeat (first|apply aj|apply au|apply ah));exact zW.out) Tryd.underlying89 rfl (by kernel_rfl)) rfl ?_
        exact ⟨by first|rfl|(simp [aY,aZ] <;> rfl)|(simp [*,aY,aZ] <;> rfl),by repeat (first|(with_reducible first|exact HB.out|apply aD|apply ak|apply aC|refine aA ?_ Am.out|refine aA ?_ AA.out)|exact HB.out)⟩
       ·rw [if_neg c21] at H
        exact absurd H (by simp)
      ·rw [if_neg c20] at H
       exact absurd H (by simp)
 ·rw [if_neg c3] at H
  have c3b0 : (zN == 0) = false:=beq_eq_false_iff_ne.mpr c3
  have c3b1 : (zN != 0) = true:=bne_iff_ne.mpr c3
  simp only [Option.some.injEq,Prod.mk.injEq] at H
  obtain ⟨rfl,rfl,rfl⟩:=H
  go_enter Tryd.func51,Tryd.ntmps51
  go_wp2_with (first|((with_reducible refine dw (N:=2) rfl ?_);refine cB ?hg (N:=2) ?hd (cs:=#[.string zL,.int .i64 zN]) (t:=89) ?hr ?_;(case hd=>rfl);(case hg=>rfl);(case hr=>first|(go_simp;done)|(go_simp;rfl));intro zZ hg Fe hbox hb;have Ac:=Aside0.mk (aU (by repeat (first|(with_reducible first|exact HB.out|apply aD|apply ak|apply aC)|exact HB.out)) hb);have Ad:=Aside0.mk (hbox);have Ae:=Aside0.mk ((by rw [hg];exact (aW (by repeat (first|(with_reducible first|exact HB.out|apply aD|apply ak|apply aC)|exact HB.out))) : w.heap.size ≤ zZ));have Ak:=Aside0.mk ((by rw [hg];exact (aW (by repeat (first|(with_reducible first|exact HB.out|apply aD|apply ak|apply aC)|exact HB.out))) : w.heap.size ≤ zZ));clear HB;have HB:=Ac;have zS:=Ad;have BN:=Ae;have Am:=Ak;clear Ac Ad Ae Ak;clear hb hbox hg)|((with_reducible refine dw (N:=4) rfl ?_);refine cB ?hg (N:=4) ?hd (cs:=#[.string (⟨#[]⟩ : ByteArray),.int .i64 0]) (t:=89) ?hr ?_;(case hd=>rfl);(case hg=>rfl);(case hr=>first|(go_simp;done)|(go_simp;rfl));intro Ab hg Cn hbox hb;have Ac:=Aside0.mk (aQ (g:=zZ) (o:=.cells #[.string zL,.int .i64 zN] 89 (0,0)) (bk_ zS.out) hb);have Ad:=Aside0.mk (aU (by repeat (first|(with_reducible first|exact HB.out|apply aD|apply ak|apply aC|refine aA ?_ Am.out)|exact HB.out)) hb);have Ae:=Aside0.mk (hbox);have Ak:=Aside0.mk ((by rw [hg];exact (aW (by repeat (first|(with_reducible first|exact HB.out|apply aD|apply ak|apply aC|refine aA ?_ Am.out)|exact HB.out))) : w.heap.size ≤ Ab));have Aw:=Aside0.mk ((by rw [hg];exact (aW (by repeat (first|(with_reducible first|exact HB.out|apply aD|apply ak|apply aC|refine aA ?_ Am.out)|exact HB.out))) : w.heap.size ≤ Ab));have Ay:=Aside0.mk ((by rw [hg];exact Nat.ne_of_lt (bV (g:=zZ) (o:=.cells #[.string zL,.int .i64 zN] 89 (0,0)) (bk_ zS.out)) : zZ ≠ Ab));have Az:=Aside0.mk ((by rw [hg];exact Nat.ne_of_gt (bV (g:=zZ) (o:=.cells #[.string zL,.int .i64 zN] 89 (0,0)) (bk_ zS.out)) : Ab ≠ zZ));clear zS;clear HB;have zS:=Ac;have HB:=Ad;have zW:=Ae;have BO:=Ak;have AA:=Aw;have zX:=Ay;have Af:=Az;clear Ac Ad Ae Ak Aw Ay Az;clear hb hbox hg;have En:=zX.out;have Eo:=Af.out;have Co : Cn.cell? ⟨zZ,0,none⟩ = some (.string zL):=(ay zS.out 0).trans rfl;have Cq : Cn.cell? ⟨zZ,1,none⟩ = some (.int .i64 zN):=(ay zS.out 1).trans rfl;have Cr:=av zS.out 0;have Ct:=av zS.out 1;have Cu : Cn.cell? ⟨Ab,0,none⟩ = some (.string (⟨#[]⟩ : ByteArray)):=(ay zW.out 0).trans rfl;have Cv : Cn.cell? ⟨Ab,1,none⟩ = some (.int .i64 0):=(ay zW.out 1).trans rfl;have Cw:=av zW.out 0;have Cx:=av zW.out 1))
  refine bodyPost_ret (eH rfl _ _ Ab 89 #[.string zL,.int .i64 zN] (0,0) _ rfl (by (with_reducible repeat (first|apply aj|apply au|apply ah));refine aX (cs:=#[.string zL,.int .i64 0]) ?_ 1 _ rfl;(with_reducible repeat (first|apply aj|apply au|apply ah));refine aX (cs:=#[.string (⟨#[]⟩ : ByteArray),.int .i64 0]) ?_ 0 _ rfl;(with_reducible repeat (first|apply aj|apply au|apply ah));exact zW.out) Tryd.underlying89 rfl (by kernel_rfl)) rfl ?_
  exact ⟨by first|rfl|(simp [aY,aZ] <;> rfl)|(simp [*,aY,aZ] <;> rfl),by repeat (first|(with_reducible first|exact HB.out|apply aD|apply ak|apply aC|refine aA ?_ Am.out|refine aA ?_ AA.out)|exact HB.out)⟩
def bf.f (k : Nat) (zL : ByteArray) (zN : Int) : Option (ByteArray × Int × ByteArray):=(aT.f k zL zN 2).bind fun zY=>(if zY.2.1 = 0 then (if zY.2.2 > 4096 then (some (zL,2,(⟨#[]⟩ : ByteArray))) else (if (zY.1.size : Int) < (wrap64 (zY.2.2)) then (some (zL,1,(⟨#[]⟩ : ByteArray))) else (if 0 ≤ (wrap64 (zY.2.2)) then (if (wrap64 (zY.2.2)) ≤ (zY.1.size : Int) then (some (zY.1.extract ((wrap64 (zY.2.2)) : Int).toNat zY.1.size,0,zY.1.extract 0 ((wrap64 (zY.2.2)) : Int).toNat)) else (none)) else (none)))) else (some (zY.1,zY.2.1,(⟨#[]⟩ : ByteArray))))
theorem bf.mono : ∀ a0 a1 k,LeO (bf.f k a0 a1) (bf.f (k + 1) a0 a1):=by
 intro a0 a1 k
 unfold bf.f
 repeat' first
   | (with_reducible exact aT.mono _ _ _ _)
   | (with_reducible exact LeO.refl _)
   | (with_reducible exact LeO.none _)
   | (with_reducible refine LeO.ite ?_ ?_)
   | (with_reducible refine LeO.bind ?_ (fun _=>?_))
   | exact aT.mono _ _ _ _
   | exact LeO.none _
   | refine LeO.ite ?_ ?_
   | refine LeO.bind ?_ (fun _=>?_)
def bf.T11 : Bool × List (List Nat × List Nat):=(true,[([],[]),([0],[0]),([],[]),([1,2],[1,2]),([3],[3]),([],[]),([5],[5]),([],[]),([6,7],[6,7]),([4,0,1,2,3,4],[4]),([8,9,0,1,2,3,4,5,6,7,8,9],[8])])
def bf.B11 : List Nat:=[0,1,0,7,15,0,32,0,224,31,1023]
theorem bf.uq : iB .any (opsOf Tryd.f52 11) = bf.T11:=by kernel_rfl
theorem bf.qK : iq bf.T11.2 bf.B11 = true:=by kernel_rfl
set_option maxHeartbeats 8000000 in
set_option maxRecDepth 100000 in
theorem bf.calls (k : Nat) (zL : ByteArray) (zN : Int) (r1 : ByteArray) (r2 : Int) (r3 : ByteArray) (w : World) (h : bf.f k zL zN = some (r1,r2,r3)) :
  Calls Tryd.prog 52 #[.agg #[.string zL,.int .i64 zN]] w fun e w'=>e = .returned (.tuple #[.agg #[.string r1,.int .i64 r2],.string r3]) ∧ Below w.heap.size w w':=by
 have BM:=Tryd.underlying89
 have HB:=Aside0.mk (Below.refl w.heap.size w)
 have H : ((aT.f k zL zN 2).bind fun zY=>(if zY.2.1 = 0 then (if zY.2.2 > 4096 then (some (zL,2,(⟨#[]⟩ : ByteArray))) else (if (zY.1.size : Int) < (wrap64 (zY.2.2)) then (some (zL,1,(⟨#[]⟩ : ByteArray))) else (if 0 ≤ (wrap64 (zY.2.2)) then (if (wrap64 (zY.2.2)) ≤ (zY.1.size : Int) then (some (zY.1.extract ((wrap64 (zY.2.2)) : Int).toNat zY.1.size,0,zY.1.extract 0 ((wrap64 (zY.2.2)) : Int).toNat)) else (none)) else (none)))) else (some (zY.1,zY.2.1,(⟨#[]⟩ : ByteArray))))) = some (r1,r2,r3):=h
 clear h
 replace H:=Option.bind_eq_some_iff.mp H
 obtain ⟨⟨Ah,t218,Av⟩,Ep,H⟩:=H
 replace H : (if t218 = 0 then (if Av > 4096 then (some (zL,2,(⟨#[]⟩ : ByteArray))) else (if (Ah.size : Int) < (wrap64 (Av)) then (some (zL,1,(⟨#[]⟩ : ByteArray))) else (if 0 ≤ (wrap64 (Av)) then (if (wrap64 (Av)) ≤ (Ah.size : Int) then (some (Ah.extract ((wrap64 (Av)) : Int).toNat Ah.size,0,Ah.extract 0 ((wrap64 (Av)) : Int).toNat)) else (none)) else (none)))) else (some (Ah,t218,(⟨#[]⟩ : ByteArray)))) = some (r1,r2,r3):=H
 have A2:=Aside0.mk Ep
 clear Ep
 by_cases c3 : t218 = 0
 ·rw [if_pos c3] at H
  have c3b0 : (t218 == 0) = true:=beq_iff_eq.mpr c3
  have c3b1 : (t218 != 0) = false:=bne_eq_false_iff_eq.mpr c3
  clear c3
  by_cases c4 : Av > 4096
  ·rw [if_pos c4] at H
   have c4b0 : decide (4096 < Av) = true:=decide_eq_true c4
   clear c4
   simp only [Option.some.injEq,Prod.mk.injEq] at H
   obtain ⟨rfl,rfl,rfl⟩:=H
   go_enter Tryd.func52,Tryd.ntmps52
   go_wp2_with (first|((with_reducible refine dw (N:=1) rfl ?_);refine cB ?hg (N:=1) ?hd (cs:=#[.string zL,.int .i64 zN]) (t:=89) ?hr ?_;(case hd=>rfl);(case hg=>rfl);(case hr=>first|(go_simp;done)|(go_simp;rfl));intro zO hg w5 hbox hb;have Ac:=Aside0.mk (aU (by repeat (first|(with_reducible first|exact HB.out|apply aD|apply ak|apply aC)|exact HB.out)) hb);have Ad:=Aside0.mk (hbox);have Ae:=Aside0.mk ((by rw [hg];exact (aW (by repeat (first|(with_reducible first|exact HB.out|apply aD|apply ak|apply aC)|exact HB.out))) : w.heap.size ≤ zO));have Ak:=Aside0.mk ((by rw [hg];exact (aW (by repeat (first|(with_reducible first|exact HB.out|apply aD|apply ak|apply aC)|exact HB.out))) : w.heap.size ≤ zO));clear HB;have HB:=Ac;have zM:=Ad;have Bf:=Ae;have zU:=Ak;clear Ac Ad Ae Ak;clear hb hbox hg)|((with_reducible refine dw (N:=2) rfl ?_);refine cB ?hg (N:=2) ?hd (cs:=#[.string (⟨#[]⟩ : ByteArray),.int .i64 0]) (t:=89) ?hr ?_;(case hd=>rfl);(case hg=>rfl);(case hr=>first|(go_simp;done)|(go_simp;rfl));intro zQ hg w6 hbox hb;have Ac:=Aside0.mk (aQ (g:=zO) (o:=.cells #[.string zL,.int .i64 zN] 89 (0,0)) (bk_ zM.out) hb);have Ad:=Aside0.mk (aU (by repeat (first|(with_reducible first|exact HB.out|apply aD|apply ak|apply aC|refine aA ?_ zU.out)|exact HB.out)) hb);have Ae:=Aside0.mk (hbox);have Ak:=Aside0.mk ((by rw [hg];exact (aW (by repeat (first|(with_reducible first|exact HB.out|apply aD|apply ak|apply aC|refine aA ?_ zU.out)|exact HB.out))) : w.heap.size ≤ zQ));have Aw:=Aside0.mk ((by rw [hg];exact (aW (by repeat (first|(with_reducible first|exact HB.out|apply aD|apply ak|apply aC|refine aA ?_ zU.out)|exact HB.out))) : w.heap.size ≤ zQ));have Ay:=Aside0.mk ((by rw [hg];exact Nat.ne_of_lt (bV (g:=zO) (o:=.cells #[.string zL,.int .i64 zN] 89 (0,0)) (bk_ zM.out)) : zO ≠ zQ));have Az:=Aside0.mk ((by rw [hg];exact Nat.ne_of_gt (bV (g:=zO) (o:=.cells #[.string zL,.int .i64 zN] 89 (0,0)) (bk_ zM.out)) : zQ ≠ zO));clear zM;clear HB;have zM:=Ac;have HB:=Ad;have zP:=Ae;have Bg:=Ak;have Ag:=Aw;have Ai:=Ay;have Aa:=Az;clear Ac Ad Ae Ak Aw Ay Az;clear hb hbox hg;have DN:=Ai.out;have DR:=Aa.out;have AX : w6.cell? ⟨zO,0,none⟩ = some (.string zL):=(ay zM.out 0).trans rfl;have AY : w6.cell? ⟨zO,1,none⟩ = some (.int .i64 zN):=(ay zM.out 1).trans rfl;have AZ:=av zM.out 0;have A9:=av zM.out 1)|((with_reducible refine bA (f:=51) rfl ?_);refine cO (some 9) rfl rfl Tryd.func51 (by kernel_rfl) rfl #[.agg #[.string zL,.int .i64 zN],.int .i64 2] rfl (by (try simp only [List.map_toArray,List.map_cons,List.map_nil]);first|done|rfl|(simp only [List.length_drop,List.length_take];rfl)|(simp (disch:=first|omega|(simp at *;omega)) only [bY,bJ,dF];rfl)) ?_;(with_reducible refine (aT.calls k zL zN 2 Ah t218 Av _ A2.out).mono ?_);rintro e w9 ⟨rfl,hb⟩;refine ⟨_,rfl,?_⟩;have Ac:=Aside0.mk (aQ (g:=zO) (o:=.cells #[.string zL,.int .i64 zN] 89 (0,0)) (bk_ zM.out) hb);have Ad:=Aside0.mk (aQ (g:=zQ) (o:=.cells #[.string (⟨#[]⟩ : ByteArray),.int .i64 0] 89 (0,0)) (bk_ zP.out) hb);have Ae:=Aside0.mk (aU (by repeat (first|(with_reducible first|exact HB.out|apply aD|apply ak|apply aC|refine aA ?_ zU.out|refine aA ?_ Ag.out)|exact HB.out)) hb);clear zM;clear zP;clear HB;have zM:=Ac;have zP:=Ad;have HB:=Ae;clear Ac Ad Ae;(try clear hb);(try clear hb2);(try clear hk);(try clear hi))|((with_reducible refine dw (N:=4) rfl ?_);refine cB ?hg (N:=4) ?hd (cs:=#[.string (⟨#[]⟩ : ByteArray),.int .i64 0]) (t:=89) ?hr ?_;(case hd=>rfl);(case hg=>rfl);(case hr=>first|(go_simp;done)|(go_simp;rfl));intro zR hg BK hbox hb;have Ac:=Aside0.mk (aQ (g:=zO) (o:=.cells #[.string zL,.int .i64 zN] 89 (0,0)) (bk_ zM.out) hb);have Ad:=Aside0.mk (aQ (g:=zQ) (o:=.cells #[.string (⟨#[]⟩ : ByteArray),.int .i64 0] 89 (0,0)) (bk_ zP.out) hb);have Ae:=Aside0.mk (aU (by repeat (first|(with_reducible first|exact HB.out|apply aD|apply ak|apply aC|refine aA ?_ zU.out|refine aA ?_ Ag.out)|exact HB.out)) hb);have Ak:=Aside0.mk (hbox);have Aw:=Aside0.mk ((by rw [hg];exact (aW (by repeat (first|(with_reducible first|exact HB.out|apply aD|apply ak|apply aC|refine aA ?_ zU.out|refine aA ?_ Ag.out)|exact HB.out))) : w.heap.size ≤ zR));have Ay:=Aside0.mk ((by rw [hg];exact (aW (by repeat (first|(with_reducible first|exact HB.out|apply aD|apply ak|apply aC|refine aA ?_ zU.out|refine aA ?_ Ag.out)|exact HB.out))) : w.heap.size ≤ zR));have Az:=Aside0.mk ((by rw [hg];exact Nat.ne_of_lt (bV (g:=zO) (o:=.cells #[.string zL,.int .i64 zN] 89 (0,0)) (bk_ zM.out)) : zO ≠ zR));have Bh:=Aside0.mk ((by rw [hg];exact Nat.ne_of_gt (bV (g:=zO) (o:=.cells #[.string zL,.int .i64 zN] 89 (0,0)) (bk_ zM.out)) : zR ≠ zO));have Bj:=Aside0.mk ((by rw [hg];exact Nat.ne_of_lt (bV (g:=zQ) (o:=.cells #[.string (⟨#[]⟩ : ByteArray),.int .i64 0] 89 (0,0)) (bk_ zP.out)) : zQ ≠ zR));have Bl:=Aside0.mk ((by rw [hg];exact Nat.ne_of_gt (bV (g:=zQ) (o:=.cells #[.string (⟨#[]⟩ : ByteArray),.int .i64 0] 89 (0,0)) (bk_ zP.out)) : zR ≠ zQ));clear zM;clear zP;clear HB;have zM:=Ac;have zP:=Ad;have HB:=Ae;have z8:=Ak;have Bn:=Aw;have AL:=Ay;have Aj:=Az;have Al:=Bh;have zT:=Bj;have zV:=Bl;clear Ac Ad Ae Ak Aw Ay Az Bh Bj Bl;clear hb hbox hg;have Er:=Al.out;have Es:=Aj.out;have Et:=zV.out;have Eu:=zT.out;have Cy : BK.cell? ⟨zR,0,none⟩ = some (.string (⟨#[]⟩ : ByteArray)):=(ay z8.out 0).trans rfl;have Cz : BK.cell? ⟨zR,1,none⟩ = some (.int .i64 0):=(ay z8.out 1).trans rfl;have CB:=av z8.out 0;have CF:=av z8.out 1;have Bp : BK.cell? ⟨zO,0,none⟩ = some (.string zL):=(ay zM.out 0).trans rfl;have Bq : BK.cell? ⟨zO,1,none⟩ = some (.int .i64 zN):=(ay zM.out 1).trans rfl;have Br:=av zM.out 0;have Bt:=av zM.out 1;have Bu : BK.cell? ⟨zQ,0,none⟩ = some (.string (⟨#[]⟩ : ByteArray)):=(ay zP.out 0).trans rfl;have Bv : BK.cell? ⟨zQ,1,none⟩ = some (.int .i64 0):=(ay zP.out 1).trans rfl;have Bw:=av zP.out 0;have Bz:=av zP.out 1))
   refine bodyPost_ret (eH rfl _ _ zQ 89 #[.string zL,.int .i64 2] (0,0) _ rfl (by (with_reducible repeat (first|apply aj|apply au|apply ah));refine aX (cs:=#[.string zL,.int .i64 0]) ?_ 1 _ rfl;(with_reducible repeat (first|apply aj|apply au|apply ah));refine aX (cs:=#[.string (⟨#[]⟩ : ByteArray),.int .i64 0]) ?_ 0 _ rfl;(with_reducible repeat (first|apply aj|apply au|apply ah));refine aJ ?_ Aa.out _;(with_reducible repeat (first|apply aj|apply au|apply ah));refine aJ ?_ zT.out _;(with_reducible repeat (first|apply aj|apply au|apply ah));refine aJ ?_ zT.out _;(with_reducible repeat (first|apply aj|apply au|apply ah));exact zP.out) Tryd.underlying89 rfl (by kernel_rfl)) rfl ?_
   exact ⟨by first|rfl|(simp [aY,aZ] <;> rfl)|(simp [*,aY,aZ] <;> rfl),by repeat (first|(with_reducible first|exact HB.out|apply aD|apply ak|apply aC|refine aA ?_ zU.out|refine aA ?_ Ag.out|refine aA ?_ AL.out)|exact HB.out)⟩
  ·rw [if_neg c4] at H
   have c4b0 : decide (4096 < Av) = false:=decide_eq_false c4
   clear c4
   by_cases c16 : (Ah.size : Int) < (wrap64 (Av))
   ·rw [if_pos c16] at H
    have c16b0 : decide ((Ah.size : Int) < (wrap64 (Av))) = true:=decide_eq_true c16
    clear c16
    simp only [Option.some.injEq,Prod.mk.injEq] at H
    obtain ⟨rfl,rfl,rfl⟩:=H
    go_enter Tryd.func52,Tryd.ntmps52
    go_wp2_with (first|((with_reducible refine dw (N:=1) rfl ?_);refine cB ?hg (N:=1) ?hd (cs:=#[.string zL,.int .i64 zN]) (t:=89) ?hr ?_;(case hd=>rfl);(case hg=>rfl);(case hr=>first|(go_simp;done)|(go_simp;rfl));intro zO hg Fg hbox hb;have Ac:=Aside0.mk (aU (by repeat (first|(with_reducible first|exact HB.out|apply aD|apply ak|apply aC)|exact HB.out)) hb);have Ad:=Aside0.mk (hbox);have Ae:=Aside0.mk ((by rw [hg];exact (aW (by repeat (first|(with_reducible first|exact HB.out|apply aD|apply ak|apply aC)|exact HB.out))) : w.heap.size ≤ zO));have Ak:=Aside0.mk ((by rw [hg];exact (aW (by repeat (first|(with_reducible first|exact HB.out|apply aD|apply ak|apply aC)|exact HB.out))) : w.heap.size ≤ zO));clear HB;have HB:=Ac;have zM:=Ad;have Bf:=Ae;have zU:=Ak;clear Ac Ad Ae Ak;clear hb hbox hg)|((with_reducible refine dw (N:=2) rfl ?_);refine cB ?hg (N:=2) ?hd (cs:=#[.string (⟨#[]⟩ : ByteArray),.int .i64 0]) (t:=89) ?hr ?_;(case hd=>rfl);(case hg=>rfl);(case hr=>first|(go_simp;done)|(go_simp;rfl));intro zQ hg Ew hbox hb;have Ac:=Aside0.mk (aQ (g:=zO) (o:=.cells #[.string zL,.int .i64 zN] 89 (0,0)) (bk_ zM.out) hb);have Ad:=Aside0.mk (aU (by repeat (first|(with_reducible first|exact HB.out|apply aD|apply ak|apply aC|refine aA ?_ zU.out)|exact HB.out)) hb);have Ae:=Aside0.mk (hbox);have Ak:=Aside0.mk ((by rw [hg];exact (aW (by repeat (first|(with_reducible first|exact HB.out|apply aD|apply ak|apply aC|refine aA ?_ zU.out)|exact HB.out))) : w.heap.size ≤ zQ));have Aw:=Aside0.mk ((by rw [hg];exact (aW (by repeat (first|(with_reducible first|exact HB.out|apply aD|apply ak|apply aC|refine aA ?_ zU.out)|exact HB.out))) : w.heap.size ≤ zQ));have Ay:=Aside0.mk ((by rw [hg];exact Nat.ne_of_lt (bV (g:=zO) (o:=.cells #[.string zL,.int .i64 zN] 89 (0,0)) (bk_ zM.out)) : zO ≠ zQ));have Az:=Aside0.mk ((by rw [hg];exact Nat.ne_of_gt (bV (g:=zO) (o:=.cells #[.string zL,.int .i64 zN] 89 (0,0)) (bk_ zM.out)) : zQ ≠ zO));clear zM;clear HB;have zM:=Ac;have HB:=Ad;have zP:=Ae;have Bg:=Ak;have Ag:=Aw;have Ai:=Ay;have Aa:=Az;clear Ac Ad Ae Ak Aw Ay Az;clear hb hbox hg;have Ey:=Ai.out;have Ez:=Aa.out;have CG : Ew.cell? ⟨zO,0,none⟩ = some (.string zL):=(ay zM.out 0).trans rfl;have CJ : Ew.cell? ⟨zO,1,none⟩ = some (.int .i64 zN):=(ay zM.out 1).trans rfl;have CK:=av zM.out 0;have CO:=av zM.out 1)|((with_reducible refine bA (f:=51) rfl ?_);refine cO (some 9) rfl rfl Tryd.func51 (by kernel_rfl) rfl #[.agg #[.string zL,.int .i64 zN],.int .i64 2] rfl (by (try simp only [List.map_toArray,List.map_cons,List.map_nil]);first|done|rfl|(simp only [List.length_drop,List.length_take];rfl)|(simp (disch:=first|omega|(simp at *;omega)) only [bY,bJ,dF];rfl)) ?_;(with_reducible refine (aT.calls k zL zN 2 Ah t218 Av _ A2.out).mono ?_);rintro e Fh ⟨rfl,hb⟩;refine ⟨_,rfl,?_⟩;have Ac:=Aside0.mk (aQ (g:=zO) (o:=.cells #[.string zL,.int .i64 zN] 89 (0,0)) (bk_ zM.out) hb);have Ad:=Aside0.mk (aQ (g:=zQ) (o:=.cells #[.string (⟨#[]⟩ : ByteArray),.int .i64 0] 89 (0,0)) (bk_ zP.out) hb);have Ae:=Aside0.mk (aU (by repeat (first|(with_reducible first|exact HB.out|apply aD|apply ak|apply aC|refine aA ?_ zU.out|refine aA ?_ Ag.out)|exact HB.out)) hb);clear zM;clear zP;clear HB;have zM:=Ac;have zP:=Ad;have HB:=Ae;clear Ac Ad Ae;(try clear hb);(try clear hb2);(try clear hk);(try clear hi))|((with_reducible refine dw (N:=4) rfl ?_);refine cB ?hg (N:=4) ?hd (cs:=#[.string (⟨#[]⟩ : ByteArray),.int .i64 0]) (t:=89) ?hr ?_;(case hd=>rfl);(case hg=>rfl);(case hr=>first|(go_simp;done)|(go_simp;rfl));intro zR hg BL hbox hb;have Ac:=Aside0.mk (aQ (g:=zO) (o:=.cells #[.string zL,.int .i64 zN] 89 (0,0)) (bk_ zM.out) hb);have Ad:=Aside0.mk (aQ (g:=zQ) (o:=.cells #[.string (⟨#[]⟩ : ByteArray),.int .i64 0] 89 (0,0)) (bk_ zP.out) hb);have Ae:=Aside0.mk (aU (by repeat (first|(with_reducible first|exact HB.out|apply aD|apply ak|apply aC|refine aA ?_ zU.out|refine aA ?_ Ag.out)|exact HB.out)) hb);have Ak:=Aside0.mk (hbox);have Aw:=Aside0.mk ((by rw [hg];exact (aW (by repeat (first|(with_reducible first|exact HB.out|apply aD|apply ak|apply aC|refine aA ?_ zU.out|refine aA ?_ Ag.out)|exact HB.out))) : w.heap.size ≤ zR));have Ay:=Aside0.mk ((by rw [hg];exact (aW (by repeat (first|(with_reducible first|exact HB.out|apply aD|apply ak|apply aC|refine aA ?_ zU.out|refine aA ?_ Ag.out)|exact HB.out))) : w.heap.size ≤ zR));have Az:=Aside0.mk ((by rw [hg];exact Nat.ne_of_lt (bV (g:=zO) (o:=.cells #[.string zL,.int .i64 zN] 89 (0,0)) (bk_ zM.out)) : zO ≠ zR));have Bh:=Aside0.mk ((by rw [hg];exact Nat.ne_of_gt (bV (g:=zO) (o:=.cells #[.string zL,.int .i64 zN] 89 (0,0)) (bk_ zM.out)) : zR ≠ zO));have Bj:=Aside0.mk ((by rw [hg];exact Nat.ne_of_lt (bV (g:=zQ) (o:=.cells #[.string (⟨#[]⟩ : ByteArray),.int .i64 0] 89 (0,0)) (bk_ zP.out)) : zQ ≠ zR));have Bl:=Aside0.mk ((by rw [hg];exact Nat.ne_of_gt (bV (g:=zQ) (o:=.cells #[.string (⟨#[]⟩ : ByteArray),.int .i64 0] 89 (0,0)) (bk_ zP.out)) : zR ≠ zQ));clear zM;clear zP;clear HB;have zM:=Ac;have zP:=Ad;have HB:=Ae;have z8:=Ak;have Bn:=Aw;have AL:=Ay;have Aj:=Az;have Al:=Bh;have zT:=Bj;have zV:=Bl;clear Ac Ad Ae Ak Aw Ay Az Bh Bj Bl;clear hb hbox hg;have EA:=Al.out;have EB:=Aj.out;have EC:=zV.out;have ED:=zT.out;have CP : BL.cell? ⟨zR,0,none⟩ = some (.string (⟨#[]⟩ : ByteArray)):=(ay z8.out 0).trans rfl;have CQ : BL.cell? ⟨zR,1,none⟩ = some (.int .i64 0):=(ay z8.out 1).trans rfl;have CS:=av z8.out 0;have CU:=av z8.out 1;have BA : BL.cell? ⟨zO,0,none⟩ = some (.string zL):=(ay zM.out 0).trans rfl;have BF : BL.cell? ⟨zO,1,none⟩ = some (.int .i64 zN):=(ay zM.out 1).trans rfl;have BG:=av zM.out 0;have BH:=av zM.out 1;have CV : BL.cell? ⟨zQ,0,none⟩ = some (.string (⟨#[]⟩ : ByteArray)):=(ay zP.out 0).trans rfl;have CW : BL.cell? ⟨zQ,1,none⟩ = some (.int .i64 0):=(ay zP.out 1).trans rfl;have CX:=av zP.out 0;have CY:=av zP.out 1))
    refine bodyPost_ret (eH rfl _ _ zQ 89 #[.string zL,.int .i64 1] (0,0) _ rfl (by (with_reducible repeat (first|apply aj|apply au|apply ah));refine aX (cs:=#[.string zL,.int .i64 0]) ?_ 1 _ rfl;(with_reducible repeat (first|apply aj|apply au|apply ah));refine aX (cs:=#[.string (⟨#[]⟩ : ByteArray),.int .i64 0]) ?_ 0 _ rfl;(with_reducible repeat (first|apply aj|apply au|apply ah));refine aJ ?_ Aa.out _;(with_reducible repeat (first|apply aj|apply au|apply ah));refine aJ ?_ zT.out _;(with_reducible repeat (first|apply aj|apply au|apply ah));refine aJ ?_ zT.out _;(with_reducible repeat (first|apply aj|apply au|apply ah));exact zP.out) Tryd.underlying89 rfl (by kernel_rfl)) rfl ?_
    exact ⟨by first|rfl|(simp [aY,aZ] <;> rfl)|(simp [*,aY,aZ] <;> rfl),by repeat (first|(with_reducible first|exact HB.out|apply aD|apply ak|apply aC|refine aA ?_ zU.out|refine aA ?_ Ag.out|refine aA ?_ AL.out)|exact HB.out)⟩
   ·rw [if_neg c16] at H
    have c16b0 : decide ((Ah.size : Int) < (wrap64 (Av))) = false:=decide_eq_false c16
    clear c16
    obtain ⟨AJ,AO⟩ : ∃ j_ : Int,(wrap64 (Av)) = j_:=⟨_,rfl⟩
    replace H : (if 0 ≤ (AJ) then (if (AJ) ≤ (Ah.size : Int) then (some (Ah.extract ((AJ) : Int).toNat Ah.size,0,Ah.extract 0 ((AJ) : Int).toNat)) else (none)) else (none)) = some (r1,r2,r3):=by first|(rw [AO] at H;exact H)|(simp only [AO] at H ⊢;exact H)
    (try rw [AO] at c16b0)
    (try rw [AO] at A2)
    have hji28w : (IntKind.i64.wrap (Av)) = AJ:=(bI _).trans AO
    by_cases BQ : 0 ≤ (AJ)
    ·rw [if_pos BQ] at H
     have c29b0:=eq_true BQ
     have c29b1 : decide (0 ≤ (AJ)) = true:=decide_eq_true BQ
     clear BQ
     by_cases BR : (AJ) ≤ (Ah.size : Int)
     ·rw [if_pos BR] at H
      have c30b0:=eq_true BR
      have c30b1 : decide ((AJ) ≤ (Ah.size : Int)) = true:=decide_eq_true BR
      clear BR
      have c31b0:=eq_true (of_decide_eq_true (by first|(with_reducible assumption)|assumption) : 0 ≤ (AJ))
      have c32b0:=eq_true (of_decide_eq_true (by first|(with_reducible assumption)|assumption) : (AJ) ≤ (Ah.size : Int))
      simp only [Option.some.injEq,Prod.mk.injEq] at H
      obtain ⟨rfl,rfl,rfl⟩:=H
      go_enter Tryd.func52,Tryd.ntmps52
      try go_wp2_with (first|((with_reducible refine dw (N:=1) rfl ?_);refine cB ?hg (N:=1) ?hd (cs:=#[.string zL,.int .i64 zN]) (t:=89) ?hr ?_;(case hd=>rfl);(case hg=>rfl);(case hr=>first|(go_simp;done)|(go_simp;rfl));intro zO hg Fj hbox hb;have Ac:=Aside0.mk (aU (by repeat (first|(with_reducible first|exact HB.out|apply aD|apply ak|apply aC)|exact HB.out)) hb);have Ad:=Aside0.mk (hbox);have Ae:=Aside0.mk ((by rw [hg];exact (aW (by repeat (first|(with_reducible first|exact HB.out|apply aD|apply ak|apply aC)|exact HB.out))) : w.heap.size ≤ zO));have Ak:=Aside0.mk ((by rw [hg];exact (aW (by repeat (first|(with_reducible first|exact HB.out|apply aD|apply ak|apply aC)|exact HB.out))) : w.heap.size ≤ zO));clear HB;have HB:=Ac;have zM:=Ad;have Bf:=Ae;have zU:=Ak;clear Ac Ad Ae Ak;clear hb hbox hg)|((with_reducible refine dw (N:=2) rfl ?_);refine cB ?hg (N:=2) ?hd (cs:=#[.string (⟨#[]⟩ : ByteArray),.int .i64 0]) (t:=89) ?hr ?_;(case hd=>rfl);(case hg=>rfl);(case hr=>first|(go_simp;done)|(go_simp;rfl));intro zQ hg EF hbox hb;have Ac:=Aside0.mk (aQ (g:=zO) (o:=.cells #[.string zL,.int .i64 zN] 89 (0,0)) (bk_ zM.out) hb);have Ad:=Aside0.mk (aU (by repeat (first|(with_reducible first|exact HB.out|apply aD|apply ak|apply aC|refine aA ?_ zU.out)|exact HB.out)) hb);have Ae:=Aside0.mk (hbox);have Ak:=Aside0.mk ((by rw [hg];exact (aW (by repeat (first|(with_reducible first|exact HB.out|apply aD|apply ak|apply aC|refine aA ?_ zU.out)|exact HB.out))) : w.heap.size ≤ zQ));have Aw:=Aside0.mk ((by rw [hg];exact (aW (by repeat (first|(with_reducible first|exact HB.out|apply aD|apply ak|apply aC|refine aA ?_ zU.out)|exact HB.out))) : w.heap.size ≤ zQ));have Ay:=Aside0.mk ((by rw [hg];exact Nat.ne_of_lt (bV (g:=zO) (o:=.cells #[.string zL,.int .i64 zN] 89 (0,0)) (bk_ zM.out)) : zO ≠ zQ));have Az:=Aside0.mk ((by rw [hg];exact Nat.ne_of_gt (bV (g:=zO) (o:=.cells #[.string zL,.int .i64 zN] 89 (0,0)) (bk_ zM.out)) : zQ ≠ zO));clear zM;clear HB;have zM:=Ac;have HB:=Ad;have zP:=Ae;have Bg:=Ak;have Ag:=Aw;have Ai:=Ay;have Aa:=Az;clear Ac Ad Ae Ak Aw Ay Az;clear hb hbox hg;have EG:=Ai.out;have EH:=Aa.out;have CZ : EF.cell? ⟨zO,0,none⟩ = some (.string zL):=(ay zM.out 0).trans rfl;have C8 : EF.cell? ⟨zO,1,none⟩ = some (.int .i64 zN):=(ay zM.out 1).trans rfl;have C9:=av zM.out 0;have Da:=av zM.out 1)|((with_reducible refine bA (f:=51) rfl ?_);refine cO (some 9) rfl rfl Tryd.func51 (by kernel_rfl) rfl #[.agg #[.string zL,.int .i64 zN],.int .i64 2] rfl (by (try simp only [List.map_toArray,List.map_cons,List.map_nil]);first|done|rfl|(simp only [List.length_drop,List.length_take];rfl)|(simp (disch:=first|omega|(simp at *;omega)) only [bY,bJ,dF];rfl)) ?_;(with_reducible refine (aT.calls k zL zN 2 Ah t218 Av _ A2.out).mono ?_);rintro e Fp ⟨rfl,hb⟩;refine ⟨_,rfl,?_⟩;have Ac:=Aside0.mk (aQ (g:=zO) (o:=.cells #[.string zL,.int .i64 zN] 89 (0,0)) (bk_ zM.out) hb);have Ad:=Aside0.mk (aQ (g:=zQ) (o:=.cells #[.string (⟨#[]⟩ : ByteArray),.int .i64 0] 89 (0,0)) (bk_ zP.out) hb);have Ae:=Aside0.mk (aU (by repeat (first|(with_reducible first|exact HB.out|apply aD|apply ak|apply aC|refine aA ?_ zU.out|refine aA ?_ Ag.out)|exact HB.out)) hb);clear zM;clear zP;clear HB;have zM:=Ac;have zP:=Ad;have HB:=Ae;clear Ac Ad Ae;(try clear hb);(try clear hb2);(try clear hk);(try clear hi))|((with_reducible refine dw (N:=4) rfl ?_);refine cB ?hg (N:=4) ?hd (cs:=#[.string (⟨#[]⟩ : ByteArray),.int .i64 0]) (t:=89) ?hr ?_;(case hd=>rfl);(case hg=>rfl);(case hr=>first|(go_simp;done)|(go_simp;rfl));intro zR hg BJ hbox hb;have Ac:=Aside0.mk (aQ (g:=zO) (o:=.cells #[.string zL,.int .i64 zN] 89 (0,0)) (bk_ zM.out) hb);have Ad:=Aside0.mk (aQ (g:=zQ) (o:=.cells #[.string (⟨#[]⟩ : ByteArray),.int .i64 0] 89 (0,0)) (bk_ zP.out) hb);have Ae:=Aside0.mk (aU (by repeat (first|(with_reducible first|exact HB.out|apply aD|apply ak|apply aC|refine aA ?_ zU.out|refine aA ?_ Ag.out)|exact HB.out)) hb);have Ak:=Aside0.mk (hbox);have Aw:=Aside0.mk ((by rw [hg];exact (aW (by repeat (first|(with_reducible first|exact HB.out|apply aD|apply ak|apply aC|refine aA ?_ zU.out|refine aA ?_ Ag.out)|exact HB.out))) : w.heap.size ≤ zR));have Ay:=Aside0.mk ((by rw [hg];exact (aW (by repeat (first|(with_reducible first|exact HB.out|apply aD|apply ak|apply aC|refine aA ?_ zU.out|refine aA ?_ Ag.out)|exact HB.out))) : w.heap.size ≤ zR));have Az:=Aside0.mk ((by rw [hg];exact Nat.ne_of_lt (bV (g:=zO) (o:=.cells #[.string zL,.int .i64 zN] 89 (0,0)) (bk_ zM.out)) : zO ≠ zR));have Bh:=Aside0.mk ((by rw [hg];exact Nat.ne_of_gt (bV (g:=zO) (o:=.cells #[.string zL,.int .i64 zN] 89 (0,0)) (bk_ zM.out)) : zR ≠ zO));have Bj:=Aside0.mk ((by rw [hg];exact Nat.ne_of_lt (bV (g:=zQ) (o:=.cells #[.string (⟨#[]⟩ : ByteArray),.int .i64 0] 89 (0,0)) (bk_ zP.out)) : zQ ≠ zR));have Bl:=Aside0.mk ((by rw [hg];exact Nat.ne_of_gt (bV (g:=zQ) (o:=.cells #[.string (⟨#[]⟩ : ByteArray),.int .i64 0] 89 (0,0)) (bk_ zP.out)) : zR ≠ zQ));clear zM;clear zP;clear HB;have zM:=Ac;have zP:=Ad;have HB:=Ae;have z8:=Ak;have Bn:=Aw;have AL:=Ay;have Aj:=Az;have Al:=Bh;have zT:=Bj;have zV:=Bl;clear Ac Ad Ae Ak Aw Ay Az Bh Bj Bl;clear hb hbox hg;have EI:=Al.out;have EJ:=Aj.out;have EK:=zV.out;have EL:=zT.out;have Db : BJ.cell? ⟨zR,0,none⟩ = some (.string (⟨#[]⟩ : ByteArray)):=(ay z8.out 0).trans rfl;have Dc : BJ.cell? ⟨zR,1,none⟩ = some (.int .i64 0):=(ay z8.out 1).trans rfl;have Df:=av z8.out 0;have Dh:=av z8.out 1))
      have Ac : Aside0 (((BJ.setCell ⟨zR,0,none⟩ (.string Ah)).setCell ⟨zR,1,none⟩ (.int .i64 t218)).heap[zO]? = some (.cells #[.string zL,.int .i64 zN] 89 (0,0))):=⟨by (with_reducible repeat (first|apply aj|apply au|apply ah));refine aJ ?_ Aj.out _;(with_reducible repeat (first|apply aj|apply au|apply ah));refine aJ ?_ Aj.out _;(with_reducible repeat (first|apply aj|apply au|apply ah));exact zM.out⟩
      have Ad : Aside0 (((BJ.setCell ⟨zR,0,none⟩ (.string Ah)).setCell ⟨zR,1,none⟩ (.int .i64 t218)).heap[zQ]? = some (.cells #[.string (⟨#[]⟩ : ByteArray),.int .i64 0] 89 (0,0))):=⟨by (with_reducible repeat (first|apply aj|apply au|apply ah));refine aJ ?_ zT.out _;(with_reducible repeat (first|apply aj|apply au|apply ah));refine aJ ?_ zT.out _;(with_reducible repeat (first|apply aj|apply au|apply ah));exact zP.out⟩
      have Ae : Aside0 (((BJ.setCell ⟨zR,0,none⟩ (.string Ah)).setCell ⟨zR,1,none⟩ (.int .i64 t218)).heap[zR]? = some (.cells #[.string Ah,.int .i64 t218] 89 (0,0))):=⟨by (with_reducible repeat (first|apply aj|apply au|apply ah));refine aX (cs:=#[.string Ah,.int .i64 0]) ?_ 1 _ rfl;(with_reducible repeat (first|apply aj|apply au|apply ah));refine aX (cs:=#[.string (⟨#[]⟩ : ByteArray),.int .i64 0]) ?_ 0 _ rfl;(with_reducible repeat (first|apply aj|apply au|apply ah));exact z8.out⟩
      have Ak : Aside0 (Below w.heap.size w ((BJ.setCell ⟨zR,0,none⟩ (.string Ah)).setCell ⟨zR,1,none⟩ (.int .i64 t218))):=⟨by repeat (first|(with_reducible first|exact HB.out|apply aD|apply ak|apply aC|refine aA ?_ zU.out|refine aA ?_ Ag.out|refine aA ?_ AL.out)|exact HB.out)⟩
      (try clear zM)
      (try clear zP)
      (try clear z8)
      (try clear HB)
      generalize ((BJ.setCell ⟨zR,0,none⟩ (.string Ah)).setCell ⟨zR,1,none⟩ (.int .i64 t218)) = E8 at Ac Ad Ae Ak ⊢
      have zM:=Ac
      have zP:=Ad
      have z8:=Ae
      have HB:=Ak
      clear Ac Ad Ae Ak
      have Ac:=Aside0.mk (au zM.out)
      have Ad:=Aside0.mk (au zP.out)
      have Ae:=Aside0.mk (au z8.out)
      have Ak:=Aside0.mk (aC HB.out)
      clear zM
      clear zP
      clear z8
      clear HB
      have zM:=Ac
      have zP:=Ad
      have z8:=Ae
      have HB:=Ak
      clear Ac Ad Ae Ak
      refine ji (n:=11) (S:=fun w'=>w'.cell? ⟨zR,0,none⟩ = some (.string Ah) ∧ w'.cell? ⟨zR,1,none⟩ = some (.int .i64 t218)) (ds:=[]) #[false,false,false,false,false,false,false,false,false,false,false] (by kernel_rfl) rfl rfl ⟨(ay z8.out 0).trans rfl,(ay z8.out 1).trans rfl⟩ (fun hHeld=>?_);refine gM bf.uq bf.qK (fun HT_ HW_=>?_)
      generalize E8.drew = EM at zM zP z8 HB hHeld ⊢
      refine dH (i:=0) (N:=some 29) (v:=?_) (a':=?_) #[true,false,false,false,false,false,false,false,false,false,false] rfl rfl (dn HT_.out (by kernel_rfl)) (fun _ _ _ h=>h) (Or.inl ⟨by rfl,?_⟩) ?_ ?_
      rotate_left
      ·intro w'
       go_simp
       with_reducible rfl
      rotate_left
      ·simp only [Act.put,List.setIfInBounds_toArray,List.set_cons_zero,List.set_cons_succ,bI,bN]
       rfl
      refine dH (i:=2) (N:=some 31) (v:=?_) (a':=?_) #[true,false,true,false,false,false,false,false,false,false,false] rfl rfl (dn HT_.out (by kernel_rfl)) (fun _ _ _ h=>h) (Or.inl ⟨by rfl,?_⟩) ?_ ?_
      rotate_left
      ·intro w'
       go_simp
       with_reducible rfl
      rotate_left
      ·simp only [Act.put,List.setIfInBounds_toArray,List.set_cons_zero,List.set_cons_succ,bI,bN]
       rfl
      refine dH (i:=5) (N:=some 34) (v:=?_) (a':=?_) #[true,false,true,false,false,true,false,false,false,false,false] rfl rfl (dn HT_.out (by kernel_rfl)) (fun _ _ _ h=>h) (Or.inl ⟨by rfl,?_⟩) ?_ ?_
      rotate_left
      ·intro w'
       go_simp
       with_reducible rfl
      rotate_left
      ·simp only [Act.put,List.setIfInBounds_toArray,List.set_cons_zero,List.set_cons_succ,bI,bN]
       rfl
      refine dH (i:=7) (N:=some 36) (v:=?_) (a':=?_) #[true,false,true,false,false,true,false,true,false,false,false] rfl rfl (dn HT_.out (by kernel_rfl)) (fun _ _ _ h=>h) (Or.inl ⟨by rfl,?_⟩) ?_ ?_
      rotate_left
      ·intro w'
       go_simp
       with_reducible rfl
      rotate_left
      ·simp only [Act.put,List.setIfInBounds_toArray,List.set_cons_zero,List.set_cons_succ,bI,bN]
       rfl
      refine gN (i:=1) (N:=some 30) (v:=?_) (a':=?_) #[true,true,true,false,false,true,false,true,false,false,false] rfl rfl (eZ HT_.out HW_.out (by kernel_rfl)) (fun _ _ _ h=>h) (Or.inl ⟨by rfl,?_⟩) hHeld ?_ ?_
      rotate_left
      ·rintro w' ⟨s0,s1⟩
       go_simp
       with_reducible rfl
      rotate_left
      ·simp only [Act.put,List.setIfInBounds_toArray,List.set_cons_zero,List.set_cons_succ,bI,bN]
       rfl
      refine dH (i:=3) (N:=some 32) (v:=?_) (a':=?_) #[true,true,true,true,false,true,false,true,false,false,false] rfl rfl (dn HT_.out (by kernel_rfl)) (fun _ _ _ h=>h) (Or.inl ⟨by rfl,?_⟩) ?_ ?_
      rotate_left
      ·intro w'
       go_simp
       with_reducible rfl
      rotate_left
      ·simp only [Act.put,List.setIfInBounds_toArray,List.set_cons_zero,List.set_cons_succ,bI,bN]
       rfl
      refine dH (i:=4) (N:=some 33) (v:=?_) (a':=?_) #[true,true,true,true,true,true,false,true,false,false,false] rfl rfl (dn HT_.out (by kernel_rfl)) (fun _ _ _ h=>h) (Or.inl ⟨by rfl,?_⟩) ?_ ?_
      rotate_left
      ·intro w'
       go_simp
       with_reducible rfl
      rotate_left
      ·simp only [Act.put,List.setIfInBounds_toArray,List.set_cons_zero,List.set_cons_succ,bI,bN]
       rfl
      refine gN (i:=6) (N:=some 35) (v:=?_) (a':=?_) #[true,true,true,true,true,true,true,true,false,false,false] rfl rfl (eZ HT_.out HW_.out (by kernel_rfl)) (fun _ _ _ h=>h) (Or.inl ⟨by rfl,?_⟩) hHeld ?_ ?_
      rotate_left
      ·rintro w' ⟨s0,s1⟩
       go_simp
       with_reducible rfl
      rotate_left
      ·simp only [Act.put,List.setIfInBounds_toArray,List.set_cons_zero,List.set_cons_succ,bI,bN]
       rfl
      refine dH (i:=8) (N:=some 37) (v:=?_) (a':=?_) #[true,true,true,true,true,true,true,true,true,false,false] rfl rfl (dn HT_.out (by kernel_rfl)) (fun _ _ _ h=>h) (Or.inl ⟨by rfl,?_⟩) ?_ ?_
      rotate_left
      ·intro w'
       go_simp
       with_reducible rfl
      rotate_left
      ·simp only [Act.put,List.setIfInBounds_toArray,List.set_cons_zero,List.set_cons_succ,bI,bN]
       rfl
      refine gH (i:=9) (N:=none) #[true,true,true,true,true,true,true,true,true,true,false] rfl rfl (eF HT_.out (by kernel_rfl)) (by decide) (fun K hK=>?_)
      have E9 : EM.cell? ⟨zQ,0,none⟩ = some (.string (⟨#[]⟩ : ByteArray)):=(ay zP.out 0).trans rfl
      have EN:=av zP.out 0
      have Di:=Ai.out
      have Dj:=zV.out
      have Dk:=Aa.out
      have Dl:=zT.out
      have Fa : EM.cell? ⟨zQ,1,none⟩ = some (.int .i64 0):=(ay zP.out 1).trans rfl
      have EO:=av zP.out 1
      have Dm:=Ai.out
      have Dn:=zV.out
      have Dp:=Aa.out
      have Dq:=zT.out
      refine qW (w1:=?_) (by rfl) rfl ?_ ?_
      rotate_left
      ·go_simp
       rfl
      refine hK.out _ _ ⟨((cell_far (p:=⟨zQ,_,none⟩) zV.out _).trans (((cell_far (p:=⟨zQ,_,none⟩) zV.out _).trans (hHeld.1)))),((cell_far (p:=⟨zQ,_,none⟩) zV.out _).trans (((cell_far (p:=⟨zQ,_,none⟩) zV.out _).trans (hHeld.2))))⟩ (fun hHeld=>?_)
      clear hK K
      refine dH (i:=10) (N:=some 3) (v:=?_) (a':=?_) #[true,true,true,true,true,true,true,true,true,true,true] rfl rfl (dn HT_.out (by kernel_rfl)) (fun _ _ _ h=>h) (Or.inl ⟨by rfl,?_⟩) ?_ ?_
      rotate_left
      ·intro w'
       go_simp
       with_reducible rfl
      rotate_left
      ·simp only [Act.put,List.setIfInBounds_toArray,List.set_cons_zero,List.set_cons_succ,bI,bN]
       rfl
      refine kE (iI HT_.out (by kernel_rfl)) ?_
      try go_wp2
      refine bodyPost_ret (eH rfl _ _ zQ 89 #[.string (Ah.extract ((AJ) : Int).toNat Ah.size),.int .i64 0] (0,0) _ rfl (by (with_reducible repeat (first|apply aj|apply au|apply ah));refine aX (cs:=#[.string (Ah.extract ((AJ) : Int).toNat Ah.size),.int .i64 0]) ?_ 1 _ rfl;(with_reducible repeat (first|apply aj|apply au|apply ah));refine aX (cs:=#[.string (⟨#[]⟩ : ByteArray),.int .i64 0]) ?_ 0 _ rfl;(with_reducible repeat (first|apply aj|apply au|apply ah));exact zP.out) Tryd.underlying89 rfl (by kernel_rfl)) rfl ?_
      exact ⟨by first|rfl|(simp [aY,aZ] <;> rfl)|(simp only [← AO];first|rfl|(simp [aY,aZ] <;> rfl))|(simp [*,aY,aZ] <;> rfl),by repeat (first|(with_reducible first|exact HB.out|apply aD|apply ak|apply aC|refine aA ?_ zU.out|refine aA ?_ Ag.out|refine aA ?_ AL.out)|exact HB.out)⟩
     ·rw [if_neg BR] at H
      exact absurd H (by simp)
    ·rw [if_neg BQ] at H
     exact absurd H (by simp)
 ·rw [if_neg c3] at H
  have c3b0 : (t218 == 0) = false:=beq_eq_false_iff_ne.mpr c3
  have c3b1 : (t218 != 0) = true:=bne_iff_ne.mpr c3
  simp only [Option.some.injEq,Prod.mk.injEq] at H
  obtain ⟨rfl,rfl,rfl⟩:=H
  go_enter Tryd.func52,Tryd.ntmps52
  go_wp2_with (first|((with_reducible refine dw (N:=1) rfl ?_);refine cB ?hg (N:=1) ?hd (cs:=#[.string zL,.int .i64 zN]) (t:=89) ?hr ?_;(case hd=>rfl);(case hg=>rfl);(case hr=>first|(go_simp;done)|(go_simp;rfl));intro zO hg Fq hbox hb;have Ac:=Aside0.mk (aU (by repeat (first|(with_reducible first|exact HB.out|apply aD|apply ak|apply aC)|exact HB.out)) hb);have Ad:=Aside0.mk (hbox);have Ae:=Aside0.mk ((by rw [hg];exact (aW (by repeat (first|(with_reducible first|exact HB.out|apply aD|apply ak|apply aC)|exact HB.out))) : w.heap.size ≤ zO));have Ak:=Aside0.mk ((by rw [hg];exact (aW (by repeat (first|(with_reducible first|exact HB.out|apply aD|apply ak|apply aC)|exact HB.out))) : w.heap.size ≤ zO));clear HB;have HB:=Ac;have zM:=Ad;have Bf:=Ae;have zU:=Ak;clear Ac Ad Ae Ak;clear hb hbox hg)|((with_reducible refine dw (N:=2) rfl ?_);refine cB ?hg (N:=2) ?hd (cs:=#[.string (⟨#[]⟩ : ByteArray),.int .i64 0]) (t:=89) ?hr ?_;(case hd=>rfl);(case hg=>rfl);(case hr=>first|(go_simp;done)|(go_simp;rfl));intro zQ hg EP hbox hb;have Ac:=Aside0.mk (aQ (g:=zO) (o:=.cells #[.string zL,.int .i64 zN] 89 (0,0)) (bk_ zM.out) hb);have Ad:=Aside0.mk (aU (by repeat (first|(with_reducible first|exact HB.out|apply aD|apply ak|apply aC|refine aA ?_ zU.out)|exact HB.out)) hb);have Ae:=Aside0.mk (hbox);have Ak:=Aside0.mk ((by rw [hg];exact (aW (by repeat (first|(with_reducible first|exact HB.out|apply aD|apply ak|apply aC|refine aA ?_ zU.out)|exact HB.out))) : w.heap.size ≤ zQ));have Aw:=Aside0.mk ((by rw [hg];exact (aW (by repeat (first|(with_reducible first|exact HB.out|apply aD|apply ak|apply aC|refine aA ?_ zU.out)|exact HB.out))) : w.heap.size ≤ zQ));have Ay:=Aside0.mk ((by rw [hg];exact Nat.ne_of_lt (bV (g:=zO) (o:=.cells #[.string zL,.int .i64 zN] 89 (0,0)) (bk_ zM.out)) : zO ≠ zQ));have Az:=Aside0.mk ((by rw [hg];exact Nat.ne_of_gt (bV (g:=zO) (o:=.cells #[.string zL,.int .i64 zN] 89 (0,0)) (bk_ zM.out)) : zQ ≠ zO));clear zM;clear HB;have zM:=Ac;have HB:=Ad;have zP:=Ae;have Bg:=Ak;have Ag:=Aw;have Ai:=Ay;have Aa:=Az;clear Ac Ad Ae Ak Aw Ay Az;clear hb hbox hg;have ER:=Ai.out;have ES:=Aa.out;have Dr : EP.cell? ⟨zO,0,none⟩ = some (.string zL):=(ay zM.out 0).trans rfl;have Dt : EP.cell? ⟨zO,1,none⟩ = some (.int .i64 zN):=(ay zM.out 1).trans rfl;have Du:=av zM.out 0;have Dv:=av zM.out 1)|((with_reducible refine bA (f:=51) rfl ?_);refine cO (some 9) rfl rfl Tryd.func51 (by kernel_rfl) rfl #[.agg #[.string zL,.int .i64 zN],.int .i64 2] rfl (by (try simp only [List.map_toArray,List.map_cons,List.map_nil]);first|done|rfl|(simp only [List.length_drop,List.length_take];rfl)|(simp (disch:=first|omega|(simp at *;omega)) only [bY,bJ,dF];rfl)) ?_;(with_reducible refine (aT.calls k zL zN 2 Ah t218 Av _ A2.out).mono ?_);rintro e Fu ⟨rfl,hb⟩;refine ⟨_,rfl,?_⟩;have Ac:=Aside0.mk (aQ (g:=zO) (o:=.cells #[.string zL,.int .i64 zN] 89 (0,0)) (bk_ zM.out) hb);have Ad:=Aside0.mk (aQ (g:=zQ) (o:=.cells #[.string (⟨#[]⟩ : ByteArray),.int .i64 0] 89 (0,0)) (bk_ zP.out) hb);have Ae:=Aside0.mk (aU (by repeat (first|(with_reducible first|exact HB.out|apply aD|apply ak|apply aC|refine aA ?_ zU.out|refine aA ?_ Ag.out)|exact HB.out)) hb);clear zM;clear zP;clear HB;have zM:=Ac;have zP:=Ad;have HB:=Ae;clear Ac Ad Ae;(try clear hb);(try clear hb2);(try clear hk);(try clear hi))|((with_reducible refine dw (N:=4) rfl ?_);refine cB ?hg (N:=4) ?hd (cs:=#[.string (⟨#[]⟩ : ByteArray),.int .i64 0]) (t:=89) ?hr ?_;(case hd=>rfl);(case hg=>rfl);(case hr=>first|(go_simp;done)|(go_simp;rfl));intro zR hg Dw hbox hb;have Ac:=Aside0.mk (aQ (g:=zO) (o:=.cells #[.string zL,.int .i64 zN] 89 (0,0)) (bk_ zM.out) hb);have Ad:=Aside0.mk (aQ (g:=zQ) (o:=.cells #[.string (⟨#[]⟩ : ByteArray),.int .i64 0] 89 (0,0)) (bk_ zP.out) hb);have Ae:=Aside0.mk (aU (by repeat (first|(with_reducible first|exact HB.out|apply aD|apply ak|apply aC|refine aA ?_ zU.out|refine aA ?_ Ag.out)|exact HB.out)) hb);have Ak:=Aside0.mk (hbox);have Aw:=Aside0.mk ((by rw [hg];exact (aW (by repeat (first|(with_reducible first|exact HB.out|apply aD|apply ak|apply aC|refine aA ?_ zU.out|refine aA ?_ Ag.out)|exact HB.out))) : w.heap.size ≤ zR));have Ay:=Aside0.mk ((by rw [hg];exact (aW (by repeat (first|(with_reducible first|exact HB.out|apply aD|apply ak|apply aC|refine aA ?_ zU.out|refine aA ?_ Ag.out)|exact HB.out))) : w.heap.size ≤ zR));have Az:=Aside0.mk ((by rw [hg];exact Nat.ne_of_lt (bV (g:=zO) (o:=.cells #[.string zL,.int .i64 zN] 89 (0,0)) (bk_ zM.out)) : zO ≠ zR));have Bh:=Aside0.mk ((by rw [hg];exact Nat.ne_of_gt (bV (g:=zO) (o:=.cells #[.string zL,.int .i64 zN] 89 (0,0)) (bk_ zM.out)) : zR ≠ zO));have Bj:=Aside0.mk ((by rw [hg];exact Nat.ne_of_lt (bV (g:=zQ) (o:=.cells #[.string (⟨#[]⟩ : ByteArray),.int .i64 0] 89 (0,0)) (bk_ zP.out)) : zQ ≠ zR));have Bl:=Aside0.mk ((by rw [hg];exact Nat.ne_of_gt (bV (g:=zQ) (o:=.cells #[.string (⟨#[]⟩ : ByteArray),.int .i64 0] 89 (0,0)) (bk_ zP.out)) : zR ≠ zQ));clear zM;clear zP;clear HB;have zM:=Ac;have zP:=Ad;have HB:=Ae;have z8:=Ak;have Bn:=Aw;have AL:=Ay;have Aj:=Az;have Al:=Bh;have zT:=Bj;have zV:=Bl;clear Ac Ad Ae Ak Aw Ay Az Bh Bj Bl;clear hb hbox hg;have ET:=Al.out;have EU:=Aj.out;have EW:=zV.out;have EX:=zT.out;have Dx : Dw.cell? ⟨zR,0,none⟩ = some (.string (⟨#[]⟩ : ByteArray)):=(ay z8.out 0).trans rfl;have Dy : Dw.cell? ⟨zR,1,none⟩ = some (.int .i64 0):=(ay z8.out 1).trans rfl;have Dz:=av z8.out 0;have DC:=av z8.out 1;have DF : Dw.cell? ⟨zQ,0,none⟩ = some (.string (⟨#[]⟩ : ByteArray)):=(ay zP.out 0).trans rfl;have DI : Dw.cell? ⟨zQ,1,none⟩ = some (.int .i64 0):=(ay zP.out 1).trans rfl;have DJ:=av zP.out 0;have DK:=av zP.out 1))
  refine bodyPost_ret (eH rfl _ _ zQ 89 #[.string Ah,.int .i64 t218] (0,0) _ rfl (by (with_reducible repeat (first|apply aj|apply au|apply ah));refine aX (cs:=#[.string Ah,.int .i64 0]) ?_ 1 _ rfl;(with_reducible repeat (first|apply aj|apply au|apply ah));refine aX (cs:=#[.string (⟨#[]⟩ : ByteArray),.int .i64 0]) ?_ 0 _ rfl;(with_reducible repeat (first|apply aj|apply au|apply ah));refine aJ ?_ zT.out _;(with_reducible repeat (first|apply aj|apply au|apply ah));refine aJ ?_ zT.out _;(with_reducible repeat (first|apply aj|apply au|apply ah));exact zP.out) Tryd.underlying89 rfl (by kernel_rfl)) rfl ?_
  exact ⟨by first|rfl|(simp [aY,aZ] <;> rfl)|(simp [*,aY,aZ] <;> rfl),by repeat (first|(with_reducible first|exact HB.out|apply aD|apply ak|apply aC|refine aA ?_ zU.out|refine aA ?_ Ag.out|refine aA ?_ AL.out)|exact HB.out)⟩
def fq.f (zL : ByteArray) (zN : Int) : Option (Int):=if zN = 0 then (if zL.toList = ([] : List UInt8) then (some zN) else (some 6)) else (some zN)
set_option maxHeartbeats 8000000 in
set_option maxRecDepth 100000 in
theorem fq.calls (zL : ByteArray) (zN : Int) (r : Int) (w : World) (h : fq.f zL zN = some r) :
  Calls Tryd.prog 53 #[.agg #[.string zL,.int .i64 zN]] w fun e w'=>e = .returned (.int .i64 r) ∧ Below w.heap.size w w':=by
 have BM:=Tryd.underlying89
 have HB:=Aside0.mk (Below.refl w.heap.size w)
 have H : (if zN = 0 then (if zL.toList = ([] : List UInt8) then (some zN) else (some 6)) else (some zN)) = some r:=h
 clear h
 by_cases c2 : zN = 0
 ·rw [if_pos c2] at H
  have c2b0 : (zN == 0) = true:=beq_iff_eq.mpr c2
  have c2b1 : (zN != 0) = false:=bne_eq_false_iff_eq.mpr c2
  clear c2
  by_cases c3 : zL.toList = ([] : List UInt8)
  ·rw [if_pos c3] at H
   have c3b0 : (zL.toList == ([] : List UInt8)) = true:=beq_iff_eq.mpr c3
   have c3b1 : (zL.toList != ([] : List UInt8)) = false:=bne_eq_false_iff_eq.mpr c3
   clear c3
   obtain rfl:=Option.some.inj H
   go_enter Tryd.func53,Tryd.ntmps53
   go_wp2_with (first|((with_reducible refine dw (N:=1) rfl ?_);refine cB ?hg (N:=1) ?hd (cs:=#[.string zL,.int .i64 zN]) (t:=89) ?hr ?_;(case hd=>rfl);(case hg=>rfl);(case hr=>first|(go_simp;done)|(go_simp;rfl));intro Ap hg w4 hbox hb;have Ac:=Aside0.mk (aU (by repeat (first|(with_reducible first|exact HB.out|apply aD|apply ak|apply aC)|exact HB.out)) hb);have Ad:=Aside0.mk (hbox);have Ae:=Aside0.mk ((by rw [hg];exact (aW (by repeat (first|(with_reducible first|exact HB.out|apply aD|apply ak|apply aC)|exact HB.out))) : w.heap.size ≤ Ap));have Ak:=Aside0.mk ((by rw [hg];exact (aW (by repeat (first|(with_reducible first|exact HB.out|apply aD|apply ak|apply aC)|exact HB.out))) : w.heap.size ≤ Ap));clear HB;have HB:=Ac;have Aq:=Ad;have BI:=Ae;have AP:=Ak;clear Ac Ad Ae Ak;clear hb hbox hg;have DT : w4.cell? ⟨Ap,0,none⟩ = some (.string zL):=(ay Aq.out 0).trans rfl;have DU : w4.cell? ⟨Ap,1,none⟩ = some (.int .i64 zN):=(ay Aq.out 1).trans rfl;have DV:=av Aq.out 0;have DW:=av Aq.out 1))
   go_ret
   exact ⟨by first|rfl|(simp [aY,aZ] <;> rfl)|(simp [*,aY,aZ] <;> rfl),by repeat (first|(with_reducible first|exact HB.out|apply aD|apply ak|apply aC|refine aA ?_ AP.out)|exact HB.out)⟩
  ·rw [if_neg c3] at H
   have c3b0 : (zL.toList == ([] : List UInt8)) = false:=beq_eq_false_iff_ne.mpr c3
   have c3b1 : (zL.toList != ([] : List UInt8)) = true:=bne_iff_ne.mpr c3
   obtain rfl:=Option.some.inj H
   go_enter Tryd.func53,Tryd.ntmps53
   go_wp2_with (first|((with_reducible refine dw (N:=1) rfl ?_);refine cB ?hg (N:=1) ?hd (cs:=#[.string zL,.int .i64 zN]) (t:=89) ?hr ?_;(case hd=>rfl);(case hg=>rfl);(case hr=>first|(go_simp;done)|(go_simp;rfl));intro Ap hg w6 hbox hb;have Ac:=Aside0.mk (aU (by repeat (first|(with_reducible first|exact HB.out|apply aD|apply ak|apply aC)|exact HB.out)) hb);have Ad:=Aside0.mk (hbox);have Ae:=Aside0.mk ((by rw [hg];exact (aW (by repeat (first|(with_reducible first|exact HB.out|apply aD|apply ak|apply aC)|exact HB.out))) : w.heap.size ≤ Ap));have Ak:=Aside0.mk ((by rw [hg];exact (aW (by repeat (first|(with_reducible first|exact HB.out|apply aD|apply ak|apply aC)|exact HB.out))) : w.heap.size ≤ Ap));clear HB;have HB:=Ac;have Aq:=Ad;have BI:=Ae;have AP:=Ak;clear Ac Ad Ae Ak;clear hb hbox hg;have DX : w6.cell? ⟨Ap,0,none⟩ = some (.string zL):=(ay Aq.out 0).trans rfl;have DY : w6.cell? ⟨Ap,1,none⟩ = some (.int .i64 zN):=(ay Aq.out 1).trans rfl;have DZ:=av Aq.out 0;have D5:=av Aq.out 1))
   go_ret
   exact ⟨by first|rfl|(simp [aY,aZ] <;> rfl)|(simp [*,aY,aZ] <;> rfl),by repeat (first|(with_reducible first|exact HB.out|apply aD|apply ak|apply aC|refine aA ?_ AP.out)|exact HB.out)⟩
 ·rw [if_neg c2] at H
  have c2b0 : (zN == 0) = false:=beq_eq_false_iff_ne.mpr c2
  have c2b1 : (zN != 0) = true:=bne_iff_ne.mpr c2
  obtain rfl:=Option.some.inj H
  go_enter Tryd.func53,Tryd.ntmps53
  go_wp2_with (first|((with_reducible refine dw (N:=1) rfl ?_);refine cB ?hg (N:=1) ?hd (cs:=#[.string zL,.int .i64 zN]) (t:=89) ?hr ?_;(case hd=>rfl);(case hg=>rfl);(case hr=>first|(go_simp;done)|(go_simp;rfl));intro Ap hg w8 hbox hb;have Ac:=Aside0.mk (aU (by repeat (first|(with_reducible first|exact HB.out|apply aD|apply ak|apply aC)|exact HB.out)) hb);have Ad:=Aside0.mk (hbox);have Ae:=Aside0.mk ((by rw [hg];exact (aW (by repeat (first|(with_reducible first|exact HB.out|apply aD|apply ak|apply aC)|exact HB.out))) : w.heap.size ≤ Ap));have Ak:=Aside0.mk ((by rw [hg];exact (aW (by repeat (first|(with_reducible first|exact HB.out|apply aD|apply ak|apply aC)|exact HB.out))) : w.heap.size ≤ Ap));clear HB;have HB:=Ac;have Aq:=Ad;have BI:=Ae;have AP:=Ak;clear Ac Ad Ae Ak;clear hb hbox hg;have D6 : w8.cell? ⟨Ap,0,none⟩ = some (.string zL):=(ay Aq.out 0).trans rfl;have D7 : w8.cell? ⟨Ap,1,none⟩ = some (.int .i64 zN):=(ay Aq.out 1).trans rfl;have D8:=av Aq.out 0;have D9:=av Aq.out 1))
  go_ret
  exact ⟨by first|rfl|(simp [aY,aZ] <;> rfl)|(simp [*,aY,aZ] <;> rfl),by repeat (first|(with_reducible first|exact HB.out|apply aD|apply ak|apply aC|refine aA ?_ AP.out)|exact HB.out)⟩
end Go.Proofs.YtpmbdcljphpcnaaDoor.GC2
