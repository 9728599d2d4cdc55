/- Written by this session's own program (wip/gen.py) out of the translation: plain Lean functions of the Go functions, and proofs that the calls come to their answers. No conditions beside those in the statements. -/
import Derived.Test.YtpflenjhmeaeoaaGreatDoorCp
import Derived.Test.YtpflenjhmeaeoaaGreatDoorGUtx0
import Derived.Test.YtpflenjhmeaeoaaGreatDoorGUtx2
import Derived.Test.YtpflenjhmeaeoaaGreatDoorGUtx3
namespace Go.Proofs.YtpflenjhmeaeoaaGreatDoor.GUt
open Go.RowKit Go.Proofs.YtpflenjhmeaeoaaGreatDoorW.PrintWords Go.Proofs.YtpflenjhmeaeoaaGreatDoorW.PrintLast Go.Proofs.YtpflenjhmeaeoaaGreatDoorW.PrintMore
attribute [local go_sem] fJ fK gH gI eO eP fM fO
set_option linter.unusedVariables false
set_option linter.unusedSimpArgs false
attribute [local go_sem high] z8 Ac
def aX.l0 : Nat → Int → Int → List (S51) → Option (Bool)
 | 0,_,_,_=>none
 | k + 1,x3,D9,CQ=>if x3 < (CQ.length : Int) then (if 0 ≤ x3 then (if 0 ≤ (wrap64 (x3 - 1)) then (if (wrap64 (x3 - 1)) < (CQ.length : Int) then (if ((Op.bytesLess (((aC CQ (wrap64 (x3 - 1))).f0).toList) (((aC CQ x3).f0).toList)) = true) then (aX.l0 k (wrap64 (x3 + 1)) D9 CQ) else (some false)) else (none)) else (none)) else (none)) else (some true)
def aX.f (k : Nat) (Bl : Int) (BI : List (S51)) : Option (Bool):=aX.l0 k 1 Bl BI
theorem aX.dQ : ∀ k,(∀ y0 y1 y2,LeO (aX.l0 k y0 y1 y2) (aX.l0 (k + 1) y0 y1 y2))
 | 0=>fun _ _ _ r h=>by simp [aX.l0] at h
 | k + 1=>by
  have CY:=aX.dQ k
  ·intro y0 y1 y2
   unfold aX.l0
   repeat' first
   | (with_reducible exact CY _ _ _)
   | (with_reducible exact LeO.refl _)
   | (with_reducible exact LeO.none _)
   | (with_reducible refine LeO.ite ?_ ?_)
   | (with_reducible refine LeO.bind ?_ (fun _=>?_))
   | exact CY _ _ _
   | exact LeO.none _
   | refine LeO.ite ?_ ?_
   | refine LeO.bind ?_ (fun _=>?_)
theorem aX.mono : ∀ a0 a1 k,LeO (aX.f k a0 a1) (aX.f (k + 1) a0 a1):=by
 intro a0 a1 k
 have CY:=aX.dQ k
 unfold aX.f
 repeat' first
   | (with_reducible exact CY _ _ _)
   | (with_reducible exact LeO.refl _)
   | (with_reducible exact LeO.none _)
   | (with_reducible refine LeO.ite ?_ ?_)
   | (with_reducible refine LeO.bind ?_ (fun _=>?_))
   | exact CY _ _ _
   | exact LeO.none _
   | refine LeO.ite ?_ ?_
   | refine LeO.bind ?_ (fun _=>?_)
set_option maxHeartbeats 8000000 in
set_option maxRecDepth 100000 in
theorem aX.calls (k : Nat) (Bl : Int) (Di : Option Addr) (Dj : Nat) (BI : List (S51)) (r : Bool) (w : World) (Es : Kd.C k51 w Di BI.length BI) (Et : BI.length ≤ Dj) (h : aX.f k Bl BI = some r) :
  Calls Tryz.prog 5 #[.agg #[.int .u64 Bl,.slice Di BI.length Dj]] w fun e w'=>e = .returned (.bool r) ∧ Below w.heap.size w w':=by
 have K9:=Tryz.underlying25
 have DJ:=Aside0.mk Es
 have KI:=Aside0.mk Et
 clear Es Et
 have HB:=Aside0.mk (Below.refl w.heap.size w)
 have H : (aX.l0 k 1 Bl BI) = some r:=h
 clear h
 have H':=Aside0.mk H
 clear H
 go_enter Tryz.func5,Tryz.ntmps5
 go_wp2_with (first|((with_reducible refine cZ (N:=1) rfl ?_);refine dA ?hg (N:=1) ?hd (cs:=#[.int .u64 Bl,.slice Di BI.length Dj]) (t:=25) ?hr ?_;(case hd=>rfl);(case hg=>rfl);(case hr=>first|(go_simp;done)|(go_simp;rfl));intro Ca hg w2 hbox hb;have BO:=Aside0.mk (aK hb_ hb);have BP:=Aside0.mk (hbox);have BQ:=Aside0.mk ((by rw [hg];exact (aM hb_) : w.heap.size ≤ Ca));have BR:=Aside0.mk ((by rw [hg];exact (aM hb_) : w.heap.size ≤ Ca));clear HB;have HB:=BO;have BK:=BP;have Eu:=BQ;have Ew:=BR;clear BO BP BQ BR;clear hb hbox hg))
 repeat (go_quiet (first|((with_reducible refine cZ (N:=1) rfl ?_);refine dA ?hg (N:=1) ?hd (cs:=#[.int .u64 Bl,.slice Di BI.length Dj]) (t:=25) ?hr ?_;(case hd=>rfl);(case hg=>rfl);(case hr=>first|(go_simp;done)|(go_simp;rfl));intro Ca hg w2 hbox hb;have BO:=Aside0.mk (aK hb_ hb);have BP:=Aside0.mk (hbox);have BQ:=Aside0.mk ((by rw [hg];exact (aM hb_) : w.heap.size ≤ Ca));have BR:=Aside0.mk ((by rw [hg];exact (aM hb_) : w.heap.size ≤ Ca));clear HB;have HB:=BO;have BK:=BP;have Eu:=BQ;have Ew:=BR;clear BO BP BQ BR;clear hb hbox hg));try go_wp2_with (first|((with_reducible refine cZ (N:=1) rfl ?_);refine dA ?hg (N:=1) ?hd (cs:=#[.int .u64 Bl,.slice Di BI.length Dj]) (t:=25) ?hr ?_;(case hd=>rfl);(case hg=>rfl);(case hr=>first|(go_simp;done)|(go_simp;rfl));intro Ca hg w2 hbox hb;have BO:=Aside0.mk (aK hb_ hb);have BP:=Aside0.mk (hbox);have BQ:=Aside0.mk ((by rw [hg];exact (aM hb_) : w.heap.size ≤ Ca));have BR:=Aside0.mk ((by rw [hg];exact (aM hb_) : w.heap.size ≤ Ca));clear HB;have HB:=BO;have BK:=BP;have Eu:=BQ;have Ew:=BR;clear BO BP BQ BR;clear hb hbox hg)))
 go_loopg [3] k (fun kq v3 w'=>∃ (Cb : Int),v3 = .int .i64 Cb ∧ Aside0 (aX.l0 kq Cb Bl BI = some r) ∧ Aside0 (kq ≤ k) ∧ Aside0 (w'.heap[Ca]? = some (.cells #[.int .u64 Bl,(.slice Di BI.length Dj)] 25 (0,0))) ∧ Aside0 (Below w.heap.size w w'))
 case atStart=>exact ⟨(1),(by first|rfl|(simp;done)|(simp [*];done)),H',⟨Nat.le_refl _⟩,⟨by (with_reducible repeat (first|apply ay|apply aG|apply aD));exact BK.out⟩,⟨hb_⟩⟩
 case round =>
  clear H'
  try clear p2
  obtain ⟨Cb,rfl,HA,DX,BK,HB⟩:=hrel
  cases gk with
  | zero=>exact absurd HA.out (by simp [aX.l0])
  | succ k1 =>
   have H:=HA.out
   clear HA
   simp only [aX.l0] at H
   by_cases c3 : Cb < (BI.length : Int)
   ·rw [if_pos c3] at H
    have c3b0 : decide (Cb < (BI.length : Int)) = true:=decide_eq_true c3
    clear c3
    by_cases c4 : 0 ≤ Cb
    ·rw [if_pos c4] at H
     have c4b0 : decide (0 ≤ Cb) = true:=decide_eq_true c4
     clear c4
     obtain ⟨Dk,Ea⟩ : ∃ j_ : Int,(wrap64 (Cb - 1)) = j_:=⟨_,rfl⟩
     replace H : (if 0 ≤ (Dk) then (if (Dk) < (BI.length : Int) then (if ((Op.bytesLess (((aC BI (Dk)).f0).toList) (((aC BI Cb).f0).toList)) = true) then (aX.l0 k1 (wrap64 (Cb + 1)) Bl BI) else (some false)) else (none)) else (none)) = some r:=by first|(rw [Ea] at H;exact H)|(simp only [Ea] at H ⊢;exact H)
     have hji5w : (IntKind.i64.wrap (Cb - 1)) = Dk:=(bJ _).trans Ea
     by_cases c6 : 0 ≤ (Dk)
     ·rw [if_pos c6] at H
      have c6b0 : decide (0 ≤ (Dk)) = true:=decide_eq_true c6
      clear c6
      by_cases c7 : (Dk) < (BI.length : Int)
      ·rw [if_pos c7] at H
       have c7b0 : decide ((Dk) < (BI.length : Int)) = true:=decide_eq_true c7
       clear c7
       by_cases c8 : ((Op.bytesLess (((aC BI (Dk)).f0).toList) (((aC BI Cb).f0).toList)) = true)
       ·rw [if_pos c8] at H
        have c8b0 : (Op.bytesLess (((aC BI (Dk)).f0).toList) (((aC BI Cb).f0).toList)) = true:=c8
        clear c8
        have H':=Aside0.mk H
        clear H
        have KA : wr.cell? ⟨Ca,0,none⟩ = some (.int .u64 Bl):=(ah BK.out 0).trans rfl
        have KC : wr.cell? ⟨Ca,1,none⟩ = some (.slice Di BI.length Dj):=(ah BK.out 1).trans rfl
        have KD:=ak BK.out 0
        have KE:=ak BK.out 1
        have Dl : 0 ≤ (Cb : Int):=of_decide_eq_true (by first|(with_reducible assumption)|assumption)
        have Dm : Cb < (BI.length : Int):=of_decide_eq_true (by first|(with_reducible assumption)|assumption)
        obtain ⟨DY,ES,ET,EU,Cc,Ce,Cg,Ch,Ci,Cj,Ck,CS,CU⟩:=iA DJ.out Cb Dl Dm
        cases EU
        replace Cc:=(HB.out.cell (World.block_lt_of_cell? w _ Cc)).trans Cc
        replace Ce:=(HB.out.cell (World.block_lt_of_cell? w _ Ce)).trans Ce
        replace Cg:=(HB.out.cell (World.block_lt_of_cell? w _ Cg)).trans Cg
        replace Ch:=(HB.out.cell (World.block_lt_of_cell? w _ Ch)).trans Ch
        replace Ci:=(HB.out.cell (World.block_lt_of_cell? w _ Ci)).trans Ci
        replace Cj:=(HB.out.cell (World.block_lt_of_cell? w _ Cj)).trans Cj
        replace Ck:=(HB.out.cell (World.block_lt_of_cell? w _ Ck)).trans Ck
        have Eb:=Aside0.mk CU
        have Ec:=Aside0.mk CS
        clear CU CS
        replace Dl:=eq_true Dl
        replace Dm:=eq_true Dm
        have Dn : 0 ≤ ((Dk) : Int):=of_decide_eq_true (by first|(with_reducible assumption)|assumption)
        have Dp : (Dk) < (BI.length : Int):=of_decide_eq_true (by first|(with_reducible assumption)|assumption)
        obtain ⟨DZ,EW,EX,EY,Cm,Cn,Co,Cq,Cr,Ct,Cu,CV,CW⟩:=iA DJ.out (Dk) Dn Dp
        obtain rfl : DY = DZ:=(by injection EY)
        replace Cm:=(HB.out.cell (World.block_lt_of_cell? w _ Cm)).trans Cm
        replace Cn:=(HB.out.cell (World.block_lt_of_cell? w _ Cn)).trans Cn
        replace Co:=(HB.out.cell (World.block_lt_of_cell? w _ Co)).trans Co
        replace Cq:=(HB.out.cell (World.block_lt_of_cell? w _ Cq)).trans Cq
        replace Cr:=(HB.out.cell (World.block_lt_of_cell? w _ Cr)).trans Cr
        replace Ct:=(HB.out.cell (World.block_lt_of_cell? w _ Ct)).trans Ct
        replace Cu:=(HB.out.cell (World.block_lt_of_cell? w _ Cu)).trans Cu
        have Ed:=Aside0.mk CW
        have Ee:=Aside0.mk CV
        clear CW CV
        replace Dn:=eq_true Dn
        replace Dp:=eq_true Dp
        go_wp2
        repeat (go_quiet (fail);try go_wp2)
        go_roundg k1
        case measure=>have:=DX.out;omega
        case rel=>exact ⟨(wrap64 (Cb + 1)),(by first|rfl|(simp;done)|(simp [*];done)),H',⟨by have:=DX.out;omega⟩,⟨by (with_reducible repeat (first|apply ay|apply aG|apply aD));exact BK.out⟩,⟨hb_⟩⟩
       ·rw [if_neg c8] at H
        have c8b0 : (Op.bytesLess (((aC BI (Dk)).f0).toList) (((aC BI Cb).f0).toList)) = false:=by simpa using c8
        clear c8
        obtain rfl:=Option.some.inj H
        have Fu : wr.cell? ⟨Ca,0,none⟩ = some (.int .u64 Bl):=(ah BK.out 0).trans rfl
        have Fv : wr.cell? ⟨Ca,1,none⟩ = some (.slice Di BI.length Dj):=(ah BK.out 1).trans rfl
        have Fw:=ak BK.out 0
        have Fx:=ak BK.out 1
        have Dl : 0 ≤ (Cb : Int):=of_decide_eq_true (by first|(with_reducible assumption)|assumption)
        have Dm : Cb < (BI.length : Int):=of_decide_eq_true (by first|(with_reducible assumption)|assumption)
        obtain ⟨DY,ES,ET,EU,Cc,Ce,Cg,Ch,Ci,Cj,Ck,CS,CU⟩:=iA DJ.out Cb Dl Dm
        cases EU
        replace Cc:=(HB.out.cell (World.block_lt_of_cell? w _ Cc)).trans Cc
        replace Ce:=(HB.out.cell (World.block_lt_of_cell? w _ Ce)).trans Ce
        replace Cg:=(HB.out.cell (World.block_lt_of_cell? w _ Cg)).trans Cg
        replace Ch:=(HB.out.cell (World.block_lt_of_cell? w _ Ch)).trans Ch
        replace Ci:=(HB.out.cell (World.block_lt_of_cell? w _ Ci)).trans Ci
        replace Cj:=(HB.out.cell (World.block_lt_of_cell? w _ Cj)).trans Cj
        replace Ck:=(HB.out.cell (World.block_lt_of_cell? w _ Ck)).trans Ck
        have Eb:=Aside0.mk CU
        have Ec:=Aside0.mk CS
        clear CU CS
        replace Dl:=eq_true Dl
        replace Dm:=eq_true Dm
        have Dn : 0 ≤ ((Dk) : Int):=of_decide_eq_true (by first|(with_reducible assumption)|assumption)
        have Dp : (Dk) < (BI.length : Int):=of_decide_eq_true (by first|(with_reducible assumption)|assumption)
        obtain ⟨DZ,EW,EX,EY,Cm,Cn,Co,Cq,Cr,Ct,Cu,CV,CW⟩:=iA DJ.out (Dk) Dn Dp
        obtain rfl : DY = DZ:=(by injection EY)
        replace Cm:=(HB.out.cell (World.block_lt_of_cell? w _ Cm)).trans Cm
        replace Cn:=(HB.out.cell (World.block_lt_of_cell? w _ Cn)).trans Cn
        replace Co:=(HB.out.cell (World.block_lt_of_cell? w _ Co)).trans Co
        replace Cq:=(HB.out.cell (World.block_lt_of_cell? w _ Cq)).trans Cq
        replace Cr:=(HB.out.cell (World.block_lt_of_cell? w _ Cr)).trans Cr
        replace Ct:=(HB.out.cell (World.block_lt_of_cell? w _ Ct)).trans Ct
        replace Cu:=(HB.out.cell (World.block_lt_of_cell? w _ Cu)).trans Cu
        have Ed:=Aside0.mk CW
        have Ee:=Aside0.mk CV
        clear CW CV
        replace Dn:=eq_true Dn
        replace Dp:=eq_true Dp
        go_wp2
        repeat (go_quiet (fail);try go_wp2)
        go_ret
        exact ⟨by first|rfl|(simp [aY,aZ] <;> rfl)|(simp only [← Ea];first|rfl|(simp [aY,aZ] <;> rfl))|(simp [*,aY,aZ] <;> rfl),hb_⟩
      ·rw [if_neg c7] at H
       exact absurd H (by simp)
     ·rw [if_neg c6] at H
      exact absurd H (by simp)
    ·rw [if_neg c4] at H
     exact absurd H (by simp)
   ·rw [if_neg c3] at H
    have c3b0 : decide (Cb < (BI.length : Int)) = false:=decide_eq_false c3
    clear c3
    obtain rfl:=Option.some.inj H
    have Fy : wr.cell? ⟨Ca,0,none⟩ = some (.int .u64 Bl):=(ah BK.out 0).trans rfl
    have Fz : wr.cell? ⟨Ca,1,none⟩ = some (.slice Di BI.length Dj):=(ah BK.out 1).trans rfl
    have FB:=ak BK.out 0
    have FC:=ak BK.out 1
    go_wp2
    repeat (go_quiet (fail);try go_wp2)
    go_ret
    exact ⟨by first|rfl|(simp [aY,aZ] <;> rfl)|(simp [*,aY,aZ] <;> rfl),hb_⟩
def aV.l0 : Nat → List ByteArray → List ByteArray → Int → Int → Option (Bool)
 | 0,_,_,_,_=>none
 | k + 1,x0,x1,Ey,CX=>if CX < Ey then (if 0 ≤ CX then (if CX < (x0.length : Int) then (if CX < (x1.length : Int) then (if (iO ByteArray.empty x0 CX).toList = (iO ByteArray.empty x1 CX).toList then (aV.l0 k x0 x1 Ey (wrap64 (CX + 1))) else (some false)) else (none)) else (none)) else (none)) else (some true)
def aV.f (k : Nat) (l0 : List ByteArray) (l1 : List ByteArray) : Option (Bool):=if (l0.length : Int) = (l1.length : Int) then (aV.l0 k l0 l1 (l0.length : Int) 0) else (some false)
theorem aV.dQ : ∀ k,(∀ y0 y1 y2 y3,LeO (aV.l0 k y0 y1 y2 y3) (aV.l0 (k + 1) y0 y1 y2 y3))
 | 0=>fun _ _ _ _ r h=>by simp [aV.l0] at h
 | k + 1=>by
  have CY:=aV.dQ k
  ·intro y0 y1 y2 y3
   unfold aV.l0
   repeat' first
   | (with_reducible exact CY _ _ _ _)
   | (with_reducible exact LeO.refl _)
   | (with_reducible exact LeO.none _)
   | (with_reducible refine LeO.ite ?_ ?_)
   | (with_reducible refine LeO.bind ?_ (fun _=>?_))
   | exact CY _ _ _ _
   | exact LeO.none _
   | refine LeO.ite ?_ ?_
   | refine LeO.bind ?_ (fun _=>?_)
theorem aV.mono : ∀ a0 a1 k,LeO (aV.f k a0 a1) (aV.f (k + 1) a0 a1):=by
 intro a0 a1 k
 have CY:=aV.dQ k
 unfold aV.f
 repeat' first
   | (with_reducible exact CY _ _ _ _)
   | (with_reducible exact LeO.refl _)
   | (with_reducible exact LeO.none _)
   | (with_reducible refine LeO.ite ?_ ?_)
   | (with_reducible refine LeO.bind ?_ (fun _=>?_))
   | exact CY _ _ _ _
   | exact LeO.none _
   | refine LeO.ite ?_ ?_
   | refine LeO.bind ?_ (fun _=>?_)
set_option maxHeartbeats 8000000 in
set_option maxRecDepth 100000 in
theorem aV.calls (k : Nat) (A0 : Option Addr) (c0 : Nat) (l0 : List ByteArray) (A1 : Option Addr) (c1 : Nat) (l1 : List ByteArray) (r : Bool) (w : World) (hr0 : Kd.C Kd.string w A0 l0.length l0) (hc0 : l0.length ≤ c0) (hr1 : Kd.C Kd.string w A1 l1.length l1) (hc1 : l1.length ≤ c1) (h : aV.f k l0 l1 = some r) :
  Calls Tryz.prog 42 #[.slice A0 l0.length c0,.slice A1 l1.length c1] w fun e w'=>e = .returned (.bool r) ∧ Drawn0 w w':=by
 have Ez:=Aside0.mk hr0
 have KJ:=Aside0.mk hc0
 clear hr0 hc0
 have HR1:=Aside0.mk hr1
 have KL:=Aside0.mk hc1
 clear hr1 hc1
 have H : (if (l0.length : Int) = (l1.length : Int) then (aV.l0 k l0 l1 (l0.length : Int) 0) else (some false)) = some r:=h
 clear h
 by_cases c3 : (l0.length : Int) = (l1.length : Int)
 ·rw [if_pos c3] at H
  have c3b0 : ((l0.length : Int) == (l1.length : Int)) = true:=beq_iff_eq.mpr c3
  have c3b1 : ((l0.length : Int) != (l1.length : Int)) = false:=bne_eq_false_iff_eq.mpr c3
  have c3b2 : (l0.length == l1.length) = true:=by first|simpa using c3|(simp at c3 ⊢;omega)
  clear c3
  have H':=Aside0.mk H
  clear H
  go_enter Tryz.func42,Tryz.ntmps42
  go_wp2
  repeat (go_quiet (fail);try go_wp2)
  go_loopg [13] k (fun kq v13 w'=>∃ (Bf : Int),v13 = .int .i64 Bf ∧ Aside0 (aV.l0 kq l0 l1 (l0.length : Int) Bf = some r) ∧ Aside0 (kq ≤ k) ∧ Drawn0 w w')
  case atStart=>exact ⟨(0),(by first|rfl|(simp;done)|(simp [*];done)),H',⟨Nat.le_refl _⟩,by repeat (first|exact Drawn0.refl _|apply Drawn0.step)⟩
  case round =>
   clear H'
   try clear c1
   try clear p2
   try clear c3
   try clear c3b0
   try clear c3b1
   try clear c3b2
   obtain ⟨Bf,rfl,HA,DX,⟨m1,rfl⟩⟩:=hrel
   cases gk with
   | zero=>exact absurd HA.out (by simp [aV.l0])
   | succ k1 =>
    have H:=HA.out
    clear HA
    simp only [aV.l0] at H
    by_cases c4 : Bf < (l0.length : Int)
    ·rw [if_pos c4] at H
     have c4b0 : decide (Bf < (l0.length : Int)) = true:=decide_eq_true c4
     clear c4
     by_cases c5 : 0 ≤ Bf
     ·rw [if_pos c5] at H
      have c5b0 : decide (0 ≤ Bf) = true:=decide_eq_true c5
      clear c5
      by_cases c6 : Bf < (l0.length : Int)
      ·rw [if_pos c6] at H
       have c6b0 : decide (Bf < (l0.length : Int)) = true:=decide_eq_true c6
       clear c6
       by_cases c7 : Bf < (l1.length : Int)
       ·rw [if_pos c7] at H
        have c7b0 : decide (Bf < (l1.length : Int)) = true:=decide_eq_true c7
        clear c7
        by_cases c8 : (iO ByteArray.empty l0 Bf).toList = (iO ByteArray.empty l1 Bf).toList
        ·rw [if_pos c8] at H
         have c8b0 : ((iO ByteArray.empty l0 Bf).toList == (iO ByteArray.empty l1 Bf).toList) = true:=beq_iff_eq.mpr c8
         have c8b1 : ((iO ByteArray.empty l0 Bf).toList != (iO ByteArray.empty l1 Bf).toList) = false:=bne_eq_false_iff_eq.mpr c8
         clear c8
         have H':=Aside0.mk H
         clear H
         have Dq : 0 ≤ (Bf : Int):=of_decide_eq_true (by first|(with_reducible assumption)|assumption)
         have Dr : Bf < (l0.length : Int):=of_decide_eq_true (by first|(with_reducible assumption)|assumption)
         obtain ⟨E5,EZ,Ef⟩:=Kd.iN Ez.out Bf Dq Dr
         cases EZ
         replace Dq:=eq_true Dq
         replace Dr:=eq_true Dr
         have Dt : 0 ≤ (Bf : Int):=of_decide_eq_true (by first|(with_reducible assumption)|assumption)
         have Du : Bf < (l1.length : Int):=of_decide_eq_true (by first|(with_reducible assumption)|assumption)
         obtain ⟨E8,e115,Eh⟩:=Kd.iN HR1.out Bf Dt Du
         cases e115
         replace Dt:=eq_true Dt
         replace Du:=eq_true Du
         go_wp2
         repeat (go_quiet (fail);try go_wp2)
         go_roundg k1
         case measure=>have:=DX.out;omega
         case rel=>exact ⟨(wrap64 (Bf + 1)),(by first|rfl|(simp;done)|(simp [*];done)),H',⟨by have:=DX.out;omega⟩,by repeat (first|exact Drawn0.refl _|apply Drawn0.step)⟩
        ·rw [if_neg c8] at H
         have c8b0 : ((iO ByteArray.empty l0 Bf).toList == (iO ByteArray.empty l1 Bf).toList) = false:=beq_eq_false_iff_ne.mpr c8
         have c8b1 : ((iO ByteArray.empty l0 Bf).toList != (iO ByteArray.empty l1 Bf).toList) = true:=bne_iff_ne.mpr c8
         obtain rfl:=Option.some.inj H
         have Dq : 0 ≤ (Bf : Int):=of_decide_eq_true (by first|(with_reducible assumption)|assumption)
         have Dr : Bf < (l0.length : Int):=of_decide_eq_true (by first|(with_reducible assumption)|assumption)
         obtain ⟨E5,EZ,Ef⟩:=Kd.iN Ez.out Bf Dq Dr
         cases EZ
         replace Dq:=eq_true Dq
         replace Dr:=eq_true Dr
         have Dt : 0 ≤ (Bf : Int):=of_decide_eq_true (by first|(with_reducible assumption)|assumption)
         have Du : Bf < (l1.length : Int):=of_decide_eq_true (by first|(with_reducible assumption)|assumption)
         obtain ⟨E8,e115,Eh⟩:=Kd.iN HR1.out Bf Dt Du
         cases e115
         replace Dt:=eq_true Dt
         replace Du:=eq_true Du
         go_wp2
         repeat (go_quiet (fail);try go_wp2)
         go_ret
         exact ⟨by first|rfl|(simp;done)|(simp [*];done),by repeat (first|exact Drawn0.refl _|apply Drawn0.step)⟩
       ·rw [if_neg c7] at H
        exact absurd H (by simp)
      ·rw [if_neg c6] at H
       exact absurd H (by simp)
     ·rw [if_neg c5] at H
      exact absurd H (by simp)
    ·rw [if_neg c4] at H
     have c4b0 : decide (Bf < (l0.length : Int)) = false:=decide_eq_false c4
     clear c4
     obtain rfl:=Option.some.inj H
     go_wp2
     repeat (go_quiet (fail);try go_wp2)
     go_ret
     exact ⟨by first|rfl|(simp;done)|(simp [*];done),by repeat (first|exact Drawn0.refl _|apply Drawn0.step)⟩
 ·rw [if_neg c3] at H
  have c3b0 : ((l0.length : Int) == (l1.length : Int)) = false:=beq_eq_false_iff_ne.mpr c3
  have c3b1 : ((l0.length : Int) != (l1.length : Int)) = true:=bne_iff_ne.mpr c3
  have c3b2 : (l0.length == l1.length) = false:=by first|simpa using c3|(simp at c3 ⊢;omega)
  obtain rfl:=Option.some.inj H
  go_enter Tryz.func42,Tryz.ntmps42
  go_wp2
  repeat (go_quiet (fail);try go_wp2)
  go_ret
  exact ⟨by first|rfl|(simp;done)|(simp [*];done),by repeat (first|exact Drawn0.refl _|apply Drawn0.step)⟩
def dM.l0 : Nat → List (S88) → List (S88) → Int → Int → Option (Bool)
 | 0,_,_,_,_=>none
 | k + 1,x0,x1,Ey,CX=>if CX < Ey then (if 0 ≤ CX then (if CX < (x0.length : Int) then (if CX < (x1.length : Int) then (if (!(((gU x0 CX).f0) == ((gU x1 CX).f0)) || (!(((gU x0 CX).f1) == ((gU x1 CX).f1)))) = true then (some false) else (dM.l0 k x0 x1 Ey (wrap64 (CX + 1)))) else (none)) else (none)) else (none)) else (some true)
def dM.f (k : Nat) (l0 : List (S88)) (l1 : List (S88)) : Option (Bool):=if (l0.length : Int) = (l1.length : Int) then (dM.l0 k l0 l1 (l0.length : Int) 0) else (some false)
theorem dM.dQ : ∀ k,(∀ y0 y1 y2 y3,LeO (dM.l0 k y0 y1 y2 y3) (dM.l0 (k + 1) y0 y1 y2 y3))
 | 0=>fun _ _ _ _ r h=>by simp [dM.l0] at h
 | k + 1=>by
  have CY:=dM.dQ k
  ·intro y0 y1 y2 y3
   unfold dM.l0
   repeat' first
   | (with_reducible exact CY _ _ _ _)
   | (with_reducible exact LeO.refl _)
   | (with_reducible exact LeO.none _)
   | (with_reducible refine LeO.ite ?_ ?_)
   | (with_reducible refine LeO.bind ?_ (fun _=>?_))
   | exact CY _ _ _ _
   | exact LeO.none _
   | refine LeO.ite ?_ ?_
   | refine LeO.bind ?_ (fun _=>?_)
theorem dM.mono : ∀ a0 a1 k,LeO (dM.f k a0 a1) (dM.f (k + 1) a0 a1):=by
 intro a0 a1 k
 have CY:=dM.dQ k
 unfold dM.f
 repeat' first
   | (with_reducible exact CY _ _ _ _)
   | (with_reducible exact LeO.refl _)
   | (with_reducible exact LeO.none _)
   | (with_reducible refine LeO.ite ?_ ?_)
   | (with_reducible refine LeO.bind ?_ (fun _=>?_))
   | exact CY _ _ _ _
   | exact LeO.none _
   | refine LeO.ite ?_ ?_
   | refine LeO.bind ?_ (fun _=>?_)
set_option maxHeartbeats 8000000 in
set_option maxRecDepth 100000 in
theorem dM.calls (k : Nat) (A0 : Option Addr) (c0 : Nat) (l0 : List (S88)) (A1 : Option Addr) (c1 : Nat) (l1 : List (S88)) (r : Bool) (w : World) (hr0 : Kd.C k88 w A0 l0.length l0) (hc0 : l0.length ≤ c0) (hr1 : Kd.C k88 w A1 l1.length l1) (hc1 : l1.length ≤ c1) (h : dM.f k l0 l1 = some r) :
  Calls Tryz.prog 43 #[.slice A0 l0.length c0,.slice A1 l1.length c1] w fun e w'=>e = .returned (.bool r) ∧ Drawn0 w w':=by
 have La:=Tryz.underlying88
 have Ez:=Aside0.mk hr0
 have KJ:=Aside0.mk hc0
 clear hr0 hc0
 have HR1:=Aside0.mk hr1
 have KL:=Aside0.mk hc1
 clear hr1 hc1
 have H : (if (l0.length : Int) = (l1.length : Int) then (dM.l0 k l0 l1 (l0.length : Int) 0) else (some false)) = some r:=h
 clear h
 by_cases c3 : (l0.length : Int) = (l1.length : Int)
 ·rw [if_pos c3] at H
  have c3b0 : ((l0.length : Int) == (l1.length : Int)) = true:=beq_iff_eq.mpr c3
  have c3b1 : ((l0.length : Int) != (l1.length : Int)) = false:=bne_eq_false_iff_eq.mpr c3
  have c3b2 : (l0.length == l1.length) = true:=by first|simpa using c3|(simp at c3 ⊢;omega)
  clear c3
  have H':=Aside0.mk H
  clear H
  go_enter Tryz.func43,Tryz.ntmps43
  go_wp2
  repeat (go_quiet (fail);try go_wp2)
  go_loopg [13] k (fun kq v13 w'=>∃ (Bf : Int),v13 = .int .i64 Bf ∧ Aside0 (dM.l0 kq l0 l1 (l0.length : Int) Bf = some r) ∧ Aside0 (kq ≤ k) ∧ Drawn0 w w')
  case atStart=>exact ⟨(0),(by first|rfl|(simp;done)|(simp [*];done)),H',⟨Nat.le_refl _⟩,by repeat (first|exact Drawn0.refl _|apply Drawn0.step)⟩
  case round =>
   clear H'
   try clear c1
   try clear p2
   try clear c3
   try clear c3b0
   try clear c3b1
   try clear c3b2
   obtain ⟨Bf,rfl,HA,DX,⟨m1,rfl⟩⟩:=hrel
   cases gk with
   | zero=>exact absurd HA.out (by simp [dM.l0])
   | succ k1 =>
    have H:=HA.out
    clear HA
    simp only [dM.l0] at H
    by_cases c4 : Bf < (l0.length : Int)
    ·rw [if_pos c4] at H
     have c4b0 : decide (Bf < (l0.length : Int)) = true:=decide_eq_true c4
     clear c4
     by_cases c5 : 0 ≤ Bf
     ·rw [if_pos c5] at H
      have c5b0 : decide (0 ≤ Bf) = true:=decide_eq_true c5
      clear c5
      by_cases c6 : Bf < (l0.length : Int)
      ·rw [if_pos c6] at H
       have c6b0 : decide (Bf < (l0.length : Int)) = true:=decide_eq_true c6
       clear c6
       by_cases c7 : Bf < (l1.length : Int)
       ·rw [if_pos c7] at H
        have c7b0 : decide (Bf < (l1.length : Int)) = true:=decide_eq_true c7
        clear c7
        by_cases c8 : (!(((gU l0 Bf).f0) == ((gU l1 Bf).f0)) || (!(((gU l0 Bf).f1) == ((gU l1 Bf).f1)))) = true
        ·rw [if_pos c8] at H
         have c8b0 : (!(((gU l0 Bf).f0) == ((gU l1 Bf).f0)) || (!(((gU l0 Bf).f1) == ((gU l1 Bf).f1)))) = true:=c8
         clear c8
         obtain rfl:=Option.some.inj H
         have Dv : 0 ≤ (Bf : Int):=of_decide_eq_true (by first|(with_reducible assumption)|assumption)
         have Dw : Bf < (l0.length : Int):=of_decide_eq_true (by first|(with_reducible assumption)|assumption)
         obtain ⟨E9,e116,Ei,Ej⟩:=ow Ez.out Bf Dv Dw
         cases e116
         replace Dv:=eq_true Dv
         replace Dw:=eq_true Dw
         have Dx : 0 ≤ (Bf : Int):=of_decide_eq_true (by first|(with_reducible assumption)|assumption)
         have Dy : Bf < (l1.length : Int):=of_decide_eq_true (by first|(with_reducible assumption)|assumption)
         obtain ⟨Fa,e117,El,Em⟩:=ow HR1.out Bf Dx Dy
         cases e117
         replace Dx:=eq_true Dx
         replace Dy:=eq_true Dy
         go_wp2
         repeat (go_quiet (fail);try go_wp2)
         go_ret
         exact ⟨by first|rfl|(simp;done)|(simp [*];done),by repeat (first|exact Drawn0.refl _|apply Drawn0.step)⟩
        ·rw [if_neg c8] at H
         have c8b0 : (!(((gU l0 Bf).f0) == ((gU l1 Bf).f0)) || (!(((gU l0 Bf).f1) == ((gU l1 Bf).f1)))) = false:=by simpa using c8
         clear c8
         have H':=Aside0.mk H
         clear H
         have Dv : 0 ≤ (Bf : Int):=of_decide_eq_true (by first|(with_reducible assumption)|assumption)
         have Dw : Bf < (l0.length : Int):=of_decide_eq_true (by first|(with_reducible assumption)|assumption)
         obtain ⟨E9,e116,Ei,Ej⟩:=ow Ez.out Bf Dv Dw
         cases e116
         replace Dv:=eq_true Dv
         replace Dw:=eq_true Dw
         have Dx : 0 ≤ (Bf : Int):=of_decide_eq_true (by first|(with_reducible assumption)|assumption)
         have Dy : Bf < (l1.length : Int):=of_decide_eq_true (by first|(with_reducible assumption)|assumption)
         obtain ⟨Fa,e117,El,Em⟩:=ow HR1.out Bf Dx Dy
         cases e117
         replace Dx:=eq_true Dx
         replace Dy:=eq_true Dy
         go_wp2
         repeat (go_quiet (fail);try go_wp2)
         go_roundg k1
         case measure=>have:=DX.out;omega
         case rel=>exact ⟨(wrap64 (Bf + 1)),(by first|rfl|(simp;done)|(simp [*];done)),H',⟨by have:=DX.out;omega⟩,by repeat (first|exact Drawn0.refl _|apply Drawn0.step)⟩
       ·rw [if_neg c7] at H
        exact absurd H (by simp)
      ·rw [if_neg c6] at H
       exact absurd H (by simp)
     ·rw [if_neg c5] at H
      exact absurd H (by simp)
    ·rw [if_neg c4] at H
     have c4b0 : decide (Bf < (l0.length : Int)) = false:=decide_eq_false c4
     clear c4
     obtain rfl:=Option.some.inj H
     go_wp2
     repeat (go_quiet (fail);try go_wp2)
     go_ret
     exact ⟨by first|rfl|(simp;done)|(simp [*];done),by repeat (first|exact Drawn0.refl _|apply Drawn0.step)⟩
 ·rw [if_neg c3] at H
  have c3b0 : ((l0.length : Int) == (l1.length : Int)) = false:=beq_eq_false_iff_ne.mpr c3
  have c3b1 : ((l0.length : Int) != (l1.length : Int)) = true:=bne_iff_ne.mpr c3
  have c3b2 : (l0.length == l1.length) = false:=by first|simpa using c3|(simp at c3 ⊢;omega)
  obtain rfl:=Option.some.inj H
  go_enter Tryz.func43,Tryz.ntmps43
  go_wp2
  repeat (go_quiet (fail);try go_wp2)
  go_ret
  exact ⟨by first|rfl|(simp;done)|(simp [*];done),by repeat (first|exact Drawn0.refl _|apply Drawn0.step)⟩
def dR.l0 : Nat → List (S71) → List (S71) → Int → Int → Option (Bool)
 | 0,_,_,_,_=>none
 | k + 1,x0,x1,Ey,CX=>if CX < Ey then (if 0 ≤ CX then (if CX < (x0.length : Int) then (if CX < (x1.length : Int) then (if (!((((gJ x0 CX).f0).toList) == (((gJ x1 CX).f0).toList)) || (!((((gJ x0 CX).f1).toList) == (((gJ x1 CX).f1).toList)))) = true then (some false) else (dR.l0 k x0 x1 Ey (wrap64 (CX + 1)))) else (none)) else (none)) else (none)) else (some true)
def dR.f (k : Nat) (l0 : List (S71)) (l1 : List (S71)) : Option (Bool):=if (l0.length : Int) = (l1.length : Int) then (dR.l0 k l0 l1 (l0.length : Int) 0) else (some false)
theorem dR.dQ : ∀ k,(∀ y0 y1 y2 y3,LeO (dR.l0 k y0 y1 y2 y3) (dR.l0 (k + 1) y0 y1 y2 y3))
 | 0=>fun _ _ _ _ r h=>by simp [dR.l0] at h
 | k + 1=>by
  have CY:=dR.dQ k
  ·intro y0 y1 y2 y3
   unfold dR.l0
   repeat' first
   | (with_reducible exact CY _ _ _ _)
   | (with_reducible exact LeO.refl _)
   | (with_reducible exact LeO.none _)
   | (with_reducible refine LeO.ite ?_ ?_)
   | (with_reducible refine LeO.bind ?_ (fun _=>?_))
   | exact CY _ _ _ _
   | exact LeO.none _
   | refine LeO.ite ?_ ?_
   | refine LeO.bind ?_ (fun _=>?_)
theorem dR.mono : ∀ a0 a1 k,LeO (dR.f k a0 a1) (dR.f (k + 1) a0 a1):=by
 intro a0 a1 k
 have CY:=dR.dQ k
 unfold dR.f
 repeat' first
   | (with_reducible exact CY _ _ _ _)
   | (with_reducible exact LeO.refl _)
   | (with_reducible exact LeO.none _)
   | (with_reducible refine LeO.ite ?_ ?_)
   | (with_reducible refine LeO.bind ?_ (fun _=>?_))
   | exact CY _ _ _ _
   | exact LeO.none _
   | refine LeO.ite ?_ ?_
   | refine LeO.bind ?_ (fun _=>?_)
set_option maxHeartbeats 8000000 in
set_option maxRecDepth 100000 in
theorem dR.calls (k : Nat) (A0 : Option Addr) (c0 : Nat) (l0 : List (S71)) (A1 : Option Addr) (c1 : Nat) (l1 : List (S71)) (r : Bool) (w : World) (hr0 : Kd.C k71 w A0 l0.length l0) (hc0 : l0.length ≤ c0) (hr1 : Kd.C k71 w A1 l1.length l1) (hc1 : l1.length ≤ c1) (h : dR.f k l0 l1 = some r) :
  Calls Tryz.prog 44 #[.slice A0 l0.length c0,.slice A1 l1.length c1] w fun e w'=>e = .returned (.bool r) ∧ Drawn0 w w':=by
 have Lb:=Tryz.underlying71
 have Ez:=Aside0.mk hr0
 have KJ:=Aside0.mk hc0
 clear hr0 hc0
 have HR1:=Aside0.mk hr1
 have KL:=Aside0.mk hc1
 clear hr1 hc1
 have H : (if (l0.length : Int) = (l1.length : Int) then (dR.l0 k l0 l1 (l0.length : Int) 0) else (some false)) = some r:=h
 clear h
 by_cases c3 : (l0.length : Int) = (l1.length : Int)
 ·rw [if_pos c3] at H
  have c3b0 : ((l0.length : Int) == (l1.length : Int)) = true:=beq_iff_eq.mpr c3
  have c3b1 : ((l0.length : Int) != (l1.length : Int)) = false:=bne_eq_false_iff_eq.mpr c3
  have c3b2 : (l0.length == l1.length) = true:=by first|simpa using c3|(simp at c3 ⊢;omega)
  clear c3
  have H':=Aside0.mk H
  clear H
  go_enter Tryz.func44,Tryz.ntmps44
  go_wp2
  repeat (go_quiet (fail);try go_wp2)
  go_loopg [13] k (fun kq v13 w'=>∃ (Bf : Int),v13 = .int .i64 Bf ∧ Aside0 (dR.l0 kq l0 l1 (l0.length : Int) Bf = some r) ∧ Aside0 (kq ≤ k) ∧ Drawn0 w w')
  case atStart=>exact ⟨(0),(by first|rfl|(simp;done)|(simp [*];done)),H',⟨Nat.le_refl _⟩,by repeat (first|exact Drawn0.refl _|apply Drawn0.step)⟩
  case round =>
   clear H'
   try clear c1
   try clear p2
   try clear c3
   try clear c3b0
   try clear c3b1
   try clear c3b2
   obtain ⟨Bf,rfl,HA,DX,⟨m1,rfl⟩⟩:=hrel
   cases gk with
   | zero=>exact absurd HA.out (by simp [dR.l0])
   | succ k1 =>
    have H:=HA.out
    clear HA
    simp only [dR.l0] at H
    by_cases c4 : Bf < (l0.length : Int)
    ·rw [if_pos c4] at H
     have c4b0 : decide (Bf < (l0.length : Int)) = true:=decide_eq_true c4
     clear c4
     by_cases c5 : 0 ≤ Bf
     ·rw [if_pos c5] at H
      have c5b0 : decide (0 ≤ Bf) = true:=decide_eq_true c5
      clear c5
      by_cases c6 : Bf < (l0.length : Int)
      ·rw [if_pos c6] at H
       have c6b0 : decide (Bf < (l0.length : Int)) = true:=decide_eq_true c6
       clear c6
       by_cases c7 : Bf < (l1.length : Int)
       ·rw [if_pos c7] at H
        have c7b0 : decide (Bf < (l1.length : Int)) = true:=decide_eq_true c7
        clear c7
        by_cases c8 : (!((((gJ l0 Bf).f0).toList) == (((gJ l1 Bf).f0).toList)) || (!((((gJ l0 Bf).f1).toList) == (((gJ l1 Bf).f1).toList)))) = true
        ·rw [if_pos c8] at H
         have c8b0 : (!((((gJ l0 Bf).f0).toList) == (((gJ l1 Bf).f0).toList)) || (!((((gJ l0 Bf).f1).toList) == (((gJ l1 Bf).f1).toList)))) = true:=c8
         clear c8
         obtain rfl:=Option.some.inj H
         have Dz : 0 ≤ (Bf : Int):=of_decide_eq_true (by first|(with_reducible assumption)|assumption)
         have DC : Bf < (l0.length : Int):=of_decide_eq_true (by first|(with_reducible assumption)|assumption)
         obtain ⟨Fb,e118,En,Eo⟩:=mQ Ez.out Bf Dz DC
         cases e118
         replace Dz:=eq_true Dz
         replace DC:=eq_true DC
         have DF : 0 ≤ (Bf : Int):=of_decide_eq_true (by first|(with_reducible assumption)|assumption)
         have DI : Bf < (l1.length : Int):=of_decide_eq_true (by first|(with_reducible assumption)|assumption)
         obtain ⟨Fe,e119,Ep,Er⟩:=mQ HR1.out Bf DF DI
         cases e119
         replace DF:=eq_true DF
         replace DI:=eq_true DI
         go_wp2
         repeat (go_quiet (fail);try go_wp2)
         go_ret
         exact ⟨by first|rfl|(simp;done)|(simp [*];done),by repeat (first|exact Drawn0.refl _|apply Drawn0.step)⟩
        ·rw [if_neg c8] at H
         have c8b0 : (!((((gJ l0 Bf).f0).toList) == (((gJ l1 Bf).f0).toList)) || (!((((gJ l0 Bf).f1).toList) == (((gJ l1 Bf).f1).toList)))) = false:=by simpa using c8
         clear c8
         have H':=Aside0.mk H
         clear H
         have Dz : 0 ≤ (Bf : Int):=of_decide_eq_true (by first|(with_reducible assumption)|assumption)
         have DC : Bf < (l0.length : Int):=of_decide_eq_true (by first|(with_reducible assumption)|assumption)
         obtain ⟨Fb,e118,En,Eo⟩:=mQ Ez.out Bf Dz DC
         cases e118
         replace Dz:=eq_true Dz
         replace DC:=eq_true DC
         have DF : 0 ≤ (Bf : Int):=of_decide_eq_true (by first|(with_reducible assumption)|assumption)
         have DI : Bf < (l1.length : Int):=of_decide_eq_true (by first|(with_reducible assumption)|assumption)
         obtain ⟨Fe,e119,Ep,Er⟩:=mQ HR1.out Bf DF DI
         cases e119
         replace DF:=eq_true DF
         replace DI:=eq_true DI
         go_wp2
         repeat (go_quiet (fail);try go_wp2)
         go_roundg k1
         case measure=>have:=DX.out;omega
         case rel=>exact ⟨(wrap64 (Bf + 1)),(by first|rfl|(simp;done)|(simp [*];done)),H',⟨by have:=DX.out;omega⟩,by repeat (first|exact Drawn0.refl _|apply Drawn0.step)⟩
       ·rw [if_neg c7] at H
        exact absurd H (by simp)
      ·rw [if_neg c6] at H
       exact absurd H (by simp)
     ·rw [if_neg c5] at H
      exact absurd H (by simp)
    ·rw [if_neg c4] at H
     have c4b0 : decide (Bf < (l0.length : Int)) = false:=decide_eq_false c4
     clear c4
     obtain rfl:=Option.some.inj H
     go_wp2
     repeat (go_quiet (fail);try go_wp2)
     go_ret
     exact ⟨by first|rfl|(simp;done)|(simp [*];done),by repeat (first|exact Drawn0.refl _|apply Drawn0.step)⟩
 ·rw [if_neg c3] at H
  have c3b0 : ((l0.length : Int) == (l1.length : Int)) = false:=beq_eq_false_iff_ne.mpr c3
  have c3b1 : ((l0.length : Int) != (l1.length : Int)) = true:=bne_iff_ne.mpr c3
  have c3b2 : (l0.length == l1.length) = false:=by first|simpa using c3|(simp at c3 ⊢;omega)
  obtain rfl:=Option.some.inj H
  go_enter Tryz.func44,Tryz.ntmps44
  go_wp2
  repeat (go_quiet (fail);try go_wp2)
  go_ret
  exact ⟨by first|rfl|(simp;done)|(simp [*];done),by repeat (first|exact Drawn0.refl _|apply Drawn0.step)⟩
def d9.f (k : Nat) (Bl : ByteArray) (Bt : ByteArray) (Br : List ByteArray) (Bq : List (S88)) (Bu : Int) (Bv : Int) (Bn : List (S71)) (BS : ByteArray) (BU : ByteArray) (BN : List ByteArray) (BL : List (S88)) (BX : Int) (BZ : Int) (BJ : List (S71)) : Option (Bool):=if Bl.toList = BS.toList then (if Bt.toList = BU.toList then (if Bu = BX then (if Bv = BZ then ((aV.f k Br BN).bind fun DW=>(if DW = true then ((dM.f k Bq BL).bind fun CZ=>(if CZ = true then ((dR.f k Bn BJ).bind fun t124=>(some t124)) else (some false))) else (some false))) else (some false)) else (some false)) else (some false)) else (some false)
theorem d9.mono : ∀ a0 a1 a2 a3 a4 a5 a6 a7 a8 a9 KF KG a12 KH k,LeO (d9.f k a0 a1 a2 a3 a4 a5 a6 a7 a8 a9 KF KG a12 KH) (d9.f (k + 1) a0 a1 a2 a3 a4 a5 a6 a7 a8 a9 KF KG a12 KH):=by
 intro a0 a1 a2 a3 a4 a5 a6 a7 a8 a9 KF KG a12 KH k
 unfold d9.f
 repeat' first
   | (with_reducible exact aV.mono _ _ _)
   | (with_reducible exact dR.mono _ _ _)
   | (with_reducible exact dM.mono _ _ _)
   | (with_reducible exact LeO.refl _)
   | (with_reducible exact LeO.none _)
   | (with_reducible refine LeO.ite ?_ ?_)
   | (with_reducible refine LeO.bind ?_ (fun _=>?_))
   | exact aV.mono _ _ _
   | exact dR.mono _ _ _
   | exact dM.mono _ _ _
   | exact LeO.none _
   | refine LeO.ite ?_ ?_
   | refine LeO.bind ?_ (fun _=>?_)
set_option maxHeartbeats 8000000 in
set_option maxRecDepth 100000 in
theorem d9.calls (k : Nat) (Bl : ByteArray) (Bt : ByteArray) (Bw : Option Addr) (Bz : Nat) (Br : List ByteArray) (BD : Option Addr) (BF : Nat) (Bq : List (S88)) (Bu : Int) (Bv : Int) (BG : Option Addr) (BH : Nat) (Bn : List (S71)) (BS : ByteArray) (BU : ByteArray) (CF : Option Addr) (CG : Nat) (BN : List ByteArray) (CJ : Option Addr) (CK : Nat) (BL : List (S88)) (BX : Int) (BZ : Int) (CO : Option Addr) (CP : Nat) (BJ : List (S71)) (r : Bool) (w : World) (EA : Kd.C Kd.string w Bw Br.length Br) (EB : Br.length ≤ Bz) (EC : Kd.C k88 w BD Bq.length Bq) (ED : Bq.length ≤ BF) (EF : Kd.C k71 w BG Bn.length Bn) (EG : Bn.length ≤ BH) (EH : Kd.C Kd.string w CF BN.length BN) (EI : BN.length ≤ CG) (EJ : Kd.C k88 w CJ BL.length BL) (EK : BL.length ≤ CK) (EL : Kd.C k71 w CO BJ.length BJ) (EM : BJ.length ≤ CP) (h : d9.f k Bl Bt Br Bq Bu Bv Bn BS BU BN BL BX BZ BJ = some r) :
  Calls Tryz.prog 27 #[.agg #[.string Bl,.string Bt,.slice Bw Br.length Bz,.slice BD Bq.length BF,.int .i64 Bu,.int .i64 Bv,.slice BG Bn.length BH],.agg #[.string BS,.string BU,.slice CF BN.length CG,.slice CJ BL.length CK,.int .i64 BX,.int .i64 BZ,.slice CO BJ.length CP]] w fun e w'=>e = .returned (.bool r) ∧ Below w.heap.size w w':=by
 have Lc:=Tryz.underlying69
 have D5:=Aside0.mk EA
 have D6:=Aside0.mk EB
 clear EA EB
 have EN:=Aside0.mk EC
 have EO:=Aside0.mk ED
 clear EC ED
 have Fg:=Aside0.mk EF
 have Fh:=Aside0.mk EG
 clear EF EG
 have D7:=Aside0.mk EH
 have D8:=Aside0.mk EI
 clear EH EI
 have EP:=Aside0.mk EJ
 have ER:=Aside0.mk EK
 clear EJ EK
 have Fj:=Aside0.mk EL
 have Fp:=Aside0.mk EM
 clear EL EM
 have HB:=Aside0.mk (Below.refl w.heap.size w)
 have H : (if Bl.toList = BS.toList then (if Bt.toList = BU.toList then (if Bu = BX then (if Bv = BZ then ((aV.f k Br BN).bind fun DW=>(if DW = true then ((dM.f k Bq BL).bind fun CZ=>(if CZ = true then ((dR.f k Bn BJ).bind fun t124=>(some t124)) else (some false))) else (some false))) else (some false)) else (some false)) else (some false)) else (some false)) = some r:=h
 clear h
 by_cases c3 : Bl.toList = BS.toList
 ·rw [if_pos c3] at H
  have c3b0 : (Bl.toList == BS.toList) = true:=beq_iff_eq.mpr c3
  have c3b1 : (Bl.toList != BS.toList) = false:=bne_eq_false_iff_eq.mpr c3
  clear c3
  by_cases c4 : Bt.toList = BU.toList
  ·rw [if_pos c4] at H
   have c4b0 : (Bt.toList == BU.toList) = true:=beq_iff_eq.mpr c4
   have c4b1 : (Bt.toList != BU.toList) = false:=bne_eq_false_iff_eq.mpr c4
   clear c4
   by_cases c5 : Bu = BX
   ·rw [if_pos c5] at H
    have c5b0 : (Bu == BX) = true:=beq_iff_eq.mpr c5
    have c5b1 : (Bu != BX) = false:=bne_eq_false_iff_eq.mpr c5
    clear c5
    by_cases c6 : Bv = BZ
    ·rw [if_pos c6] at H
     have c6b0 : (Bv == BZ) = true:=beq_iff_eq.mpr c6
     have c6b1 : (Bv != BZ) = false:=bne_eq_false_iff_eq.mpr c6
     clear c6
     replace H:=Option.bind_eq_some_iff.mp H
     obtain ⟨DW,KM,H⟩:=H
     replace H : (if DW = true then ((dM.f k Bq BL).bind fun CZ=>(if CZ = true then ((dR.f k Bn BJ).bind fun t124=>(some t124)) else (some false))) else (some false)) = some r:=H
     have A7:=Aside0.mk KM
     clear KM
     by_cases c8 : DW = true
     ·subst c8
      have H1 : ((dM.f k Bq BL).bind fun CZ=>(if CZ = true then ((dR.f k Bn BJ).bind fun t124=>(some t124)) else (some false))) = some r:=by rw [if_pos rfl] at H;exact H
      clear H
      have H:=H1
      clear H1
      replace H:=Option.bind_eq_some_iff.mp H
      obtain ⟨CZ,KN,H⟩:=H
      replace H : (if CZ = true then ((dR.f k Bn BJ).bind fun t124=>(some t124)) else (some false)) = some r:=H
      have A9:=Aside0.mk KN
      clear KN
      by_cases c10 : CZ = true
      ·subst c10
       have H1 : ((dR.f k Bn BJ).bind fun t124=>(some t124)) = some r:=by rw [if_pos rfl] at H;exact H
       clear H
       have H:=H1
       clear H1
       replace H:=Option.bind_eq_some_iff.mp H
       obtain ⟨t124,Fq,H⟩:=H
       replace H : (some t124) = some r:=H
       have Ld:=Aside0.mk Fq
       clear Fq
       obtain rfl:=Option.some.inj H
       go_enter Tryz.func27,Tryz.ntmps27
       go_wp2_with (first|((with_reducible refine cZ (N:=2) rfl ?_);refine dA ?hg (N:=2) ?hd (cs:=#[.string Bl,.string Bt,.slice Bw Br.length Bz,.slice BD Bq.length BF,.int .i64 Bu,.int .i64 Bv,.slice BG Bn.length BH]) (t:=69) ?hr ?_;(case hd=>rfl);(case hg=>rfl);(case hr=>first|(go_simp;done)|(go_simp;rfl));intro Bg hg Le hbox hb;have BO:=Aside0.mk (aK hb_ hb);have BP:=Aside0.mk (hbox);have BQ:=Aside0.mk ((by rw [hg];exact (aM hb_) : w.heap.size ≤ Bg));have BR:=Aside0.mk ((by rw [hg];exact (aM hb_) : w.heap.size ≤ Bg));clear HB;have HB:=BO;have AZ:=BP;have C8:=BQ;have C9:=BR;clear BO BP BQ BR;clear hb hbox hg)|((with_reducible refine cZ (N:=3) rfl ?_);refine dA ?hg (N:=3) ?hd (cs:=#[.string BS,.string BU,.slice CF BN.length CG,.slice CJ BL.length CK,.int .i64 BX,.int .i64 BZ,.slice CO BJ.length CP]) (t:=69) ?hr ?_;(case hd=>rfl);(case hg=>rfl);(case hr=>first|(go_simp;done)|(go_simp;rfl));intro Bj hg DK hbox hb;have BO:=Aside0.mk (aN (g:=Bg) (o:=.cells #[.string Bl,.string Bt,.slice Bw Br.length Bz,.slice BD Bq.length BF,.int .i64 Bu,.int .i64 Bv,.slice BG Bn.length BH] 69 (0,0)) (bk_ AZ.out) hb);have BP:=Aside0.mk (aK hb_ hb);have BQ:=Aside0.mk (hbox);have BR:=Aside0.mk ((by rw [hg];exact (aM hb_) : w.heap.size ≤ Bj));have Da:=Aside0.mk ((by rw [hg];exact (aM hb_) : w.heap.size ≤ Bj));have Db:=Aside0.mk ((by rw [hg];exact Nat.ne_of_lt (dh (g:=Bg) (o:=.cells #[.string Bl,.string Bt,.slice Bw Br.length Bz,.slice BD Bq.length BF,.int .i64 Bu,.int .i64 Bv,.slice BG Bn.length BH] 69 (0,0)) (bk_ AZ.out)) : Bg ≠ Bj));have Dc:=Aside0.mk ((by rw [hg];exact Nat.ne_of_gt (dh (g:=Bg) (o:=.cells #[.string Bl,.string Bt,.slice Bw Br.length Bz,.slice BD Bq.length BF,.int .i64 Bu,.int .i64 Bv,.slice BG Bn.length BH] 69 (0,0)) (bk_ AZ.out)) : Bj ≠ Bg));clear AZ;clear HB;have AZ:=BO;have HB:=BP;have Bh:=BQ;have Df:=BR;have Dh:=Da;have Bo:=Db;have Bp:=Dc;clear BO BP BQ BR Da Db Dc;clear hb hbox hg;have KO:=Bo.out;have KP:=Bp.out;have FD : DK.cell? ⟨Bg,0,none⟩ = some (.string Bl):=(ah AZ.out 0).trans rfl;have FE : DK.cell? ⟨Bg,1,none⟩ = some (.string Bt):=(ah AZ.out 1).trans rfl;have FH : DK.cell? ⟨Bg,2,none⟩ = some (.slice Bw Br.length Bz):=(ah AZ.out 2).trans rfl;have FI : DK.cell? ⟨Bg,3,none⟩ = some (.slice BD Bq.length BF):=(ah AZ.out 3).trans rfl;have FJ : DK.cell? ⟨Bg,4,none⟩ = some (.int .i64 Bu):=(ah AZ.out 4).trans rfl;have FL : DK.cell? ⟨Bg,5,none⟩ = some (.int .i64 Bv):=(ah AZ.out 5).trans rfl;have FM : DK.cell? ⟨Bg,6,none⟩ = some (.slice BG Bn.length BH):=(ah AZ.out 6).trans rfl;have FN:=ak AZ.out 0;have FP:=ak AZ.out 1;have FQ:=ak AZ.out 2;have FR:=ak AZ.out 3;have FT:=ak AZ.out 4;have FU:=ak AZ.out 5;have FV:=ak AZ.out 6;have FW : DK.cell? ⟨Bj,0,none⟩ = some (.string BS):=(ah Bh.out 0).trans rfl;have FX : DK.cell? ⟨Bj,1,none⟩ = some (.string BU):=(ah Bh.out 1).trans rfl;have FY : DK.cell? ⟨Bj,2,none⟩ = some (.slice CF BN.length CG):=(ah Bh.out 2).trans rfl;have FZ : DK.cell? ⟨Bj,3,none⟩ = some (.slice CJ BL.length CK):=(ah Bh.out 3).trans rfl;have F3 : DK.cell? ⟨Bj,4,none⟩ = some (.int .i64 BX):=(ah Bh.out 4).trans rfl;have F4 : DK.cell? ⟨Bj,5,none⟩ = some (.int .i64 BZ):=(ah Bh.out 5).trans rfl;have F5 : DK.cell? ⟨Bj,6,none⟩ = some (.slice CO BJ.length CP):=(ah Bh.out 6).trans rfl;have F6:=ak Bh.out 0;have F7:=ak Bh.out 1;have F8:=ak Bh.out 2;have F9:=ak Bh.out 3;have Ga:=ak Bh.out 4;have Gb:=ak Bh.out 5;have Gc:=ak Bh.out 6)|(go_at_call 42;(with_reducible refine (aV.calls k _ _ Br _ _ BN true _ ?Cv ?Cw ?Cz ?CB A7.out).mono ?_);(case Cv=>repeat (first|exact (Kd.bO D5.out HB.out)|(with_reducible refine Kd.bD ?_ _)|(with_reducible refine Kd.bR ?_ _)|(with_reducible refine Kd.bZ ?_)));(case Cw=>exact D6.out);(case Cz=>repeat (first|exact (Kd.bO D7.out HB.out)|(with_reducible refine Kd.bD ?_ _)|(with_reducible refine Kd.bR ?_ _)|(with_reducible refine Kd.bZ ?_)));(case CB=>exact D8.out);rintro e w' ⟨rfl,⟨nd,rfl⟩⟩)|(go_at_call 43;(with_reducible refine (dM.calls k _ _ Bq _ _ BL true _ ?Cv ?Cw ?Cz ?CB A9.out).mono ?_);(case Cv=>repeat (first|exact (Kd.bO EN.out hb_)|(with_reducible refine Kd.bD ?_ _)|(with_reducible refine Kd.bR ?_ _)|(with_reducible refine Kd.bZ ?_)));(case Cw=>exact EO.out);(case Cz=>repeat (first|exact (Kd.bO EP.out hb_)|(with_reducible refine Kd.bD ?_ _)|(with_reducible refine Kd.bR ?_ _)|(with_reducible refine Kd.bZ ?_)));(case CB=>exact ER.out);rintro e w' ⟨rfl,⟨nd,rfl⟩⟩)|(go_at_call 44;(with_reducible refine (dR.calls k _ _ Bn _ _ BJ t124 _ ?Cv ?Cw ?Cz ?CB Ld.out).mono ?_);(case Cv=>repeat (first|exact (Kd.bO Fg.out hb_)|(with_reducible refine Kd.bD ?_ _)|(with_reducible refine Kd.bR ?_ _)|(with_reducible refine Kd.bZ ?_)));(case Cw=>exact Fh.out);(case Cz=>repeat (first|exact (Kd.bO Fj.out hb_)|(with_reducible refine Kd.bD ?_ _)|(with_reducible refine Kd.bR ?_ _)|(with_reducible refine Kd.bZ ?_)));(case CB=>exact Fp.out);rintro e w' ⟨rfl,⟨nd,rfl⟩⟩))
       go_ret
       exact ⟨by first|rfl|(simp [aY,aZ] <;> rfl)|(simp [*,aY,aZ] <;> rfl),hb_⟩
      ·replace c10:=Bool.eq_false_iff.mpr c10
       subst c10
       have H1 : (some false) = some r:=by rw [if_neg (show ¬ (false = true) by decide)] at H;exact H
       clear H
       have H:=H1
       clear H1
       obtain rfl:=Option.some.inj H
       go_enter Tryz.func27,Tryz.ntmps27
       go_wp2_with (first|((with_reducible refine cZ (N:=2) rfl ?_);refine dA ?hg (N:=2) ?hd (cs:=#[.string Bl,.string Bt,.slice Bw Br.length Bz,.slice BD Bq.length BF,.int .i64 Bu,.int .i64 Bv,.slice BG Bn.length BH]) (t:=69) ?hr ?_;(case hd=>rfl);(case hg=>rfl);(case hr=>first|(go_simp;done)|(go_simp;rfl));intro Bg hg Lf hbox hb;have BO:=Aside0.mk (aK hb_ hb);have BP:=Aside0.mk (hbox);have BQ:=Aside0.mk ((by rw [hg];exact (aM hb_) : w.heap.size ≤ Bg));have BR:=Aside0.mk ((by rw [hg];exact (aM hb_) : w.heap.size ≤ Bg));clear HB;have HB:=BO;have AZ:=BP;have C8:=BQ;have C9:=BR;clear BO BP BQ BR;clear hb hbox hg)|((with_reducible refine cZ (N:=3) rfl ?_);refine dA ?hg (N:=3) ?hd (cs:=#[.string BS,.string BU,.slice CF BN.length CG,.slice CJ BL.length CK,.int .i64 BX,.int .i64 BZ,.slice CO BJ.length CP]) (t:=69) ?hr ?_;(case hd=>rfl);(case hg=>rfl);(case hr=>first|(go_simp;done)|(go_simp;rfl));intro Bj hg DL hbox hb;have BO:=Aside0.mk (aN (g:=Bg) (o:=.cells #[.string Bl,.string Bt,.slice Bw Br.length Bz,.slice BD Bq.length BF,.int .i64 Bu,.int .i64 Bv,.slice BG Bn.length BH] 69 (0,0)) (bk_ AZ.out) hb);have BP:=Aside0.mk (aK hb_ hb);have BQ:=Aside0.mk (hbox);have BR:=Aside0.mk ((by rw [hg];exact (aM hb_) : w.heap.size ≤ Bj));have Da:=Aside0.mk ((by rw [hg];exact (aM hb_) : w.heap.size ≤ Bj));have Db:=Aside0.mk ((by rw [hg];exact Nat.ne_of_lt (dh (g:=Bg) (o:=.cells #[.string Bl,.string Bt,.slice Bw Br.length Bz,.slice BD Bq.length BF,.int .i64 Bu,.int .i64 Bv,.slice BG Bn.length BH] 69 (0,0)) (bk_ AZ.out)) : Bg ≠ Bj));have Dc:=Aside0.mk ((by rw [hg];exact Nat.ne_of_gt (dh (g:=Bg) (o:=.cells #[.string Bl,.string Bt,.slice Bw Br.length Bz,.slice BD Bq.length BF,.int .i64 Bu,.int .i64 Bv,.slice BG Bn.length BH] 69 (0,0)) (bk_ AZ.out)) : Bj ≠ Bg));clear AZ;clear HB;have AZ:=BO;have HB:=BP;have Bh:=BQ;have Df:=BR;have Dh:=Da;have Bo:=Db;have Bp:=Dc;clear BO BP BQ BR Da Db Dc;clear hb hbox hg;have KQ:=Bo.out;have KR:=Bp.out;have Gd : DL.cell? ⟨Bg,0,none⟩ = some (.string Bl):=(ah AZ.out 0).trans rfl;have Gf : DL.cell? ⟨Bg,1,none⟩ = some (.string Bt):=(ah AZ.out 1).trans rfl;have Gg : DL.cell? ⟨Bg,2,none⟩ = some (.slice Bw Br.length Bz):=(ah AZ.out 2).trans rfl;have Gh : DL.cell? ⟨Bg,3,none⟩ = some (.slice BD Bq.length BF):=(ah AZ.out 3).trans rfl;have Gi : DL.cell? ⟨Bg,4,none⟩ = some (.int .i64 Bu):=(ah AZ.out 4).trans rfl;have Gj : DL.cell? ⟨Bg,5,none⟩ = some (.int .i64 Bv):=(ah AZ.out 5).trans rfl;have Gl : DL.cell? ⟨Bg,6,none⟩ = some (.slice BG Bn.length BH):=(ah AZ.out 6).trans rfl;have Gm:=ak AZ.out 0;have Gn:=ak AZ.out 1;have Gp:=ak AZ.out 2;have Gq:=ak AZ.out 3;have Gr:=ak AZ.out 4;have Gs:=ak AZ.out 5;have Gt:=ak AZ.out 6;have Gu : DL.cell? ⟨Bj,0,none⟩ = some (.string BS):=(ah Bh.out 0).trans rfl;have Gv : DL.cell? ⟨Bj,1,none⟩ = some (.string BU):=(ah Bh.out 1).trans rfl;have Gw : DL.cell? ⟨Bj,2,none⟩ = some (.slice CF BN.length CG):=(ah Bh.out 2).trans rfl;have Gx : DL.cell? ⟨Bj,3,none⟩ = some (.slice CJ BL.length CK):=(ah Bh.out 3).trans rfl;have Gy : DL.cell? ⟨Bj,4,none⟩ = some (.int .i64 BX):=(ah Bh.out 4).trans rfl;have Gz : DL.cell? ⟨Bj,5,none⟩ = some (.int .i64 BZ):=(ah Bh.out 5).trans rfl;have GA : DL.cell? ⟨Bj,6,none⟩ = some (.slice CO BJ.length CP):=(ah Bh.out 6).trans rfl;have GD:=ak Bh.out 0;have GI:=ak Bh.out 1;have GJ:=ak Bh.out 2;have GK:=ak Bh.out 3;have GL:=ak Bh.out 4;have GN:=ak Bh.out 5;have GQ:=ak Bh.out 6)|(go_at_call 42;(with_reducible refine (aV.calls k _ _ Br _ _ BN true _ ?Cv ?Cw ?Cz ?CB A7.out).mono ?_);(case Cv=>repeat (first|exact (Kd.bO D5.out HB.out)|(with_reducible refine Kd.bD ?_ _)|(with_reducible refine Kd.bR ?_ _)|(with_reducible refine Kd.bZ ?_)));(case Cw=>exact D6.out);(case Cz=>repeat (first|exact (Kd.bO D7.out HB.out)|(with_reducible refine Kd.bD ?_ _)|(with_reducible refine Kd.bR ?_ _)|(with_reducible refine Kd.bZ ?_)));(case CB=>exact D8.out);rintro e w' ⟨rfl,⟨nd,rfl⟩⟩)|(go_at_call 43;(with_reducible refine (dM.calls k _ _ Bq _ _ BL false _ ?Cv ?Cw ?Cz ?CB A9.out).mono ?_);(case Cv=>repeat (first|exact (Kd.bO EN.out hb_)|(with_reducible refine Kd.bD ?_ _)|(with_reducible refine Kd.bR ?_ _)|(with_reducible refine Kd.bZ ?_)));(case Cw=>exact EO.out);(case Cz=>repeat (first|exact (Kd.bO EP.out hb_)|(with_reducible refine Kd.bD ?_ _)|(with_reducible refine Kd.bR ?_ _)|(with_reducible refine Kd.bZ ?_)));(case CB=>exact ER.out);rintro e w' ⟨rfl,⟨nd,rfl⟩⟩))
       go_ret
       exact ⟨by first|rfl|(simp [aY,aZ] <;> rfl)|(simp [*,aY,aZ] <;> rfl),hb_⟩
     ·replace c8:=Bool.eq_false_iff.mpr c8
      subst c8
      have H1 : (some false) = some r:=by rw [if_neg (show ¬ (false = true) by decide)] at H;exact H
      clear H
      have H:=H1
      clear H1
      obtain rfl:=Option.some.inj H
      go_enter Tryz.func27,Tryz.ntmps27
      go_wp2_with (first|((with_reducible refine cZ (N:=2) rfl ?_);refine dA ?hg (N:=2) ?hd (cs:=#[.string Bl,.string Bt,.slice Bw Br.length Bz,.slice BD Bq.length BF,.int .i64 Bu,.int .i64 Bv,.slice BG Bn.length BH]) (t:=69) ?hr ?_;(case hd=>rfl);(case hg=>rfl);(case hr=>first|(go_simp;done)|(go_simp;rfl));intro Bg hg Lg hbox hb;have BO:=Aside0.mk (aK hb_ hb);have BP:=Aside0.mk (hbox);have BQ:=Aside0.mk ((by rw [hg];exact (aM hb_) : w.heap.size ≤ Bg));have BR:=Aside0.mk ((by rw [hg];exact (aM hb_) : w.heap.size ≤ Bg));clear HB;have HB:=BO;have AZ:=BP;have C8:=BQ;have C9:=BR;clear BO BP BQ BR;clear hb hbox hg)|((with_reducible refine cZ (N:=3) rfl ?_);refine dA ?hg (N:=3) ?hd (cs:=#[.string BS,.string BU,.slice CF BN.length CG,.slice CJ BL.length CK,.int .i64 BX,.int .i64 BZ,.slice CO BJ.length CP]) (t:=69) ?hr ?_;(case hd=>rfl);(case hg=>rfl);(case hr=>first|(go_simp;done)|(go_simp;rfl));intro Bj hg DN hbox hb;have BO:=Aside0.mk (aN (g:=Bg) (o:=.cells #[.string Bl,.string Bt,.slice Bw Br.length Bz,.slice BD Bq.length BF,.int .i64 Bu,.int .i64 Bv,.slice BG Bn.length BH] 69 (0,0)) (bk_ AZ.out) hb);have BP:=Aside0.mk (aK hb_ hb);have BQ:=Aside0.mk (hbox);have BR:=Aside0.mk ((by rw [hg];exact (aM hb_) : w.heap.size ≤ Bj));have Da:=Aside0.mk ((by rw [hg];exact (aM hb_) : w.heap.size ≤ Bj));have Db:=Aside0.mk ((by rw [hg];exact Nat.ne_of_lt (dh (g:=Bg) (o:=.cells #[.string Bl,.string Bt,.slice Bw Br.length Bz,.slice BD Bq.length BF,.int .i64 Bu,.int .i64 Bv,.slice BG Bn.length BH] 69 (0,0)) (bk_ AZ.out)) : Bg ≠ Bj));have Dc:=Aside0.mk ((by rw [hg];exact Nat.ne_of_gt (dh (g:=Bg) (o:=.cells #[.string Bl,.string Bt,.slice Bw Br.length Bz,.slice BD Bq.length BF,.int .i64 Bu,.int .i64 Bv,.slice BG Bn.length BH] 69 (0,0)) (bk_ AZ.out)) : Bj ≠ Bg));clear AZ;clear HB;have AZ:=BO;have HB:=BP;have Bh:=BQ;have Df:=BR;have Dh:=Da;have Bo:=Db;have Bp:=Dc;clear BO BP BQ BR Da Db Dc;clear hb hbox hg;have KS:=Bo.out;have KT:=Bp.out;have GR : DN.cell? ⟨Bg,0,none⟩ = some (.string Bl):=(ah AZ.out 0).trans rfl;have GU : DN.cell? ⟨Bg,1,none⟩ = some (.string Bt):=(ah AZ.out 1).trans rfl;have GV : DN.cell? ⟨Bg,2,none⟩ = some (.slice Bw Br.length Bz):=(ah AZ.out 2).trans rfl;have GX : DN.cell? ⟨Bg,3,none⟩ = some (.slice BD Bq.length BF):=(ah AZ.out 3).trans rfl;have GY : DN.cell? ⟨Bg,4,none⟩ = some (.int .i64 Bu):=(ah AZ.out 4).trans rfl;have GZ : DN.cell? ⟨Bg,5,none⟩ = some (.int .i64 Bv):=(ah AZ.out 5).trans rfl;have G6 : DN.cell? ⟨Bg,6,none⟩ = some (.slice BG Bn.length BH):=(ah AZ.out 6).trans rfl;have G7:=ak AZ.out 0;have G8:=ak AZ.out 1;have G9:=ak AZ.out 2;have He:=ak AZ.out 3;have Hf:=ak AZ.out 4;have Hg:=ak AZ.out 5;have Hl:=ak AZ.out 6;have Ho : DN.cell? ⟨Bj,0,none⟩ = some (.string BS):=(ah Bh.out 0).trans rfl;have Hq : DN.cell? ⟨Bj,1,none⟩ = some (.string BU):=(ah Bh.out 1).trans rfl;have Hr : DN.cell? ⟨Bj,2,none⟩ = some (.slice CF BN.length CG):=(ah Bh.out 2).trans rfl;have Ht : DN.cell? ⟨Bj,3,none⟩ = some (.slice CJ BL.length CK):=(ah Bh.out 3).trans rfl;have Hu : DN.cell? ⟨Bj,4,none⟩ = some (.int .i64 BX):=(ah Bh.out 4).trans rfl;have Hw : DN.cell? ⟨Bj,5,none⟩ = some (.int .i64 BZ):=(ah Bh.out 5).trans rfl;have Hy : DN.cell? ⟨Bj,6,none⟩ = some (.slice CO BJ.length CP):=(ah Bh.out 6).trans rfl;have Hz:=ak Bh.out 0;have H6:=ak Bh.out 1;have H7:=ak Bh.out 2;have H8:=ak Bh.out 3;have H9:=ak Bh.out 4;have Ia:=ak Bh.out 5;have Ib:=ak Bh.out 6)|(go_at_call 42;(with_reducible refine (aV.calls k _ _ Br _ _ BN false _ ?Cv ?Cw ?Cz ?CB A7.out).mono ?_);(case Cv=>repeat (first|exact (Kd.bO D5.out HB.out)|(with_reducible refine Kd.bD ?_ _)|(with_reducible refine Kd.bR ?_ _)|(with_reducible refine Kd.bZ ?_)));(case Cw=>exact D6.out);(case Cz=>repeat (first|exact (Kd.bO D7.out HB.out)|(with_reducible refine Kd.bD ?_ _)|(with_reducible refine Kd.bR ?_ _)|(with_reducible refine Kd.bZ ?_)));(case CB=>exact D8.out);rintro e w' ⟨rfl,⟨nd,rfl⟩⟩))
      go_ret
      exact ⟨by first|rfl|(simp [aY,aZ] <;> rfl)|(simp [*,aY,aZ] <;> rfl),hb_⟩
    ·rw [if_neg c6] at H
     have c6b0 : (Bv == BZ) = false:=beq_eq_false_iff_ne.mpr c6
     have c6b1 : (Bv != BZ) = true:=bne_iff_ne.mpr c6
     obtain rfl:=Option.some.inj H
     go_enter Tryz.func27,Tryz.ntmps27
     go_wp2_with (first|((with_reducible refine cZ (N:=2) rfl ?_);refine dA ?hg (N:=2) ?hd (cs:=#[.string Bl,.string Bt,.slice Bw Br.length Bz,.slice BD Bq.length BF,.int .i64 Bu,.int .i64 Bv,.slice BG Bn.length BH]) (t:=69) ?hr ?_;(case hd=>rfl);(case hg=>rfl);(case hr=>first|(go_simp;done)|(go_simp;rfl));intro Bg hg Lh hbox hb;have BO:=Aside0.mk (aK hb_ hb);have BP:=Aside0.mk (hbox);have BQ:=Aside0.mk ((by rw [hg];exact (aM hb_) : w.heap.size ≤ Bg));have BR:=Aside0.mk ((by rw [hg];exact (aM hb_) : w.heap.size ≤ Bg));clear HB;have HB:=BO;have AZ:=BP;have C8:=BQ;have C9:=BR;clear BO BP BQ BR;clear hb hbox hg)|((with_reducible refine cZ (N:=3) rfl ?_);refine dA ?hg (N:=3) ?hd (cs:=#[.string BS,.string BU,.slice CF BN.length CG,.slice CJ BL.length CK,.int .i64 BX,.int .i64 BZ,.slice CO BJ.length CP]) (t:=69) ?hr ?_;(case hd=>rfl);(case hg=>rfl);(case hr=>first|(go_simp;done)|(go_simp;rfl));intro Bj hg DR hbox hb;have BO:=Aside0.mk (aN (g:=Bg) (o:=.cells #[.string Bl,.string Bt,.slice Bw Br.length Bz,.slice BD Bq.length BF,.int .i64 Bu,.int .i64 Bv,.slice BG Bn.length BH] 69 (0,0)) (bk_ AZ.out) hb);have BP:=Aside0.mk (aK hb_ hb);have BQ:=Aside0.mk (hbox);have BR:=Aside0.mk ((by rw [hg];exact (aM hb_) : w.heap.size ≤ Bj));have Da:=Aside0.mk ((by rw [hg];exact (aM hb_) : w.heap.size ≤ Bj));have Db:=Aside0.mk ((by rw [hg];exact Nat.ne_of_lt (dh (g:=Bg) (o:=.cells #[.string Bl,.string Bt,.slice Bw Br.length Bz,.slice BD Bq.length BF,.int .i64 Bu,.int .i64 Bv,.slice BG Bn.length BH] 69 (0,0)) (bk_ AZ.out)) : Bg ≠ Bj));have Dc:=Aside0.mk ((by rw [hg];exact Nat.ne_of_gt (dh (g:=Bg) (o:=.cells #[.string Bl,.string Bt,.slice Bw Br.length Bz,.slice BD Bq.length BF,.int .i64 Bu,.int .i64 Bv,.slice BG Bn.length BH] 69 (0,0)) (bk_ AZ.out)) : Bj ≠ Bg));clear AZ;clear HB;have AZ:=BO;have HB:=BP;have Bh:=BQ;have Df:=BR;have Dh:=Da;have Bo:=Db;have Bp:=Dc;clear BO BP BQ BR Da Db Dc;clear hb hbox hg;have KU:=Bo.out;have KV:=Bp.out;have Ic : DR.cell? ⟨Bg,0,none⟩ = some (.string Bl):=(ah AZ.out 0).trans rfl;have Ie : DR.cell? ⟨Bg,1,none⟩ = some (.string Bt):=(ah AZ.out 1).trans rfl;have Ig : DR.cell? ⟨Bg,2,none⟩ = some (.slice Bw Br.length Bz):=(ah AZ.out 2).trans rfl;have Ih : DR.cell? ⟨Bg,3,none⟩ = some (.slice BD Bq.length BF):=(ah AZ.out 3).trans rfl;have Ii : DR.cell? ⟨Bg,4,none⟩ = some (.int .i64 Bu):=(ah AZ.out 4).trans rfl;have Ij : DR.cell? ⟨Bg,5,none⟩ = some (.int .i64 Bv):=(ah AZ.out 5).trans rfl;have Ik : DR.cell? ⟨Bg,6,none⟩ = some (.slice BG Bn.length BH):=(ah AZ.out 6).trans rfl;have Il:=ak AZ.out 0;have Im:=ak AZ.out 1;have Io:=ak AZ.out 2;have Ip:=ak AZ.out 3;have Iq:=ak AZ.out 4;have Ir:=ak AZ.out 5;have Iu:=ak AZ.out 6;have Iw : DR.cell? ⟨Bj,0,none⟩ = some (.string BS):=(ah Bh.out 0).trans rfl;have Iy : DR.cell? ⟨Bj,1,none⟩ = some (.string BU):=(ah Bh.out 1).trans rfl;have Iz : DR.cell? ⟨Bj,2,none⟩ = some (.slice CF BN.length CG):=(ah Bh.out 2).trans rfl;have IB : DR.cell? ⟨Bj,3,none⟩ = some (.slice CJ BL.length CK):=(ah Bh.out 3).trans rfl;have IC : DR.cell? ⟨Bj,4,none⟩ = some (.int .i64 BX):=(ah Bh.out 4).trans rfl;have IE : DR.cell? ⟨Bj,5,none⟩ = some (.int .i64 BZ):=(ah Bh.out 5).trans rfl;have IG : DR.cell? ⟨Bj,6,none⟩ = some (.slice CO BJ.length CP):=(ah Bh.out 6).trans rfl;have II:=ak Bh.out 0;have IJ:=ak Bh.out 1;have IK:=ak Bh.out 2;have IL:=ak Bh.out 3;have IQ:=ak Bh.out 4;have IU:=ak Bh.out 5;have IV:=ak Bh.out 6))
     go_ret
     exact ⟨by first|rfl|(simp [aY,aZ] <;> rfl)|(simp [*,aY,aZ] <;> rfl),hb_⟩
   ·rw [if_neg c5] at H
    have c5b0 : (Bu == BX) = false:=beq_eq_false_iff_ne.mpr c5
    have c5b1 : (Bu != BX) = true:=bne_iff_ne.mpr c5
    obtain rfl:=Option.some.inj H
    go_enter Tryz.func27,Tryz.ntmps27
    go_wp2_with (first|((with_reducible refine cZ (N:=2) rfl ?_);refine dA ?hg (N:=2) ?hd (cs:=#[.string Bl,.string Bt,.slice Bw Br.length Bz,.slice BD Bq.length BF,.int .i64 Bu,.int .i64 Bv,.slice BG Bn.length BH]) (t:=69) ?hr ?_;(case hd=>rfl);(case hg=>rfl);(case hr=>first|(go_simp;done)|(go_simp;rfl));intro Bg hg w32 hbox hb;have BO:=Aside0.mk (aK hb_ hb);have BP:=Aside0.mk (hbox);have BQ:=Aside0.mk ((by rw [hg];exact (aM hb_) : w.heap.size ≤ Bg));have BR:=Aside0.mk ((by rw [hg];exact (aM hb_) : w.heap.size ≤ Bg));clear HB;have HB:=BO;have AZ:=BP;have C8:=BQ;have C9:=BR;clear BO BP BQ BR;clear hb hbox hg)|((with_reducible refine cZ (N:=3) rfl ?_);refine dA ?hg (N:=3) ?hd (cs:=#[.string BS,.string BU,.slice CF BN.length CG,.slice CJ BL.length CK,.int .i64 BX,.int .i64 BZ,.slice CO BJ.length CP]) (t:=69) ?hr ?_;(case hd=>rfl);(case hg=>rfl);(case hr=>first|(go_simp;done)|(go_simp;rfl));intro Bj hg DT hbox hb;have BO:=Aside0.mk (aN (g:=Bg) (o:=.cells #[.string Bl,.string Bt,.slice Bw Br.length Bz,.slice BD Bq.length BF,.int .i64 Bu,.int .i64 Bv,.slice BG Bn.length BH] 69 (0,0)) (bk_ AZ.out) hb);have BP:=Aside0.mk (aK hb_ hb);have BQ:=Aside0.mk (hbox);have BR:=Aside0.mk ((by rw [hg];exact (aM hb_) : w.heap.size ≤ Bj));have Da:=Aside0.mk ((by rw [hg];exact (aM hb_) : w.heap.size ≤ Bj));have Db:=Aside0.mk ((by rw [hg];exact Nat.ne_of_lt (dh (g:=Bg) (o:=.cells #[.string Bl,.string Bt,.slice Bw Br.length Bz,.slice BD Bq.length BF,.int .i64 Bu,.int .i64 Bv,.slice BG Bn.length BH] 69 (0,0)) (bk_ AZ.out)) : Bg ≠ Bj));have Dc:=Aside0.mk ((by rw [hg];exact Nat.ne_of_gt (dh (g:=Bg) (o:=.cells #[.string Bl,.string Bt,.slice Bw Br.length Bz,.slice BD Bq.length BF,.int .i64 Bu,.int .i64 Bv,.slice BG Bn.length BH] 69 (0,0)) (bk_ AZ.out)) : Bj ≠ Bg));clear AZ;clear HB;have AZ:=BO;have HB:=BP;have Bh:=BQ;have Df:=BR;have Dh:=Da;have Bo:=Db;have Bp:=Dc;clear BO BP BQ BR Da Db Dc;clear hb hbox hg;have KW:=Bo.out;have KZ:=Bp.out;have IW : DT.cell? ⟨Bg,0,none⟩ = some (.string Bl):=(ah AZ.out 0).trans rfl;have IX : DT.cell? ⟨Bg,1,none⟩ = some (.string Bt):=(ah AZ.out 1).trans rfl;have IY : DT.cell? ⟨Bg,2,none⟩ = some (.slice Bw Br.length Bz):=(ah AZ.out 2).trans rfl;have IZ : DT.cell? ⟨Bg,3,none⟩ = some (.slice BD Bq.length BF):=(ah AZ.out 3).trans rfl;have I4 : DT.cell? ⟨Bg,4,none⟩ = some (.int .i64 Bu):=(ah AZ.out 4).trans rfl;have I5 : DT.cell? ⟨Bg,5,none⟩ = some (.int .i64 Bv):=(ah AZ.out 5).trans rfl;have I6 : DT.cell? ⟨Bg,6,none⟩ = some (.slice BG Bn.length BH):=(ah AZ.out 6).trans rfl;have I7:=ak AZ.out 0;have I8:=ak AZ.out 1;have I9:=ak AZ.out 2;have Ja:=ak AZ.out 3;have Jb:=ak AZ.out 4;have Jc:=ak AZ.out 5;have Jd:=ak AZ.out 6;have Je : DT.cell? ⟨Bj,0,none⟩ = some (.string BS):=(ah Bh.out 0).trans rfl;have Jf : DT.cell? ⟨Bj,1,none⟩ = some (.string BU):=(ah Bh.out 1).trans rfl;have Jg : DT.cell? ⟨Bj,2,none⟩ = some (.slice CF BN.length CG):=(ah Bh.out 2).trans rfl;have Jh : DT.cell? ⟨Bj,3,none⟩ = some (.slice CJ BL.length CK):=(ah Bh.out 3).trans rfl;have Ji : DT.cell? ⟨Bj,4,none⟩ = some (.int .i64 BX):=(ah Bh.out 4).trans rfl;have Jj : DT.cell? ⟨Bj,5,none⟩ = some (.int .i64 BZ):=(ah Bh.out 5).trans rfl;have Jk : DT.cell? ⟨Bj,6,none⟩ = some (.slice CO BJ.length CP):=(ah Bh.out 6).trans rfl;have Jl:=ak Bh.out 0;have Jm:=ak Bh.out 1;have Jo:=ak Bh.out 2;have Jp:=ak Bh.out 3;have Jq:=ak Bh.out 4;have Jr:=ak Bh.out 5;have Js:=ak Bh.out 6))
    go_ret
    exact ⟨by first|rfl|(simp [aY,aZ] <;> rfl)|(simp [*,aY,aZ] <;> rfl),hb_⟩
  ·rw [if_neg c4] at H
   have c4b0 : (Bt.toList == BU.toList) = false:=beq_eq_false_iff_ne.mpr c4
   have c4b1 : (Bt.toList != BU.toList) = true:=bne_iff_ne.mpr c4
   obtain rfl:=Option.some.inj H
   go_enter Tryz.func27,Tryz.ntmps27
   go_wp2_with (first|((with_reducible refine cZ (N:=2) rfl ?_);refine dA ?hg (N:=2) ?hd (cs:=#[.string Bl,.string Bt,.slice Bw Br.length Bz,.slice BD Bq.length BF,.int .i64 Bu,.int .i64 Bv,.slice BG Bn.length BH]) (t:=69) ?hr ?_;(case hd=>rfl);(case hg=>rfl);(case hr=>first|(go_simp;done)|(go_simp;rfl));intro Bg hg Li hbox hb;have BO:=Aside0.mk (aK hb_ hb);have BP:=Aside0.mk (hbox);have BQ:=Aside0.mk ((by rw [hg];exact (aM hb_) : w.heap.size ≤ Bg));have BR:=Aside0.mk ((by rw [hg];exact (aM hb_) : w.heap.size ≤ Bg));clear HB;have HB:=BO;have AZ:=BP;have C8:=BQ;have C9:=BR;clear BO BP BQ BR;clear hb hbox hg)|((with_reducible refine cZ (N:=3) rfl ?_);refine dA ?hg (N:=3) ?hd (cs:=#[.string BS,.string BU,.slice CF BN.length CG,.slice CJ BL.length CK,.int .i64 BX,.int .i64 BZ,.slice CO BJ.length CP]) (t:=69) ?hr ?_;(case hd=>rfl);(case hg=>rfl);(case hr=>first|(go_simp;done)|(go_simp;rfl));intro Bj hg DU hbox hb;have BO:=Aside0.mk (aN (g:=Bg) (o:=.cells #[.string Bl,.string Bt,.slice Bw Br.length Bz,.slice BD Bq.length BF,.int .i64 Bu,.int .i64 Bv,.slice BG Bn.length BH] 69 (0,0)) (bk_ AZ.out) hb);have BP:=Aside0.mk (aK hb_ hb);have BQ:=Aside0.mk (hbox);have BR:=Aside0.mk ((by rw [hg];exact (aM hb_) : w.heap.size ≤ Bj));have Da:=Aside0.mk ((by rw [hg];exact (aM hb_) : w.heap.size ≤ Bj));have Db:=Aside0.mk ((by rw [hg];exact Nat.ne_of_lt (dh (g:=Bg) (o:=.cells #[.string Bl,.string Bt,.slice Bw Br.length Bz,.slice BD Bq.length BF,.int .i64 Bu,.int .i64 Bv,.slice BG Bn.length BH] 69 (0,0)) (bk_ AZ.out)) : Bg ≠ Bj));have Dc:=Aside0.mk ((by rw [hg];exact Nat.ne_of_gt (dh (g:=Bg) (o:=.cells #[.string Bl,.string Bt,.slice Bw Br.length Bz,.slice BD Bq.length BF,.int .i64 Bu,.int .i64 Bv,.slice BG Bn.length BH] 69 (0,0)) (bk_ AZ.out)) : Bj ≠ Bg));clear AZ;clear HB;have AZ:=BO;have HB:=BP;have Bh:=BQ;have Df:=BR;have Dh:=Da;have Bo:=Db;have Bp:=Dc;clear BO BP BQ BR Da Db Dc;clear hb hbox hg;have K4:=Bo.out;have K5:=Bp.out;have Jt : DU.cell? ⟨Bg,0,none⟩ = some (.string Bl):=(ah AZ.out 0).trans rfl;have Ju : DU.cell? ⟨Bg,1,none⟩ = some (.string Bt):=(ah AZ.out 1).trans rfl;have Jv : DU.cell? ⟨Bg,2,none⟩ = some (.slice Bw Br.length Bz):=(ah AZ.out 2).trans rfl;have Jw : DU.cell? ⟨Bg,3,none⟩ = some (.slice BD Bq.length BF):=(ah AZ.out 3).trans rfl;have Jy : DU.cell? ⟨Bg,4,none⟩ = some (.int .i64 Bu):=(ah AZ.out 4).trans rfl;have Jz : DU.cell? ⟨Bg,5,none⟩ = some (.int .i64 Bv):=(ah AZ.out 5).trans rfl;have JA : DU.cell? ⟨Bg,6,none⟩ = some (.slice BG Bn.length BH):=(ah AZ.out 6).trans rfl;have JB:=ak AZ.out 0;have JC:=ak AZ.out 1;have JD:=ak AZ.out 2;have JE:=ak AZ.out 3;have JF:=ak AZ.out 4;have JG:=ak AZ.out 5;have JH:=ak AZ.out 6;have JI : DU.cell? ⟨Bj,0,none⟩ = some (.string BS):=(ah Bh.out 0).trans rfl;have JJ : DU.cell? ⟨Bj,1,none⟩ = some (.string BU):=(ah Bh.out 1).trans rfl;have JK : DU.cell? ⟨Bj,2,none⟩ = some (.slice CF BN.length CG):=(ah Bh.out 2).trans rfl;have JL : DU.cell? ⟨Bj,3,none⟩ = some (.slice CJ BL.length CK):=(ah Bh.out 3).trans rfl;have JM : DU.cell? ⟨Bj,4,none⟩ = some (.int .i64 BX):=(ah Bh.out 4).trans rfl;have JN : DU.cell? ⟨Bj,5,none⟩ = some (.int .i64 BZ):=(ah Bh.out 5).trans rfl;have JO : DU.cell? ⟨Bj,6,none⟩ = some (.slice CO BJ.length CP):=(ah Bh.out 6).trans rfl;have JQ:=ak Bh.out 0;have JR:=ak Bh.out 1;have JU:=ak Bh.out 2;have JV:=ak Bh.out 3;have JW:=ak Bh.out 4;have JX:=ak Bh.out 5;have JY:=ak Bh.out 6))
   go_ret
   exact ⟨by first|rfl|(simp [aY,aZ] <;> rfl)|(simp [*,aY,aZ] <;> rfl),hb_⟩
 ·rw [if_neg c3] at H
  have c3b0 : (Bl.toList == BS.toList) = false:=beq_eq_false_iff_ne.mpr c3
  have c3b1 : (Bl.toList != BS.toList) = true:=bne_iff_ne.mpr c3
  obtain rfl:=Option.some.inj H
  go_enter Tryz.func27,Tryz.ntmps27
  go_wp2_with (first|((with_reducible refine cZ (N:=2) rfl ?_);refine dA ?hg (N:=2) ?hd (cs:=#[.string Bl,.string Bt,.slice Bw Br.length Bz,.slice BD Bq.length BF,.int .i64 Bu,.int .i64 Bv,.slice BG Bn.length BH]) (t:=69) ?hr ?_;(case hd=>rfl);(case hg=>rfl);(case hr=>first|(go_simp;done)|(go_simp;rfl));intro Bg hg Lj hbox hb;have BO:=Aside0.mk (aK hb_ hb);have BP:=Aside0.mk (hbox);have BQ:=Aside0.mk ((by rw [hg];exact (aM hb_) : w.heap.size ≤ Bg));have BR:=Aside0.mk ((by rw [hg];exact (aM hb_) : w.heap.size ≤ Bg));clear HB;have HB:=BO;have AZ:=BP;have C8:=BQ;have C9:=BR;clear BO BP BQ BR;clear hb hbox hg)|((with_reducible refine cZ (N:=3) rfl ?_);refine dA ?hg (N:=3) ?hd (cs:=#[.string BS,.string BU,.slice CF BN.length CG,.slice CJ BL.length CK,.int .i64 BX,.int .i64 BZ,.slice CO BJ.length CP]) (t:=69) ?hr ?_;(case hd=>rfl);(case hg=>rfl);(case hr=>first|(go_simp;done)|(go_simp;rfl));intro Bj hg DV hbox hb;have BO:=Aside0.mk (aN (g:=Bg) (o:=.cells #[.string Bl,.string Bt,.slice Bw Br.length Bz,.slice BD Bq.length BF,.int .i64 Bu,.int .i64 Bv,.slice BG Bn.length BH] 69 (0,0)) (bk_ AZ.out) hb);have BP:=Aside0.mk (aK hb_ hb);have BQ:=Aside0.mk (hbox);have BR:=Aside0.mk ((by rw [hg];exact (aM hb_) : w.heap.size ≤ Bj));have Da:=Aside0.mk ((by rw [hg];exact (aM hb_) : w.heap.size ≤ Bj));have Db:=Aside0.mk ((by rw [hg];exact Nat.ne_of_lt (dh (g:=Bg) (o:=.cells #[.string Bl,.string Bt,.slice Bw Br.length Bz,.slice BD Bq.length BF,.int .i64 Bu,.int .i64 Bv,.slice BG Bn.length BH] 69 (0,0)) (bk_ AZ.out)) : Bg ≠ Bj));have Dc:=Aside0.mk ((by rw [hg];exact Nat.ne_of_gt (dh (g:=Bg) (o:=.cells #[.string Bl,.string Bt,.slice Bw Br.length Bz,.slice BD Bq.length BF,.int .i64 Bu,.int .i64 Bv,.slice BG Bn.length BH] 69 (0,0)) (bk_ AZ.out)) : Bj ≠ Bg));clear AZ;clear HB;have AZ:=BO;have HB:=BP;have Bh:=BQ;have Df:=BR;have Dh:=Da;have Bo:=Db;have Bp:=Dc;clear BO BP BQ BR Da Db Dc;clear hb hbox hg;have K7:=Bo.out;have K8:=Bp.out;have JZ : DV.cell? ⟨Bg,0,none⟩ = some (.string Bl):=(ah AZ.out 0).trans rfl;have J2 : DV.cell? ⟨Bg,1,none⟩ = some (.string Bt):=(ah AZ.out 1).trans rfl;have J3 : DV.cell? ⟨Bg,2,none⟩ = some (.slice Bw Br.length Bz):=(ah AZ.out 2).trans rfl;have J4 : DV.cell? ⟨Bg,3,none⟩ = some (.slice BD Bq.length BF):=(ah AZ.out 3).trans rfl;have J5 : DV.cell? ⟨Bg,4,none⟩ = some (.int .i64 Bu):=(ah AZ.out 4).trans rfl;have J6 : DV.cell? ⟨Bg,5,none⟩ = some (.int .i64 Bv):=(ah AZ.out 5).trans rfl;have J7 : DV.cell? ⟨Bg,6,none⟩ = some (.slice BG Bn.length BH):=(ah AZ.out 6).trans rfl;have J8:=ak AZ.out 0;have J9:=ak AZ.out 1;have Ka:=ak AZ.out 2;have Ke:=ak AZ.out 3;have Kg:=ak AZ.out 4;have Kh:=ak AZ.out 5;have Ki:=ak AZ.out 6;have Kj : DV.cell? ⟨Bj,0,none⟩ = some (.string BS):=(ah Bh.out 0).trans rfl;have Kk : DV.cell? ⟨Bj,1,none⟩ = some (.string BU):=(ah Bh.out 1).trans rfl;have Kl : DV.cell? ⟨Bj,2,none⟩ = some (.slice CF BN.length CG):=(ah Bh.out 2).trans rfl;have Km : DV.cell? ⟨Bj,3,none⟩ = some (.slice CJ BL.length CK):=(ah Bh.out 3).trans rfl;have Kn : DV.cell? ⟨Bj,4,none⟩ = some (.int .i64 BX):=(ah Bh.out 4).trans rfl;have Ko : DV.cell? ⟨Bj,5,none⟩ = some (.int .i64 BZ):=(ah Bh.out 5).trans rfl;have Kq : DV.cell? ⟨Bj,6,none⟩ = some (.slice CO BJ.length CP):=(ah Bh.out 6).trans rfl;have Kr:=ak Bh.out 0;have Kt:=ak Bh.out 1;have Ku:=ak Bh.out 2;have Kv:=ak Bh.out 3;have Kw:=ak Bh.out 4;have Ky:=ak Bh.out 5;have Kz:=ak Bh.out 6))
  go_ret
  exact ⟨by first|rfl|(simp [aY,aZ] <;> rfl)|(simp [*,aY,aZ] <;> rfl),hb_⟩
end Go.Proofs.YtpflenjhmeaeoaaGreatDoor.GUt
