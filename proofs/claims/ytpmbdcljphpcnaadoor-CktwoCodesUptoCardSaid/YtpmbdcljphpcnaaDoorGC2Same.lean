/- cktwo.State.Same: its contract, in terms of plain functions. No conditions beside those stated. -/
import Derived.Test.YtpmbdcljphpcnaaDoorGC2x0
namespace Go.Proofs.YtpmbdcljphpcnaaDoor.GC2
open Go.RowKit Go.Proofs.YtpmbdcljphpcnaaDoorW.PrintWords Go.Proofs.YtpmbdcljphpcnaaDoorW.PrintLast Go.Proofs.YtpmbdcljphpcnaaDoorW.PrintMore
set_option linter.unusedVariables false
theorem uR (d : Nat) (w : World) (x0 y0 : ByteArray) (x1 y1 : ByteArray) :
  (Op.equalIn (d + 2) 100 (.agg #[.string x0,.string x1]) (.agg #[.string y0,.string y1])).run Tryd.prog w = .ok (x0.toList == y0.toList && (x1.toList == y1.toList)) w:=by
 refine qY Tryd.underlying100 (by kernel_rfl) ?_
 refine nM (by rfl) (by go_simp;rfl) (by go_simp;rfl) (by go_simp) ?_
 exact nL (by rfl) (by go_simp;rfl) (by go_simp;rfl) (by go_simp)
attribute [local go_sem high] uR
def eqK (p q : S100) : Bool:=p.f0.toList == q.f0.toList && (p.f1.toList == q.f1.toList)
def eqC : List S100 → List S100 → Bool
 | [],[]=>true
 | p :: ps,q :: qs=>eqK p q && eqC ps qs
 | _,_=>false
theorem pK : ∀ l m,eqC l m = true → l.length = m.length
 | [],[],_=>rfl
 | p :: ps,q :: qs,h=>by
  rw [eqC,Bool.and_eq_true] at h
  rw [List.length_cons,List.length_cons,pK ps qs h.2]
 | [],_ :: _,h=>by cases h
 | _ :: _,[],h=>by cases h
def eqP (p q : S98) : Bool:=p.f0.toList == q.f0.toList && (p.f1.toList == q.f1.toList && (p.f2.toList == q.f2.toList && (p.f3 == q.f3 && (p.f4 == q.f4 && eqC p.f5 q.f5))))
def eqL : List S98 → List S98 → Bool
 | [],[]=>true
 | p :: ps,q :: qs=>eqP p q && eqL ps qs
 | _,_=>false
theorem pO : ∀ l m,eqL l m = true → l.length = m.length
 | [],[],_=>rfl
 | p :: ps,q :: qs,h=>by
  rw [eqL,Bool.and_eq_true] at h
  rw [List.length_cons,List.length_cons,pO ps qs h.2]
 | [],_ :: _,h=>by cases h
 | _ :: _,[],h=>by cases h
def cO.f (xK : Int) (xI : List S98) (xL : Int) (xJ : List S98) : Option Bool:=some (xK == xL && eqL xI xJ)
set_option maxHeartbeats 4000000 in
set_option maxRecDepth 100000 in
theorem rM.calls (A0 : Option Addr) (c0 : Nat) (l0 : List S100) (A1 : Option Addr) (c1 : Nat) (l1 : List S100) (w : World) (hr0 : Kd.C iO w A0 l0.length l0) (hr1 : Kd.C iO w A1 l1.length l1) :
  Calls Tryd.prog 80 #[.slice A0 l0.length c0,.slice A1 l1.length c1] w fun e w'=>e = .returned (.bool (eqC l0 l1)) ∧ Below w.heap.size w w':=by
 obtain ⟨r,hR⟩ : ∃ r,eqC l0 l1 = r:=⟨_,rfl⟩
 rw [hR]
 go_enter Tryd.func80,Tryd.ntmps80
 by_cases hlen : l0.length = l1.length
 ·have hne : ((l0.length : Int) != (l1.length : Int)) = false:=by rw [hlen];simp
  have HL:=Aside0.mk hlen
  clear hlen
  go_wp2
  go_loopg [13] l0.length (fun kq v13 w'=>∃ (i : Nat),v13 = .int .i64 (i : Int) ∧ Aside0 (i + kq = l0.length) ∧ Aside0 (eqC (l0.drop i) (l1.drop i) = r) ∧ Aside0 (Below w.heap.size w w'))
  case atStart=>exact ⟨0,rfl,⟨by omega⟩,⟨hR⟩,⟨Below.refl _ w⟩⟩
  case round =>
   obtain ⟨i,rfl,hi,hE,B⟩:=hrel
   cases gk with
   | zero =>
    have hend : decide ((i : Int) < (l0.length : Int)) = false:=decide_eq_false (by have:=hi.out;omega)
    have xS : decide (i < l0.length) = false:=decide_eq_false (by have:=hi.out;omega)
    have xU : (i < l0.length) = False:=eq_false (by have:=hi.out;omega)
    have hE':=hE.out
    rw [List.drop_eq_nil_of_le (by have:=hi.out;omega),List.drop_eq_nil_of_le (by have:=hi.out;have:=HL.out;omega)] at hE'
    have hr : true = r:=hE'
    subst hr
    go_wp2
    go_ret
    exact ⟨rfl,B.out⟩
   | succ k1 =>
    have hlt : i < l0.length:=by have:=hi.out;omega
    have c1 : decide ((i : Int) < (l0.length : Int)) = true:=decide_eq_true (by omega)
    have p1 : 0 ≤ (i : Int):=by omega
    have q1 : (i : Int) < (l0.length : Int):=by omega
    have q2 : (i : Int) < (l1.length : Int):=by have:=HL.out;omega
    obtain ⟨ad,e,hx0,hx1⟩:=jl hr0 (i : Int) p1 q1
    cases e
    obtain ⟨bd,e,hy0,hy1⟩:=jl hr1 (i : Int) p1 q2
    cases e
    replace hx0:=(B.out.cell (World.block_lt_of_cell? w _ hx0)).trans hx0
    replace hx1:=(B.out.cell (World.block_lt_of_cell? w _ hx1)).trans hx1
    replace hy0:=(B.out.cell (World.block_lt_of_cell? w _ hy0)).trans hy0
    replace hy1:=(B.out.cell (World.block_lt_of_cell? w _ hy1)).trans hy1
    simp only [Int.toNat_natCast] at hx0 hx1 hy0 hy1
    have hE1:=hE.out
    have hlt1 : i < l1.length:=by rw [← HL.out];exact hlt
    rw [List.drop_eq_getElem_cons hlt,List.drop_eq_getElem_cons hlt1,show l0[i] = dS l0 (i : Int) by simp [dS,List.getElem?_eq_getElem hlt],show l1[i] = dS l1 (i : Int) by simp [dS,List.getElem?_eq_getElem hlt1],eqC] at hE1
    generalize dS l0 (i : Int) = p at hx0 hx1 hE1
    generalize dS l1 (i : Int) = q at hy0 hy1 hE1
    replace p1:=eq_true p1
    replace q1:=eq_true q1
    replace q2:=eq_true q2
    have q3 : (i < l0.length) = True:=eq_true hlt
    have q4 : (i < l1.length) = True:=eq_true hlt1
    unfold eqK at hE1
    have hwv : Value.int .i64 (wrap64 ((i : Int) + 1)) = Value.int .i64 ((i + 1 : Nat) : Int):=by have:=Kd.mo hr0;rw [bY (by omega) (by omega)];rfl
    have hnx : Aside0 (i + 1 + k1 = l0.length):=⟨by have:=hi.out;omega⟩
    cases hpq : (p.f0.toList == q.f0.toList && (p.f1.toList == q.f1.toList)) with
    | false =>
     rw [hpq,Bool.false_and] at hE1
     subst hE1
     go_wp2
     repeat (go_quiet (fail);try go_wp2)
     go_ret
     exact ⟨rfl,by repeat (first | exact B.out | apply aj | apply av)⟩
    | true =>
     rw [hpq,Bool.true_and] at hE1
     go_wp2
     repeat (go_quiet (fail);try go_wp2)
     go_roundg k1
     case measure=>exact Nat.lt_succ_self k1
     case rel=>exact ⟨i + 1,by first | exact hwv | rfl,hnx,⟨hE1⟩,⟨by repeat (first | exact B.out | apply aj | apply av)⟩⟩
 ·have hne : ((l0.length : Int) != (l1.length : Int)) = true:=by simp;omega
  have hf : false = r:=by
   cases h : eqC l0 l1 with
   | false=>rw [← hR,h]
   | true=>exact absurd (pK _ _ h) hlen
  subst hf
  go_wp2
  go_ret
  exact ⟨rfl,Below.refl _ w⟩
set_option maxHeartbeats 4000000 in
set_option maxRecDepth 100000 in
theorem tq.calls (p q : S98) (A5 : Option Addr) (c5 : Nat) (B5 : Option Addr) (d5 : Nat) (w : World) (h5 : Kd.C iO w A5 p.f5.length p.f5) (g5 : Kd.C iO w B5 q.f5.length q.f5) :
  Calls Tryd.prog 59 #[.agg #[.string p.f0,.string p.f1,.string p.f2,.int .u8 p.f3,.int .u16 p.f4,.slice A5 p.f5.length c5],.agg #[.string q.f0,.string q.f1,.string q.f2,.int .u8 q.f3,.int .u16 q.f4,.slice B5 q.f5.length d5]] w fun e w'=>e = .returned (.bool (eqP p q)) ∧ Below w.heap.size w w':=by
 have BB:=((Below.refl _ w).alloc (Nat.le_refl _) (.cells #[.string p.f0,.string p.f1,.string p.f2,.int .u8 p.f3,.int .u16 p.f4,.slice A5 p.f5.length c5] 98)).alloc (by simp) (.cells #[.string q.f0,.string q.f1,.string q.f2,.int .u8 q.f3,.int .u16 q.f4,.slice B5 q.f5.length d5] 98)
 have HB:=Aside0.mk BB
 have H5:=Aside0.mk h5
 have G5:=Aside0.mk g5
 clear BB h5 g5
 go_enter Tryd.func59,Tryd.ntmps59
 unfold eqP
 cases e0 : (p.f0.toList == q.f0.toList) with
 | false=>go_wp2;go_ret;exact ⟨rfl,HB.out⟩
 | true =>
 cases e1 : (p.f1.toList == q.f1.toList) with
 | false=>go_wp2;go_ret;exact ⟨rfl,HB.out⟩
 | true =>
 cases e2 : (p.f2.toList == q.f2.toList) with
 | false=>go_wp2;go_ret;exact ⟨rfl,HB.out⟩
 | true =>
 cases e3 : (p.f3 == q.f3) with
 | false=>go_wp2;go_ret;exact ⟨rfl,HB.out⟩
 | true =>
 cases e4 : (p.f4 == q.f4) with
 | false=>go_wp2;go_ret;exact ⟨rfl,HB.out⟩
 | true =>
 go_wp2_with (first | (go_at_call 80;refine (rM.calls A5 c5 p.f5 B5 d5 q.f5 _ (Kd.dw (Kd.dw H5.out _) _) (Kd.dw (Kd.dw G5.out _) _)).mono ?_;rintro e w4 ⟨rfl,hb4⟩))
 go_ret
 exact ⟨rfl,HB.out.trans (hb4.mono HB.out.size)⟩
set_option maxHeartbeats 4000000 in
set_option maxRecDepth 100000 in
theorem sameAll.calls (A0 : Option Addr) (c0 : Nat) (l0 : List S98) (A1 : Option Addr) (c1 : Nat) (l1 : List S98) (w : World) (hr0 : Kd.C k98 w A0 l0.length l0) (hr1 : Kd.C k98 w A1 l1.length l1) :
  Calls Tryd.prog 58 #[.slice A0 l0.length c0,.slice A1 l1.length c1,.func (.func 59) #[] #[]] w fun e w'=>e = .returned (.bool (eqL l0 l1)) ∧ Below w.heap.size w w':=by
 obtain ⟨r,hR⟩ : ∃ r,eqL l0 l1 = r:=⟨_,rfl⟩
 rw [hR]
 go_enter Tryd.func58,Tryd.ntmps58
 by_cases hlen : l0.length = l1.length
 ·have hne : ((l0.length : Int) != (l1.length : Int)) = false:=by rw [hlen];simp
  have HL:=Aside0.mk hlen
  clear hlen
  go_wp2
  go_loopg [17] l0.length (fun kq v17 w'=>∃ (i : Nat),v17 = .int .i64 (i : Int) ∧ Aside0 (i + kq = l0.length) ∧ Aside0 (eqL (l0.drop i) (l1.drop i) = r) ∧ Aside0 (Below w.heap.size w w'))
  case atStart=>exact ⟨0,rfl,⟨by omega⟩,⟨hR⟩,⟨Below.refl _ w⟩⟩
  case round =>
   obtain ⟨i,rfl,hi,hE,B⟩:=hrel
   cases gk with
   | zero =>
    have hend : decide ((i : Int) < (l0.length : Int)) = false:=decide_eq_false (by have:=hi.out;omega)
    have xS : decide (i < l0.length) = false:=decide_eq_false (by have:=hi.out;omega)
    have xU : (i < l0.length) = False:=eq_false (by have:=hi.out;omega)
    have hE':=hE.out
    rw [List.drop_eq_nil_of_le (by have:=hi.out;omega),List.drop_eq_nil_of_le (by have:=hi.out;have:=HL.out;omega)] at hE'
    have hr : true = r:=hE'
    subst hr
    go_wp2
    go_ret
    exact ⟨rfl,B.out⟩
   | succ k1 =>
    have hlt : i < l0.length:=by have:=hi.out;omega
    have c1 : decide ((i : Int) < (l0.length : Int)) = true:=decide_eq_true (by omega)
    have p1 : 0 ≤ (i : Int):=by omega
    have q1 : (i : Int) < (l0.length : Int):=by omega
    have q2 : (i : Int) < (l1.length : Int):=by have:=HL.out;omega
    obtain ⟨ad,A5,c5,e,hx0,hx1,hx2,hx3,hx4,hx5,_,k5⟩:=jD hr0 (i : Int) p1 q1
    cases e
    obtain ⟨bd,B5,d5,e,hy0,hy1,hy2,hy3,hy4,xM,_,m5⟩:=jD hr1 (i : Int) p1 q2
    cases e
    replace hx0:=(B.out.cell (World.block_lt_of_cell? w _ hx0)).trans hx0
    replace hx1:=(B.out.cell (World.block_lt_of_cell? w _ hx1)).trans hx1
    replace hx2:=(B.out.cell (World.block_lt_of_cell? w _ hx2)).trans hx2
    replace hx3:=(B.out.cell (World.block_lt_of_cell? w _ hx3)).trans hx3
    replace hx4:=(B.out.cell (World.block_lt_of_cell? w _ hx4)).trans hx4
    replace hx5:=(B.out.cell (World.block_lt_of_cell? w _ hx5)).trans hx5
    replace hy0:=(B.out.cell (World.block_lt_of_cell? w _ hy0)).trans hy0
    replace hy1:=(B.out.cell (World.block_lt_of_cell? w _ hy1)).trans hy1
    replace hy2:=(B.out.cell (World.block_lt_of_cell? w _ hy2)).trans hy2
    replace hy3:=(B.out.cell (World.block_lt_of_cell? w _ hy3)).trans hy3
    replace hy4:=(B.out.cell (World.block_lt_of_cell? w _ hy4)).trans hy4
    replace xM:=(B.out.cell (World.block_lt_of_cell? w _ xM)).trans xM
    simp only [Int.toNat_natCast] at hx0 hx1 hx2 hx3 hx4 hx5 hy0 hy1 hy2 hy3 hy4 xM
    have hE1:=hE.out
    have hlt1 : i < l1.length:=by rw [← HL.out];exact hlt
    rw [List.drop_eq_getElem_cons hlt,List.drop_eq_getElem_cons hlt1,show l0[i] = aD l0 (i : Int) by simp [aD,List.getElem?_eq_getElem hlt],show l1[i] = aD l1 (i : Int) by simp [aD,List.getElem?_eq_getElem hlt1],eqL] at hE1
    generalize aD l0 (i : Int) = p at hx0 hx1 hx2 hx3 hx4 hx5 k5 hE1
    generalize aD l1 (i : Int) = q at hy0 hy1 hy2 hy3 hy4 xM m5 hE1
    replace p1:=eq_true p1
    replace q1:=eq_true q1
    replace q2:=eq_true q2
    have q3 : (i < l0.length) = True:=eq_true hlt
    have q4 : (i < l1.length) = True:=eq_true hlt1
    have Ba:=(Below.refl wr.heap.size wr).alloc (Nat.le_refl _) (.cells #[.string p.f0,.string p.f1,.string p.f2,.int .u8 p.f3,.int .u16 p.f4,.slice A5 p.f5.length c5] 98)
    have hz0:=(Ba.cell (World.block_lt_of_cell? wr _ hy0)).trans hy0
    have hz1:=(Ba.cell (World.block_lt_of_cell? wr _ hy1)).trans hy1
    have hz2:=(Ba.cell (World.block_lt_of_cell? wr _ hy2)).trans hy2
    have hz3:=(Ba.cell (World.block_lt_of_cell? wr _ hy3)).trans hy3
    have xZ:=(Ba.cell (World.block_lt_of_cell? wr _ hy4)).trans hy4
    have yc:=(Ba.cell (World.block_lt_of_cell? wr _ xM)).trans xM
    have K5:=Aside0.mk (Kd.dW k5 B.out)
    have M5:=Aside0.mk (Kd.dW m5 B.out)
    have hwv : Value.int .i64 (wrap64 ((i : Int) + 1)) = Value.int .i64 ((i + 1 : Nat) : Int):=by have:=Kd.mo hr0;rw [bY (by omega) (by omega)];rfl
    have hnx : Aside0 (i + 1 + k1 = l0.length):=⟨by have:=hi.out;omega⟩
    clear Ba k5 m5
    have hcl:=fun wz h g=>tq.calls p q A5 c5 B5 d5 wz h g
    cases hpq : eqP p q with
    | false =>
     rw [hpq,Bool.false_and] at hE1
     subst hE1
     rw [hpq] at hcl
     go_wp2_with (first | (go_at_call 59;refine (hcl _ (Kd.dw (Kd.dw K5.out _) _) (Kd.dw (Kd.dw M5.out _) _)).mono ?_;rintro e w4 ⟨rfl,hb4⟩))
     go_ret
     exact ⟨rfl,((B.out.alloc B.out.size _).alloc (by have:=B.out.size;simp;omega) _).trans (hb4.mono (by have:=B.out.size;simp;omega))⟩
    | true =>
     rw [hpq,Bool.true_and] at hE1
     rw [hpq] at hcl
     go_wp2_with (first | (go_at_call 59;refine (hcl _ (Kd.dw (Kd.dw K5.out _) _) (Kd.dw (Kd.dw M5.out _) _)).mono ?_;rintro e w4 ⟨rfl,hb4⟩))
     go_roundg k1
     case measure=>exact Nat.lt_succ_self k1
     case rel=>exact ⟨i + 1,by first | exact hwv | rfl,hnx,⟨hE1⟩,⟨((B.out.alloc B.out.size _).alloc (by have:=B.out.size;simp;omega) _).trans (hb4.mono (by have:=B.out.size;simp;omega))⟩⟩
 ·have hne : ((l0.length : Int) != (l1.length : Int)) = true:=by simp;omega
  have hf : false = r:=by
   cases h : eqL l0 l1 with
   | false=>rw [← hR,h]
   | true=>exact absurd (pO _ _ h) hlen
  subst hf
  go_wp2
  go_ret
  exact ⟨rfl,Below.refl _ w⟩
set_option maxHeartbeats 4000000 in
set_option maxRecDepth 100000 in
theorem cO.calls (xK : Int) (xO : Option Addr) (xP : Nat) (xI : List S98) (xL : Int) (xQ : Option Addr) (xR : Nat) (xJ : List S98) (r : Bool) (w : World) (xV : Kd.C k98 w xO xI.length xI) (xX : xI.length ≤ xP) (xW : Kd.C k98 w xQ xJ.length xJ) (xY : xJ.length ≤ xR) (h : cO.f xK xI xL xJ = some r) :
  Calls Tryd.prog 29 #[.agg #[.int .u64 xK,.slice xO xI.length xP],.agg #[.int .u64 xL,.slice xQ xJ.length xR]] w fun e w'=>e = .returned (.bool r) ∧ Below w.heap.size w w':=by
 have hr:=Option.some.inj h
 subst hr
 go_enter Tryd.func29,Tryd.ntmps29
 by_cases he : xK = xL
 ·have hc : (xK == xL) = true:=beq_iff_eq.2 he
  rw [hc,Bool.true_and]
  go_wp2_with (first | (go_at_call 58;refine (sameAll.calls xO xP xI xQ xR xJ _ (Kd.dw (Kd.dw xV _) _) (Kd.dw (Kd.dw xW _) _)).mono ?_;rintro e w4 ⟨rfl,hb4⟩))
  go_ret
  exact ⟨rfl,(((Below.refl _ w).alloc (Nat.le_refl _) _).alloc (by simp) _).trans (hb4.mono (by simp;omega))⟩
 ·have hc : (xK == xL) = false:=beq_eq_false_iff_ne.2 he
  rw [hc,Bool.false_and]
  go_wp2
  go_ret
  exact ⟨rfl,((Below.refl _ w).alloc (Nat.le_refl _) _).alloc (by simp) _⟩
end Go.Proofs.YtpmbdcljphpcnaaDoor.GC2
