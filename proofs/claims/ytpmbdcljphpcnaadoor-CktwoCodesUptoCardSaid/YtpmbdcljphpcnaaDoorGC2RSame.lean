/- The document's Same of states of version 2: its contract, in terms of plain functions. No conditions beside those stated. -/
import Derived.Test.YtpmbdcljphpcnaaDoorGC2x0
import Derived.BigRegion
import Derived.Deep.DeepCutAuto
namespace Go.Proofs.YtpmbdcljphpcnaaDoor.GC2
open Go.RowKit Go.Proofs.YtpmbdcljphpcnaaDoorW.PrintWords Go.Proofs.YtpmbdcljphpcnaaDoorW.PrintLast Go.Proofs.YtpmbdcljphpcnaaDoorW.PrintMore
set_option linter.unusedVariables false
theorem uP (d : Nat) (w : World) (x0 y0 : ByteArray) (x1 y1 : ByteArray) :
  (Op.equalIn (d + 2) 104 (.agg #[.string x0,.string x1]) (.agg #[.string y0,.string y1])).run Tryd.prog w = .ok (x0.toList == y0.toList && (x1.toList == y1.toList)) w:=by
 refine qY Tryd.underlying104 (by kernel_rfl) ?_
 refine nM (by rfl) (by go_simp;rfl) (by go_simp;rfl) (by go_simp) ?_
 exact nL (by rfl) (by go_simp;rfl) (by go_simp;rfl) (by go_simp)
attribute [local go_sem high] uP
theorem jq {W : World} {a : Addr} {v : Value} (h : W.cell? a = some v) : ∀ o,(W.alloc o).cell? a = some v:=fun o=>(((Below.refl W.heap.size W).alloc (Nat.le_refl _) o).cell (World.block_lt_of_cell? W _ h)).trans h
theorem jQ {W : World} {a : Addr} {v : Value} (h : W.cell? a = some v) : ∀ o o',((W.alloc o).alloc o').cell? a = some v:=fun o o'=>jq (jq h o) o'
theorem new2 (W : World) (o o' : Obj) : ((W.alloc o).alloc o').heap[W.heap.size + 1]? = some o':=by
 have:=heap_alloc_new (W.alloc o) o'
 rw [World.size_alloc] at this
 exact this
theorem iJ {W : World} {g : Nat} {o : Obj} (h : W.heap[g]? = some o) : ∀ o',(W.alloc o').heap[g]? = some o:=fun o'=>(Below.heap_alloc W o' g (Array.getElem?_eq_some_iff.1 h).1).trans h
def uQ (p q : S104) : Bool:=p.f0.toList == q.f0.toList && (p.f1.toList == q.f1.toList)
def jX : List S104 → List S104 → Bool
 | [],[]=>true
 | p :: ps,q :: qs=>uQ p q && jX ps qs
 | _,_=>false
theorem nO : ∀ l m,jX l m = true → l.length = m.length
 | [],[],_=>rfl
 | p :: ps,q :: qs,h=>by
  rw [jX,Bool.and_eq_true] at h
  rw [List.length_cons,List.length_cons,nO ps qs h.2]
 | [],_ :: _,h=>by cases h
 | _ :: _,[],h=>by cases h
def sZ (p q : S103) : Bool:=p.f0.toList == q.f0.toList && (p.f1.toList == q.f1.toList && (p.f2.toList == q.f2.toList && (p.f3 == q.f3 && (p.f4 == q.f4 && jX p.f5 q.f5))))
def jY : List S103 → List S103 → Bool
 | [],[]=>true
 | p :: ps,q :: qs=>sZ p q && jY ps qs
 | _,_=>false
theorem nP : ∀ l m,jY l m = true → l.length = m.length
 | [],[],_=>rfl
 | p :: ps,q :: qs,h=>by
  rw [jY,Bool.and_eq_true] at h
  rw [List.length_cons,List.length_cons,nP ps qs h.2]
 | [],_ :: _,h=>by cases h
 | _ :: _,[],h=>by cases h
def dQ.f (xK : Int) (xI : List S103) (xL : Int) (xJ : List S103) : Option Bool:=some (xK == xL && jY xI xJ)
set_option maxHeartbeats 8000000 in
set_option maxRecDepth 100000 in
theorem dQ.calls (xK : Int) (xP : Option Addr) (xM : Nat) (xI : List S103) (xL : Int) (xQ : Option Addr) (xO : Nat) (xJ : List S103) (r : Bool) (w : World) (xU : Kd.C fA w xP xI.length xI) (yj : xI.length ≤ xM) (xX : Kd.C fA w xQ xJ.length xJ) (yt : xJ.length ≤ xO) (h : dQ.f xK xI xL xJ = some r) :
  Calls Tryd.prog 30 #[.agg #[.int .u64 xK,.slice xP xI.length xM],.agg #[.int .u64 xL,.slice xQ xJ.length xO]] w fun e w'=>e = .returned (.bool r) ∧ Below w.heap.size w w':=by
 have hr:=Option.some.inj h
 have bx0:=(Below.heap_alloc (w.alloc (.cells #[.int .u64 xK,.slice xP xI.length xM] 53)) (.cells #[.int .u64 xL,.slice xQ xJ.length xO] 53) w.heap.size (by simp)).trans (heap_alloc_new w _)
 have yc:=heap_alloc_new (w.alloc (.cells #[.int .u64 xK,.slice xP xI.length xM] 53)) (.cells #[.int .u64 xL,.slice xQ xJ.length xO] 53)
 rw [World.size_alloc] at yc
 have BX:=Aside0.mk bx0
 have BY:=Aside0.mk yc
 have BB:=Aside0.mk (((Below.refl _ w).alloc (Nat.le_refl _) (.cells #[.int .u64 xK,.slice xP xI.length xM] 53)).alloc (by simp) (.cells #[.int .u64 xL,.slice xQ xJ.length xO] 53))
 clear bx0 yc h
 go_enter Tryd.func30,Tryd.ntmps30
 by_cases he : xK = xL
 ·have hc : (xK != xL) = false:=by rw [he];simp
  rw [beq_iff_eq.2 he,Bool.true_and] at hr
  by_cases hlen : xI.length = xJ.length
  ·have hne : ((xI.length : Int) != (xJ.length : Int)) = false:=by rw [hlen];simp
   have HL:=Aside0.mk hlen
   have yB:=Aside0.mk he
   clear hlen he
   go_wp2
   go_loopg [5] xI.length (fun kq v5 w'=>∃ (i : Nat),v5 = .int .i64 (i : Int) ∧ Aside0 (i + kq = xI.length) ∧ Aside0 (jY (xI.drop i) (xJ.drop i) = r) ∧ Aside0 (w'.heap[w.heap.size]? = some (.cells #[.int .u64 xK,.slice xP xI.length xM] 53 (0,0))) ∧ Aside0 (w'.heap[w.heap.size + 1]? = some (.cells #[.int .u64 xL,.slice xQ xJ.length xO] 53 (0,0))) ∧ Aside0 (Below w.heap.size w w'))
   case atStart=>exact ⟨0,rfl,⟨by omega⟩,⟨hr⟩,BX,BY,BB⟩
   case round =>
    clear BX BY BB hr
    obtain ⟨i,rfl,hi,hE,bx,by_,B⟩:=hrel
    have x1:=(au bx.out 1).trans rfl
    have y1:=(au by_.out 1).trans rfl
    cases gk with
    | zero =>
     have hend : decide ((i : Int) < (xI.length : Int)) = false:=decide_eq_false (by have:=hi.out;omega)
     have xY : decide (i < xI.length) = false:=decide_eq_false (by have:=hi.out;omega)
     have xZ : (i < xI.length) = False:=eq_false (by have:=hi.out;omega)
     have hE':=hE.out
     rw [List.drop_eq_nil_of_le (by have:=hi.out;omega),List.drop_eq_nil_of_le (by have:=hi.out;have:=HL.out;omega)] at hE'
     have hr : true = r:=hE'
     subst hr
     go_wp2
     go_ret
     exact ⟨rfl,B.out⟩
    | succ k1 =>
     have hlt : i < xI.length:=by have:=hi.out;omega
     have c1 : decide ((i : Int) < (xI.length : Int)) = true:=decide_eq_true (by omega)
     have p1 : 0 ≤ (i : Int):=by omega
     have q1 : (i : Int) < (xI.length : Int):=by omega
     have q2 : (i : Int) < (xJ.length : Int):=by have:=HL.out;omega
     obtain ⟨ad,A5,c5,e,hx0,hx1,hx2,hx3,hx4,hx5,_,k5⟩:=jM xU (i : Int) p1 q1
     cases e
     obtain ⟨bd,B5,d5,e,hy0,hy1,hy2,hy3,hy4,xV,_,m5⟩:=jM xX (i : Int) p1 q2
     cases e
     replace hx0:=(B.out.cell (World.block_lt_of_cell? w _ hx0)).trans hx0
     replace hx1:=(B.out.cell (World.block_lt_of_cell? w _ hx1)).trans hx1
     replace hx2:=(B.out.cell (World.block_lt_of_cell? w _ hx2)).trans hx2
     replace hx3:=(B.out.cell (World.block_lt_of_cell? w _ hx3)).trans hx3
     replace hx4:=(B.out.cell (World.block_lt_of_cell? w _ hx4)).trans hx4
     replace hx5:=(B.out.cell (World.block_lt_of_cell? w _ hx5)).trans hx5
     replace hy0:=(B.out.cell (World.block_lt_of_cell? w _ hy0)).trans hy0
     replace hy1:=(B.out.cell (World.block_lt_of_cell? w _ hy1)).trans hy1
     replace hy2:=(B.out.cell (World.block_lt_of_cell? w _ hy2)).trans hy2
     replace hy3:=(B.out.cell (World.block_lt_of_cell? w _ hy3)).trans hy3
     replace hy4:=(B.out.cell (World.block_lt_of_cell? w _ hy4)).trans hy4
     replace xV:=(B.out.cell (World.block_lt_of_cell? w _ xV)).trans xV
     simp only [Int.toNat_natCast] at hx0 hx1 hx2 hx3 hx4 hx5 hy0 hy1 hy2 hy3 hy4 xV
     have hE1:=hE.out
     have hlt1 : i < xJ.length:=by rw [← HL.out];exact hlt
     rw [List.drop_eq_getElem_cons hlt,List.drop_eq_getElem_cons hlt1,show xI[i] = ah xI (i : Int) by simp [ah,List.getElem?_eq_getElem hlt],show xJ[i] = ah xJ (i : Int) by simp [ah,List.getElem?_eq_getElem hlt1],jY] at hE1
     obtain ⟨p,hp⟩ : ∃ p,ah xI (i : Int) = p:=⟨_,rfl⟩
     obtain ⟨q,hq⟩ : ∃ q,ah xJ (i : Int) = q:=⟨_,rfl⟩
     simp only [hp] at hx0 hx1 hx2 hx3 hx4 hx5 k5 hE1
     simp only [hq] at hy0 hy1 hy2 hy3 hy4 xV m5 hE1
     clear hp hq
     replace p1:=eq_true p1
     replace q1:=eq_true q1
     replace q2:=eq_true q2
     have q3 : (i < xI.length) = True:=eq_true hlt
     have q4 : (i < xJ.length) = True:=eq_true hlt1
     have K5:=Aside0.mk k5
     have M5:=Aside0.mk m5
     have yu:=Aside0.mk hE1
     have hwv : Value.int .i64 (wrap64 ((i : Int) + 1)) = Value.int .i64 ((i + 1 : Nat) : Int):=by have:=Kd.mo xU;rw [bY (by omega) (by omega)];rfl
     have HWV:=Aside0.mk hwv
     have hnx : Aside0 (i + 1 + k1 = xI.length):=⟨by have:=hi.out;omega⟩
     clear hE1 k5 m5 hE hwv
     have x1a:=jq x1
     have x1b:=jQ x1
     have y1a:=jq y1
     have y1b:=jQ y1
     have hx0a:=jq hx0
     have hx0b:=jQ hx0
     have hx1a:=jq hx1
     have hx1b:=jQ hx1
     have hx2a:=jq hx2
     have hx2b:=jQ hx2
     have hx3a:=jq hx3
     have hx3b:=jQ hx3
     have hx4a:=jq hx4
     have hx4b:=jQ hx4
     have hx5a:=jq hx5
     have hx5b:=jQ hx5
     have hy0a:=jq hy0
     have hy0b:=jQ hy0
     have hy1a:=jq hy1
     have hy1b:=jQ hy1
     have hy2a:=jq hy2
     have hy2b:=jQ hy2
     have hy3a:=jq hy3
     have hy3b:=jQ hy3
     have hy4a:=jq hy4
     have hy4b:=jQ hy4
     have hy5a:=jq xV
     have hy5b:=jQ xV
     go_upto_region 6 with (fail)
     go_cut [6,7] (fun v6 v7 w'=>∃ (g6 g7 : Nat),v6 = .pointer (some ⟨g6,0,none⟩) ∧ v7 = .pointer (some ⟨g7,0,none⟩) ∧ Aside0 (w'.heap[g6]? = some (.cells #[.string p.f0,.string p.f1,.string p.f2,.int .u8 p.f3,.int .u16 p.f4,.slice A5 p.f5.length c5] 103 (0,0))) ∧ Aside0 (w'.heap[g7]? = some (.cells #[.string q.f0,.string q.f1,.string q.f2,.int .u8 q.f3,.int .u16 q.f4,.slice B5 q.f5.length d5] 103 (0,0))) ∧ Aside0 (w'.heap[w.heap.size]? = some (.cells #[.int .u64 xK,.slice (some ad) xI.length xM] 53 (0,0))) ∧ Aside0 (w'.heap[w.heap.size + 1]? = some (.cells #[.int .u64 xL,.slice (some bd) xJ.length xO] 53 (0,0))) ∧ Aside0 (Below w.heap.size w w'))
     case first =>
      go_region
      ·have bp:=Aside0.mk (show (World.drew ((wr.alloc (.cells #[.string p.f0,.string p.f1,.string p.f2,.int .u8 p.f3,.int .u16 p.f4,.slice A5 p.f5.length c5] 103)).alloc (.cells #[.string q.f0,.string q.f1,.string q.f2,.int .u8 q.f3,.int .u16 q.f4,.slice B5 q.f5.length d5] 103))).heap[wr.heap.size]? = some (.cells #[.string p.f0,.string p.f1,.string p.f2,.int .u8 p.f3,.int .u16 p.f4,.slice A5 p.f5.length c5] 103 (0,0)) from (Below.heap_alloc (wr.alloc (.cells #[.string p.f0,.string p.f1,.string p.f2,.int .u8 p.f3,.int .u16 p.f4,.slice A5 p.f5.length c5] 103)) (.cells #[.string q.f0,.string q.f1,.string q.f2,.int .u8 q.f3,.int .u16 q.f4,.slice B5 q.f5.length d5] 103) wr.heap.size (by simp)).trans (heap_alloc_new wr _))
       have bq:=Aside0.mk (show (World.drew ((wr.alloc (.cells #[.string p.f0,.string p.f1,.string p.f2,.int .u8 p.f3,.int .u16 p.f4,.slice A5 p.f5.length c5] 103)).alloc (.cells #[.string q.f0,.string q.f1,.string q.f2,.int .u8 q.f3,.int .u16 q.f4,.slice B5 q.f5.length d5] 103))).heap[wr.heap.size + 1]? = some (.cells #[.string q.f0,.string q.f1,.string q.f2,.int .u8 q.f3,.int .u16 q.f4,.slice B5 q.f5.length d5] 103 (0,0)) from new2 wr (.cells #[.string p.f0,.string p.f1,.string p.f2,.int .u8 p.f3,.int .u16 p.f4,.slice A5 p.f5.length c5] 103) (.cells #[.string q.f0,.string q.f1,.string q.f2,.int .u8 q.f3,.int .u16 q.f4,.slice B5 q.f5.length d5] 103))
       have xR:=Aside0.mk (show (World.drew ((wr.alloc (.cells #[.string p.f0,.string p.f1,.string p.f2,.int .u8 p.f3,.int .u16 p.f4,.slice A5 p.f5.length c5] 103)).alloc (.cells #[.string q.f0,.string q.f1,.string q.f2,.int .u8 q.f3,.int .u16 q.f4,.slice B5 q.f5.length d5] 103))).heap[w.heap.size]? = some (.cells #[.int .u64 xK,.slice (some ad) xI.length xM] 53 (0,0)) from iJ (iJ bx.out _) _)
       have xS:=Aside0.mk (show (World.drew ((wr.alloc (.cells #[.string p.f0,.string p.f1,.string p.f2,.int .u8 p.f3,.int .u16 p.f4,.slice A5 p.f5.length c5] 103)).alloc (.cells #[.string q.f0,.string q.f1,.string q.f2,.int .u8 q.f3,.int .u16 q.f4,.slice B5 q.f5.length d5] 103))).heap[w.heap.size + 1]? = some (.cells #[.int .u64 xL,.slice (some bd) xJ.length xO] 53 (0,0)) from iJ (iJ by_.out _) _)
       have B2:=Aside0.mk (av ((B.out.alloc B.out.size (.cells #[.string p.f0,.string p.f1,.string p.f2,.int .u8 p.f3,.int .u16 p.f4,.slice A5 p.f5.length c5] 103)).alloc (by have:=B.out.size;simp;omega) (.cells #[.string q.f0,.string q.f1,.string q.f2,.int .u8 q.f3,.int .u16 q.f4,.slice B5 q.f5.length d5] 103)))
       go_wp2
       go_meet
       exact ⟨wr.heap.size,wr.heap.size + 1,rfl,rfl,bp,bq,xR,xS,B2⟩
      ·have bp:=Aside0.mk (show (World.drew ((wr.alloc (.cells #[.string q.f0,.string q.f1,.string q.f2,.int .u8 q.f3,.int .u16 q.f4,.slice B5 q.f5.length d5] 103)).alloc (.cells #[.string p.f0,.string p.f1,.string p.f2,.int .u8 p.f3,.int .u16 p.f4,.slice A5 p.f5.length c5] 103))).heap[wr.heap.size + 1]? = some (.cells #[.string p.f0,.string p.f1,.string p.f2,.int .u8 p.f3,.int .u16 p.f4,.slice A5 p.f5.length c5] 103 (0,0)) from new2 wr (.cells #[.string q.f0,.string q.f1,.string q.f2,.int .u8 q.f3,.int .u16 q.f4,.slice B5 q.f5.length d5] 103) (.cells #[.string p.f0,.string p.f1,.string p.f2,.int .u8 p.f3,.int .u16 p.f4,.slice A5 p.f5.length c5] 103))
       have bq:=Aside0.mk (show (World.drew ((wr.alloc (.cells #[.string q.f0,.string q.f1,.string q.f2,.int .u8 q.f3,.int .u16 q.f4,.slice B5 q.f5.length d5] 103)).alloc (.cells #[.string p.f0,.string p.f1,.string p.f2,.int .u8 p.f3,.int .u16 p.f4,.slice A5 p.f5.length c5] 103))).heap[wr.heap.size]? = some (.cells #[.string q.f0,.string q.f1,.string q.f2,.int .u8 q.f3,.int .u16 q.f4,.slice B5 q.f5.length d5] 103 (0,0)) from (Below.heap_alloc (wr.alloc (.cells #[.string q.f0,.string q.f1,.string q.f2,.int .u8 q.f3,.int .u16 q.f4,.slice B5 q.f5.length d5] 103)) (.cells #[.string p.f0,.string p.f1,.string p.f2,.int .u8 p.f3,.int .u16 p.f4,.slice A5 p.f5.length c5] 103) wr.heap.size (by simp)).trans (heap_alloc_new wr _))
       have xR:=Aside0.mk (show (World.drew ((wr.alloc (.cells #[.string q.f0,.string q.f1,.string q.f2,.int .u8 q.f3,.int .u16 q.f4,.slice B5 q.f5.length d5] 103)).alloc (.cells #[.string p.f0,.string p.f1,.string p.f2,.int .u8 p.f3,.int .u16 p.f4,.slice A5 p.f5.length c5] 103))).heap[w.heap.size]? = some (.cells #[.int .u64 xK,.slice (some ad) xI.length xM] 53 (0,0)) from iJ (iJ bx.out _) _)
       have xS:=Aside0.mk (show (World.drew ((wr.alloc (.cells #[.string q.f0,.string q.f1,.string q.f2,.int .u8 q.f3,.int .u16 q.f4,.slice B5 q.f5.length d5] 103)).alloc (.cells #[.string p.f0,.string p.f1,.string p.f2,.int .u8 p.f3,.int .u16 p.f4,.slice A5 p.f5.length c5] 103))).heap[w.heap.size + 1]? = some (.cells #[.int .u64 xL,.slice (some bd) xJ.length xO] 53 (0,0)) from iJ (iJ by_.out _) _)
       have B2:=Aside0.mk (av ((B.out.alloc B.out.size (.cells #[.string q.f0,.string q.f1,.string q.f2,.int .u8 q.f3,.int .u16 q.f4,.slice B5 q.f5.length d5] 103)).alloc (by have:=B.out.size;simp;omega) (.cells #[.string p.f0,.string p.f1,.string p.f2,.int .u8 p.f3,.int .u16 p.f4,.slice A5 p.f5.length c5] 103)))
       go_wp2
       go_meet
       exact ⟨wr.heap.size + 1,wr.heap.size,rfl,rfl,bp,bq,xR,xS,B2⟩
     case rest =>
      clear x1 x1a x1b y1 y1a y1b hx0 hx0a hx0b hx1 hx1a hx1b hx2 hx2a hx2b hx3 hx3a hx3b hx4 hx4a hx4b hx5 hx5a hx5b hy0 hy0a hy0b hy1 hy1a hy1b hy2 hy2a hy2b hy3 hy3a hy3b hy4 hy4a hy4b xV hy5a hy5b bx by_ B
      obtain ⟨g6,g7,rfl,rfl,bp,bq,xR,xS,B2⟩:=hcut
      have c0:=(au bp.out 0).trans rfl
      have yA:=(au bp.out 1).trans rfl
      have c2:=(au bp.out 2).trans rfl
      have c3:=(au bp.out 3).trans rfl
      have c4:=(au bp.out 4).trans rfl
      have yw:=(au bp.out 5).trans rfl
      have d0:=(au bq.out 0).trans rfl
      have d1:=(au bq.out 1).trans rfl
      have d2:=(au bq.out 2).trans rfl
      have d3:=(au bq.out 3).trans rfl
      have d4:=(au bq.out 4).trans rfl
      have yx:=(au bq.out 5).trans rfl
      have hE1:=yu.out
      unfold sZ at hE1
      cases e0 : (p.f0.toList == q.f0.toList) with
      | false =>
       have n0 : (p.f0.toList != q.f0.toList) = true:=by unfold bne;rw [e0];rfl
       rw [e0] at hE1
       have hr : false = r:=hE1
       subst hr
       go_wp2;go_ret;exact ⟨rfl,B2.out⟩
      | true =>
      have n0 : (p.f0.toList != q.f0.toList) = false:=by unfold bne;rw [e0];rfl
      rw [e0,Bool.true_and] at hE1
      cases e1 : (p.f1.toList == q.f1.toList) with
      | false =>
       have n1 : (p.f1.toList != q.f1.toList) = true:=by unfold bne;rw [e1];rfl
       rw [e1] at hE1
       have hr : false = r:=hE1
       subst hr
       go_wp2;go_ret;exact ⟨rfl,B2.out⟩
      | true =>
      have n1 : (p.f1.toList != q.f1.toList) = false:=by unfold bne;rw [e1];rfl
      rw [e1,Bool.true_and] at hE1
      cases e2 : (p.f2.toList == q.f2.toList) with
      | false =>
       have n2 : (p.f2.toList != q.f2.toList) = true:=by unfold bne;rw [e2];rfl
       rw [e2] at hE1
       have hr : false = r:=hE1
       subst hr
       go_wp2;go_ret;exact ⟨rfl,B2.out⟩
      | true =>
      have n2 : (p.f2.toList != q.f2.toList) = false:=by unfold bne;rw [e2];rfl
      rw [e2,Bool.true_and] at hE1
      cases e3 : (p.f3 == q.f3) with
      | false =>
       have n3 : (p.f3 != q.f3) = true:=by unfold bne;rw [e3];rfl
       rw [e3] at hE1
       have hr : false = r:=hE1
       subst hr
       go_wp2;go_ret;exact ⟨rfl,B2.out⟩
      | true =>
      have n3 : (p.f3 != q.f3) = false:=by unfold bne;rw [e3];rfl
      rw [e3,Bool.true_and] at hE1
      cases e4 : (p.f4 == q.f4) with
      | false =>
       have n4 : (p.f4 != q.f4) = true:=by unfold bne;rw [e4];rfl
       rw [e4] at hE1
       have hr : false = r:=hE1
       subst hr
       go_wp2;go_ret;exact ⟨rfl,B2.out⟩
      | true =>
      have n4 : (p.f4 != q.f4) = false:=by unfold bne;rw [e4];rfl
      rw [e4,Bool.true_and] at hE1
      by_cases hl5 : p.f5.length = q.f5.length
      case neg =>
       have n5 : ((p.f5.length : Int) != (q.f5.length : Int)) = true:=by simp;omega
       have hq : jX p.f5 q.f5 = false:=by
        cases hh : jX p.f5 q.f5 with
        | false=>rfl
        | true=>exact absurd (nO _ _ hh) hl5
       rw [hq] at hE1
       have hr : false = r:=hE1
       subst hr
       go_wp2;go_ret;exact ⟨rfl,B2.out⟩
      case pos =>
      have n5 : ((p.f5.length : Int) != (q.f5.length : Int)) = false:=by rw [hl5];simp
      have yg:=Aside0.mk hl5
      clear hl5 yu
      go_wp2
      clear c0 yA c2 c3 c4 yw d0 d1 d2 d3 d4 yx
      go_loopg [8] p.f5.length (fun kq v8 w'=>∃ (j : Nat),v8 = .int .i64 (j : Int) ∧ Aside0 (j + kq = p.f5.length) ∧ Aside0 ((jX (p.f5.drop j) (q.f5.drop j) && jY (xI.drop (i + 1)) (xJ.drop (i + 1))) = r) ∧ Aside0 (w'.heap[g6]? = some (.cells #[.string p.f0,.string p.f1,.string p.f2,.int .u8 p.f3,.int .u16 p.f4,.slice A5 p.f5.length c5] 103 (0,0))) ∧ Aside0 (w'.heap[g7]? = some (.cells #[.string q.f0,.string q.f1,.string q.f2,.int .u8 q.f3,.int .u16 q.f4,.slice B5 q.f5.length d5] 103 (0,0))) ∧ Aside0 (w'.heap[w.heap.size]? = some (.cells #[.int .u64 xK,.slice (some ad) xI.length xM] 53 (0,0))) ∧ Aside0 (w'.heap[w.heap.size + 1]? = some (.cells #[.int .u64 xL,.slice (some bd) xJ.length xO] 53 (0,0))) ∧ Aside0 (Below w.heap.size w w'))
      case atStart=>exact ⟨0,rfl,⟨by omega⟩,⟨hE1⟩,bp,bq,xR,xS,B2⟩
      case round =>
       clear hE1 bp bq xR xS B2
       obtain ⟨j,rfl,hj,hF,bp,bq,xR,xS,B2⟩:=hrel
       have yw:=(au bp.out 5).trans rfl
       have yx:=(au bq.out 5).trans rfl
       cases gk with
       | zero =>
        have hend : decide ((j : Int) < (p.f5.length : Int)) = false:=decide_eq_false (by have:=hj.out;omega)
        have xY : decide (j < p.f5.length) = false:=decide_eq_false (by have:=hj.out;omega)
        have xZ : (j < p.f5.length) = False:=eq_false (by have:=hj.out;omega)
        have hF':=hF.out
        rw [List.drop_eq_nil_of_le (by have:=hj.out;omega),List.drop_eq_nil_of_le (by have:=hj.out;have:=yg.out;omega),jX,Bool.true_and] at hF'
        have HF:=Aside0.mk hF'
        clear hF'
        go_wp2
        go_roundg k1
        case measure=>exact Nat.lt_succ_self k1
        case rel=>exact ⟨i + 1,by first | exact HWV.out | rfl,hnx,HF,xR,xS,B2⟩
       | succ k2 =>
        have hjl : j < p.f5.length:=by have:=hj.out;omega
        have j1 : decide ((j : Int) < (p.f5.length : Int)) = true:=decide_eq_true (by omega)
        have s1 : 0 ≤ (j : Int):=by omega
        have t1 : (j : Int) < (p.f5.length : Int):=by omega
        have t2 : (j : Int) < (q.f5.length : Int):=by have:=yg.out;omega
        obtain ⟨ae,e,ha0,ha1⟩:=gK K5.out (j : Int) s1 t1
        cases e
        obtain ⟨be,e,hb0,hb1⟩:=gK M5.out (j : Int) s1 t2
        cases e
        replace ha0:=(B2.out.cell (World.block_lt_of_cell? w _ ha0)).trans ha0
        replace ha1:=(B2.out.cell (World.block_lt_of_cell? w _ ha1)).trans ha1
        replace hb0:=(B2.out.cell (World.block_lt_of_cell? w _ hb0)).trans hb0
        replace hb1:=(B2.out.cell (World.block_lt_of_cell? w _ hb1)).trans hb1
        simp only [Int.toNat_natCast] at ha0 ha1 hb0 hb1
        have xW : j < q.f5.length:=by rw [← yg.out];exact hjl
        have hF1:=hF.out
        rw [List.drop_eq_getElem_cons hjl,List.drop_eq_getElem_cons xW,show p.f5[j] = dD p.f5 (j : Int) by simp [dD,List.getElem?_eq_getElem hjl],show q.f5[j] = dD q.f5 (j : Int) by simp [dD,List.getElem?_eq_getElem xW],jX] at hF1
        obtain ⟨u,hu⟩ : ∃ u,dD p.f5 (j : Int) = u:=⟨_,rfl⟩
        obtain ⟨v,hv⟩ : ∃ v,dD q.f5 (j : Int) = v:=⟨_,rfl⟩
        simp only [hu] at ha0 ha1 hF1
        simp only [hv] at hb0 hb1 hF1
        clear hu hv
        replace s1:=eq_true s1
        replace t1:=eq_true t1
        replace t2:=eq_true t2
        have s3 : (j < p.f5.length) = True:=eq_true hjl
        have s4 : (j < q.f5.length) = True:=eq_true xW
        unfold uQ at hF1
        have yh : Value.int .i64 (wrap64 ((j : Int) + 1)) = Value.int .i64 ((j + 1 : Nat) : Int):=by have:=Kd.mo K5.out;rw [bY (by omega) (by omega)];rfl
        have hnx2 : Aside0 (j + 1 + k2 = p.f5.length):=⟨by have:=hj.out;omega⟩
        cases huv : (u.f0.toList == v.f0.toList && (u.f1.toList == v.f1.toList)) with
        | false =>
         rw [huv] at hF1
         have hr : false = r:=hF1
         subst hr
         go_wp2
         repeat (go_quiet (fail);try go_wp2)
         go_ret
         exact ⟨rfl,by repeat (first | exact B2.out | apply aj | apply av)⟩
        | true =>
         rw [huv,Bool.true_and] at hF1
         go_wp2
         repeat (go_quiet (fail);try go_wp2)
         go_roundg k2
         case measure=>exact Nat.lt_succ_self k2
         case rel=>exact ⟨j + 1,by first | exact yh | rfl,hnx2,⟨hF1⟩,⟨bp.out⟩,⟨bq.out⟩,⟨xR.out⟩,⟨xS.out⟩,⟨by repeat (first | exact B2.out | apply aj | apply av)⟩⟩
  ·have hne : ((xI.length : Int) != (xJ.length : Int)) = true:=by simp;omega
   have hf : jY xI xJ = false:=by
    cases hh : jY xI xJ with
    | false=>rfl
    | true=>exact absurd (nP _ _ hh) hlen
   rw [hf] at hr
   subst hr
   have HE:=Aside0.mk he
   clear he hlen
   go_wp2
   go_ret
   exact ⟨rfl,BB.out⟩
 ·have hc : (xK != xL) = true:=bne_iff_ne.2 he
  rw [beq_eq_false_iff_ne.2 he,Bool.false_and] at hr
  subst hr
  clear he
  go_wp2
  go_ret
  exact ⟨rfl,BB.out⟩
end Go.Proofs.YtpmbdcljphpcnaaDoor.GC2
