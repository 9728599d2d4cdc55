/- cktwo.containers: its contract, in terms of plain functions. No conditions beside those stated. -/
import Derived.Test.YtpmbdcljphpcnaaDoorGC2x0
import Derived.Test.YtpmbdcljphpcnaaDoorGC2x2
import Derived.Test.YtpmbdcljphpcnaaDoorGC2x5
import Derived.Maps.Own
import Derived.Maps.OwnOps
import Derived.Maps.Views
namespace Go.Proofs.YtpmbdcljphpcnaaDoor.GC2
open Go.RowKit Go.Maps Go.WideMaps Go.Proofs.YtpmbdcljphpcnaaDoorW.PrintWords Go.Proofs.YtpmbdcljphpcnaaDoorW.PrintLast Go.Proofs.YtpmbdcljphpcnaaDoorW.PrintMore
set_option linter.unusedVariables false
theorem iD : Keyed Tryd.prog 9:=string_keyed Tryd.underlying9
theorem lI (w : World) : (zeroValue 3).run Tryd.prog w = .ok (.int .i64 0) w:=by kernel_rfl
def jN (k : Nat) (seen : List (List UInt8)) : List S100 → Option Int
 | []=>some 0
 | p :: ps=>if p.f0.size ≤ 1000000000 then ((aX.f k p.f0).bind fun a=>if a = true then (if p.f0.data.toList ∈ seen then some 8 else ((bI.f k p.f1).bind fun b=>if b = true then jN k (p.f0.data.toList :: seen) ps else some 6)) else some 13) else none
def bX.f (k : Nat) (l : List S100) : Option Int:=if l.length = 0 then some 16 else if l.length > 16 then some 18 else jN k [] l
theorem lJ (k : Nat) : ∀ (l : List S100) (seen : List (List UInt8)),LeO (jN k seen l) (jN (k + 1) seen l)
 | [],_=>LeO.refl _
 | p :: ps,seen=>LeO.ite (LeO.bind (aX.mono p.f0 k) fun a=>LeO.ite (LeO.ite (LeO.refl _) (LeO.bind (bI.mono p.f1 k) fun b=>LeO.ite (lJ k ps _) (LeO.refl _))) (LeO.refl _)) (LeO.refl _)
theorem bX.mono : ∀ a0 k,LeO (bX.f k a0) (bX.f (k + 1) a0):=fun a0 k=>LeO.ite (LeO.refl _) (LeO.ite (LeO.refl _) (lJ k a0 []))
theorem iP {a b : Int} (h : (.lit (.int .i64 a) : DataW Unit) = .lit (.int .i64 b)) : a = b:=by
 injection h with h
 injection h
def Seen (seen : List (List UInt8)) (D : DataW Unit) : Prop:=IsMap D ∧ ∀ x : List UInt8,D.atKey (.string x) (.lit (.int .i64 0)) = .lit (.int .i64 (if x ∈ seen then 1 else 0))
theorem rE : Seen [] (.map []):=⟨isMap_empty,fun x=>rfl⟩
theorem rF {seen : List (List UInt8)} {D : DataW Unit} (h : Seen seen D) (x : List UInt8) : Seen (x :: seen) (D.put (.string x) (.lit (.int .i64 1))):=by
 refine ⟨h.1.put _ _,fun y=>?_⟩
 by_cases hy : y = x
 ·subst hy
  rw [atKey_put_same h.1 (by simp [WideAt.IsKeyLit]),if_pos List.mem_cons_self]
 ·rw [atKey_put_other (fun e=>hy (by injection e)),h.2 y]
  by_cases hm : y ∈ seen
  ·rw [if_pos hm,if_pos (List.mem_cons_of_mem _ hm)]
  ·rw [if_neg hm,if_neg (fun q=>by
    rcases List.mem_cons.1 q with q | q
    ·exact hy q
    ·exact hm q)]
set_option maxHeartbeats 4000000 in
set_option maxRecDepth 100000 in
theorem bX.calls (k : Nat) (A0 : Option Addr) (c0 : Nat) (l0 : List S100) (r : Int) (w : World) (hr0 : Kd.C iO w A0 l0.length l0) (hc0 : l0.length ≤ c0) (h : bX.f k l0 = some r) :
  Calls Tryd.prog 57 #[.slice A0 l0.length c0] w fun e w'=>e = .returned (.int .i64 r) ∧ Below w.heap.size w w':=by
 have hmm:=@run_makeMap Tryd.prog
 go_enter Tryd.func57,Tryd.ntmps57
 by_cases h0 : l0.length = 0
 ·rw [bX.f,if_pos h0] at h
  obtain rfl:=Option.some.inj h
  have e0 : ((l0.length : Int) == 0) = true:=by rw [h0];rfl
  go_wp2
  go_ret
  exact ⟨rfl,Below.refl _ _⟩
 have e0 : ((l0.length : Int) == 0) = false:=beq_eq_false_iff_ne.2 (by omega)
 rw [bX.f,if_neg h0] at h
 by_cases h16 : l0.length > 16
 ·rw [if_pos h16] at h
  obtain rfl:=Option.some.inj h
  have e1 : decide ((16 : Int) < (l0.length : Int)) = true:=decide_eq_true (by omega)
  have e2 : decide (16 < l0.length) = true:=decide_eq_true h16
  go_wp2
  go_ret
  exact ⟨rfl,Below.refl _ _⟩
 have e1 : decide ((16 : Int) < (l0.length : Int)) = false:=decide_eq_false (by omega)
 have e2 : decide (16 < l0.length) = false:=decide_eq_false h16
 rw [if_neg h16] at h
 have xQ:=Aside0.mk h16
 clear h0 h16
 go_wp2
 go_loopg [17] l0.length (fun kq v17 w'=>∃ (i : Nat) (seen : List (List UInt8)) (D : DataW Unit),v17 = .int .i64 (i : Int) ∧ Aside0 (i + kq = l0.length) ∧ Aside0 (jN k seen (l0.drop i) = some r) ∧ Aside0 (Seen seen D) ∧ Aside0 (w'.ownsMap Tryd.prog 9 (plainElem Tryd.prog 3) w.heap.size i D) ∧ Aside0 (Below w.heap.size w w'))
 case atStart=>exact ⟨0,[],.map [],rfl,⟨by omega⟩,⟨h⟩,⟨rE⟩,⟨World.ownsMap_made _ _ _ _⟩,⟨(Below.refl _ _).alloc (Nat.le_refl _) _⟩⟩
 case round =>
  clear h
  obtain ⟨i,seen,D,rfl,hi,hE,hS,hM,B⟩:=hrel
  cases gk with
  | zero =>
   have hend : decide ((i : Int) < (l0.length : Int)) = false:=decide_eq_false (by have:=hi.out;omega)
   have xO : decide (i < l0.length) = false:=decide_eq_false (by have:=hi.out;omega)
   have xP : (i < l0.length) = False:=eq_false (by have:=hi.out;omega)
   have hE':=hE.out
   rw [List.drop_eq_nil_of_le (by have:=hi.out;omega)] at hE'
   obtain rfl:=Option.some.inj hE'
   go_wp2
   go_ret
   exact ⟨rfl,B.out⟩
  | succ k1 =>
   have hlt : i < l0.length:=by have:=hi.out;omega
   have xJ : i ≤ 16:=by have:=xQ.out;omega
   have c1 : decide ((i : Int) < (l0.length : Int)) = true:=decide_eq_true (by omega)
   have p1 : 0 ≤ (i : Int):=by omega
   have q1 : (i : Int) < (l0.length : Int):=by omega
   obtain ⟨ad,e,hx0,hx1⟩:=jl hr0 (i : Int) p1 q1
   cases e
   replace hx0:=(B.out.cell (World.block_lt_of_cell? w _ hx0)).trans hx0
   replace hx1:=(B.out.cell (World.block_lt_of_cell? w _ hx1)).trans hx1
   simp only [Int.toNat_natCast] at hx0 hx1
   have hE1:=hE.out
   rw [List.drop_eq_getElem_cons hlt,show l0[i] = dS l0 (i : Int) by simp [dS,List.getElem?_eq_getElem hlt],jN] at hE1
   generalize dS l0 (i : Int) = p at hx0 hx1 hE1
   replace p1:=eq_true p1
   replace q1:=eq_true q1
   have q3 : (i < l0.length) = True:=eq_true hlt
   have hsz : p.f0.size ≤ 1000000000:=Decidable.by_contra fun hn=>by rw [if_neg hn] at hE1;cases hE1
   rw [if_pos hsz] at hE1
   have hkey : keyOf Tryd.prog 9 (.string p.f0) = some (.string p.f0.data.toList):=keyOf_string_mk Tryd.underlying9 (by unfold maxLen;omega)
   obtain ⟨a,ha,hE1⟩:=Option.bind_eq_some_iff.1 hE1
   have hwv : Value.int .i64 (wrap64 ((i : Int) + 1)) = Value.int .i64 ((i + 1 : Nat) : Int):=by rw [bY (by omega) (by omega)];rfl
   have hnx : Aside0 (i + 1 + k1 = l0.length):=⟨by have:=hi.out;omega⟩
   have HK:=Aside0.mk hkey
   have HSZ:=Aside0.mk hsz
   have HLE:=Aside0.mk xJ
   clear hE hsz xJ
   have HNE : Aside0 (some wr.heap.size ≠ some w.heap.size):=⟨fun e=>by have:=hM.out.lt;injection e with e;omega⟩
   have xI:=hS.out.2 p.f0.data.toList
   clear hkey
   cases a with
   | false =>
    rw [if_neg (show ¬ (false = true) by decide)] at hE1
    obtain rfl:=Option.some.inj hE1
    obtain ⟨cc,hcc⟩ : ∃ cc : Int,(if p.f0.data.toList ∈ seen then (1 : Int) else 0) = cc:=⟨_,rfl⟩
    rw [hcc] at xI
    have xM:=Aside0.mk xI
    clear xI hcc
    go_wp2_with (first | (at_lookup;refine wpList_lookup_own_int _ rfl _ _ 125 rfl 9 3 .i64 iD Tryd.underlying125 Tryd.underlying3 (lI _) w.heap.size i D rfl (hM.out.alloc _) _ _ rfl HK.out ?_;intro c hat hwc;have hc : c = cc:=iP (hat.symm.trans xM.out);subst hc;clear hat) | (at_mapUpdate;refine wpList_mapUpdate_own _ rfl _ _ _ 125 rfl 9 3 iD Tryd.underlying125 _ w.heap.size i D rfl (hM.out.alloc _) (by unfold maxLen;have:=HLE.out;omega) _ _ _ rfl rfl HK.out _ [] (plainElem_int Tryd.underlying3 (by first | exact wrap64_wf _ | rfl | decide)) ?_;intro w1 hown1 hgrow1;have gb:=(hgrow1.block wr.heap.size (by simp) HNE.out).trans (heap_alloc_new wr _);have g0:=(au gb 0).trans rfl;have g1:=(au gb 1).trans rfl;have HB1:=Aside0.mk ((B.out.alloc B.out.size _).grown hgrow1 (by have:=B.out.size;simp;omega) (fun j hj=>by cases hj;exact Nat.le_refl _));have xK:=Aside0.mk hown1;clear gb hown1 hgrow1) | (go_at_call 56;refine (aX.calls k p.f0 false _ ha).mono ?_;rintro e w2 ⟨rfl,⟨nd,rfl⟩⟩;have xL:=Aside0.mk (show (World.drewN _ nd).ownsMap _ _ _ _ _ _ from xK.out)))
    go_ret
    exact ⟨rfl,by repeat (first | exact HB1.out | apply aj | apply av)⟩
   | true =>
    rw [if_pos rfl] at hE1
    by_cases hm : p.f0.data.toList ∈ seen
    ·rw [if_pos hm] at hE1 xI
     obtain rfl:=Option.some.inj hE1
     have xM:=Aside0.mk xI
     clear xI hm
     have d2 : wrap64 ((1 : Int) + 1) = 2:=(bY (by omega) (by omega)).trans rfl
     have d3 : wrap64 (2 : Int) = 2:=bY (by omega) (by omega)
     go_wp2_with (first | (at_lookup;refine wpList_lookup_own_int _ rfl _ _ 125 rfl 9 3 .i64 iD Tryd.underlying125 Tryd.underlying3 (lI _) w.heap.size (i + 1) _ rfl xL.out _ _ rfl HK.out ?_;intro c hat hwc;have hc:=iP (hat.symm.trans (atKey_put_same hS.out.1 (by simp [WideAt.IsKeyLit]) _ _));subst hc;clear hat) | (at_lookup;refine wpList_lookup_own_int _ rfl _ _ 125 rfl 9 3 .i64 iD Tryd.underlying125 Tryd.underlying3 (lI _) w.heap.size i D rfl (hM.out.alloc _) _ _ rfl HK.out ?_;intro c hat hwc;have hc : c = 1:=iP (hat.symm.trans xM.out);subst hc;clear hat) | (at_mapUpdate;refine wpList_mapUpdate_own _ rfl _ _ _ 125 rfl 9 3 iD Tryd.underlying125 _ w.heap.size i D rfl (hM.out.alloc _) (by unfold maxLen;have:=HLE.out;omega) _ _ _ rfl rfl HK.out _ [] (plainElem_int Tryd.underlying3 (by first | exact wrap64_wf _ | rfl | decide)) ?_;intro w1 hown1 hgrow1;have gb:=(hgrow1.block wr.heap.size (by simp) HNE.out).trans (heap_alloc_new wr _);have g0:=(au gb 0).trans rfl;have g1:=(au gb 1).trans rfl;have HB1:=Aside0.mk ((B.out.alloc B.out.size _).grown hgrow1 (by have:=B.out.size;simp;omega) (fun j hj=>by cases hj;exact Nat.le_refl _));have xK:=Aside0.mk hown1;clear gb hown1 hgrow1) | (go_at_call 56;refine (aX.calls k p.f0 true _ ha).mono ?_;rintro e w2 ⟨rfl,⟨nd,rfl⟩⟩;have xL:=Aside0.mk (show (World.drewN _ nd).ownsMap _ _ _ _ _ _ from xK.out)))
     go_ret
     exact ⟨rfl,by repeat (first | exact HB1.out | apply aj | apply av)⟩
    ·rw [if_neg hm] at hE1 xI
     have xM:=Aside0.mk xI
     have HM:=Aside0.mk hm
     clear xI hm
     have d2 : wrap64 ((0 : Int) + 1) = 1:=(bY (by omega) (by omega)).trans rfl
     have d3 : wrap64 (1 : Int) = 1:=bY (by omega) (by omega)
     obtain ⟨b,hb,hE1⟩:=Option.bind_eq_some_iff.1 hE1
     cases b with
     | false =>
      rw [if_neg (show ¬ (false = true) by decide)] at hE1
      obtain rfl:=Option.some.inj hE1
      go_wp2_with (first | (at_lookup;refine wpList_lookup_own_int _ rfl _ _ 125 rfl 9 3 .i64 iD Tryd.underlying125 Tryd.underlying3 (lI _) w.heap.size (i + 1) _ rfl xL.out _ _ rfl HK.out ?_;intro c hat hwc;have hc:=iP (hat.symm.trans (atKey_put_same hS.out.1 (by simp [WideAt.IsKeyLit]) _ _));subst hc;clear hat) | (at_lookup;refine wpList_lookup_own_int _ rfl _ _ 125 rfl 9 3 .i64 iD Tryd.underlying125 Tryd.underlying3 (lI _) w.heap.size i D rfl (hM.out.alloc _) _ _ rfl HK.out ?_;intro c hat hwc;have hc : c = 0:=iP (hat.symm.trans xM.out);subst hc;clear hat) | (at_mapUpdate;refine wpList_mapUpdate_own _ rfl _ _ _ 125 rfl 9 3 iD Tryd.underlying125 _ w.heap.size i D rfl (hM.out.alloc _) (by unfold maxLen;have:=HLE.out;omega) _ _ _ rfl rfl HK.out _ [] (plainElem_int Tryd.underlying3 (by first | exact wrap64_wf _ | rfl | decide)) ?_;intro w1 hown1 hgrow1;have gb:=(hgrow1.block wr.heap.size (by simp) HNE.out).trans (heap_alloc_new wr _);have g0:=(au gb 0).trans rfl;have g1:=(au gb 1).trans rfl;have HB1:=Aside0.mk ((B.out.alloc B.out.size _).grown hgrow1 (by have:=B.out.size;simp;omega) (fun j hj=>by cases hj;exact Nat.le_refl _));have xK:=Aside0.mk hown1;clear gb hown1 hgrow1) | (go_at_call 56;refine (aX.calls k p.f0 true _ ha).mono ?_;rintro e w2 ⟨rfl,⟨nd,rfl⟩⟩;have xL:=Aside0.mk (show (World.drewN _ nd).ownsMap _ _ _ _ _ _ from xK.out)) | (go_at_call 42;refine (bI.calls k p.f1 false _ hb).mono ?_;rintro e w3 ⟨rfl,⟨xR,rfl⟩⟩))
      go_ret
      exact ⟨rfl,by repeat (first | exact HB1.out | apply aj | apply av)⟩
     | true =>
      rw [if_pos rfl] at hE1
      have HE:=Aside0.mk hE1
      clear hE1
      go_wp2_with (first | (at_lookup;refine wpList_lookup_own_int _ rfl _ _ 125 rfl 9 3 .i64 iD Tryd.underlying125 Tryd.underlying3 (lI _) w.heap.size (i + 1) _ rfl xL.out _ _ rfl HK.out ?_;intro c hat hwc;have hc:=iP (hat.symm.trans (atKey_put_same hS.out.1 (by simp [WideAt.IsKeyLit]) _ _));subst hc;clear hat) | (at_lookup;refine wpList_lookup_own_int _ rfl _ _ 125 rfl 9 3 .i64 iD Tryd.underlying125 Tryd.underlying3 (lI _) w.heap.size i D rfl (hM.out.alloc _) _ _ rfl HK.out ?_;intro c hat hwc;have hc : c = 0:=iP (hat.symm.trans xM.out);subst hc;clear hat) | (at_mapUpdate;refine wpList_mapUpdate_own _ rfl _ _ _ 125 rfl 9 3 iD Tryd.underlying125 _ w.heap.size i D rfl (hM.out.alloc _) (by unfold maxLen;have:=HLE.out;omega) _ _ _ rfl rfl HK.out _ [] (plainElem_int Tryd.underlying3 (by first | exact wrap64_wf _ | rfl | decide)) ?_;intro w1 hown1 hgrow1;have gb:=(hgrow1.block wr.heap.size (by simp) HNE.out).trans (heap_alloc_new wr _);have g0:=(au gb 0).trans rfl;have g1:=(au gb 1).trans rfl;have HB1:=Aside0.mk ((B.out.alloc B.out.size _).grown hgrow1 (by have:=B.out.size;simp;omega) (fun j hj=>by cases hj;exact Nat.le_refl _));have xK:=Aside0.mk hown1;clear gb hown1 hgrow1) | (go_at_call 56;refine (aX.calls k p.f0 true _ ha).mono ?_;rintro e w2 ⟨rfl,⟨nd,rfl⟩⟩;have xL:=Aside0.mk (show (World.drewN _ nd).ownsMap _ _ _ _ _ _ from xK.out)) | (go_at_call 42;refine (bI.calls k p.f1 true _ hb).mono ?_;rintro e w3 ⟨rfl,⟨xR,rfl⟩⟩))
      go_roundg k1
      case measure=>exact Nat.lt_succ_self k1
      case rel=>exact ⟨i + 1,p.f0.data.toList :: seen,_,by first | exact hwv | rfl,hnx,HE,⟨rF hS.out _⟩,⟨xL.out⟩,⟨by repeat (first | exact HB1.out | apply aj | apply av)⟩⟩
end Go.Proofs.YtpmbdcljphpcnaaDoor.GC2
