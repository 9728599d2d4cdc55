/- value.keys: a map of names, counted up in a loop: its contract, in terms of plain functions. No conditions beside those stated. -/
import Derived.Test.YtnkkbiabloodaaaDoorGVax0
import Derived.Test.YtnkkbiabloodaaaDoorGW
import Derived.Test.YtnkkbiabloodaaaDoorGVax4
import Derived.Maps.Own
import Derived.Maps.OwnOps
import Derived.Maps.Views
namespace Go.Proofs.YtnkkbiabloodaaaDoor.GVa
open Go.RowKit Go.Maps Go.WideMaps Go.Proofs.YtnkkbiabloodaaaDoorW.PrintWords Go.Proofs.YtnkkbiabloodaaaDoorW.PrintLast Go.Proofs.YtnkkbiabloodaaaDoorW.PrintMore
set_option linter.unusedVariables false
set_option linter.unusedSimpArgs false
theorem lJ : Keyed Tryd.prog 9 := string_keyed Tryd.underlying9
theorem qI (w : World) : (zeroValue 3).run Tryd.prog w = .ok (.int .i64 0) w := by kernel_rfl
theorem jv {w w' : World} {P : Program} {k : TypeId} {R : Value → Option (DataW Unit × List MemPlace)} {b n : Nat} {D : DataW Unit} (h : w.ownsMap P k R b n D) (hb : Below w.heap.size w w') : w'.ownsMap P k R b n D := by
  have hlt := h.lt
  obtain ⟨es, clock, hh, F, hs, hD⟩ := h
  exact ⟨es, clock, (hb.block b hlt).trans hh, F, hs, hD⟩
theorem mh {a b : Int} (h : (.lit (.int .i64 a) : DataW Unit) = .lit (.int .i64 b)) : a = b := by
  injection h with h
  injection h
def ng (seen : List (List UInt8)) (tw : Int) : List S48 → Option Int
  | [] => some tw
  | p :: ps => if p.f0.size ≤ 1000000000 then ((fT.f p.f0).bind fun e => if e = 0 then (if p.f0.data.toList ∈ seen then ng seen 8 ps else ng (p.f0.data.toList :: seen) tw ps) else some e) else none
def gH.f (l : List S48) : Option Int := if l.length ≤ 1000000000 then ng [] 0 l else none
def Seen (seen : List (List UInt8)) (i : Nat) (D : DataW Unit) : Prop := IsMap D ∧ ∀ x : List UInt8, ∃ c : Nat, c ≤ i ∧ D.atKey (.string x) (.lit (.int .i64 0)) = .lit (.int .i64 (c : Int)) ∧ (1 ≤ c ↔ x ∈ seen)
theorem sU : Seen [] 0 (.map []) := ⟨isMap_empty, fun x => ⟨0, Nat.le_refl _, rfl, by simp⟩⟩
theorem sV {seen seen' : List (List UInt8)} {i : Nat} {D : DataW Unit} (h : Seen seen i D) (x : List UInt8) (c : Nat) (hc : c ≤ i) (hs : ∀ y, y ∈ seen' ↔ y = x ∨ y ∈ seen) : Seen seen' (i + 1) (D.put (.string x) (.lit (.int .i64 ((c + 1 : Nat) : Int)))) := by
  refine ⟨h.1.put _ _, fun y => ?_⟩
  by_cases hy : y = x
  · subst hy
    exact ⟨c + 1, by omega, atKey_put_same h.1 (by simp [WideAt.IsKeyLit]) _ _, fun _ => (hs y).2 (.inl rfl), fun _ => by omega⟩
  · obtain ⟨d, h1, h2, h3⟩ := h.2 y
    refine ⟨d, by omega, (atKey_put_other (fun e => hy (by injection e)) _ _).trans h2, ?_⟩
    rw [h3, hs y]
    exact ⟨.inr, fun q => by
      rcases q with q | q
      · exact absurd q hy
      · exact q⟩
set_option maxHeartbeats 4000000 in
set_option maxRecDepth 100000 in
theorem gH.calls (A0 : Option Addr) (c0 : Nat) (l0 : List S48) (r : Int) (w : World) (hr0 : Kd.C k48 w A0 l0.length l0) (hc0 : l0.length ≤ c0) (h : gH.f l0 = some r) (hG : GW.GW w) :
    Calls Tryd.prog 48 #[.slice A0 l0.length c0] w fun e w' => e = .returned (.int .i64 r) ∧ Below w.heap.size w w' := by
  have hmm := @run_makeMap Tryd.prog
  have hlen : l0.length ≤ 1000000000 := Decidable.by_contra fun hn => by rw [gH.f, if_neg hn] at h; cases h
  rw [gH.f, if_pos hlen] at h
  have HL := Aside0.mk hlen
  have HG := Aside0.mk hG
  clear hlen hG
  go_enter Tryd.func48, Tryd.ntmps48
  go_wp2
  go_loopg [4, 11] l0.length (fun kq v4 v11 w' => ∃ (i : Nat) (tw : Int) (seen : List (List UInt8)) (D : DataW Unit), v4 = .int .i64 tw ∧ v11 = .int .i64 (i : Int) ∧ Aside0 (i + kq = l0.length) ∧ Aside0 (ng seen tw (l0.drop i) = some r) ∧ Aside0 (Seen seen i D) ∧ Aside0 (w'.ownsMap Tryd.prog 9 (plainElem Tryd.prog 3) w.heap.size i D) ∧ Aside0 (Below w.heap.size w w'))
  case atStart => exact ⟨0, 0, [], .map [], rfl, rfl, ⟨by omega⟩, ⟨h⟩, ⟨sU⟩, ⟨World.ownsMap_made _ _ _ _⟩, ⟨(Below.refl _ _).alloc (Nat.le_refl _) _⟩⟩
  case round =>
    clear h
    obtain ⟨i, tw, seen, D, rfl, rfl, hi, hE, hS, hM, B⟩ := hrel
    cases gk with
    | zero =>
      have hend : decide ((i : Int) < (l0.length : Int)) = false := decide_eq_false (by have := hi.out; omega)
      have yj : decide (i < l0.length) = false := decide_eq_false (by have := hi.out; omega)
      have yt : (i < l0.length) = False := eq_false (by have := hi.out; omega)
      have hE' := hE.out
      rw [List.drop_eq_nil_of_le (by have := hi.out; omega)] at hE'
      obtain rfl := Option.some.inj hE'
      go_wp2
      go_ret
      exact ⟨rfl, B.out⟩
    | succ k1 =>
      have hlt : i < l0.length := by have := hi.out; omega
      have c1 : decide ((i : Int) < (l0.length : Int)) = true := decide_eq_true (by omega)
      have p1 : 0 ≤ (i : Int) := by omega
      have q1 : (i : Int) < (l0.length : Int) := by omega
      obtain ⟨ad, A5, c5, A6, c6, e, hx0, hx1, hx2, hx3, hx4, hx5, hx6, _⟩ := jE hr0 (i : Int) p1 q1
      cases e
      replace hx0 := (B.out.cell (World.block_lt_of_cell? w _ hx0)).trans hx0
      replace hx1 := (B.out.cell (World.block_lt_of_cell? w _ hx1)).trans hx1
      replace hx2 := (B.out.cell (World.block_lt_of_cell? w _ hx2)).trans hx2
      replace hx3 := (B.out.cell (World.block_lt_of_cell? w _ hx3)).trans hx3
      replace hx4 := (B.out.cell (World.block_lt_of_cell? w _ hx4)).trans hx4
      replace hx5 := (B.out.cell (World.block_lt_of_cell? w _ hx5)).trans hx5
      replace hx6 := (B.out.cell (World.block_lt_of_cell? w _ hx6)).trans hx6
      simp only [Int.toNat_natCast] at hx0 hx1 hx2 hx3 hx4 hx5 hx6
      have hE1 := hE.out
      rw [List.drop_eq_getElem_cons hlt, show l0[i] = aC l0 (i : Int) by simp [aC, List.getElem?_eq_getElem hlt], ng] at hE1
      generalize aC l0 (i : Int) = p at hx0 hx1 hx2 hx3 hx4 hx5 hx6 hE1
      replace p1 := eq_true p1
      replace q1 := eq_true q1
      have q3 : (i < l0.length) = True := eq_true hlt
      have hsz : p.f0.size ≤ 1000000000 := Decidable.by_contra fun hn => by rw [if_neg hn] at hE1; cases hE1
      rw [if_pos hsz] at hE1
      have hkey : keyOf Tryd.prog 9 (.string p.f0) = some (.string p.f0.data.toList) := keyOf_string_mk Tryd.underlying9 (by unfold maxLen; omega)
      obtain ⟨e, he, hE1⟩ := Option.bind_eq_some_iff.1 hE1
      have hwv : Value.int .i64 (wrap64 ((i : Int) + 1)) = Value.int .i64 ((i + 1 : Nat) : Int) := by have := HL.out; rw [eB (by omega) (by omega)]; rfl
      have hnx : Aside0 (i + 1 + k1 = l0.length) := ⟨by have := hi.out; omega⟩
      have HK := Aside0.mk hkey
      have HLE := Aside0.mk (show i ≤ 1000000000 by have := HL.out; omega)
      have HNE : Aside0 (some wr.heap.size ≠ some w.heap.size) := ⟨fun e => by have := hM.out.lt; injection e with e; omega⟩
      obtain ⟨cc, xW, xX, xY⟩ := hS.out.2 p.f0.data.toList
      have yg := Aside0.mk xX
      have HCC := Aside0.mk xY
      have yh := Aside0.mk xW
      clear hkey xX xY xW hE hsz
      obtain ⟨ci, hci⟩ : ∃ ci : Int, (cc : Int) = ci := ⟨_, rfl⟩
      obtain ⟨dj, hdj⟩ : ∃ dj : Int, ((cc + 1 : Nat) : Int) = dj := ⟨_, rfl⟩
      have d2 : wrap64 (ci + 1) = dj := by have := yh.out; have := HLE.out; rw [eB (by omega) (by omega)]; omega
      have HD2 := Aside0.mk (show ci + 1 = dj by omega)
      have DWF := Aside0.mk (show (Lit.int .i64 dj).wf = true by have := yh.out; have := HLE.out; simp [Lit.wf, IntKind.min, IntKind.max, IntKind.bits, IntKind.signed]; omega)
      have HDC := Aside0.mk (show (1 < dj) ↔ 1 ≤ cc by omega)
      have SP := fun seen' hs => sV hS.out (seen' := seen') p.f0.data.toList cc yh.out hs
      rw [hci] at yg
      rw [hdj] at SP
      clear hci hdj
      by_cases h0 : e = 0
      · rw [if_pos h0] at hE1
        subst h0
        by_cases hm : p.f0.data.toList ∈ seen
        · rw [if_pos hm] at hE1
          have HE := Aside0.mk hE1
          have HSP := Aside0.mk (SP seen (fun y => ⟨.inr, fun q => by
            rcases q with q | q
            · rw [q]; exact hm
            · exact q⟩))
          have hcc := HDC.out.2 (HCC.out.2 hm)
          clear hE1 SP
          have dg : decide (1 < dj) = true := decide_eq_true hcc
          clear hm hcc
          go_wp2_with (first | (at_lookup; refine wpList_lookup_own_int _ rfl _ _ 102 rfl 9 3 .i64 lJ Tryd.underlying102 Tryd.underlying3 (qI _) w.heap.size (i + 1) _ rfl xZ.out _ _ rfl HK.out ?_; intro c hat hwc; have hc := mh (hat.symm.trans (atKey_put_same hS.out.1 (by simp [WideAt.IsKeyLit]) _ _)); subst hc; clear hat) | (at_lookup; refine wpList_lookup_own_int _ rfl _ _ 102 rfl 9 3 .i64 lJ Tryd.underlying102 Tryd.underlying3 (qI _) w.heap.size i D rfl xU.out _ _ rfl HK.out ?_; intro c hat hwc; have hc : c = ci := mh (hat.symm.trans yg.out); subst hc; clear hat) | (at_mapUpdate; refine wpList_mapUpdate_own _ rfl _ _ _ 102 rfl 9 3 lJ Tryd.underlying102 _ w.heap.size i D rfl xU.out (by unfold maxLen; have := HLE.out; omega) _ (.int .i64 dj) _ rfl (congrArg (Value.int .i64) d2) HK.out _ [] (plainElem_int Tryd.underlying3 DWF.out) ?_; intro w3 hown3 hgrow3; have yc := (hgrow3.block wr.heap.size (Array.getElem?_eq_some_iff.1 xV.out).1 HNE.out).trans xV.out; have g3 := (ah yc 0).trans rfl; have HB3 := Aside0.mk (HB2.out.grown hgrow3 HB2.out.size (fun j hj => by cases hj; exact Nat.le_refl _)); have xZ := Aside0.mk hown3; clear yc hown3 hgrow3) | (go_at_call 47; refine (fT.calls p.f0 0 _ he (GW.below HG.out (B.out.alloc B.out.size _))).mono ?_; rintro e9 w2 ⟨rfl, hb2⟩; have xS := (hb2.block wr.heap.size (by simp)).trans (heap_alloc_new wr _); have g0 := (ah xS 0).trans rfl; have xU := Aside0.mk (jv (hM.out.alloc _) hb2); have HB2 := Aside0.mk ((B.out.alloc B.out.size _).trans (hb2.mono (by have := B.out.size; simp; omega))); have xV := Aside0.mk xS; clear xS hb2))
          go_roundg k1
          case measure => exact Nat.lt_succ_self k1
          case rel => exact ⟨i + 1, 8, seen, _, rfl, by first | exact hwv | rfl, hnx, HE, ⟨HSP.out⟩, ⟨xZ.out⟩, ⟨by repeat (first | exact HB3.out | apply ak | apply au)⟩⟩
        · rw [if_neg hm] at hE1
          have HE := Aside0.mk hE1
          have HSP := Aside0.mk (SP (p.f0.data.toList :: seen) (fun y => List.mem_cons))
          have hcc : ¬ 1 < dj := fun q => hm (HCC.out.1 (HDC.out.1 q))
          clear hE1 SP
          have dg : decide (1 < dj) = false := decide_eq_false hcc
          clear hm hcc
          go_wp2_with (first | (at_lookup; refine wpList_lookup_own_int _ rfl _ _ 102 rfl 9 3 .i64 lJ Tryd.underlying102 Tryd.underlying3 (qI _) w.heap.size (i + 1) _ rfl xZ.out _ _ rfl HK.out ?_; intro c hat hwc; have hc := mh (hat.symm.trans (atKey_put_same hS.out.1 (by simp [WideAt.IsKeyLit]) _ _)); subst hc; clear hat) | (at_lookup; refine wpList_lookup_own_int _ rfl _ _ 102 rfl 9 3 .i64 lJ Tryd.underlying102 Tryd.underlying3 (qI _) w.heap.size i D rfl xU.out _ _ rfl HK.out ?_; intro c hat hwc; have hc : c = ci := mh (hat.symm.trans yg.out); subst hc; clear hat) | (at_mapUpdate; refine wpList_mapUpdate_own _ rfl _ _ _ 102 rfl 9 3 lJ Tryd.underlying102 _ w.heap.size i D rfl xU.out (by unfold maxLen; have := HLE.out; omega) _ (.int .i64 dj) _ rfl (congrArg (Value.int .i64) d2) HK.out _ [] (plainElem_int Tryd.underlying3 DWF.out) ?_; intro w3 hown3 hgrow3; have yc := (hgrow3.block wr.heap.size (Array.getElem?_eq_some_iff.1 xV.out).1 HNE.out).trans xV.out; have g3 := (ah yc 0).trans rfl; have HB3 := Aside0.mk (HB2.out.grown hgrow3 HB2.out.size (fun j hj => by cases hj; exact Nat.le_refl _)); have xZ := Aside0.mk hown3; clear yc hown3 hgrow3) | (go_at_call 47; refine (fT.calls p.f0 0 _ he (GW.below HG.out (B.out.alloc B.out.size _))).mono ?_; rintro e9 w2 ⟨rfl, hb2⟩; have xS := (hb2.block wr.heap.size (by simp)).trans (heap_alloc_new wr _); have g0 := (ah xS 0).trans rfl; have xU := Aside0.mk (jv (hM.out.alloc _) hb2); have HB2 := Aside0.mk ((B.out.alloc B.out.size _).trans (hb2.mono (by have := B.out.size; simp; omega))); have xV := Aside0.mk xS; clear xS hb2))
          go_roundg k1
          case measure => exact Nat.lt_succ_self k1
          case rel => exact ⟨i + 1, tw, p.f0.data.toList :: seen, _, rfl, by first | exact hwv | rfl, hnx, HE, ⟨HSP.out⟩, ⟨xZ.out⟩, ⟨by repeat (first | exact HB3.out | apply ak | apply au)⟩⟩
      · rw [if_neg h0] at hE1
        obtain rfl := Option.some.inj hE1
        have e0 : (e == 0) = false := beq_eq_false_iff_ne.2 h0
        have e1 : (e != 0) = true := bne_iff_ne.2 h0
        clear hE1 h0 SP d2
        go_wp2_with (first | (go_at_call 47; refine (fT.calls p.f0 e _ he (GW.below HG.out (B.out.alloc B.out.size _))).mono ?_; rintro e9 w2 ⟨rfl, hb2⟩; have xS := (hb2.block wr.heap.size (by simp)).trans (heap_alloc_new wr _); have g0 := (ah xS 0).trans rfl; have xU := Aside0.mk (jv (hM.out.alloc _) hb2); have HB2 := Aside0.mk ((B.out.alloc B.out.size _).trans (hb2.mono (by have := B.out.size; simp; omega))); have xV := Aside0.mk xS; clear xS hb2))
        go_ret
        exact ⟨rfl, by repeat (first | exact HB2.out | apply ak | apply au)⟩
end Go.Proofs.YtnkkbiabloodaaaDoor.GVa
