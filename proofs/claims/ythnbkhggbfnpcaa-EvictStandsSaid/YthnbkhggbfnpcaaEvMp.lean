/- The law's two maps: loads by their files, counts by their files. Look-ups and stores in the law's maps, as arms of a walk. No conditions beside those stated. -/
import Derived.Test.YthnbkhggbfnpcaaGEvx0
import Derived.Maps.Own
import Derived.Maps.OwnOps
import Derived.Maps.Views
namespace Go.Proofs.Ythnbkhggbfnpcaa.Ev
open Go.RowKit Go.Maps Go.WideMaps Go.Proofs.YthnbkhggbfnpcaaW.PrintWords Go.Proofs.YthnbkhggbfnpcaaW.PrintLast Go.Proofs.YthnbkhggbfnpcaaW.PrintMore Go.Proofs.Ythnbkhggbfnpcaa.GEv
set_option linter.unusedVariables false
set_option linter.unusedSimpArgs false
theorem keyLaw : Keyed Try.prog 9 := string_keyed Try.underlying9
def loadV (x : S27) : Value := .agg #[.string x.f0, .float .f64 x.f1, .float .f64 x.f2]
def dL (x : S27) : DataW Unit := .agg [.lit (.string x.f0.data.toList), .lit (.float .f64 x.f1), .lit (.float .f64 x.f2)]
def R27l : List Value → Option (DataW Unit × List MemPlace)
  | [.string f, .float .f64 u, .float .f64 a] => some (.agg [.lit (.string f.data.toList), .lit (.float .f64 u), .lit (.float .f64 a)], [])
  | _ => none
def R27 : Value → Option (DataW Unit × List MemPlace)
  | .agg c => R27l c.toList
  | _ => none
theorem R27_mk (x : S27) : R27 (loadV x) = some (dL x, []) := rfl
theorem R27_inv {v : Value} {x : S27} {ps : List MemPlace} (h : R27 v = some (dL x, ps)) : v = loadV x := by
  unfold R27 at h
  split at h
  · rename_i c
    unfold R27l at h
    split at h
    · rename_i f u a hc
      simp only [Option.some.injEq, Prod.mk.injEq, dL, DataW.agg.injEq, List.cons.injEq, DataW.lit.injEq, Lit.string.injEq, Lit.float.injEq, true_and, and_true] at h
      obtain ⟨⟨h1, h2, h3⟩, _⟩ := h
      have e : f = x.f0 := ByteArray.ext (Array.toList_inj.1 h1)
      have ec : c = #[.string f, .float .f64 u, .float .f64 a] := Array.toList_inj.1 hc
      subst e h2 h3 ec
      rfl
    · cases h
  · cases h
theorem zero27 (w : World) : (zeroValue 27).run Try.prog w = .ok (loadV z27) w := by kernel_rfl
theorem zero3 (w : World) : (zeroValue 3).run Try.prog w = .ok (.int .i64 0) w := by kernel_rfl
theorem key_mk {s : ByteArray} (hs : s.size ≤ 140737488351232) : keyOf Try.prog 9 (.string s) = some (.string s.data.toList) := keyOf_string_mk Try.underlying9 (by unfold maxLen; omega)
/-- Block b is a map of loads by files; N says which. -/
def NM (w : World) (b n : Nat) (N : ByteArray → Option S27) : Prop :=
  ∃ D : DataW Unit, IsMap D ∧ (∀ (s : ByteArray) zd, D.atKey (.string s.data.toList) zd = match N s with | some x => dL x | none => zd) ∧ w.ownsMap Try.prog 9 R27 b n D
/-- Block b is a map of counts by files. -/
def NI (w : World) (b n : Nat) (C : ByteArray → Int) : Prop :=
  ∃ D : DataW Unit, IsMap D ∧ (∀ (s : ByteArray), D.atKey (.string s.data.toList) (.lit (.int .i64 0)) = .lit (.int .i64 (C s))) ∧ w.ownsMap Try.prog 9 (plainElem Try.prog 3) b n D
section
variable {w w' : World} {b n : Nat} {N : ByteArray → Option S27} {C : ByteArray → Int}
theorem NM.made (w : World) : NM (w.alloc (.map #[] 0)) w.heap.size 0 (fun _ => none) := ⟨.map [], isMap_empty, fun _ _ => rfl, World.ownsMap_made _ _ _ _⟩
theorem NI.made (w : World) : NI (w.alloc (.map #[] 0)) w.heap.size 0 (fun _ => 0) := ⟨.map [], isMap_empty, fun _ => rfl, World.ownsMap_made _ _ _ _⟩
theorem NM.kept {row : Option Nat} (h : NM w b n N) (hg : w.grownBy w' row) (hne : some b ≠ row) : NM w' b n N := by
  obtain ⟨D, h1, h2, h3⟩ := h
  exact ⟨D, h1, h2, h3.kept hg hne⟩
theorem NI.kept {row : Option Nat} (h : NI w b n C) (hg : w.grownBy w' row) (hne : some b ≠ row) : NI w' b n C := by
  obtain ⟨D, h1, h2, h3⟩ := h
  exact ⟨D, h1, h2, h3.kept hg hne⟩
theorem NM.lt (h : NM w b n N) : b < w.heap.size := by obtain ⟨D, _, _, h3⟩ := h; exact h3.lt
theorem NI.lt (h : NI w b n C) : b < w.heap.size := by obtain ⟨D, _, _, h3⟩ := h; exact h3.lt
theorem NM.below (h : NM w b n N) (hb : Below w.heap.size w w') : NM w' b n N := h.kept (grown_of_below hb none) (by simp)
theorem NI.below (h : NI w b n C) (hb : Below w.heap.size w w') : NI w' b n C := h.kept (grown_of_below hb none) (by simp)
theorem dL_ne : ∃ z1 z2 : DataW Unit, z1 ≠ z2 := ⟨.nil, .lit (.bool true), by simp⟩
theorem NM.look (h : NM w b n N) (c : Bool) {s : ByteArray} (hs : s.size ≤ 140737488351232) :
    (Instr.lookup 24 (.map (some b)) (.string s) c).run Try.prog w = .ok (match N s with | some x => if c then .tuple #[loadV x, .bool true] else loadV x | none => if c then .tuple #[loadV z27, .bool false] else loadV z27) w := by
  obtain ⟨D, h1, h2, es, clock, hb, F, _, rfl⟩ := h
  have h2s := h2 s
  rcases Maps.fit_look c keyLaw Try.underlying24 (zero27 w) hb F (key_mk hs) with ⟨hrun, _, hat⟩ | ⟨e0, y, _, _, hrun, hR, hat, _⟩
  · rw [hrun]
    cases hN : N s with
    | none => rfl
    | some x =>
      rw [hN] at h2s
      have a1 := (hat .nil).symm.trans (h2s .nil)
      cases a1
  · rw [hrun]
    cases hN : N s with
    | none =>
      rw [hN] at h2s
      have a1 := (hat .nil).symm.trans (h2s .nil)
      have a2 := (hat (.lit (.bool true))).symm.trans (h2s (.lit (.bool true)))
      rw [a1] at a2
      cases a2
    | some x =>
      rw [hN] at h2s
      have a1 : y.1 = dL x := (hat .nil).symm.trans (h2s .nil)
      have e : e0.val = loadV x := R27_inv (ps := y.2) (by rw [hR, ← a1])
      rw [e]
theorem NM.put (h : NM w b n N) (x : S27) (hn : n ≤ 1000) (hs : x.f0.size ≤ 140737488351232) : ∃ w', (Instr.mapUpdate 24 (.map (some b)) (.string x.f0) (loadV x)).run Try.prog w = .ok () w' ∧ NM w' b (n + 1) (fun s => if s = x.f0 then some x else N s) ∧ w.grownBy w' (some b) := by
  obtain ⟨D, h1, h2, h3⟩ := h
  obtain ⟨w', hrun, ho, hg⟩ := h3.update keyLaw Try.underlying24 (by unfold maxLen; omega) (key_mk hs) (R27_mk x)
  refine ⟨w', hrun, ⟨_, h1.put _ _, fun s zd => ?_, ho⟩, hg⟩
  by_cases e : s = x.f0
  · subst e
    rw [atKey_put_same h1 (by simp [WideAt.IsKeyLit])]
    simp
  · rw [atKey_put_other (fun q => e (by injection q with q; exact ByteArray.ext (Array.toList_inj.1 q))), h2 s zd]
    simp [e]
theorem lit_int {a b : Int} (h : (.lit (.int .i64 a) : DataW Unit) = .lit (.int .i64 b)) : a = b := by
  injection h with h
  injection h
theorem NI.look (h : NI w b n C) {s : ByteArray} (hs : s.size ≤ 140737488351232) : (Instr.lookup 32 (.map (some b)) (.string s) false).run Try.prog w = .ok (.int .i64 (C s)) w := by
  obtain ⟨D, h1, h2, h3⟩ := h
  obtain ⟨c, hrun, hat, _⟩ := h3.lookup_int keyLaw Try.underlying32 Try.underlying3 (zero3 w) (key_mk hs)
  rw [hrun, lit_int ((h2 s).symm.trans hat)]
theorem NI.put (h : NI w b n C) (s : ByteArray) (v : Int) (hv : (Lit.int .i64 v).wf = true) (hn : n ≤ 1000) (hs : s.size ≤ 140737488351232) : ∃ w', (Instr.mapUpdate 32 (.map (some b)) (.string s) (.int .i64 v)).run Try.prog w = .ok () w' ∧ NI w' b (n + 1) (fun t => if t = s then v else C t) ∧ w.grownBy w' (some b) := by
  obtain ⟨D, h1, h2, h3⟩ := h
  obtain ⟨w', hrun, ho, hg⟩ := h3.update keyLaw Try.underlying32 (by unfold maxLen; omega) (key_mk hs) (plainElem_int Try.underlying3 hv)
  refine ⟨w', hrun, ⟨_, h1.put _ _, fun t => ?_, ho⟩, hg⟩
  by_cases e : t = s
  · subst e
    rw [atKey_put_same h1 (by simp [WideAt.IsKeyLit])]
    simp
  · rw [atKey_put_other (fun q => e (by injection q with q; exact ByteArray.ext (Array.toList_inj.1 q))), h2 t]
    simp [e]
end
end Go.Proofs.Ythnbkhggbfnpcaa.Ev
namespace Go.Proofs.Ythnbkhggbfnpcaa.Ev
open Go.RowKit Go.Maps Go.WideMaps Go.Proofs.YthnbkhggbfnpcaaW.PrintWords Go.Proofs.YthnbkhggbfnpcaaW.PrintLast Go.Proofs.YthnbkhggbfnpcaaW.PrintMore Go.Proofs.Ythnbkhggbfnpcaa.GEv
set_option linter.unusedVariables false
set_option linter.unusedSimpArgs false
section
variable {ops : Array Oper} {rest : List Oper} {o : Oper} {a : Act} {Q : Exit → Act → World → Prop} {w : World}
theorem look_ (hg : o.guard = none) (m x : Operand) (t : TypeId) (c : Bool) (hop : o.op = Op.lookup t m x c) (b : Nat) (hm : a.eval m = .map (some b)) (key v : Value) (hx : a.eval x = key)
    (hrun : (Instr.lookup t (.map (some b)) key c).run Try.prog w = .ok v w) (hK : wpList Try.prog ops Q rest (a.put o.dst v) w) : wpList Try.prog ops Q (o :: rest) a w := by
  refine wpList_plain hg fun K' hK' => ?_
  unfold Oper.wp
  simp [execOp, hop, hm, hx, hrun, Result.andThen]
  exact hK' _ _ hK
theorem putM_ (hg : o.guard = none) (m x v : Operand) (hop : o.op = Op.mapUpdate 24 m x v) (b n : Nat) (N : ByteArray → Option S27) (hm : a.eval m = .map (some b)) (h : NM w b n N) (y : S27) (hx : a.eval x = .string y.f0) (hv : a.eval v = loadV y) (hn : n ≤ 1000) (hs : y.f0.size ≤ 140737488351232)
    (hK : ∀ w', NM w' b (n + 1) (fun s => if s = y.f0 then some y else N s) → w.grownBy w' (some b) → wpList Try.prog ops Q rest (a.put o.dst undef) w') : wpList Try.prog ops Q (o :: rest) a w := by
  refine wpList_plain hg fun K' hK' => ?_
  obtain ⟨w', hrun, r1, r2⟩ := h.put y hn hs
  unfold Oper.wp
  simp [execOp, hop, hm, hx, hv, hrun, Result.andThen]
  exact hK' _ _ (hK w' r1 r2)
theorem putI_ (hg : o.guard = none) (m x v : Operand) (hop : o.op = Op.mapUpdate 32 m x v) (b n : Nat) (C : ByteArray → Int) (hm : a.eval m = .map (some b)) (h : NI w b n C) (s : ByteArray) (i : Int) (hx : a.eval x = .string s) (hv : a.eval v = .int .i64 i) (hi : (Lit.int .i64 i).wf = true) (hn : n ≤ 1000) (hs : s.size ≤ 140737488351232)
    (hK : ∀ w', NI w' b (n + 1) (fun t => if t = s then i else C t) → w.grownBy w' (some b) → wpList Try.prog ops Q rest (a.put o.dst undef) w') : wpList Try.prog ops Q (o :: rest) a w := by
  refine wpList_plain hg fun K' hK' => ?_
  obtain ⟨w', hrun, r1, r2⟩ := h.put s i hi hn hs
  unfold Oper.wp
  simp [execOp, hop, hm, hx, hv, hrun, Result.andThen]
  exact hK' _ _ (hK w' r1 r2)
end
theorem NM.hit {w : World} {b n : Nat} {N : ByteArray → Option S27} (h : NM w b n N) {s : ByteArray} (hs : s.size ≤ 140737488351232) {x : S27} (hx : N s = some x) : (Instr.lookup 24 (.map (some b)) (.string s) true).run Try.prog w = .ok (.tuple #[loadV x, .bool true]) w := by
  rw [h.look true hs, hx]; rfl
theorem NM.miss {w : World} {b n : Nat} {N : ByteArray → Option S27} (h : NM w b n N) {s : ByteArray} (hs : s.size ≤ 140737488351232) (hx : N s = none) : (Instr.lookup 24 (.map (some b)) (.string s) true).run Try.prog w = .ok (.tuple #[loadV z27, .bool false]) w := by
  rw [h.look true hs, hx]; rfl
theorem NM.hit1 {w : World} {b n : Nat} {N : ByteArray → Option S27} (h : NM w b n N) {s : ByteArray} (hs : s.size ≤ 140737488351232) {x : S27} (hx : N s = some x) : (Instr.lookup 24 (.map (some b)) (.string s) false).run Try.prog w = .ok (loadV x) w := by
  rw [h.look false hs, hx]; rfl
theorem NI.zero {w : World} {b n : Nat} {C : ByteArray → Int} (h : NI w b n C) {s : ByteArray} (hs : s.size ≤ 140737488351232) {c : Int} (hc : C s = c) : (Instr.lookup 32 (.map (some b)) (.string s) false).run Try.prog w = .ok (.int .i64 c) w := by
  rw [h.look hs, hc]
theorem NI.isMap {w : World} {b n : Nat} {C : ByteArray → Int} (h : NI w b n C) : ∃ es c, w.heap[b]? = some (.map es c) := by
  obtain ⟨D, _, _, es, clock, hb, _⟩ := h
  exact ⟨es, clock, hb⟩
/-- What the map of loads says of a row of loads. -/
structure Named (N : ByteArray → Option S27) (L : List S27) : Prop where
  hit : ∀ x ∈ L, N x.f0 = some x
  miss : ∀ s, (∀ x ∈ L, x.f0 ≠ s) → N s = none
  nodup : (L.map (·.f0)).Nodup
theorem Named.nil : Named (fun _ => none) [] := ⟨(fun x h => absurd h (by simp)), fun _ _ => rfl, List.nodup_nil⟩
theorem Named.snoc {N : ByteArray → Option S27} {L : List S27} (h : Named N L) (y : S27) (hy : ∀ x ∈ L, x.f0 ≠ y.f0) : Named (fun s => if s = y.f0 then some y else N s) (L ++ [y]) := by
  refine ⟨fun x hx => ?_, fun s hs => ?_, ?_⟩
  · rcases List.mem_append.1 hx with hx | hx
    · rw [if_neg (hy x hx), h.hit x hx]
    · obtain rfl := List.mem_singleton.1 hx
      rw [if_pos rfl]
  · rw [if_neg (fun e => hs y (by simp) e.symm)]
    exact h.miss s (fun x hx => hs x (List.mem_append_left _ hx))
  · rw [List.map_append, List.nodup_append]
    refine ⟨h.nodup, by simp, fun a ha b hb e => ?_⟩
    obtain ⟨x, hx, rfl⟩ := List.mem_map.1 ha
    obtain rfl : b = y.f0 := by simpa using hb
    exact hy x hx e
end Go.Proofs.Ythnbkhggbfnpcaa.Ev
