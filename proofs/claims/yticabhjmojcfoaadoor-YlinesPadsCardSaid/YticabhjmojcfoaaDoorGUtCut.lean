/- ylines.Cut: a range over strings.SplitSeq: its contract, in terms of the plain functions of wrong, remark and rows. No conditions beside those stated. -/
import Derived.Test.YticabhjmojcfoaaDoorSeq
import Derived.Test.YticabhjmojcfoaaDoorGUtx3
import Derived.Test.YticabhjmojcfoaaDoorGUtx4
import Derived.Test.YticabhjmojcfoaaDoorGUtx5
import Derived.Test.YticabhjmojcfoaaDoorGUtTrim
import Derived.Deep.DeepHandedRow
namespace Go.Proofs.YticabhjmojcfoaaDoor.GUt
open Go.RowKit Go.Shelf Go.Proofs.YticabhjmojcfoaaDoor.SeqC Go.Proofs.YticabhjmojcfoaaDoor.Split Go.Proofs.YticabhjmojcfoaaDoor.LiftIn Go.Proofs.YticabhjmojcfoaaDoorW.PrintWords Go.Proofs.YticabhjmojcfoaaDoorW.PrintLast Go.Proofs.YticabhjmojcfoaaDoorW.PrintMore
attribute [local go_sem] Oper.semAt_some
set_option linter.unusedVariables false
set_option linter.unusedSimpArgs false

/-- The rows of the pieces, from a line on. -/
def cutGo (k : Nat) : List ByteArray → Int → List S32 → Option (List S32 × Int × Int)
  | [], _, out => some (out, 0, 0)
  | p :: ps, n, out => (ylines_wrong.f k p).bind fun e => if e = 0 then ((ylines_remark.f k p).bind fun q => if q.2 = true then (if 0 ≤ q.1 ∧ q.1 ≤ (p.size : Int) then (strings_TrimRight.f (p.extract 0 q.1.toNat) ⟨#[32]⟩).bind fun t => (ylines_rows.f k n t).bind fun l => if (out.length + l.length) * 40 ≤ 140737488355328 then cutGo k ps (wrap64 (n + 1)) (out ++ l) else none else none) else some ([], n, 11)) else some ([], n, e)
theorem cutGo_mono (k : Nat) : ∀ l n out, LeO (cutGo k l n out) (cutGo (k + 1) l n out)
  | [], _, _ => LeO.refl _
  | p :: ps, n, out => LeO.bind (ylines_wrong.mono p k) fun e => LeO.ite (LeO.bind (ylines_remark.mono p k) fun q => LeO.ite (LeO.ite (LeO.bind (LeO.refl _) fun t => LeO.bind (ylines_rows.mono n t k) fun l => LeO.ite (cutGo_mono k ps _ _) (LeO.refl _)) (LeO.refl _)) (LeO.refl _)) (LeO.refl _)
def ylines_Cut.f (k : Nat) (a0 : ByteArray) : Option (List S32 × Int × Int) := if a0.size ≤ 140737488351232 then (if (a0.size : Int) > 1048576 then some ([], 0, 2) else cutGo k (texts 10 a0) 0 []) else none
theorem ylines_Cut.mono : ∀ a0 k, LeO (ylines_Cut.f k a0) (ylines_Cut.f (k + 1) a0) := fun a0 k => LeO.ite (LeO.ite (LeO.refl _) (cutGo_mono k _ _ _)) (LeO.refl _)
/-- What stands when some pieces are done. -/
def CutI (w : World) (k : Nat) (a0 : ByteArray) (r : List S32 × Int × Int) (pre : List ByteArray) (W : World) : Prop :=
  ∃ (n : Int) (out : List S32) (vo : Value), (∀ post, texts 10 a0 = pre ++ post → cutGo k post n out = some r) ∧
    W.heap[w.heap.size]? = some (.cells #[.slice none 0 0] 23 (0, 0)) ∧ W.heap[w.heap.size + 1]? = some (.cells #[.int .i64 0] 3 (0, 0)) ∧ W.heap[w.heap.size + 1 + 1]? = some (.cells #[.int .i64 0] 24 (0, 0)) ∧
    W.heap[w.heap.size + 1 + 1 + 1]? = some (.cells #[vo] 23 (0, 0)) ∧ W.heap[w.heap.size + 1 + 1 + 1 + 1]? = some (.cells #[.int .i64 n] 3 (0, 0)) ∧
    Kd.R k32 32 W w.heap.size (fun j => w.heap.size + 8 ≤ j) vo out ∧ Below w.heap.size w W ∧ w.heap.size + 8 ≤ W.heap.size
/-- What stands when a piece ended it. -/
def CutX (w : World) (r : List S32 × Int × Int) (c : Code) (W : World) : Prop :=
  c = .ret ∧ r.1 = [] ∧ W.heap[w.heap.size]? = some (.cells #[.slice none 0 0] 23 (0, 0)) ∧ W.heap[w.heap.size + 1]? = some (.cells #[.int .i64 r.2.1] 3 (0, 0)) ∧ W.heap[w.heap.size + 1 + 1]? = some (.cells #[.int .i64 r.2.2] 24 (0, 0)) ∧ Below w.heap.size w W
/-- A block that a round's own machinery doesn't touch. -/
def Quiet (w : World) (A : World) (row : Option Nat) : Prop := ∀ q, row = some q → q = w.heap.size + 5 ∨ (w.heap.size + 8 ≤ q ∧ ∃ o : Obj, A.heap[q]? = some o ∧ o.isCells = false)
theorem CutI.grown {w : World} {k : Nat} {a0 : ByteArray} {r : List S32 × Int × Int} {pre : List ByteArray} {A B : World} {row : Option Nat} (h : CutI w k a0 r pre A) (hg : A.grownBy B row) (hr : Quiet w A row) : CutI w k a0 r pre B := by
  obtain ⟨n, out, vo, h0, h1, h2, h3, h4, h5, h6, h7, h8⟩ := h
  have keep : ∀ (j : Nat) (o : Obj), j < w.heap.size + 5 → A.heap[j]? = some o → B.heap[j]? = some o := fun j o hj ho => (hg.block j (Array.getElem?_eq_some_iff.1 ho).1 (fun e => by rcases hr j e.symm with e | e <;> omega)).trans ho
  refine ⟨n, out, vo, h0, keep _ _ (by omega) h1, keep _ _ (by omega) h2, keep _ _ (by omega) h3, keep _ _ (by omega) h4, keep _ _ (by omega) h5, ?_, h7.grown hg h7.size (fun q e => by rcases hr q e with e | e <;> omega), Nat.le_trans h8 hg.size⟩
  refine Kd.R_grown2 h6 rfl hg (fun q e he => ?_)
  obtain ⟨ho, _, _, t, _, cells, hcs⟩ := (Kd.R_bound h6).1 q he.symm
  rcases hr q e with e1 | ⟨e1, o, ho1, hc⟩
  · omega
  · rw [hcs] at ho1
    cases ho1
    cases hc
theorem CutX.grown {w : World} {r : List S32 × Int × Int} {c : Code} {A B : World} {row : Option Nat} (h : CutX w r c A) (hg : A.grownBy B row) (hr : Quiet w A row) : CutX w r c B := by
  obtain ⟨h0, h1, h2, h3, h4, h7⟩ := h
  have keep : ∀ (j : Nat) (o : Obj), j < w.heap.size + 5 → A.heap[j]? = some o → B.heap[j]? = some o := fun j o hj ho => (hg.block j (Array.getElem?_eq_some_iff.1 ho).1 (fun e => by rcases hr j e.symm with e | e <;> omega)).trans ho
  exact ⟨h0, h1, keep _ _ (by omega) h2, keep _ _ (by omega) h3, keep _ _ (by omega) h4, h7.grown hg h7.size (fun q e => by rcases hr q e with e | e <;> omega)⟩
def cut9.T9 : Bool × List (List Nat × List Nat) := (true, [([], []), ([], []), ([], []), ([0, 2, 0, 2], [0]), ([1, 3, 0, 1, 2, 3], [1])])
def cut9.B9 : List Nat := [0, 0, 0, 5, 15]
theorem cut9.tab9 : rtab .any (opsOf Tryd.f6 9) = cut9.T9 := by kernel_rfl
theorem cut9.bits9 : waitsOk cut9.T9.2 cut9.B9 = true := by kernel_rfl
def cut12.T12 : Bool × List (List Nat × List Nat) := (true, [([], []), ([], []), ([0, 1, 0, 1], [0]), ([2, 0, 1, 2], [])])
def cut12.B12 : List Nat := [0, 0, 3, 7]
theorem cut12.tab12 : rtab .any (opsOf Tryd.f6 12) = cut12.T12 := by kernel_rfl
theorem cut12.bits12 : waitsOk cut12.T12.2 cut12.B12 = true := by kernel_rfl
def cut13.T13 : Bool × List (List Nat × List Nat) := (true, [([], []), ([], []), ([], []), ([], []), ([2, 3], [2, 3]), ([4], [4]), ([1, 5, 5], [1, 5]), ([0, 6, 6], [0, 6]), ([7, 7, 0, 1, 2, 3, 4, 5, 6, 7], [7])])
def cut13.B13 : List Nat := [0, 0, 0, 0, 12, 28, 62, 127, 255]
theorem cut13.tab13 : rtab .any (opsOf Tryd.f6 13) = cut13.T13 := by kernel_rfl
theorem cut13.bits13 : waitsOk cut13.T13.2 cut13.B13 = true := by kernel_rfl
theorem push_at (W : World) (o : Obj) (j : Nat) : (W.alloc o).heap[j]? = if j = W.heap.size then some o else W.heap[j]? := Array.getElem?_push
theorem keeps_drawn' {W W' : World} (h : Drawn0 W W') : W'.heap = W.heap := by
  obtain ⟨n, rfl⟩ := h
  induction n with
  | zero => rfl
  | succ n ih => exact ih
set_option maxRecDepth 100000 in
set_option maxHeartbeats 4000000 in
theorem ylines_Cut.calls (k : Nat) (a0 : ByteArray) (r1 : List S32) (r2 r3 : Int) (w : World) (h : ylines_Cut.f k a0 = some (r1, r2, r3)) (hG : GW.GW w) :
    Calls Tryd.prog 6 #[.string a0] w fun e w' => ∃ v0_ : Value, e = .returned (.tuple #[v0_, .int .i64 r2, .int .i64 r3]) ∧ Kd.R k32 32 w' w.heap.size (fun _ => True) v0_ r1 ∧ Below w.heap.size w w' := by
  have hsz : a0.size ≤ 140737488351232 := Decidable.by_contra fun hn => by rw [ylines_Cut.f, if_neg hn] at h; cases h
  rw [ylines_Cut.f, if_pos hsz] at h
  refine (callsIn_wide (n := 8)).1 ?_
  refine callsIn_of_wp_marks Tryd.func6 rfl trivial ?_ rfl
  simp only [Tryd.ntmps6, List.size_toArray, List.length_cons, List.length_nil, Nat.reduceAdd, Nat.reduceSub, Array.replicate_succ, Array.replicate_zero, List.push_toArray, List.append_toArray, List.nil_append, List.cons_append]
  by_cases hlong : (a0.size : Int) > 1048576
  · rw [if_pos hlong] at h
    simp only [Option.some.injEq, Prod.mk.injEq] at h
    obtain ⟨rfl, rfl, rfl⟩ := h
    clear hsz
    gi_wp2
    have hp : ∀ (V : World) (o : Obj) (j : Nat), (V.alloc o).heap[j]? = if j = V.heap.size then some o else V.heap[j]? := push_at
    obtain ⟨W3, hW3⟩ : ∃ W3, (((w.alloc (.cells #[.slice none 0 0] 23)).alloc (.cells #[.int .i64 0] 3)).alloc (.cells #[.int .i64 2] 24)) = W3 := ⟨_, rfl⟩
    have q0 : W3.heap[w.heap.size]? = some (.cells #[.slice none 0 0] 23 (0, 0)) := by
      rw [← hW3, hp, if_neg (by simp only [World.size_alloc]; omega), hp, if_neg (by simp only [World.size_alloc]; omega), hp, if_pos rfl]
    have q1 : W3.heap[w.heap.size + 1]? = some (.cells #[.int .i64 0] 3 (0, 0)) := by
      rw [← hW3, hp, if_neg (by simp only [World.size_alloc]; omega), hp, if_pos (by simp only [World.size_alloc])]
    have q2 : W3.heap[w.heap.size + 1 + 1]? = some (.cells #[.int .i64 2] 24 (0, 0)) := by
      rw [← hW3, hp, if_pos (by simp only [World.size_alloc])]
    have B3 : Below w.heap.size w W3 := by
      rw [← hW3]
      exact (((Below.refl _ w).alloc (Nat.le_refl _) _).alloc (by simp) _).alloc (by simp; omega) _
    rw [hW3]
    clear hW3
    have d0 := cellOf q0
    have d1 := cellOf q1
    have d2 := cellOf q2
    refine ⟨.tuple #[.slice none 0 0, .int .i64 0, .int .i64 2], ?_, ⟨_, rfl, Kd.R_nil _ _ _ _ _, B3⟩⟩
    simp [results, Tryd.f6, go_sem, d0, d1, d2]
  · rw [if_neg hlong] at h
    gi_wp2_with (refine ⟨trivial, ?_⟩; gi_at_call 9; refine (seq_in _ 10 a0 _).mono ?_; rintro e w' ⟨rfl, rfl⟩)
    clear hlong
    obtain ⟨W0, hW0⟩ : ∃ W0, ((((((((w.alloc (.cells #[.slice none 0 0] 23)).alloc (.cells #[.int .i64 0] 3)).alloc (.cells #[.int .i64 0] 24)).alloc (.cells #[.slice none 0 0] 23)).alloc (.cells #[.int .i64 0] 3)).alloc (.cells #[.string a0] 9)).alloc (.cells #[.string ⟨#[10]⟩] 9)).alloc (.cells #[.int .i64 0] 3)) = W0 := ⟨_, rfl⟩
    have hs0 : W0.heap.size = w.heap.size + 8 := by rw [← hW0]; simp
    have hat : ∀ j : Nat, j < 8 → W0.heap[w.heap.size + j]? = some (.cells #[([.slice none 0 0, .int .i64 0, .int .i64 0, .slice none 0 0, .int .i64 0, .string a0, .string ⟨#[10]⟩, .int .i64 0] : List Value).getD j undef] (([23, 3, 24, 23, 3, 9, 9, 3] : List Nat).getD j 0) (0, 0)) := by
      rw [← hW0]
      intro j hj
      have : j = 0 ∨ j = 1 ∨ j = 2 ∨ j = 3 ∨ j = 4 ∨ j = 5 ∨ j = 6 ∨ j = 7 := by omega
      rcases this with rfl | rfl | rfl | rfl | rfl | rfl | rfl | rfl <;> simp only [push_at, World.size_alloc] <;> repeat (first | rw [if_pos (by omega)] | rw [if_neg (by omega)])
      all_goals rfl
    have hBW : Below w.heap.size w W0 := by
      rw [← hW0]
      exact ((((((((Below.refl _ w).alloc (Nat.le_refl _) _).alloc (by simp) _).alloc (by simp; omega) _).alloc (by simp; omega) _).alloc (by simp; omega) _).alloc (by simp; omega) _).alloc (by simp; omega) _).alloc (by simp; omega) _
    rw [hW0]
    clear hW0
    have hI0 : CutI w k a0 (r1, r2, r3) [] W0 := ⟨0, [], .slice none 0 0, fun post hp => by rw [List.nil_append] at hp; rw [← hp]; exact h, hat 0 (by omega), hat 1 (by omega), hat 2 (by omega), hat 3 (by omega), hat 4 (by omega), Kd.R_nil _ _ _ _ _, hBW, by omega⟩
    have hA : At (w.heap.size + 1 + 1 + 1 + 1 + 1) (w.heap.size + 1 + 1 + 1 + 1 + 1 + 1) (w.heap.size + 1 + 1 + 1 + 1 + 1 + 1 + 1) 10 a0 W0 := ⟨hat 5 (by omega), hat 6 (by omega), hat 7 (by omega)⟩
    have HH : Hid _ := h
    clear h
    refine wpIn_rangeFunc_ownC (b := w.heap.size + 1 + 1 + 1 + 1 + 1) (by omega) rfl (by omega) (gf := 33) (lb := #[.pointer (some ⟨w.heap.size + 1 + 1 + 1 + 1 + 1 + 1, 0, none⟩), .pointer (some ⟨w.heap.size + 1 + 1 + 1 + 1 + 1, 0, none⟩), .pointer (some ⟨w.heap.size + 1 + 1 + 1 + 1 + 1 + 1 + 1, 0, none⟩)]) rfl trivial (enters_of Tryd.func33 (by kernel_rfl) rfl)
      (iter (8 - 1) (by omega) (w.heap.size + 1 + 1 + 1 + 1 + 1) (w.heap.size + 1 + 1 + 1 + 1 + 1 + 1) (w.heap.size + 1 + 1 + 1 + 1 + 1 + 1 + 1) 10 a0 hsz W0 (by omega) (by omega) (by omega) (by omega) (by omega) hA)
      (fun h1 h2 => ⟨h2.1.trans h1.1, h2.2.1.trans h1.2.1, h2.2.2.trans h1.2.2⟩)
      (fun W l o o' hl _ _ _ => ⟨World.putObj_heap_other (by omega), World.putObj_heap_other (by omega), World.putObj_heap_other (by omega)⟩) (Below.refl _ _) (fun _ => rfl)
      (fun pre W => CutI w k a0 (r1, r2, r3) pre W)
      (fun c _ W => CutX w (r1, r2, r3) c W)
      (fun s A B row hs hg hr => hs.grown hg (fun q e => by rcases hr q e with e1 | ⟨e1, e2⟩; exact .inl (by omega); exact .inr ⟨by omega, e2⟩))
      (fun c s A B row hs hg hr => hs.grown hg (fun q e => by rcases hr q e with e1 | ⟨e1, e2⟩; exact .inl (by omega); exact .inr ⟨by omega, e2⟩))
      hI0
      (fun x => { tmps := #[.string a0, undef, .pointer (some ⟨w.heap.size, 0, none⟩), .pointer (some ⟨w.heap.size + 1, 0, none⟩), .pointer (some ⟨w.heap.size + 1 + 1, 0, none⟩), .pointer (some ⟨w.heap.size + 1 + 1 + 1, 0, none⟩), .pointer (some ⟨w.heap.size + 1 + 1 + 1 + 1, 0, none⟩), .string x, undef, undef, undef, .string a0, .int .i64 (a0.size : Int), .bool false, .string a0, .func (.func 33) #[] #[.pointer (some ⟨w.heap.size + 1 + 1 + 1 + 1 + 1 + 1, 0, none⟩), .pointer (some ⟨w.heap.size + 1 + 1 + 1 + 1 + 1, 0, none⟩), .pointer (some ⟨w.heap.size + 1 + 1 + 1 + 1 + 1 + 1 + 1, 0, none⟩)], .string x, undef, undef, undef, undef, undef, undef, undef, undef, undef, undef, undef, undef, undef, undef, undef, undef, undef, undef, undef, undef, undef, undef, undef, undef, undef], defers := [] }) ?assign ?body ?done ?stop
    case assign =>
      intro l x W K hK
      gi_wp2
      exact hK
    case body =>
      rintro l pre x W ⟨n, out, vo, hgo, h0, h1, h2, h3, h4, hR, hB, xW8⟩ ⟨post, hpost⟩
      have hx := hgo (x :: post) (by rw [← hpost, List.append_assoc]; rfl)
      rw [cutGo] at hx
      obtain ⟨e, he, hx⟩ := Option.bind_eq_some_iff.1 hx
      have hce := ylines_wrong.calls k x e W he (GW.below hG hB)
      have hcc := cellOf h4
      have hx' : Hid _ := hx
      by_cases hz : e = 0
      · rw [if_pos hz] at hx
        obtain ⟨⟨qi, qb⟩, hq, hx⟩ := Option.bind_eq_some_iff.1 hx
        subst hz
        clear hx'
        by_cases hqb : qb = true
        · subst hqb
          rw [if_pos rfl] at hx
          by_cases hqi : 0 ≤ qi ∧ qi ≤ (x.size : Int)
          · rw [if_pos hqi] at hx
            obtain ⟨t, ht, hx⟩ := Option.bind_eq_some_iff.1 hx
            obtain ⟨ls, hls, hx⟩ := Option.bind_eq_some_iff.1 hx
            by_cases hln : (out.length + ls.length) * 40 ≤ 140737488355328
            · rw [if_pos hln] at hx
              have HX : Hid _ := hx
              have HL : Hid _ := hln
              clear hx hln
              gi_wp2_with (first | (refine ⟨trivial, ?_⟩; gi_at_call 10; refine (CallsIn.inRound l (callsIn_wide.2 hce)).mono ?_; rintro e9 w' ⟨rfl, hd⟩) | (refine ⟨trivial, ?_⟩; gi_at_call 11; refine (CallsIn.inRound l (callsIn_wide.2 (ylines_remark.calls k x qi true w' hq))).mono ?_; rintro e8 w2 ⟨rfl, hd2⟩))
              replace hd := hd.trans (hd2.below.mono hd.size)
              obtain ⟨Ao, co, eo⟩ := Kd.R_slice hR
              subst eo
              obtain ⟨u0, hu0⟩ : ∃ q, w2.drew = q := ⟨_, rfl⟩
              have xh : u0.heap = w2.heap := by rw [← hu0]; rfl
              have xk : ∀ (i : Nat) (o : Obj), W.heap[i]? = some o → u0.heap[i]? = some o := fun i o ho => by rw [xh]; exact (hd.block _ (Array.getElem?_eq_some_iff.1 ho).1).trans ho
              have x0_0 := xk _ _ h0
              have x0_1 := xk _ _ h1
              have x0_2 := xk _ _ h2
              have x0_4 := xk _ _ h4
              have xK0 : ∀ (i : Nat) (o : Obj), i ≠ w.heap.size → i ≠ w.heap.size + 1 → i ≠ w.heap.size + 1 + 1 → W.heap[i]? = some o → u0.heap[i]? = some o := fun i o _ _ _ ho => xk i o ho
              have xB0 : Below w.heap.size w u0 := by rw [← hu0]; exact (hB.trans (hd.mono hB.size)).drew
              have hdu : Below W.heap.size W u0 := by rw [← hu0]; exact hd.drew
              refine startIn_ (l := l) (m := 9) (S := fun w' => w'.cell? ⟨w.heap.size + 1 + 1 + 1, 0, none⟩ = some (.slice Ao out.length co) ∧ w'.cell? ⟨w.heap.size + 1 + 1 + 1 + 1, 0, none⟩ = some (.int .i64 n)) (ds := [8]) #[false, false, false, false, false, false, false, false, false] (by kernel_rfl) (by kernel_rfl) (fun hq => by obtain ⟨_, _, hq⟩ := hq; exact hq) rfl rfl ⟨(by rw [hu0]; exact cellOf (xk _ _ h3)), (by rw [hu0]; exact cellOf (xk _ _ h4))⟩ (fun hHeld => ?_)
              rw [hu0] at hHeld ⊢
              refine with_tabW cut13.tab13 cut13.bits13 (fun HT_ HW_ => ?_)
              refine pure_ (i := 2) (N := some 33) (v := ?_) (a' := ?_) #[false, false, true, false, false, false, false, false, false] rfl rfl (any_of HT_.out (by kernel_rfl)) (fun _ _ _ h => h) (Or.inl ⟨by rfl, ?_⟩) ?_ ?_
              rotate_left
              · intro w'
                go_simp
                with_reducible rfl
              rotate_left
              · simp only [Act.put, List.setIfInBounds_toArray, List.set_cons_zero, List.set_cons_succ, i64_w, i32_w]
                rfl
              refine pure_ (i := 3) (N := some 34) (v := ?_) (a' := ?_) #[false, false, true, true, false, false, false, false, false] rfl rfl (any_of HT_.out (by kernel_rfl)) (fun _ _ _ h => h) (Or.inl ⟨by rfl, ?_⟩) ?_ ?_
              rotate_left
              · intro w'
                go_simp
                with_reducible rfl
              rotate_left
              · simp only [Act.put, List.setIfInBounds_toArray, List.set_cons_zero, List.set_cons_succ, i64_w, i32_w]
                rfl
              refine pure_ (i := 4) (N := some 35) (v := ?_) (a' := ?_) #[false, false, true, true, true, false, false, false, false] rfl rfl (any_of HT_.out (by kernel_rfl)) (fun _ _ _ h => h) (Or.inl ⟨by rfl, ?_⟩) ?_ ?_
              rotate_left
              · intro w'
                go_simp
                with_reducible rfl
              rotate_left
              · simp only [Act.put, List.setIfInBounds_toArray, List.set_cons_zero, List.set_cons_succ, i64_w, i32_w]
                rfl
              refine take_ (i := 0) (N := some 31) (v := ?_) (a' := ?_) #[true, false, true, true, true, false, false, false, false] rfl rfl (take_ofW HT_.out HW_.out (by kernel_rfl)) (fun _ _ _ h => h) (Or.inl ⟨by rfl, ?_⟩) hHeld ?_ ?_
              rotate_left
              · rintro w' ⟨s0, s1⟩
                go_simp
                with_reducible rfl
              rotate_left
              · simp only [Act.put, List.setIfInBounds_toArray, List.set_cons_zero, List.set_cons_succ, i64_w, i32_w]
                rfl
              refine take_ (i := 1) (N := some 32) (v := ?_) (a' := ?_) #[true, true, true, true, true, false, false, false, false] rfl rfl (take_ofW HT_.out HW_.out (by kernel_rfl)) (fun _ _ _ h => h) (Or.inl ⟨by rfl, ?_⟩) hHeld ?_ ?_
              rotate_left
              · rintro w' ⟨s0, s1⟩
                go_simp
                with_reducible rfl
              rotate_left
              · simp only [Act.put, List.setIfInBounds_toArray, List.set_cons_zero, List.set_cons_succ, i64_w, i32_w]
                rfl
              refine one_ (i := 5) (N := some 36) #[true, true, true, true, true, true, false, false, false] rfl rfl (one_of HT_.out (by kernel_rfl)) (by decide) (fun K hK => ?_)
              refine goes_ Tryd.func13 (by kernel_rfl) rfl #[.string (x.extract 0 qi.toNat), .string ⟨#[32]⟩] (by rfl) rfl rfl (by (try simp only [List.map_toArray, List.map_cons, List.map_nil]); first | done | rfl) ?_
              refine (strings_TrimRight.calls (x.extract 0 qi.toNat) ⟨#[32]⟩ t _ ht).mono ?_
              rintro e5 v1 ⟨rfl, hd5⟩
              refine ⟨_, rfl, ?_⟩
              have xk1 : ∀ (i : Nat) (o : Obj), W.heap[i]? = some o → v1.heap[i]? = some o := fun i o ho => by rw [keeps_drawn' hd5]; exact xk i o ho
              have y1 := hdu.trans (hd5.below.mono hdu.size)
              refine hK.out _ _ ⟨cellOf (xk1 _ _ h3), cellOf (xk1 _ _ h4)⟩ (fun hHeld => ?_)
              clear hK K
              refine norm_ (a' := ?_) ?_ ?_
              rotate_left
              · show Act.put _ (some 36) _ = _
                simp only [Act.put, List.setIfInBounds_toArray, List.set_cons_zero, List.set_cons_succ, i64_w, i32_w]
                rfl
              refine one_ (i := 6) (N := some 37) #[true, true, true, true, true, true, true, false, false] rfl rfl (one_of HT_.out (by kernel_rfl)) (by decide) (fun K hK => ?_)
              refine goes_ Tryd.func12 (by kernel_rfl) rfl #[.int .i64 n, .string t] (by rfl) rfl rfl (by (try simp only [List.map_toArray, List.map_cons, List.map_nil]); first | done | rfl) ?_
              refine (ylines_rows.calls k n t ls _ hls).mono ?_
              rintro e6 v2 ⟨vr, rfl, hRr, hB6⟩
              refine ⟨_, rfl, ?_⟩
              have xk2 : ∀ (i : Nat) (o : Obj), W.heap[i]? = some o → v2.heap[i]? = some o := fun i o ho => (hB6.block _ (Array.getElem?_eq_some_iff.1 (xk1 i o ho)).1).trans (xk1 i o ho)
              have y2 := y1.trans (hB6.mono y1.size)
              have hR2 := Kd.R_below hR y2
              have hB2 := hB.trans (y2.mono hB.size)
              obtain ⟨A6, c6, e6_, _, hC6⟩ := Kd.R_reads hRr
              subst e6_
              refine hK.out _ _ ⟨cellOf (xk2 _ _ h3), cellOf (xk2 _ _ h4)⟩ (fun hHeld => ?_)
              clear hK K
              refine norm_ (a' := ?_) ?_ ?_
              rotate_left
              · show Act.put _ (some 37) _ = _
                simp only [Act.put, List.setIfInBounds_toArray, List.set_cons_zero, List.set_cons_succ, i64_w, i32_w]
                rfl
              refine one_ (i := 7) (N := some 38) #[true, true, true, true, true, true, true, true, false] rfl rfl (one_of HT_.out (by kernel_rfl)) (by decide) (fun K hK => ?_)
              refine Kd.R_append_rows_step k32 (w0 := w) w.heap.size (by rfl) (.tmp 31) (.tmp 37) 23 32 (.agg #[.int .i64 0, .int .i64 0, .bool false, .string ⟨#[]⟩]) 40 rfl Tryd.underlying23 info32 rfl (by decide) (by omega) (.slice Ao out.length co) out ls A6 ls.length c6 (fun j => w.heap.size + 8 ≤ j) (fun _ => False) rfl rfl hR2 hC6 (fun _ _ h => h) (fun _ h => h.elim) (fun j hj => Nat.le_trans (Nat.le_trans xW8 y2.size) hj) hB2 hB2.size HL ?_
              intro vv v3 hR3 hB3 hg3 hat3
              obtain ⟨A7, c7, e7_⟩ := Kd.R_slice hR3
              subst e7_
              have xk3 : ∀ (i : Nat) (o : Obj), i < w.heap.size + 8 → W.heap[i]? = some o → v3.heap[i]? = some o := fun i o hi ho => (hg3.block _ (Array.getElem?_eq_some_iff.1 (xk2 i o ho)).1 (fun e_ => by have := hR2.1 i e_.symm; omega)).trans (xk2 i o ho)
              refine hK.out _ _ ⟨cellOf (xk3 _ _ (by omega) h3), cellOf (xk3 _ _ (by omega) h4)⟩ (fun hHeld => ?_)
              clear hK K
              refine norm_ (a' := ?_) ?_ ?_
              rotate_left
              · show Act.put _ (some 38) _ = _
                simp only [Act.put, List.setIfInBounds_toArray, List.set_cons_zero, List.set_cons_succ, i64_w, i32_w]
                rfl
              refine last_ (i := 8) (N := none) #[true, true, true, true, true, true, true, true, true] rfl rfl (one_of HT_.out (by kernel_rfl)) (by decide) (fun K hK => ?_)
              have zc := cellOf (xk3 _ _ (by omega) h3)
              have zf := freeOf (xk3 _ _ (by omega) h3)
              refine skip_ (w1 := ?_) (by rfl) rfl ?_ ?_
              rotate_left
              · go_simp
                rfl
              clear zc zf
              refine hK.out _ _ ?_
              clear hK K
              refine done_ (done_of HT_.out (by kernel_rfl)) ?_
              have hlen : out.length + ls.length = (out ++ ls).length := by rw [List.length_append]
              rw [hlen]
              clear HT_ HW_
              obtain ⟨v4, hv4⟩ : ∃ q, v3.setCell ⟨w.heap.size + 1 + 1 + 1, 0, none⟩ (.slice A7 (out ++ ls).length c7) = q := ⟨_, rfl⟩
              have far : ∀ (V : World) (i j : Nat) (v : Value), i ≠ j → (V.setCell ⟨i, 0, none⟩ v).heap[j]? = V.heap[j]? := fun V i j v hij => Below.heap_setCell V ⟨i, 0, none⟩ v j (fun e => hij e.symm)
              have z3 : v4.heap[w.heap.size + 1 + 1 + 1]? = some (.cells #[.slice A7 (out ++ ls).length c7] 23 (0, 0)) := by rw [← hv4]; exact one_setCell (xk3 _ _ (by omega) h3)
              have z4 : v4.heap[w.heap.size + 1 + 1 + 1 + 1]? = some (.cells #[.int .i64 n] 3 (0, 0)) := by rw [← hv4, far _ _ _ _ (by omega)]; exact xk3 _ _ (by omega) h4
              have c4 := cellOf z4
              have f4 := freeOf z4
              rw [hv4]
              gi_wp2
              obtain ⟨v5, hv5⟩ : ∃ q, v4.setCell ⟨w.heap.size + 1 + 1 + 1 + 1, 0, none⟩ (.int .i64 (wrap64 (n + 1))) = q := ⟨_, rfl⟩
              have al : ∀ (i : Nat), i ≠ w.heap.size + 1 + 1 + 1 → i ≠ w.heap.size + 1 + 1 + 1 + 1 → v5.heap[i]? = v3.heap[i]? := fun i q3 q4 => by rw [← hv5, far _ _ _ _ (fun e_ => q4 e_.symm), ← hv4, far _ _ _ _ (fun e_ => q3 e_.symm)]
              have sz : v5.heap.size = v3.heap.size := by rw [← hv5, ← hv4]; simp only [World.setCell, Array.size_modify]
              have s5 : W.heap.size ≤ v5.heap.size := by rw [sz]; exact Nat.le_trans y2.size hg3.size
              have lo : ∀ (i : Nat), i < w.heap.size + 8 → i ≠ w.heap.size + 1 + 1 + 1 → i ≠ w.heap.size + 1 + 1 + 1 + 1 → v5.heap[i]? = W.heap[i]? := fun i hi q3 q4 => by
                have hi2 : i < W.heap.size := by omega
                rw [al i q3 q4, xk3 i _ hi (Array.getElem?_eq_getElem hi2), Array.getElem?_eq_getElem hi2]
              rw [show v4.setCell ⟨w.heap.size + 1 + 1 + 1 + 1, 0, none⟩ (.int .i64 (wrap64 (n + 1))) = v5 from hv5]
              refine ⟨⟨s5, fun i o hi hc => ?_⟩, ⟨lo _ (by omega) (by omega) (by omega), lo _ (by omega) (by omega) (by omega), lo _ (by omega) (by omega) (by omega)⟩, wrap64 (n + 1), out ++ ls, .slice A7 (out ++ ls).length c7, ?_, (lo _ (by omega) (by omega) (by omega)).trans h0, (lo _ (by omega) (by omega) (by omega)).trans h1, (lo _ (by omega) (by omega) (by omega)).trans h2, ?_, ?_, ?_, ?_, by omega⟩
              · have n3 : i ≠ w.heap.size + 1 + 1 + 1 := fun e_ => by subst e_; rw [h3] at hi; cases hi; cases hc
                have n4 : i ≠ w.heap.size + 1 + 1 + 1 + 1 := fun e_ => by subst e_; rw [h4] at hi; cases hi; cases hc
                rw [al i n3 n4]
                refine (hg3.block _ (Array.getElem?_eq_some_iff.1 (xk2 i o hi)).1 (fun e_ => ?_)).trans (xk2 i o hi)
                obtain ⟨_, _, _, tt, _, cells, hcs⟩ := (Kd.R_bound hR2).1 i e_.symm
                rw [xk2 i o hi] at hcs
                cases hcs
                cases hc
              · intro post' hp
                have : post' = post := by
                  have := hpost.trans hp
                  simpa using this.symm
                subst this
                exact HX
              · rw [← hv5, far _ _ _ _ (by omega)]
                exact z3
              · rw [← hv5]
                exact one_setCell z4
              · rw [← hv5, ← hv4]
                exact Kd.R_far (Kd.R_far hR3 (p := ⟨w.heap.size + 1 + 1 + 1, 0, none⟩) (fun j hj => by show j ≠ w.heap.size + 1 + 1 + 1; omega) _) (p := ⟨w.heap.size + 1 + 1 + 1 + 1, 0, none⟩) (fun j hj => by show j ≠ w.heap.size + 1 + 1 + 1 + 1; omega) _
              · rw [← hv5, ← hv4]
                exact (hB3.setCell (p := ⟨w.heap.size + 1 + 1 + 1, 0, none⟩) (by show w.heap.size ≤ w.heap.size + 1 + 1 + 1; omega) _).setCell (p := ⟨w.heap.size + 1 + 1 + 1 + 1, 0, none⟩) (by show w.heap.size ≤ w.heap.size + 1 + 1 + 1 + 1; omega) _
            · rw [if_neg hln] at hx
              cases hx
          · rw [if_neg hqi] at hx
            cases hx
        · rw [if_neg hqb] at hx
          simp only [Option.some.injEq, Prod.mk.injEq] at hx
          obtain ⟨rfl, rfl, rfl⟩ := hx
          have hqf : qb = false := by simpa using hqb
          subst hqf
          clear hqb
          gi_wp2_with (first | (refine ⟨trivial, ?_⟩; gi_at_call 10; refine (CallsIn.inRound l (callsIn_wide.2 hce)).mono ?_; rintro e9 w' ⟨rfl, hd⟩) | (refine ⟨trivial, ?_⟩; gi_at_call 11; refine (CallsIn.inRound l (callsIn_wide.2 (ylines_remark.calls k x qi false w' hq))).mono ?_; rintro e8 w2 ⟨rfl, hd2⟩))
          replace hd := hd.trans (hd2.below.mono hd.size)
          obtain ⟨u0, hu0⟩ : ∃ q, w2.drew = q := ⟨_, rfl⟩
          have xh : u0.heap = w2.heap := by rw [← hu0]; rfl
          have xk : ∀ (i : Nat) (o : Obj), W.heap[i]? = some o → u0.heap[i]? = some o := fun i o ho => by rw [xh]; exact (hd.block _ (Array.getElem?_eq_some_iff.1 ho).1).trans ho
          have x0_0 := xk _ _ h0
          have x0_1 := xk _ _ h1
          have x0_2 := xk _ _ h2
          have x0_4 := xk _ _ h4
          have xK0 : ∀ (i : Nat) (o : Obj), i ≠ w.heap.size → i ≠ w.heap.size + 1 → i ≠ w.heap.size + 1 + 1 → W.heap[i]? = some o → u0.heap[i]? = some o := fun i o _ _ _ ho => xk i o ho
          have xB0 : Below w.heap.size w u0 := by rw [← hu0]; exact (hB.trans (hd.mono hB.size)).drew
          refine startIn_ (l := l) (m := 4) (S := fun w' => w'.cell? ⟨w.heap.size + 1 + 1 + 1 + 1, 0, none⟩ = some (.int .i64 n)) (ds := []) #[false, false, false, false] (by kernel_rfl) (by kernel_rfl) (fun hq => by obtain ⟨_, _, hq⟩ := hq; exact hq) rfl rfl ((by rw [hu0]; exact cellOf x0_4)) (fun hHeld => ?_)
          rw [hu0] at hHeld ⊢
          refine with_tabW cut12.tab12 cut12.bits12 (fun HT_ HW_ => ?_)
          refine take_ (i := 0) (N := some 30) (v := ?_) (a' := ?_) #[true, false, false, false] rfl rfl (take_ofW HT_.out HW_.out (by kernel_rfl)) (fun _ _ _ h => h) (Or.inl ⟨by rfl, ?_⟩) hHeld ?_ ?_
          rotate_left
          · intro w' s0
            go_simp
            with_reducible rfl
          rotate_left
          · simp only [Act.put, List.setIfInBounds_toArray, List.set_cons_zero, List.set_cons_succ, i64_w, i32_w]
            rfl
          refine one_ (i := 1) (N := none) #[true, true, false, false] rfl rfl (one_of HT_.out (by kernel_rfl)) (by decide) (fun K hK => ?_)
          have zc := cellOf x0_0
          have zf := freeOf x0_0
          refine skip_ (w1 := ?_) (by rfl) rfl ?_ ?_
          rotate_left
          · go_simp
            rfl
          clear zc zf
          obtain ⟨u1, hu1⟩ : ∃ q, u0.setCell ⟨w.heap.size, 0, none⟩ (.slice none 0 0) = q := ⟨_, rfl⟩
          have x1_0 : u1.heap[w.heap.size]? = some (.cells #[.slice none 0 0] 23 (0, 0)) := by rw [← hu1]; exact one_setCell x0_0
          have x1_1 : u1.heap[w.heap.size + 1]? = some (.cells #[.int .i64 0] 3 (0, 0)) := by rw [← hu1]; exact (Below.heap_setCell _ _ _ _ (by show w.heap.size + 1 ≠ w.heap.size; omega)).trans x0_1
          have x1_2 : u1.heap[w.heap.size + 1 + 1]? = some (.cells #[.int .i64 0] 24 (0, 0)) := by rw [← hu1]; exact (Below.heap_setCell _ _ _ _ (by show w.heap.size + 1 + 1 ≠ w.heap.size; omega)).trans x0_2
          have x1_4 : u1.heap[w.heap.size + 1 + 1 + 1 + 1]? = some (.cells #[.int .i64 n] 3 (0, 0)) := by rw [← hu1]; exact (Below.heap_setCell _ _ _ _ (by show w.heap.size + 1 + 1 + 1 + 1 ≠ w.heap.size; omega)).trans x0_4
          have xB1 : Below w.heap.size w u1 := by rw [← hu1]; exact xB0.setCell (p := ⟨w.heap.size, 0, none⟩) (by show w.heap.size ≤ w.heap.size; omega) _
          have xK1 : ∀ (i : Nat) (o : Obj), i ≠ w.heap.size → i ≠ w.heap.size + 1 → i ≠ w.heap.size + 1 + 1 → W.heap[i]? = some o → u1.heap[i]? = some o := fun i o q0 q1 q2 ho => by rw [← hu1]; exact (Below.heap_setCell _ _ _ _ (by show i ≠ w.heap.size; omega)).trans (xK0 i o q0 q1 q2 ho)
          rw [hu1]
          refine hK.out _ _ (cellOf x1_4) (fun hHeld => ?_)
          clear hK K
          refine one_ (i := 2) (N := none) #[true, true, true, false] rfl rfl (one_of HT_.out (by kernel_rfl)) (by decide) (fun K hK => ?_)
          have zc := cellOf x1_1
          have zf := freeOf x1_1
          refine skip_ (w1 := ?_) (by rfl) rfl ?_ ?_
          rotate_left
          · go_simp
            rfl
          clear zc zf
          obtain ⟨u2, hu2⟩ : ∃ q, u1.setCell ⟨w.heap.size + 1, 0, none⟩ (.int .i64 n) = q := ⟨_, rfl⟩
          have x2_0 : u2.heap[w.heap.size]? = some (.cells #[.slice none 0 0] 23 (0, 0)) := by rw [← hu2]; exact (Below.heap_setCell _ _ _ _ (by show w.heap.size ≠ w.heap.size + 1; omega)).trans x1_0
          have x2_1 : u2.heap[w.heap.size + 1]? = some (.cells #[.int .i64 n] 3 (0, 0)) := by rw [← hu2]; exact one_setCell x1_1
          have x2_2 : u2.heap[w.heap.size + 1 + 1]? = some (.cells #[.int .i64 0] 24 (0, 0)) := by rw [← hu2]; exact (Below.heap_setCell _ _ _ _ (by show w.heap.size + 1 + 1 ≠ w.heap.size + 1; omega)).trans x1_2
          have x2_4 : u2.heap[w.heap.size + 1 + 1 + 1 + 1]? = some (.cells #[.int .i64 n] 3 (0, 0)) := by rw [← hu2]; exact (Below.heap_setCell _ _ _ _ (by show w.heap.size + 1 + 1 + 1 + 1 ≠ w.heap.size + 1; omega)).trans x1_4
          have xB2 : Below w.heap.size w u2 := by rw [← hu2]; exact xB1.setCell (p := ⟨w.heap.size + 1, 0, none⟩) (by show w.heap.size ≤ w.heap.size + 1; omega) _
          have xK2 : ∀ (i : Nat) (o : Obj), i ≠ w.heap.size → i ≠ w.heap.size + 1 → i ≠ w.heap.size + 1 + 1 → W.heap[i]? = some o → u2.heap[i]? = some o := fun i o q0 q1 q2 ho => by rw [← hu2]; exact (Below.heap_setCell _ _ _ _ (by show i ≠ w.heap.size + 1; omega)).trans (xK1 i o q0 q1 q2 ho)
          rw [hu2]
          refine hK.out _ _ (cellOf x2_4) (fun hHeld => ?_)
          clear hK K
          refine one_ (i := 3) (N := none) #[true, true, true, true] rfl rfl (one_of HT_.out (by kernel_rfl)) (by decide) (fun K hK => ?_)
          have zc := cellOf x2_2
          have zf := freeOf x2_2
          refine skip_ (w1 := ?_) (by rfl) rfl ?_ ?_
          rotate_left
          · go_simp
            rfl
          clear zc zf
          obtain ⟨u3, hu3⟩ : ∃ q, u2.setCell ⟨w.heap.size + 1 + 1, 0, none⟩ (.int .i64 11) = q := ⟨_, rfl⟩
          have x3_0 : u3.heap[w.heap.size]? = some (.cells #[.slice none 0 0] 23 (0, 0)) := by rw [← hu3]; exact (Below.heap_setCell _ _ _ _ (by show w.heap.size ≠ w.heap.size + 1 + 1; omega)).trans x2_0
          have x3_1 : u3.heap[w.heap.size + 1]? = some (.cells #[.int .i64 n] 3 (0, 0)) := by rw [← hu3]; exact (Below.heap_setCell _ _ _ _ (by show w.heap.size + 1 ≠ w.heap.size + 1 + 1; omega)).trans x2_1
          have x3_2 : u3.heap[w.heap.size + 1 + 1]? = some (.cells #[.int .i64 11] 24 (0, 0)) := by rw [← hu3]; exact one_setCell x2_2
          have x3_4 : u3.heap[w.heap.size + 1 + 1 + 1 + 1]? = some (.cells #[.int .i64 n] 3 (0, 0)) := by rw [← hu3]; exact (Below.heap_setCell _ _ _ _ (by show w.heap.size + 1 + 1 + 1 + 1 ≠ w.heap.size + 1 + 1; omega)).trans x2_4
          have xB3 : Below w.heap.size w u3 := by rw [← hu3]; exact xB2.setCell (p := ⟨w.heap.size + 1 + 1, 0, none⟩) (by show w.heap.size ≤ w.heap.size + 1 + 1; omega) _
          have xK3 : ∀ (i : Nat) (o : Obj), i ≠ w.heap.size → i ≠ w.heap.size + 1 → i ≠ w.heap.size + 1 + 1 → W.heap[i]? = some o → u3.heap[i]? = some o := fun i o q0 q1 q2 ho => by rw [← hu3]; exact (Below.heap_setCell _ _ _ _ (by show i ≠ w.heap.size + 1 + 1; omega)).trans (xK2 i o q0 q1 q2 ho)
          rw [hu3]
          refine hK.out _ _ (cellOf x3_4) (fun hHeld => ?_)
          clear hK K
          refine done_ (done_of HT_.out (by kernel_rfl)) ?_
          clear HT_ HW_ hHeld
          gi_wp2
          exact ⟨⟨by rw [← hu3, ← hu2, ← hu1]; simp only [World.setCell, Array.size_modify]; rw [xh]; exact hd.size, fun i o hi hc => xK3 i o (fun e_ => by subst e_; rw [h0] at hi; cases hi; cases hc) (fun e_ => by subst e_; rw [h1] at hi; cases hi; cases hc) (fun e_ => by subst e_; rw [h2] at hi; cases hi; cases hc) hi⟩, rfl, rfl, x3_0, x3_1, x3_2, xB3⟩
      · rw [if_neg hz] at hx
        simp only [Option.some.injEq, Prod.mk.injEq] at hx
        obtain ⟨rfl, rfl, rfl⟩ := hx
        clear hx'
        have hzb : (!(decide (e = 0))) = true := by simp [hz]
        gi_wp2_with (refine ⟨trivial, ?_⟩; gi_at_call 10; refine (CallsIn.inRound l (callsIn_wide.2 hce)).mono ?_; rintro e9 w' ⟨rfl, hd⟩)
        obtain ⟨u0, hu0⟩ : ∃ q, w'.drew = q := ⟨_, rfl⟩
        have xh : u0.heap = w'.heap := by rw [← hu0]; rfl
        have xk : ∀ (i : Nat) (o : Obj), W.heap[i]? = some o → u0.heap[i]? = some o := fun i o ho => by rw [xh]; exact (hd.block _ (Array.getElem?_eq_some_iff.1 ho).1).trans ho
        have x0_0 := xk _ _ h0
        have x0_1 := xk _ _ h1
        have x0_2 := xk _ _ h2
        have x0_4 := xk _ _ h4
        have xK0 : ∀ (i : Nat) (o : Obj), i ≠ w.heap.size → i ≠ w.heap.size + 1 → i ≠ w.heap.size + 1 + 1 → W.heap[i]? = some o → u0.heap[i]? = some o := fun i o _ _ _ ho => xk i o ho
        have xB0 : Below w.heap.size w u0 := by rw [← hu0]; exact (hB.trans (hd.mono hB.size)).drew
        refine startIn_ (l := l) (m := 5) (S := fun w' => w'.cell? ⟨w.heap.size + 1 + 1 + 1 + 1, 0, none⟩ = some (.int .i64 n)) (ds := []) #[false, false, false, false, false] (by kernel_rfl) (by kernel_rfl) (fun hq => by obtain ⟨_, _, hq⟩ := hq; exact hq) rfl rfl ((by rw [hu0]; exact cellOf x0_4)) (fun hHeld => ?_)
        rw [hu0] at hHeld ⊢
        refine with_tabW cut9.tab9 cut9.bits9 (fun HT_ HW_ => ?_)
        refine pure_ (i := 1) (N := some 22) (v := ?_) (a' := ?_) #[false, true, false, false, false] rfl rfl (any_of HT_.out (by kernel_rfl)) (fun _ _ _ h => h) (Or.inl ⟨by rfl, ?_⟩) ?_ ?_
        rotate_left
        · intro w'
          go_simp
          with_reducible rfl
        rotate_left
        · simp only [Act.put, List.setIfInBounds_toArray, List.set_cons_zero, List.set_cons_succ, i64_w, i32_w]
          rfl
        refine take_ (i := 0) (N := some 21) (v := ?_) (a' := ?_) #[true, true, false, false, false] rfl rfl (take_ofW HT_.out HW_.out (by kernel_rfl)) (fun _ _ _ h => h) (Or.inl ⟨by rfl, ?_⟩) hHeld ?_ ?_
        rotate_left
        · intro w' s0
          go_simp
          with_reducible rfl
        rotate_left
        · simp only [Act.put, List.setIfInBounds_toArray, List.set_cons_zero, List.set_cons_succ, i64_w, i32_w]
          rfl
        refine one_ (i := 2) (N := none) #[true, true, true, false, false] rfl rfl (one_of HT_.out (by kernel_rfl)) (by decide) (fun K hK => ?_)
        have zc := cellOf x0_0
        have zf := freeOf x0_0
        refine skip_ (w1 := ?_) (by rfl) rfl ?_ ?_
        rotate_left
        · go_simp
          rfl
        clear zc zf
        obtain ⟨u1, hu1⟩ : ∃ q, u0.setCell ⟨w.heap.size, 0, none⟩ (.slice none 0 0) = q := ⟨_, rfl⟩
        have x1_0 : u1.heap[w.heap.size]? = some (.cells #[.slice none 0 0] 23 (0, 0)) := by rw [← hu1]; exact one_setCell x0_0
        have x1_1 : u1.heap[w.heap.size + 1]? = some (.cells #[.int .i64 0] 3 (0, 0)) := by rw [← hu1]; exact (Below.heap_setCell _ _ _ _ (by show w.heap.size + 1 ≠ w.heap.size; omega)).trans x0_1
        have x1_2 : u1.heap[w.heap.size + 1 + 1]? = some (.cells #[.int .i64 0] 24 (0, 0)) := by rw [← hu1]; exact (Below.heap_setCell _ _ _ _ (by show w.heap.size + 1 + 1 ≠ w.heap.size; omega)).trans x0_2
        have x1_4 : u1.heap[w.heap.size + 1 + 1 + 1 + 1]? = some (.cells #[.int .i64 n] 3 (0, 0)) := by rw [← hu1]; exact (Below.heap_setCell _ _ _ _ (by show w.heap.size + 1 + 1 + 1 + 1 ≠ w.heap.size; omega)).trans x0_4
        have xB1 : Below w.heap.size w u1 := by rw [← hu1]; exact xB0.setCell (p := ⟨w.heap.size, 0, none⟩) (by show w.heap.size ≤ w.heap.size; omega) _
        have xK1 : ∀ (i : Nat) (o : Obj), i ≠ w.heap.size → i ≠ w.heap.size + 1 → i ≠ w.heap.size + 1 + 1 → W.heap[i]? = some o → u1.heap[i]? = some o := fun i o q0 q1 q2 ho => by rw [← hu1]; exact (Below.heap_setCell _ _ _ _ (by show i ≠ w.heap.size; omega)).trans (xK0 i o q0 q1 q2 ho)
        rw [hu1]
        refine hK.out _ _ (cellOf x1_4) (fun hHeld => ?_)
        clear hK K
        refine one_ (i := 3) (N := none) #[true, true, true, true, false] rfl rfl (one_of HT_.out (by kernel_rfl)) (by decide) (fun K hK => ?_)
        have zc := cellOf x1_1
        have zf := freeOf x1_1
        refine skip_ (w1 := ?_) (by rfl) rfl ?_ ?_
        rotate_left
        · go_simp
          rfl
        clear zc zf
        obtain ⟨u2, hu2⟩ : ∃ q, u1.setCell ⟨w.heap.size + 1, 0, none⟩ (.int .i64 n) = q := ⟨_, rfl⟩
        have x2_0 : u2.heap[w.heap.size]? = some (.cells #[.slice none 0 0] 23 (0, 0)) := by rw [← hu2]; exact (Below.heap_setCell _ _ _ _ (by show w.heap.size ≠ w.heap.size + 1; omega)).trans x1_0
        have x2_1 : u2.heap[w.heap.size + 1]? = some (.cells #[.int .i64 n] 3 (0, 0)) := by rw [← hu2]; exact one_setCell x1_1
        have x2_2 : u2.heap[w.heap.size + 1 + 1]? = some (.cells #[.int .i64 0] 24 (0, 0)) := by rw [← hu2]; exact (Below.heap_setCell _ _ _ _ (by show w.heap.size + 1 + 1 ≠ w.heap.size + 1; omega)).trans x1_2
        have x2_4 : u2.heap[w.heap.size + 1 + 1 + 1 + 1]? = some (.cells #[.int .i64 n] 3 (0, 0)) := by rw [← hu2]; exact (Below.heap_setCell _ _ _ _ (by show w.heap.size + 1 + 1 + 1 + 1 ≠ w.heap.size + 1; omega)).trans x1_4
        have xB2 : Below w.heap.size w u2 := by rw [← hu2]; exact xB1.setCell (p := ⟨w.heap.size + 1, 0, none⟩) (by show w.heap.size ≤ w.heap.size + 1; omega) _
        have xK2 : ∀ (i : Nat) (o : Obj), i ≠ w.heap.size → i ≠ w.heap.size + 1 → i ≠ w.heap.size + 1 + 1 → W.heap[i]? = some o → u2.heap[i]? = some o := fun i o q0 q1 q2 ho => by rw [← hu2]; exact (Below.heap_setCell _ _ _ _ (by show i ≠ w.heap.size + 1; omega)).trans (xK1 i o q0 q1 q2 ho)
        rw [hu2]
        refine hK.out _ _ (cellOf x2_4) (fun hHeld => ?_)
        clear hK K
        refine one_ (i := 4) (N := none) #[true, true, true, true, true] rfl rfl (one_of HT_.out (by kernel_rfl)) (by decide) (fun K hK => ?_)
        have zc := cellOf x2_2
        have zf := freeOf x2_2
        refine skip_ (w1 := ?_) (by rfl) rfl ?_ ?_
        rotate_left
        · go_simp
          rfl
        clear zc zf
        obtain ⟨u3, hu3⟩ : ∃ q, u2.setCell ⟨w.heap.size + 1 + 1, 0, none⟩ (.int .i64 e) = q := ⟨_, rfl⟩
        have x3_0 : u3.heap[w.heap.size]? = some (.cells #[.slice none 0 0] 23 (0, 0)) := by rw [← hu3]; exact (Below.heap_setCell _ _ _ _ (by show w.heap.size ≠ w.heap.size + 1 + 1; omega)).trans x2_0
        have x3_1 : u3.heap[w.heap.size + 1]? = some (.cells #[.int .i64 n] 3 (0, 0)) := by rw [← hu3]; exact (Below.heap_setCell _ _ _ _ (by show w.heap.size + 1 ≠ w.heap.size + 1 + 1; omega)).trans x2_1
        have x3_2 : u3.heap[w.heap.size + 1 + 1]? = some (.cells #[.int .i64 e] 24 (0, 0)) := by rw [← hu3]; exact one_setCell x2_2
        have x3_4 : u3.heap[w.heap.size + 1 + 1 + 1 + 1]? = some (.cells #[.int .i64 n] 3 (0, 0)) := by rw [← hu3]; exact (Below.heap_setCell _ _ _ _ (by show w.heap.size + 1 + 1 + 1 + 1 ≠ w.heap.size + 1 + 1; omega)).trans x2_4
        have xB3 : Below w.heap.size w u3 := by rw [← hu3]; exact xB2.setCell (p := ⟨w.heap.size + 1 + 1, 0, none⟩) (by show w.heap.size ≤ w.heap.size + 1 + 1; omega) _
        have xK3 : ∀ (i : Nat) (o : Obj), i ≠ w.heap.size → i ≠ w.heap.size + 1 → i ≠ w.heap.size + 1 + 1 → W.heap[i]? = some o → u3.heap[i]? = some o := fun i o q0 q1 q2 ho => by rw [← hu3]; exact (Below.heap_setCell _ _ _ _ (by show i ≠ w.heap.size + 1 + 1; omega)).trans (xK2 i o q0 q1 q2 ho)
        rw [hu3]
        refine hK.out _ _ (cellOf x3_4) (fun hHeld => ?_)
        clear hK K
        refine done_ (done_of HT_.out (by kernel_rfl)) ?_
        clear HT_ HW_ hHeld
        gi_wp2
        exact ⟨⟨by rw [← hu3, ← hu2, ← hu1]; simp only [World.setCell, Array.size_modify]; rw [xh]; exact hd.size, fun i o hi hc => xK3 i o (fun e_ => by subst e_; rw [h0] at hi; cases hi; cases hc) (fun e_ => by subst e_; rw [h1] at hi; cases hi; cases hc) (fun e_ => by subst e_; rw [h2] at hi; cases hi; cases hc) hi⟩, rfl, rfl, x3_0, x3_1, x3_2, xB3⟩
    case done =>
      rintro D ys W hD rfl ⟨n, out, vo, hgo, h0, h1, h2, h3, h4, hR, hB, xW8⟩ hK
      have hx := hgo [] (by rw [List.append_nil])
      rw [cutGo] at hx
      simp only [Option.some.injEq, Prod.mk.injEq] at hx
      obtain ⟨rfl, rfl, rfl⟩ := hx
      have c0 := cellOf h0
      have c1 := cellOf h1
      have c2 := cellOf h2
      have c3 := cellOf h3
      have f0 := freeOf h0
      have f1 := freeOf h1
      have f2 := freeOf h2
      obtain ⟨Ao, co, eo⟩ := Kd.R_slice hR
      subst eo
      gi_wp2
      obtain ⟨W3, hW3⟩ : ∃ W3, ((W.setCell ⟨w.heap.size, 0, none⟩ (.slice Ao out.length co)).setCell ⟨w.heap.size + 1, 0, none⟩ (.int .i64 0)).setCell ⟨w.heap.size + 1 + 1, 0, none⟩ (.int .i64 0) = W3 := ⟨_, rfl⟩
      have far : ∀ (V : World) (i j : Nat) (v : Value), i ≠ j → (V.setCell ⟨i, 0, none⟩ v).heap[j]? = V.heap[j]? := fun V i j v hij => Below.heap_setCell V ⟨i, 0, none⟩ v j (fun e => hij e.symm)
      have q0 : W3.heap[w.heap.size]? = some (.cells #[.slice Ao out.length co] 23 (0, 0)) := by
        rw [← hW3, far _ _ _ _ (by omega), far _ _ _ _ (by omega)]
        exact one_setCell h0
      have q1 : W3.heap[w.heap.size + 1]? = some (.cells #[.int .i64 0] 3 (0, 0)) := by
        rw [← hW3, far _ _ _ _ (by omega)]
        exact one_setCell (by rw [far _ _ _ _ (by omega)]; exact h1)
      have q2 : W3.heap[w.heap.size + 1 + 1]? = some (.cells #[.int .i64 0] 24 (0, 0)) := by
        rw [← hW3]
        exact one_setCell (by rw [far _ _ _ _ (by omega), far _ _ _ _ (by omega)]; exact h2)
      have K3 : W3.heap[D]? = some (.deferred (some [])) := by
        rw [← hW3, far _ _ _ _ (by omega), far _ _ _ _ (by omega), far _ _ _ _ (by omega)]
        exact hK
      have R3 : Kd.R k32 32 W3 w.heap.size (fun j => w.heap.size + 8 ≤ j) (.slice Ao out.length co) out := by
        rw [← hW3]
        exact Kd.R_far (Kd.R_far (Kd.R_far hR (p := ⟨w.heap.size, 0, none⟩) (fun j hj => by show j ≠ w.heap.size; omega) _) (p := ⟨w.heap.size + 1, 0, none⟩) (fun j hj => by show j ≠ w.heap.size + 1; omega) _) (p := ⟨w.heap.size + 1 + 1, 0, none⟩) (fun j hj => by show j ≠ w.heap.size + 1 + 1; omega) _
      have B3 : Below w.heap.size w W3 := by
        rw [← hW3]
        exact ((hB.setCell (p := ⟨w.heap.size, 0, none⟩) (Nat.le_refl _) _).setCell (p := ⟨w.heap.size + 1, 0, none⟩) (by show w.heap.size ≤ w.heap.size + 1; omega) _).setCell (p := ⟨w.heap.size + 1 + 1, 0, none⟩) (by show w.heap.size ≤ w.heap.size + 1 + 1; omega) _
      rw [hW3]
      clear hW3
      refine ⟨by simp, .inl ⟨_, _, rfl, run_takeDeferred K3, ?_⟩⟩
      have d0 := cell_kept (cellOf q0) (grownBy_putObj' _ D (.deferred none)) (fun r e => by cases e; exact ⟨_, K3, rfl⟩)
      have d1 := cell_kept (cellOf q1) (grownBy_putObj' _ D (.deferred none)) (fun r e => by cases e; exact ⟨_, K3, rfl⟩)
      have d2 := cell_kept (cellOf q2) (grownBy_putObj' _ D (.deferred none)) (fun r e => by cases e; exact ⟨_, K3, rfl⟩)
      refine ⟨.tuple #[.slice Ao out.length co, .int .i64 0, .int .i64 0], ?_, ⟨_, rfl, ?_, B3.trans (belowK_b (w := w) (Nat.le_refl _) W3 D _ _ (by omega) K3 rfl rfl)⟩⟩
      · simp [results, Tryd.f6, go_sem, d0, d1, d2]
      · refine Kd.R_mono (Kd.R_grown2 R3 rfl (grownBy_putObj' _ D (.deferred none)) (fun q e he => ?_)) (fun _ _ => trivial)
        cases e
        obtain ⟨_, _, _, t, _, cells, hcs⟩ := (Kd.R_bound R3).1 D he.symm
        rw [K3] at hcs
        cases hcs
    case stop =>
      rintro D c pre W hD hpre ⟨rfl, hrf, h0, h1, h2, hB⟩ hK
      gi_wp2
      have hK' := hK
      refine ⟨by simp, .inl ⟨_, _, rfl, run_takeDeferred hK', ?_⟩⟩
      have d0 := cell_kept (cellOf h0) (grownBy_putObj' _ D (.deferred none)) (fun r e => by cases e; exact ⟨_, hK, rfl⟩)
      have d1 := cell_kept (cellOf h1) (grownBy_putObj' _ D (.deferred none)) (fun r e => by cases e; exact ⟨_, hK, rfl⟩)
      have d2 := cell_kept (cellOf h2) (grownBy_putObj' _ D (.deferred none)) (fun r e => by cases e; exact ⟨_, hK, rfl⟩)
      refine ⟨.tuple #[.slice none 0 0, .int .i64 r2, .int .i64 r3], ?_, ⟨_, rfl, ?_, hB.trans (belowK_b (w := w) (Nat.le_refl _) W D _ _ (by omega) hK rfl rfl)⟩⟩
      · simp [results, Tryd.f6, go_sem, d0, d1, d2]
      · exact Kd.R_nil _ _ _ _ _
end Go.Proofs.YticabhjmojcfoaaDoor.GUt
