/- dns.Name: a range over strings.SplitSeq: its contract, in terms of dns.Label's plain function. No conditions beside those stated. -/
import Derived.Test.YtpncpefppifgdaaGreatDoorSq
import Derived.Test.YtpncpefppifgdaaGreatDoorGUtx3
import Derived.Deep.DeepHandedRow
namespace Go.Proofs.YtpncpefppifgdaaGreatDoor.GUt
open Go.RowKit Go.Shelf Go.Proofs.YtpncpefppifgdaaGreatDoor.SeqC Go.Proofs.YtpncpefppifgdaaGreatDoor.Split Go.Proofs.YtpncpefppifgdaaGreatDoorW.PrintWords Go.Proofs.YtpncpefppifgdaaGreatDoorW.PrintLast Go.Proofs.YtpncpefppifgdaaGreatDoorW.PrintMore
attribute [local go_sem] Oper.semAt_some
set_option linter.unusedVariables false
def labels (k : Nat) : List ByteArray → Option Bool
  | [] => some true
  | p :: ps => (aZ.f k p).bind fun b => if b = true then labels k ps else some false
theorem nE (k : Nat) : ∀ l, LeO (labels k l) (labels (k + 1) l)
  | [] => LeO.refl _
  | p :: ps => LeO.bind (aZ.mono p k) fun b => LeO.ite (nE k ps) (LeO.refl _)
theorem pW (k : Nat) : ∀ (pre : List ByteArray) (x : ByteArray) (post : List ByteArray) (r : Bool), labels k (pre ++ x :: post) = some r → (∀ y ∈ pre, aZ.f k y = some true) → ∃ b, aZ.f k x = some b
  | [], x, post, r, h, _ => by
    cases hx : aZ.f k x with
    | none => rw [List.nil_append, labels, hx] at h; cases h
    | some b => exact ⟨b, rfl⟩
  | p :: pre, x, post, r, h, hp => by
    rw [List.cons_append, labels, hp p (by simp)] at h
    exact pW k pre x post r (by simpa using h) (fun y hy => hp y (List.mem_cons_of_mem _ hy))
theorem mJ (k : Nat) : ∀ (pre : List ByteArray) (x : ByteArray) (post : List ByteArray) (r : Bool), labels k (pre ++ x :: post) = some r → (∀ y ∈ pre, aZ.f k y = some true) → aZ.f k x = some false → r = false
  | [], x, post, r, h, _, hx => by
    rw [List.nil_append, labels, hx] at h
    simpa using h.symm
  | p :: pre, x, post, r, h, hp, hx => by
    rw [List.cons_append, labels, hp p (by simp)] at h
    exact mJ k pre x post r (by simpa using h) (fun y hy => hp y (List.mem_cons_of_mem _ hy)) hx
theorem nG (k : Nat) : ∀ (l : List ByteArray) (r : Bool), labels k l = some r → (∀ y ∈ l, aZ.f k y = some true) → r = true
  | [], r, h, _ => (Option.some.inj h).symm
  | p :: l, r, h, hp => by
    rw [labels, hp p (by simp)] at h
    exact nG k l r (by simpa using h) (fun y hy => hp y (List.mem_cons_of_mem _ hy))
def dY.f (k : Nat) (a0 : ByteArray) : Option Bool := if a0.size ≤ 140737488351232 then (labels k (texts 46 a0)).bind fun b => if b = true then some (decide ((a0.size : Int) ≤ 253)) else some false else none
theorem dY.mono : ∀ a0 k, LeO (dY.f k a0) (dY.f (k + 1) a0) := fun a0 k => LeO.ite (LeO.bind (nE k _) fun b => LeO.refl _) (LeO.refl _)
theorem nH {W W' : World} (h : Drawn0 W W') : W'.heap = W.heap := by
  obtain ⟨n, rfl⟩ := h
  induction n with
  | zero => rfl
  | succ n ih => exact ih
set_option maxRecDepth 100000 in
set_option maxHeartbeats 4000000 in
theorem dY.calls (k : Nat) (a0 : ByteArray) (r : Bool) (w : World) (h : dY.f k a0 = some r) :
    Calls Tryz.prog 71 #[.string a0] w fun e w' => e = .returned (.bool r) ∧ Below w.heap.size w w' := by
  have hsz : a0.size ≤ 140737488351232 := Decidable.by_contra fun hn => by rw [dY.f, if_neg hn] at h; cases h
  rw [dY.f, if_pos hsz] at h
  obtain ⟨r0, hl, hr0⟩ := Option.bind_eq_some_iff.1 h
  clear h
  refine (callsIn_wide (n := 8)).1 ?_
  refine callsIn_of_wp_marks Tryz.func71 rfl trivial ?_ rfl
  simp only [Tryz.ntmps71, List.size_toArray, List.length_cons, List.length_nil, Nat.reduceAdd, Nat.reduceSub, Array.replicate_succ, Array.replicate_zero, List.push_toArray, List.append_toArray, List.nil_append, List.cons_append]
  gi_wp2_with (refine ⟨trivial, ?_⟩; gi_at_call 94; refine (zw _ 46 a0 _).mono ?_; rintro e w' ⟨rfl, rfl⟩)
  obtain ⟨W0, hW0⟩ : ∃ W0, ((((w.alloc (.cells #[.bool false] 4)).alloc (.cells #[.string a0] 9)).alloc (.cells #[.string ⟨#[46]⟩] 9)).alloc (.cells #[.int .i64 0] 3)) = W0 := ⟨_, rfl⟩
  have hs0 : W0.heap.size = w.heap.size + 4 := by rw [← hW0]; simp
  have hR0 : W0.heap[w.heap.size]? = some (.cells #[.bool false] 4 (0, 0)) := by
    rw [← hW0]; exact (((Below.heap_alloc _ _ _ (by simp; omega)).trans (Below.heap_alloc _ _ _ (by simp; omega))).trans (Below.heap_alloc _ _ _ (by simp))).trans (World.alloc_heap_new w _)
  have hA : At (w.heap.size + 1) (w.heap.size + 1 + 1) (w.heap.size + 1 + 1 + 1) 46 a0 W0 := by
    rw [← hW0]
    refine ⟨?_, ?_, ?_⟩
    · refine ((Below.heap_alloc _ _ _ (by simp)).trans (Below.heap_alloc _ _ _ (by simp))).trans ?_
      have := World.alloc_heap_new (w.alloc (.cells #[.bool false] 4)) (.cells #[.string a0] 9); rwa [World.size_alloc] at this
    · refine (Below.heap_alloc _ _ _ (by simp)).trans ?_
      have := World.alloc_heap_new ((w.alloc (.cells #[.bool false] 4)).alloc (.cells #[.string a0] 9)) (.cells #[.string ⟨#[46]⟩] 9); rwa [World.size_alloc, World.size_alloc] at this
    · have := World.alloc_heap_new (((w.alloc (.cells #[.bool false] 4)).alloc (.cells #[.string a0] 9)).alloc (.cells #[.string ⟨#[46]⟩] 9)) (.cells #[.int .i64 0] 3); rwa [World.size_alloc, World.size_alloc, World.size_alloc] at this
  have hBW : Below w.heap.size w W0 := by rw [← hW0]; exact ((((Below.refl _ w).alloc (Nat.le_refl _) _).alloc (by simp) _).alloc (by simp; omega) _).alloc (by simp; omega) _
  rw [hW0]
  clear hW0
  refine lQ (b := w.heap.size + 1) (by omega) rfl (by omega) (gf := 122) (lb := #[.pointer (some ⟨w.heap.size + 1 + 1, 0, none⟩), .pointer (some ⟨w.heap.size + 1, 0, none⟩), .pointer (some ⟨w.heap.size + 1 + 1 + 1, 0, none⟩)]) rfl trivial (enters_of Tryz.func122 (by kernel_rfl) rfl)
    (iter (8 - 1) (by omega) (w.heap.size + 1) (w.heap.size + 1 + 1) (w.heap.size + 1 + 1 + 1) 46 a0 hsz W0 (by omega) (by omega) (by omega) (by omega) (by omega) hA)
    (fun h1 h2 => ⟨h2.1.trans h1.1, h2.2.1.trans h1.2.1, h2.2.2.trans h1.2.2⟩)
    (fun W l o o' hl _ _ _ => ⟨World.putObj_heap_other (by omega), World.putObj_heap_other (by omega), World.putObj_heap_other (by omega)⟩) (Below.refl _ _) (fun _ => rfl)
    (fun pre W => (∀ y ∈ pre, aZ.f k y = some true) ∧ W.heap[w.heap.size]? = some (.cells #[.bool false] 4 (0, 0)) ∧ Below w.heap.size w W)
    (fun c _ W => c = .ret ∧ r = false ∧ W.heap[w.heap.size]? = some (.cells #[.bool false] 4 (0, 0)) ∧ Below w.heap.size w W)
    (fun s A B row hs hg hr => ⟨hs.1, (hg.block _ (Array.getElem?_eq_some_iff.1 hs.2.1).1 (fun e => by have := hr _ e.symm; omega)).trans hs.2.1, hs.2.2.grown hg hs.2.2.size (fun q e => by have := hr q e; omega)⟩)
    (fun c s A B row hs hg hr => ⟨hs.1, hs.2.1, (hg.block _ (Array.getElem?_eq_some_iff.1 hs.2.2.1).1 (fun e => by have := hr _ e.symm; omega)).trans hs.2.2.1, hs.2.2.2.grown hg hs.2.2.2.size (fun q e => by have := hr q e; omega)⟩)
    ⟨by simp, hR0, hBW⟩
    (fun x => { tmps := #[.string a0, undef, .pointer (some ⟨w.heap.size, 0, none⟩), .string x, .string a0, .func (.func 122) #[] #[.pointer (some ⟨w.heap.size + 1 + 1, 0, none⟩), .pointer (some ⟨w.heap.size + 1, 0, none⟩), .pointer (some ⟨w.heap.size + 1 + 1 + 1, 0, none⟩)], .string x, undef, undef, undef, undef, undef, undef], defers := [] }) ?assign ?body ?done ?stop
  case assign =>
    intro l x W K hK
    gi_wp2
    exact hK
  case body =>
    rintro l pre x W ⟨hp, hc, hB⟩ ⟨post, hpost⟩
    rw [List.append_assoc] at hpost
    have hl' : labels k (pre ++ x :: post) = some r0 := by rw [← hl, ← hpost]; rfl
    obtain ⟨b, hb⟩ := pW k pre x post r0 hl' hp
    have hcl := aZ.calls k x b W hb
    have hcc := cellOf hc
    have hcf := oF hc
    cases b
    · gi_wp2
      refine ⟨trivial, (CallsIn.inRound l (callsIn_wide.2 hcl)).mono ?_⟩
      rintro e w' ⟨rfl, hd⟩
      have hh := nH hd
      have hc' : w'.heap[w.heap.size]? = some (.cells #[.bool false] 4 (0, 0)) := by rw [hh]; exact hc
      have cc' := cellOf hc'
      have cf' := oF hc'
      gi_wp2
      have hrf : r0 = false := mJ k pre x post r0 hl' hp hb
      refine ⟨KeepsOthers.trans ⟨by rw [hh]; exact Nat.le_refl _, fun i o hi _ => by rw [hh]; exact hi⟩ (KeepsOthers.setCell w' _ _), rfl, ?_, ?_, (hB.trans (hd.below.mono hB.size)).setCell (p := ⟨w.heap.size, 0, none⟩) (Nat.le_refl _) _⟩
      · rw [hrf] at hr0
        simpa using hr0.symm
      · show (w'.heap.modify w.heap.size _)[w.heap.size]? = _
        rw [Array.getElem?_modify, if_pos rfl, hc']
        rfl
    · gi_wp2_with (refine ⟨trivial, ?_⟩; gi_at_call 70; refine (CallsIn.inRound l (callsIn_wide.2 hcl)).mono ?_; rintro e w' ⟨rfl, hd⟩)
      have hh := nH hd
      refine ⟨⟨by rw [hh]; exact Nat.le_refl _, fun i o hi _ => by rw [hh]; exact hi⟩, ⟨by rw [hh], by rw [hh], by rw [hh]⟩, ?_, by rw [hh]; exact hc, hB.trans (hd.below.mono hB.size)⟩
      intro y hy
      rcases List.mem_append.1 hy with hy | hy
      · exact hp y hy
      · rw [List.mem_singleton.1 hy]; exact hb
  case done =>
    rintro D ys W hD rfl ⟨hne, hc, hB⟩ hK
    have hcc := cellOf hc
    have hcf := oF hc
    gi_wp2
    have hK' := (KeepsOthers.setCell W ⟨w.heap.size, 0, none⟩ (.bool (decide ((a0.size : Int) ≤ 253)))).same D _ hK rfl
    refine ⟨by simp, .inl ⟨_, _, rfl, run_takeDeferred hK', ?_⟩⟩
    have Bw := cell_kept (World.cell?_setCell_same' W ⟨w.heap.size, 0, none⟩ (.bool (decide ((a0.size : Int) ≤ 253))) (by rw [hcc]; rfl)) (grownBy_putObj' _ D (.deferred none)) (fun r e => by cases e; exact ⟨_, hK', rfl⟩)
    have hrt : r0 = true := nG k _ r0 hl hne
    rw [hrt] at hr0
    refine ⟨.bool (decide ((a0.size : Int) ≤ 253)), ?_, by rw [show decide ((a0.size : Int) ≤ 253) = r by simpa using hr0], (hB.setCell (p := ⟨w.heap.size, 0, none⟩) (Nat.le_refl _) _).trans (belowK_b (w := w) (Nat.le_refl _) _ D _ _ (by omega) hK' rfl rfl)⟩
    simp [results, Tryz.f71, go_sem, Bw]
  case stop =>
    rintro D c pre W hD hpre ⟨rfl, hrf, hc, hB⟩ hK
    gi_wp2
    refine ⟨by simp, .inl ⟨_, _, rfl, run_takeDeferred hK, ?_⟩⟩
    have Bw := cell_kept (cellOf hc) (grownBy_putObj' _ D (.deferred none)) (fun r e => by cases e; exact ⟨_, hK, rfl⟩)
    refine ⟨.bool false, ?_, by rw [hrf], hB.trans (belowK_b (w := w) (Nat.le_refl _) W D _ _ (by omega) hK rfl rfl)⟩
    simp [results, Tryz.f71, go_sem, Bw]
end Go.Proofs.YtpncpefppifgdaaGreatDoor.GUt
