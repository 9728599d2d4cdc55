/- evict.First, evict.Until: their contracts. No conditions beside those stated. -/
import Derived.Test.YthnbkhggbfnpcaaEvTake2
namespace Go.Proofs.Ythnbkhggbfnpcaa.GEv
open Go.RowKit Go.Proofs.YthnbkhggbfnpcaaW.PrintWords Go.Proofs.YthnbkhggbfnpcaaW.PrintLast Go.Proofs.YthnbkhggbfnpcaaW.PrintMore Go.Proofs.Ythnbkhggbfnpcaa.Ev
set_option linter.unusedVariables false
set_option linter.unusedSimpArgs false
/-- The heap of a row of loads. -/
def heapOf (l : List S27) : Nat → S55 := initF lessI l.length (l.length / 2) (itemF l)
def evict_First.f (l : List S27) (k : Int) : Option (List ByteArray) := some (if k < 1 then [] else takeL stepK l.length (heapOf l) k)
def evict_Until.f (l : List S27) (need : Nat) : Option (List ByteArray) := some (if gtF need 0 = true then takeL (stepU need) l.length (heapOf l) 0 else [])
def RowPost (w : World) (r : List ByteArray) (e : Ending) (w' : World) : Prop := ∃ v0_ : Value, e = .returned v0_ ∧ Kd.R Kd.string 9 w' w.heap.size (fun _ => True) v0_ r ∧ Below w.heap.size w w'
set_option maxHeartbeats 4000000 in
set_option maxRecDepth 100000 in
theorem evict_First.calls (A0 : Option Addr) (c0 : Nat) (l0 : List S27) (a1 : Int) (r : List ByteArray) (w : World) (hr0 : Kd.C k27 w A0 l0.length l0) (hc0 : l0.length ≤ c0) (hlen : l0.length ≤ 1000) (h : evict_First.f l0 a1 = some r) :
    Calls Try.prog 6 #[.slice A0 l0.length c0, .int .i64 a1] w (RowPost w r) := by
  obtain rfl := Option.some.inj h
  clear h
  have HR := Aside0.mk hr0
  clear hr0
  by_cases hk : a1 < 1
  · rw [if_pos hk]
    have hgt_ := gtr_float
    have hlt_ := lss_float
    have hle_ := leq_float
    have hne_ := neq_float
    go_enter Try.func6, Try.ntmps6
    go_wp2
    go_ret
    exact ⟨_, rfl, Kd.R_nil _ _ _ _ _, (Below.refl _ w).alloc (Nat.le_refl _) _⟩
  · rw [if_neg hk]
    obtain ⟨W, hW⟩ : ∃ W, W = w.alloc (.cells #[.int .i64 a1] 3) := ⟨_, rfl⟩
    have hbx : W.heap[w.heap.size]? = some (.cells #[.int .i64 a1] 3 (0, 0)) := by rw [hW]; exact heap_alloc_new w _
    have hB : Below w.heap.size w W := by rw [hW]; exact (Below.refl _ w).alloc (Nat.le_refl _) _
    have HT := Aside0.mk (take.calls w W A0 c0 l0 17 #[.pointer (some ⟨w.heap.size, 0, none⟩)] (StK W.heap.size w.heap.size) stepK a1 hB HR.out hc0 hlen (moreK _ _ _ (blk_lt hbx) (Nat.le_refl _)) hbx)
    clear hbx hB
    rw [hW] at HT
    clear hW W
    have hgt_ := gtr_float
    have hlt_ := lss_float
    have hle_ := leq_float
    have hne_ := neq_float
    go_enter Try.func6, Try.ntmps6
    go_wp2_with (go_at_call 16; refine HT.out.mono ?_; rintro e w2 ⟨v, rfl, hr, hb⟩; have H1 := Aside0.mk hr; have H2 := Aside0.mk hb; clear hr hb)
    go_ret
    exact ⟨_, rfl, H1.out, H2.out⟩
set_option maxHeartbeats 4000000 in
set_option maxRecDepth 100000 in
theorem evict_Until.calls (A0 : Option Addr) (c0 : Nat) (l0 : List S27) (a1 : Nat) (r : List ByteArray) (w : World) (hr0 : Kd.C k27 w A0 l0.length l0) (hc0 : l0.length ≤ c0) (hlen : l0.length ≤ 1000) (h : evict_Until.f l0 a1 = some r) :
    Calls Try.prog 14 #[.slice A0 l0.length c0, .float .f64 a1] w (RowPost w r) := by
  obtain rfl := Option.some.inj h
  clear h
  have HR := Aside0.mk hr0
  clear hr0
  cases hk : gtF a1 0 with
  | false =>
    rw [if_neg (by simp)]
    have hgt_ := gtr_float
    have hlt_ := lss_float
    have hle_ := leq_float
    have hne_ := neq_float
    go_enter Try.func14, Try.ntmps14
    go_wp2
    go_ret
    exact ⟨_, rfl, Kd.R_nil _ _ _ _ _, (Below.refl _ w).alloc (Nat.le_refl _) _⟩
  | true =>
    rw [if_pos rfl]
    obtain ⟨W, hW⟩ : ∃ W, W = (w.alloc (.cells #[.float .f64 a1] 25)).alloc (.cells #[.float .f64 0] 25) := ⟨_, rfl⟩
    have hn : W.heap[w.heap.size]? = some (.cells #[.float .f64 a1] 25 (0, 0)) := by rw [hW]; exact blk_alloc (heap_alloc_new w _) _
    have hs : W.heap[w.heap.size + 1]? = some (.cells #[.float .f64 0] 25 (0, 0)) := by
      have := heap_alloc_new (w.alloc (.cells #[.float .f64 a1] 25)) (.cells #[.float .f64 0] 25)
      rw [hW]
      rwa [World.size_alloc] at this
    have hB : Below w.heap.size w W := by rw [hW]; exact ((Below.refl _ w).alloc (Nat.le_refl _) _).alloc (by simp) _
    have HT := Aside0.mk (take.calls w W A0 c0 l0 22 #[.pointer (some ⟨w.heap.size + 1, 0, none⟩), .pointer (some ⟨w.heap.size, 0, none⟩)] (StU (w.heap.size + 1) w.heap.size a1) (stepU a1) 0 hB HR.out hc0 hlen (moreU _ _ _ _ _ (blk_lt hs) (by omega) (blk_lt hn) (by omega)) ⟨hs, hn⟩)
    clear hn hs hB
    rw [hW] at HT
    clear hW W
    have hgt_ := gtr_float
    have hlt_ := lss_float
    have hle_ := leq_float
    have hne_ := neq_float
    go_enter Try.func14, Try.ntmps14
    go_wp2_with (go_at_call 16; refine HT.out.mono ?_; rintro e w2 ⟨v, rfl, hr, hb⟩; have H1 := Aside0.mk hr; have H2 := Aside0.mk hb; clear hr hb)
    go_ret
    exact ⟨_, rfl, H1.out, H2.out⟩
end Go.Proofs.Ythnbkhggbfnpcaa.GEv
