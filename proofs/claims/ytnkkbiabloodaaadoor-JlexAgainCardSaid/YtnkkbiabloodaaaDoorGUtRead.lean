/- utf's reader of a quoted text: what lies in its memory; hex: its contract, whatever is read. No conditions beside those stated. -/
import Derived.Test.YtnkkbiabloodaaaDoorGUtQuote
import Derived.Test.YtnkkbiabloodaaaDoorGUtIndex
import Derived.Test.YtnkkbiabloodaaaDoorGUtx6
import Derived.Test.YtnkkbiabloodaaaDoorGUtx6
import Derived.Lib.FrozenHead
namespace Go.Proofs.YtnkkbiabloodaaaDoor.GUt
open Go.RowKit Go.Shelf Go.Proofs.YtnkkbiabloodaaaDoorW.PrintWords Go.Proofs.YtnkkbiabloodaaaDoorW.PrintLast Go.Proofs.YtnkkbiabloodaaaDoorW.PrintMore
set_option linter.unusedVariables false
set_option linter.unusedSimpArgs false

/-- A row's bytes live on where its block does. -/
theorem row_step {w w' : World} {B : Nat} {v : Value} {n : Nat} {xs : List Value} (h : w.ownsRowF B 5 1 v n xs) (hs : ∀ k, v.ownBlock = some k → w'.heap[k]? = w.heap[k]?) : w'.ownsRowF B 5 1 v n xs := by
  refine ⟨h.1, ?_⟩
  rcases h.2 with hn | ⟨g, cap, cur, fz, rfl, hb, hgg, rest⟩
  · exact .inl hn
  · exact .inr ⟨g, cap, cur, fz, rfl, hb, (hs g rfl).trans hgg, rest⟩
theorem row_lt {w : World} {B : Nat} {v : Value} {n : Nat} {xs : List Value} (h : w.ownsRowF B 5 1 v n xs) : ∀ k, v.ownBlock = some k → B ≤ k ∧ k < w.heap.size := by
  intro k hk
  rcases h.2 with ⟨rfl, _⟩ | ⟨g, cap, cur, fz, rfl, hb, hgg, rest⟩
  · cases hk
  · injection hk with hk
    subst hk
    exact ⟨hb, (Array.getElem?_eq_some_iff.1 hgg).1⟩
theorem row_ne {w : World} {B g : Nat} {v : Value} {n : Nat} {xs : List Value} (h : w.ownsRowF B 5 1 v n xs) {cs : Array Value} {t : TypeId} {f : Nat × Nat} (hg : w.heap[g]? = some (.cells cs t f)) (ht : t ≠ 5) : v.ownBlock ≠ some g := by
  intro e
  rcases h.2 with ⟨rfl, _⟩ | ⟨k, cap, cur, fz, rfl, hb, hgg, rest⟩
  · cases e
  · injection e with e
    subst e
    rw [hg] at hgg
    injection hgg with hgg
    injection hgg with _ h2 _
    exact ht h2
/-- The reader at block g: its text, its place, what it has read. -/
def Rdr (B g : Nat) (s : ByteArray) (p : Int) (out : ByteArray) (v : Value) (w : World) : Prop := w.heap[g]? = some (.cells #[.string s, .int .i64 p, v] 105 (0, 0)) ∧ w.ownsRowF B 5 1 v out.size (Lib.strCells out) ∧ B ≤ g
theorem Rdr.c0 {B g : Nat} {s : ByteArray} {p : Int} {out : ByteArray} {v : Value} {w : World} (h : Rdr B g s p out v w) : w.cell? ⟨g, 0, none⟩ = some (.string s) := (blk_cell h.1 0).trans rfl
theorem Rdr.c1 {B g : Nat} {s : ByteArray} {p : Int} {out : ByteArray} {v : Value} {w : World} (h : Rdr B g s p out v w) : w.cell? ⟨g, 1, none⟩ = some (.int .i64 p) := (blk_cell h.1 1).trans rfl
theorem Rdr.c2 {B g : Nat} {s : ByteArray} {p : Int} {out : ByteArray} {v : Value} {w : World} (h : Rdr B g s p out v w) : w.cell? ⟨g, 2, none⟩ = some v := (blk_cell h.1 2).trans rfl
theorem Rdr.fz {B g : Nat} {s : ByteArray} {p : Int} {out : ByteArray} {v : Value} {w : World} (h : Rdr B g s p out v w) (j : Nat) : w.frozen? ⟨g, j, none⟩ = false := blk_frozen h.1 j
theorem Rdr.lt {B g : Nat} {s : ByteArray} {p : Int} {out : ByteArray} {v : Value} {w : World} (h : Rdr B g s p out v w) : g < w.heap.size := (Array.getElem?_eq_some_iff.1 h.1).1
theorem Rdr.drewN {B g : Nat} {s : ByteArray} {p : Int} {out : ByteArray} {v : Value} {w : World} (h : Rdr B g s p out v w) (m : Nat) : Rdr B g s p out v (w.drewN m) := h
theorem Rdr.set1 {B g : Nat} {s : ByteArray} {p : Int} {out : ByteArray} {v : Value} {w : World} (h : Rdr B g s p out v w) (q : Int) : Rdr B g s q out v (w.setCell ⟨g, 1, none⟩ (.int .i64 q)) :=
  ⟨by simpa using blk_set h.1 1 (.int .i64 q), row_step h.2.1 (fun k hk => Below.heap_setCell w ⟨g, 1, none⟩ _ k (fun e => row_ne h.2.1 h.1 (by decide) (by rw [hk]; exact congrArg some e))), h.2.2⟩
theorem Rdr.set2 {B g : Nat} {s : ByteArray} {p : Int} {v v' : Value} {out' : ByteArray} {w : World} (hg : w.heap[g]? = some (.cells #[.string s, .int .i64 p, v] 105 (0, 0))) (hr : w.ownsRowF B 5 1 v' out'.size (Lib.strCells out')) (hB : B ≤ g) : Rdr B g s p out' v' (w.setCell ⟨g, 2, none⟩ v') :=
  ⟨by simpa using blk_set hg 2 v', row_step hr (fun k hk => Below.heap_setCell w ⟨g, 2, none⟩ _ k (fun e => row_ne hr hg (by decide) (by rw [hk]; exact congrArg some e))), hB⟩
theorem Rdr.below {B g : Nat} {s : ByteArray} {p : Int} {out : ByteArray} {v : Value} {w w' : World} (h : Rdr B g s p out v w) (hb : Below w.heap.size w w') : Rdr B g s p out v w' :=
  ⟨(hb.block g h.lt).trans h.1, row_step h.2.1 (fun k hk => hb.block k (row_lt h.2.1 k hk).2), h.2.2⟩
theorem below_set1 {B g : Nat} {w w' : World} (h : Below B w w') (hg : B ≤ g) (j : Nat) (u : Value) : Below B w (w'.setCell ⟨g, j, none⟩ u) := h.setCell (p := ⟨g, j, none⟩) hg u
/-- The number of so many digits from a place on. -/
def hexF (s : ByteArray) : Nat → Nat → Int → Option Int
  | 0, _, v => some v
  | n + 1, p, v => if p < s.size then (utf_lower.f (bt s p)).bind fun b => (strings_IndexByte.f digT b).bind fun d => if d < 0 then none else hexF s n (p + 1) (wrap32 (wrap32 (16 * v) + wrap32 d)) else none
/-- The number of so many digits from a place on, and what is wrong. -/
def hexE (s : ByteArray) : Nat → Nat → Int → Option (Int × Int)
  | 0, _, v => some (v, 0)
  | n + 1, p, v => if p < s.size then (utf_lower.f (bt s p)).bind fun b => (strings_IndexByte.f digT b).bind fun d => if d < 0 then some (0, 6) else hexE s n (p + 1) (wrap32 (wrap32 (16 * v) + wrap32 d)) else some (0, 11)
theorem hexE_fit (s : ByteArray) : ∀ (n p : Nat) (v r : Int), p ≤ s.size → hexE s n p v = some (r, 0) → p + n ≤ s.size
  | 0, p, v, r, hp, _ => hp
  | n + 1, p, v, r, hp, h => by
    rw [hexE] at h
    by_cases hs : p < s.size
    · rw [if_pos hs] at h
      obtain ⟨b, hb, h⟩ := Option.bind_eq_some_iff.1 h
      obtain ⟨d, hd, h⟩ := Option.bind_eq_some_iff.1 h
      by_cases h0 : d < 0
      · rw [if_pos h0] at h
        simp at h
      · rw [if_neg h0] at h
        have := hexE_fit s n (p + 1) _ r (by omega) h
        omega
    · rw [if_neg hs] at h
      simp at h
theorem hexF_E (s : ByteArray) : ∀ (n p : Nat) (v r : Int), hexF s n p v = some r → hexE s n p v = some (r, 0)
  | 0, p, v, r, h => by
    rw [hexF] at h
    rw [hexE, Option.some.inj h]
  | n + 1, p, v, r, h => by
    rw [hexF] at h
    rw [hexE]
    by_cases hs : p < s.size
    · rw [if_pos hs] at h ⊢
      obtain ⟨b, hb, h⟩ := Option.bind_eq_some_iff.1 h
      obtain ⟨d, hd, h⟩ := Option.bind_eq_some_iff.1 h
      rw [hb, Option.bind_some, hd, Option.bind_some]
      by_cases h0 : d < 0
      · rw [if_pos h0] at h
        cases h
      · rw [if_neg h0] at h ⊢
        exact hexF_E s n (p + 1) _ r h
    · rw [if_neg hs] at h
      cases h
theorem w32_rng (x : Int) : -2147483648 ≤ wrap32 x ∧ wrap32 x ≤ 2147483647 := by unfold wrap32; omega
theorem hexE_rng (s : ByteArray) : ∀ (n p : Nat) (v r e : Int), (-2147483648 ≤ v ∧ v ≤ 2147483647) → hexE s n p v = some (r, e) → -2147483648 ≤ r ∧ r ≤ 2147483647
  | 0, p, v, r, e, hv, h => by
    rw [hexE] at h
    injection h with h
    injection h with h _
    rw [← h]
    exact hv
  | n + 1, p, v, r, e, hv, h => by
    rw [hexE] at h
    by_cases hs : p < s.size
    · rw [if_pos hs] at h
      obtain ⟨b, hb, h⟩ := Option.bind_eq_some_iff.1 h
      obtain ⟨d, hd, h⟩ := Option.bind_eq_some_iff.1 h
      by_cases h0 : d < 0
      · rw [if_pos h0] at h
        injection h with h
        injection h with h _
        omega
      · rw [if_neg h0] at h
        exact hexE_rng s n (p + 1) _ r e (w32_rng _) h
    · rw [if_neg hs] at h
      injection h with h
      injection h with h _
      omega
/-- Where the reader stands behind four digits. -/
def HexAt (B g : Nat) (s : ByteArray) (p : Nat) (out : ByteArray) (v : Value) (er : Int) (w' : World) : Prop := ∃ p' : Nat, (er = 0 → p' = p + 4) ∧ p' ≤ p + 4 ∧ Rdr B g s (p' : Int) out v w'
set_option maxHeartbeats 4000000 in
set_option maxRecDepth 100000 in
theorem hexE.calls (B g : Nat) (s : ByteArray) (p : Nat) (hs : s.size ≤ 1000000000) (hp : p ≤ s.size) (out : ByteArray) (v : Value) (r er : Int) (w : World) (hR : Rdr B g s (p : Int) out v w) (h : hexE s 4 p 0 = some (r, er)) :
    Calls Tryd.prog 67 #[.pointer (some ⟨g, 0, none⟩)] w fun e w' => e = .returned (.tuple #[.int .i32 r, .int .i64 er]) ∧ HexAt B g s p out v er w' ∧ Below B w w' := by
  have HR := Aside0.mk hR
  clear hR
  go_enter Tryd.func67, Tryd.ntmps67
  go_wp2
  repeat (go_quiet (fail); try go_wp2)
  go_loopg [4, 6] 4 (fun kq v4 v6 w' => ∃ (x : Int) (i : Nat), v4 = .int .i32 x ∧ v6 = .int .i64 (i : Int) ∧ Aside0 (i + kq = 4) ∧ Aside0 (hexE s kq (p + i) x = some (r, er)) ∧ Aside0 (p + i ≤ s.size) ∧ Aside0 (Rdr B g s ((p + i : Nat) : Int) out v w') ∧ Aside0 (Below B w w'))
  case atStart => exact ⟨0, 0, rfl, rfl, ⟨by omega⟩, ⟨h⟩, ⟨hp⟩, ⟨by first | exact HR.out | exact HR.out.drewN _⟩, ⟨by repeat (first | exact Below.refl _ _ | apply below_drew1 | apply pw_below_drewN)⟩⟩
  case round =>
    clear h HR
    obtain ⟨x, i, rfl, rfl, hi, hE, hPI, HR, HB⟩ := hrel
    cases gk with
    | zero =>
      obtain rfl : i = 4 := hi.out
      have hx := Option.some.inj hE.out
      injection hx with hx1 hx2
      subst hx1 hx2
      go_wp2
      go_ret2
      exact ⟨rfl, ⟨p + 4, fun _ => rfl, Nat.le_refl _, HR.out⟩, HB.out⟩
    | succ k1 =>
      have hlt : i < 4 := by have := hi.out; omega
      have hE1 := hE.out
      rw [hexE] at hE1
      obtain ⟨q, hq⟩ : ∃ q : Int, ((p + i : Nat) : Int) = q := ⟨_, rfl⟩
      have HRq := HR
      have HR' := HR
      rw [hq] at HRq
      have h0 := HRq.out.c0
      have h1 := HRq.out.c1
      have h2 := HRq.out.c2
      have f0 := HRq.out.fz 0
      have f1 := HRq.out.fz 1
      have c2 : decide ((i : Int) < 4) = true := decide_eq_true (by omega)
      have c2' : decide (i < 4) = true := decide_eq_true hlt
      by_cases hps : p + i < s.size
      rotate_left
      · rw [if_neg hps] at hE1
        have hx := Option.some.inj hE1
        injection hx with hx1 hx2
        subst hx1 hx2
        have c3 : decide ((s.size : Int) ≤ q) = true := decide_eq_true (by omega)
        have HPP := Aside0.mk (show p + i ≤ p + 4 by omega)
        clear hE hE1 hps hq HR
        go_wp2
        repeat (go_quiet (fail); try go_wp2)
        go_ret2
        exact ⟨rfl, ⟨p + i, fun h => absurd h (by decide), HPP.out, HR'.out⟩, by repeat (first | exact HB.out | apply pw_below_drewN | apply below_drew1)⟩
      rw [if_pos hps] at hE1
      obtain ⟨b, hb, hE1⟩ := Option.bind_eq_some_iff.1 hE1
      obtain ⟨d, hd, hE1⟩ := Option.bind_eq_some_iff.1 hE1
      rw [hq] at hb
      have c3 : decide ((s.size : Int) ≤ q) = false := decide_eq_false (by omega)
      have p7 : (0 ≤ q) = True := eq_true (by omega)
      have q7 : (q < (s.size : Int)) = True := eq_true (by omega)
      have hx7 := bt_at s q
      have hw : wrap64 (q + 1) = ((p + (i + 1) : Nat) : Int) := by rw [i64_id (by omega) (by omega)]; omega
      have HW := Aside0.mk hw
      have HI := Aside0.mk (show i + 1 + k1 = 4 by have := hi.out; omega)
      have HB0 := Aside0.mk hb
      have HD0 := Aside0.mk hd
      have HG := Aside0.mk HR.out.2.2
      have HPN := Aside0.mk (show p + (i + 1) ≤ s.size by omega)
      have HPQ := Aside0.mk (show p + i ≤ p + 4 by omega)
      clear hw hE hb hd hps hq HR
      unfold digT at HD0
      by_cases hd0 : d < 0
      · rw [if_pos hd0] at hE1
        have hx := Option.some.inj hE1
        injection hx with hx1 hx2
        subst hx1 hx2
        have c10 : decide (d < 0) = true := decide_eq_true hd0
        clear hE1 hd0
        go_wp2_with (first | (go_at_call 74; (with_reducible refine (utf_lower.calls (bt s q) b _ HB0.out).mono ?_); rintro e w' ⟨rfl, ⟨nd, rfl⟩⟩; (try first | exact ⟨rfl, _, World.drewN_drewN _ _ _⟩ | exact ⟨rfl, _, Eq.trans (World.drewN_drewN _ _ _) (congrArg (World.drewN _) (Nat.add_assoc _ _ _))⟩)) | (go_at_call 73; (with_reducible refine (strings_IndexByte.calls (⟨#[48, 49, 50, 51, 52, 53, 54, 55, 56, 57, 97, 98, 99, 100, 101, 102]⟩ : ByteArray) b d _ HD0.out).mono ?_); rintro e w' ⟨rfl, ⟨nd, rfl⟩⟩; (try first | exact ⟨rfl, _, World.drewN_drewN _ _ _⟩ | exact ⟨rfl, _, Eq.trans (World.drewN_drewN _ _ _) (congrArg (World.drewN _) (Nat.add_assoc _ _ _))⟩)))
        repeat (go_quiet (first | (go_at_call 74; (with_reducible refine (utf_lower.calls (bt s q) b _ HB0.out).mono ?_); rintro e w' ⟨rfl, ⟨nd, rfl⟩⟩; (try first | exact ⟨rfl, _, World.drewN_drewN _ _ _⟩ | exact ⟨rfl, _, Eq.trans (World.drewN_drewN _ _ _) (congrArg (World.drewN _) (Nat.add_assoc _ _ _))⟩)) | (go_at_call 73; (with_reducible refine (strings_IndexByte.calls (⟨#[48, 49, 50, 51, 52, 53, 54, 55, 56, 57, 97, 98, 99, 100, 101, 102]⟩ : ByteArray) b d _ HD0.out).mono ?_); rintro e w' ⟨rfl, ⟨nd, rfl⟩⟩; (try first | exact ⟨rfl, _, World.drewN_drewN _ _ _⟩ | exact ⟨rfl, _, Eq.trans (World.drewN_drewN _ _ _) (congrArg (World.drewN _) (Nat.add_assoc _ _ _))⟩))); try go_wp2)
        refine bodyPost_ret (v := .tuple #[.int .i32 0, .int .i64 6]) ?hr rfl ?_
        case hr => exact (results_tmp2 rfl _ _ _).trans rfl
        exact ⟨rfl, ⟨p + i, fun h => absurd h (by decide), HPQ.out, HR'.out⟩, by repeat (first | exact HB.out | apply pw_below_drewN | apply below_drew1)⟩
      · rw [if_neg hd0] at hE1
        have HE := Aside0.mk hE1
        have c10 : decide (d < 0) = false := decide_eq_false hd0
        clear hE1 hd0
        go_wp2_with (first | (go_at_call 74; (with_reducible refine (utf_lower.calls (bt s q) b _ HB0.out).mono ?_); rintro e w' ⟨rfl, ⟨nd, rfl⟩⟩; (try first | exact ⟨rfl, _, World.drewN_drewN _ _ _⟩ | exact ⟨rfl, _, Eq.trans (World.drewN_drewN _ _ _) (congrArg (World.drewN _) (Nat.add_assoc _ _ _))⟩)) | (go_at_call 73; (with_reducible refine (strings_IndexByte.calls (⟨#[48, 49, 50, 51, 52, 53, 54, 55, 56, 57, 97, 98, 99, 100, 101, 102]⟩ : ByteArray) b d _ HD0.out).mono ?_); rintro e w' ⟨rfl, ⟨nd, rfl⟩⟩; (try first | exact ⟨rfl, _, World.drewN_drewN _ _ _⟩ | exact ⟨rfl, _, Eq.trans (World.drewN_drewN _ _ _) (congrArg (World.drewN _) (Nat.add_assoc _ _ _))⟩)))
        repeat (go_quiet (first | (go_at_call 74; (with_reducible refine (utf_lower.calls (bt s q) b _ HB0.out).mono ?_); rintro e w' ⟨rfl, ⟨nd, rfl⟩⟩; (try first | exact ⟨rfl, _, World.drewN_drewN _ _ _⟩ | exact ⟨rfl, _, Eq.trans (World.drewN_drewN _ _ _) (congrArg (World.drewN _) (Nat.add_assoc _ _ _))⟩)) | (go_at_call 73; (with_reducible refine (strings_IndexByte.calls (⟨#[48, 49, 50, 51, 52, 53, 54, 55, 56, 57, 97, 98, 99, 100, 101, 102]⟩ : ByteArray) b d _ HD0.out).mono ?_); rintro e w' ⟨rfl, ⟨nd, rfl⟩⟩; (try first | exact ⟨rfl, _, World.drewN_drewN _ _ _⟩ | exact ⟨rfl, _, Eq.trans (World.drewN_drewN _ _ _) (congrArg (World.drewN _) (Nat.add_assoc _ _ _))⟩))); try go_wp2)
        go_roundg k1
        case measure => exact Nat.lt_succ_self k1
        case rel => exact ⟨wrap32 (wrap32 (16 * x) + wrap32 d), i + 1, rfl, by first | rfl | simp, HI, HE, HPN, ⟨by rw [HW.out]; exact (HRq.out.drewN _).set1 _⟩, ⟨by refine below_set1 ?_ HG.out _ _; repeat (first | exact HB.out | apply pw_below_drewN | apply below_drew1)⟩⟩
end Go.Proofs.YtnkkbiabloodaaaDoor.GUt
