/- utf's reader of a quoted text: what lies in its memory; hex: its contract. No conditions beside those stated. -/
import Derived.Test.YtpncpefppifgdaaGreatDoorGUtQuote
import Derived.Test.YtpncpefppifgdaaGreatDoorGUtIndex
import Derived.Test.YtpncpefppifgdaaGreatDoorGUtx8
import Derived.Test.YtpncpefppifgdaaGreatDoorGUtx8
import Derived.Lib.FrozenHead
namespace Go.Proofs.YtpncpefppifgdaaGreatDoor.GUt
open Go.RowKit Go.Shelf Go.Proofs.YtpncpefppifgdaaGreatDoorW.PrintWords Go.Proofs.YtpncpefppifgdaaGreatDoorW.PrintLast Go.Proofs.YtpncpefppifgdaaGreatDoorW.PrintMore
set_option linter.unusedVariables false
theorem row_step {w w' : World} {B : Nat} {v : Value} {n : Nat} {xs : List Value} (h : w.ownsRowF B 5 1 v n xs) (hs : ∀ k, v.ownBlock = some k → w'.heap[k]? = w.heap[k]?) : w'.ownsRowF B 5 1 v n xs := by
  refine ⟨h.1, ?_⟩
  rcases h.2 with hn | ⟨g, cap, cur, fz, rfl, hb, hgg, rest⟩
  · exact .inl hn
  · exact .inr ⟨g, cap, cur, fz, rfl, hb, (hs g rfl).trans hgg, rest⟩
theorem qD {w : World} {B : Nat} {v : Value} {n : Nat} {xs : List Value} (h : w.ownsRowF B 5 1 v n xs) : ∀ k, v.ownBlock = some k → B ≤ k ∧ k < w.heap.size := by
  intro k hk
  rcases h.2 with ⟨rfl, _⟩ | ⟨g, cap, cur, fz, rfl, hb, hgg, rest⟩
  · cases hk
  · injection hk with hk
    subst hk
    exact ⟨hb, (Array.getElem?_eq_some_iff.1 hgg).1⟩
theorem oK {w : World} {B g : Nat} {v : Value} {n : Nat} {xs : List Value} (h : w.ownsRowF B 5 1 v n xs) {cs : Array Value} {t : TypeId} {f : Nat × Nat} (hg : w.heap[g]? = some (.cells cs t f)) (ht : t ≠ 5) : v.ownBlock ≠ some g := by
  intro e
  rcases h.2 with ⟨rfl, _⟩ | ⟨k, cap, cur, fz, rfl, hb, hgg, rest⟩
  · cases e
  · injection e with e
    subst e
    rw [hg] at hgg
    injection hgg with hgg
    injection hgg with _ h2 _
    exact ht h2
def Rdr (B g : Nat) (s : ByteArray) (p : Int) (out : ByteArray) (v : Value) (w : World) : Prop := w.heap[g]? = some (.cells #[.string s, .int .i64 p, v] 187 (0, 0)) ∧ w.ownsRowF B 5 1 v out.size (Lib.strCells out) ∧ B ≤ g
theorem Rdr.c0 {B g : Nat} {s : ByteArray} {p : Int} {out : ByteArray} {v : Value} {w : World} (h : Rdr B g s p out v w) : w.cell? ⟨g, 0, none⟩ = some (.string s) := (ah h.1 0).trans rfl
theorem Rdr.c1 {B g : Nat} {s : ByteArray} {p : Int} {out : ByteArray} {v : Value} {w : World} (h : Rdr B g s p out v w) : w.cell? ⟨g, 1, none⟩ = some (.int .i64 p) := (ah h.1 1).trans rfl
theorem Rdr.c2 {B g : Nat} {s : ByteArray} {p : Int} {out : ByteArray} {v : Value} {w : World} (h : Rdr B g s p out v w) : w.cell? ⟨g, 2, none⟩ = some v := (ah h.1 2).trans rfl
theorem Rdr.fz {B g : Nat} {s : ByteArray} {p : Int} {out : ByteArray} {v : Value} {w : World} (h : Rdr B g s p out v w) (j : Nat) : w.frozen? ⟨g, j, none⟩ = false := av h.1 j
theorem Rdr.lt {B g : Nat} {s : ByteArray} {p : Int} {out : ByteArray} {v : Value} {w : World} (h : Rdr B g s p out v w) : g < w.heap.size := (Array.getElem?_eq_some_iff.1 h.1).1
theorem Rdr.drewN {B g : Nat} {s : ByteArray} {p : Int} {out : ByteArray} {v : Value} {w : World} (h : Rdr B g s p out v w) (m : Nat) : Rdr B g s p out v (w.drewN m) := h
theorem Rdr.set1 {B g : Nat} {s : ByteArray} {p : Int} {out : ByteArray} {v : Value} {w : World} (h : Rdr B g s p out v w) (q : Int) : Rdr B g s q out v (w.setCell ⟨g, 1, none⟩ (.int .i64 q)) :=
  ⟨by simpa using qh h.1 1 (.int .i64 q), row_step h.2.1 (fun k hk => Below.heap_setCell w ⟨g, 1, none⟩ _ k (fun e => oK h.2.1 h.1 (by decide) (by rw [hk]; exact congrArg some e))), h.2.2⟩
theorem Rdr.set2 {B g : Nat} {s : ByteArray} {p : Int} {v v' : Value} {out' : ByteArray} {w : World} (hg : w.heap[g]? = some (.cells #[.string s, .int .i64 p, v] 187 (0, 0))) (hr : w.ownsRowF B 5 1 v' out'.size (Lib.strCells out')) (hB : B ≤ g) : Rdr B g s p out' v' (w.setCell ⟨g, 2, none⟩ v') :=
  ⟨by simpa using qh hg 2 v', row_step hr (fun k hk => Below.heap_setCell w ⟨g, 2, none⟩ _ k (fun e => oK hr hg (by decide) (by rw [hk]; exact congrArg some e))), hB⟩
theorem Rdr.below {B g : Nat} {s : ByteArray} {p : Int} {out : ByteArray} {v : Value} {w w' : World} (h : Rdr B g s p out v w) (hb : Below w.heap.size w w') : Rdr B g s p out v w' :=
  ⟨(hb.block g h.lt).trans h.1, row_step h.2.1 (fun k hk => hb.block k (qD h.2.1 k hk).2), h.2.2⟩
theorem fP {B g : Nat} {w w' : World} (h : Below B w w') (hg : B ≤ g) (j : Nat) (u : Value) : Below B w (w'.setCell ⟨g, j, none⟩ u) := h.setCell (p := ⟨g, j, none⟩) hg u
def wE (s : ByteArray) : Nat → Nat → Int → Option Int
  | 0, _, v => some v
  | n + 1, p, v => if p < s.size then (kg.f (bt s p)).bind fun b => (strings_IndexByte.f oH b).bind fun d => if d < 0 then none else wE s n (p + 1) (wrap32 (wrap32 (16 * v) + wrap32 d)) else none
set_option maxHeartbeats 4000000 in
set_option maxRecDepth 100000 in
theorem hex.calls (B g : Nat) (s : ByteArray) (p : Nat) (hs : s.size ≤ 1000000000) (out : ByteArray) (v : Value) (r : Int) (w : World) (hR : Rdr B g s (p : Int) out v w) (h : wE s 4 p 0 = some r) :
    Calls Tryz.prog 129 #[.pointer (some ⟨g, 0, none⟩)] w fun e w' => e = .returned (.tuple #[.int .i32 r, .int .i64 0]) ∧ Rdr B g s ((p + 4 : Nat) : Int) out v w' ∧ Below B w w' := by
  have HR := Aside0.mk hR
  clear hR
  go_enter Tryz.func129, Tryz.ntmps129
  go_wp2
  repeat (go_quiet (fail); try go_wp2)
  go_loopg [4, 6] 4 (fun kq v4 v6 w' => ∃ (x : Int) (i : Nat), v4 = .int .i32 x ∧ v6 = .int .i64 (i : Int) ∧ Aside0 (i + kq = 4) ∧ Aside0 (wE s kq (p + i) x = some r) ∧ Aside0 (Rdr B g s ((p + i : Nat) : Int) out v w') ∧ Aside0 (Below B w w'))
  case atStart => exact ⟨0, 0, rfl, rfl, ⟨by omega⟩, ⟨h⟩, ⟨by first | exact HR.out | exact HR.out.drewN _⟩, ⟨by repeat (first | exact Below.refl _ _ | apply bL | apply bB)⟩⟩
  case round =>
    clear h HR
    obtain ⟨x, i, rfl, rfl, hi, hE, HR, HB⟩ := hrel
    cases gk with
    | zero =>
      obtain rfl : i = 4 := hi.out
      have hx := Option.some.inj hE.out
      subst hx
      go_wp2
      go_ret2
      exact ⟨rfl, HR.out, HB.out⟩
    | succ k1 =>
      have hlt : i < 4 := by have := hi.out; omega
      have hE1 := hE.out
      rw [wE] at hE1
      have hps : p + i < s.size := Decidable.by_contra fun hn => by rw [if_neg hn] at hE1; cases hE1
      rw [if_pos hps] at hE1
      obtain ⟨b, hb, hE1⟩ := Option.bind_eq_some_iff.1 hE1
      obtain ⟨d, hd, hE1⟩ := Option.bind_eq_some_iff.1 hE1
      have hd0 : ¬ d < 0 := fun hn => by rw [if_pos hn] at hE1; cases hE1
      rw [if_neg hd0] at hE1
      obtain ⟨q, hq⟩ : ∃ q : Int, ((p + i : Nat) : Int) = q := ⟨_, rfl⟩
      have HRq := HR
      rw [hq] at HRq hb
      have h0 := HRq.out.c0
      have h1 := HRq.out.c1
      have h2 := HRq.out.c2
      have f0 := HRq.out.fz 0
      have f1 := HRq.out.fz 1
      have c2 : decide ((i : Int) < 4) = true := decide_eq_true (by omega)
      have c2' : decide (i < 4) = true := decide_eq_true hlt
      have c3 : decide ((s.size : Int) ≤ q) = false := decide_eq_false (by omega)
      have p7 : (0 ≤ q) = True := eq_true (by omega)
      have q7 : (q < (s.size : Int)) = True := eq_true (by omega)
      have hx7 := eP s q
      have c10 : decide (d < 0) = false := decide_eq_false hd0
      have hw : wrap64 (q + 1) = ((p + (i + 1) : Nat) : Int) := by rw [bW (by omega) (by omega)]; omega
      have HW := Aside0.mk hw
      have HI := Aside0.mk (show i + 1 + k1 = 4 by have := hi.out; omega)
      have HE := Aside0.mk hE1
      have HB0 := Aside0.mk hb
      have HD0 := Aside0.mk hd
      have HG := Aside0.mk HR.out.2.2
      clear hw hE1 hE hb hd hps hd0 hq HR
      unfold oH at HD0
      go_wp2_with (first | (go_at_call 138; (with_reducible refine (kg.calls (bt s q) b _ HB0.out).mono ?_); rintro e w' ⟨rfl, ⟨nd, rfl⟩⟩; (try first | exact ⟨rfl, _, World.drewN_drewN _ _ _⟩ | exact ⟨rfl, _, Eq.trans (World.drewN_drewN _ _ _) (congrArg (World.drewN _) (Nat.add_assoc _ _ _))⟩)) | (go_at_call 113; (with_reducible refine (strings_IndexByte.calls (⟨#[48, 49, 50, 51, 52, 53, 54, 55, 56, 57, 97, 98, 99, 100, 101, 102]⟩ : ByteArray) b d _ HD0.out).mono ?_); rintro e w' ⟨rfl, ⟨nd, rfl⟩⟩; (try first | exact ⟨rfl, _, World.drewN_drewN _ _ _⟩ | exact ⟨rfl, _, Eq.trans (World.drewN_drewN _ _ _) (congrArg (World.drewN _) (Nat.add_assoc _ _ _))⟩)))
      repeat (go_quiet (first | (go_at_call 138; (with_reducible refine (kg.calls (bt s q) b _ HB0.out).mono ?_); rintro e w' ⟨rfl, ⟨nd, rfl⟩⟩; (try first | exact ⟨rfl, _, World.drewN_drewN _ _ _⟩ | exact ⟨rfl, _, Eq.trans (World.drewN_drewN _ _ _) (congrArg (World.drewN _) (Nat.add_assoc _ _ _))⟩)) | (go_at_call 113; (with_reducible refine (strings_IndexByte.calls (⟨#[48, 49, 50, 51, 52, 53, 54, 55, 56, 57, 97, 98, 99, 100, 101, 102]⟩ : ByteArray) b d _ HD0.out).mono ?_); rintro e w' ⟨rfl, ⟨nd, rfl⟩⟩; (try first | exact ⟨rfl, _, World.drewN_drewN _ _ _⟩ | exact ⟨rfl, _, Eq.trans (World.drewN_drewN _ _ _) (congrArg (World.drewN _) (Nat.add_assoc _ _ _))⟩))); try go_wp2)
      go_roundg k1
      case measure => exact Nat.lt_succ_self k1
      case rel => exact ⟨wrap32 (wrap32 (16 * x) + wrap32 d), i + 1, rfl, by first | rfl | simp, HI, HE, ⟨by rw [HW.out]; exact (HRq.out.drewN _).set1 _⟩, ⟨by refine fP ?_ HG.out _ _; repeat (first | exact HB.out | apply bB | apply bL)⟩⟩
end Go.Proofs.YtpncpefppifgdaaGreatDoor.GUt
