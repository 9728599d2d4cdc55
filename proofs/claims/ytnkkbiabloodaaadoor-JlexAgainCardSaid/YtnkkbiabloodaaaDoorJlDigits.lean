/- Digits of one length: the order of the texts is the order of the numbers. Plain lemmas. No conditions beside those stated. -/
import Derived.Test.YtnkkbiabloodaaaDoorGUtx0
namespace Go.Proofs.YtnkkbiabloodaaaDoor.Pure
open Go.RowKit

/-- The number of digits. -/
def valL : List UInt8 → Nat → Nat
  | [], a => a
  | b :: l, a => valL l (10 * a + (b.toNat - 48))
def allD (l : List UInt8) : Prop := ∀ b ∈ l, 48 ≤ b.toNat ∧ b.toNat ≤ 57
theorem valL_add : ∀ (l : List UInt8) (a : Nat), valL l a = a * 10 ^ l.length + valL l 0
  | [], a => by simp [valL]
  | b :: l, a => by
    rw [valL, valL, valL_add l (10 * a + (b.toNat - 48)), valL_add l (10 * 0 + (b.toNat - 48)), List.length_cons, Nat.pow_succ]
    have : (10 * a + (b.toNat - 48)) * 10 ^ l.length = a * (10 ^ l.length * 10) + (b.toNat - 48) * 10 ^ l.length := by
      rw [Nat.add_mul]
      congr 1
      rw [Nat.mul_comm 10 a, Nat.mul_assoc, Nat.mul_comm 10]
    rw [this, Nat.mul_zero, Nat.zero_add]
    omega
theorem valL_lt : ∀ (l : List UInt8), allD l → valL l 0 < 10 ^ l.length
  | [], _ => by simp [valL]
  | b :: l, h => by
    have ih := valL_lt l (fun x hx => h x (List.mem_cons_of_mem _ hx))
    have hb := h b List.mem_cons_self
    rw [valL, valL_add, List.length_cons, Nat.pow_succ, Nat.mul_zero, Nat.zero_add]
    have : (b.toNat - 48) * 10 ^ l.length ≤ 9 * 10 ^ l.length := Nat.mul_le_mul_right _ (by omega)
    omega
theorem less_val : ∀ a b : List UInt8, a.length = b.length → allD a → allD b → (Op.bytesLess a b = true ↔ valL a 0 < valL b 0)
  | [], [], _, _, _ => by simp [Op.bytesLess, valL]
  | [], _ :: _, h, _, _ => by simp at h
  | _ :: _, [], h, _, _ => by simp at h
  | x :: a, y :: b, h, ha, hb => by
    have hl : a.length = b.length := by simpa using h
    have ha' : allD a := fun z hz => ha z (List.mem_cons_of_mem _ hz)
    have hb' : allD b := fun z hz => hb z (List.mem_cons_of_mem _ hz)
    have ih := less_val a b hl ha' hb'
    have la := valL_lt a ha'
    have lb := valL_lt b hb'
    have hx := ha x List.mem_cons_self
    have hy := hb y List.mem_cons_self
    rw [hl] at la
    rw [valL, valL, valL_add a, valL_add b, hl, Nat.mul_zero, Nat.zero_add, Nat.zero_add]
    obtain ⟨P, hP⟩ : ∃ P, 10 ^ b.length = P := ⟨_, rfl⟩
    rw [hP] at la lb ⊢
    rcases Nat.lt_trichotomy x.toNat y.toNat with q | q | q
    · have h1 : x < y := q
      have hm : (x.toNat - 48 + 1) * P ≤ (y.toNat - 48) * P := Nat.mul_le_mul_right _ (by omega)
      rw [Nat.add_mul, Nat.one_mul] at hm
      have e1 : Op.bytesLess (x :: a) (y :: b) = true := by simp [Op.bytesLess, h1]
      refine ⟨fun _ => ?_, fun _ => e1⟩
      omega
    · obtain rfl : x = y := UInt8.toNat_inj.1 q
      have h1 : ¬ x < x := fun e => by have : x.toNat < x.toNat := e; omega
      have e1 : Op.bytesLess (x :: a) (x :: b) = Op.bytesLess a b := by simp [Op.bytesLess, h1]
      rw [e1, ih]
      omega
    · have h1 : y < x := q
      have h2 : ¬ x < y := fun e => by have : x.toNat < y.toNat := e; omega
      have hm : (y.toNat - 48 + 1) * P ≤ (x.toNat - 48) * P := Nat.mul_le_mul_right _ (by omega)
      rw [Nat.add_mul, Nat.one_mul] at hm
      have h3 : ¬ x = y := fun e => by rw [e] at q; omega
      have e1 : Op.bytesLess (x :: a) (y :: b) = false := by simp [Op.bytesLess, h2, h3]
      rw [e1]
      constructor
      · intro e
        cases e
      · intro e
        omega
end Go.Proofs.YtnkkbiabloodaaaDoor.Pure
