/- slices.Clone of values and of pairs: its contract: the same elements in a row of its own, what they lead to shared. No conditions beside those stated. -/
import Derived.Test.YtnkkbiabloodaaaDoorGVax0
import Derived.Laws.Cover3
namespace Go.Proofs.YtnkkbiabloodaaaDoor.GVa
open Go.RowKit Go.Proofs.YtnkkbiabloodaaaDoorW.PrintWords Go.Proofs.YtnkkbiabloodaaaDoorW.PrintLast Go.Proofs.YtnkkbiabloodaaaDoorW.PrintMore
set_option linter.unusedVariables false
set_option linter.unusedSimpArgs false
theorem infoP : (Tryd.prog.info? 48).map (fun i => (i.zero, i.size, i.bytes)) = some (some (.agg #[(.string ⟨#[]⟩), (.int .i64 0), (.bool false), (.int .i64 0), (.string ⟨#[]⟩), (.slice none 0 0), (.slice none 0 0)]), 7, 104) := by kernel_rfl
def fP.f (l : List S29) : Option (List S29) := if l.length ≤ 1000000000 then some l else none
def fQ.f (l : List S48) : Option (List S48) := if l.length ≤ 1000000000 then some l else none
set_option maxHeartbeats 4000000 in
set_option maxRecDepth 100000 in
theorem fP.calls (xS : Nat → Prop) (A0 : Option Addr) (c0 : Nat) (l0 : List S29) (r : List S29) (w : World) (hs0 : Kd.V k29 29 w w.heap.size (fun k_ => xS k_) (.slice A0 l0.length c0) l0) (h : fP.f l0 = some r) :
    Calls Tryd.prog 32 #[.slice A0 l0.length c0] w fun e w' => ∃ xV : Value, e = .returned xV ∧ Kd.V k29 29 w' w.heap.size (fun k_ => xS k_ ∨ w.heap.size ≤ k_) xV r ∧ Below w.heap.size w w' := by
  have hlen : l0.length ≤ 1000000000 := Decidable.by_contra fun hn => by rw [fP.f, if_neg hn] at h; cases h
  rw [fP.f, if_pos hlen] at h
  obtain rfl := Option.some.inj h
  have HL := Aside0.mk hlen
  clear hlen h
  go_enter Tryd.func32, Tryd.ntmps32
  cases A0 with
  | none =>
    have heq : (binOp .eql 26 (.slice none l0.length c0) (.slice none 0 0)).run Tryd.prog w = .ok (.bool true) w := by
      simp only [binOp]
      simp [run_equal_slice_nil w 26 29 none l0.length c0 Tryd.underlying26]
    have hz : l0 = [] := by
      have hC := (Kd.bM hs0).2.2
      cases l0 with
      | nil => rfl
      | cons x l =>
        obtain ⟨ad, e, _⟩ := hC.2.2 (by simp)
        cases e
    have HZ := Aside0.mk hz
    clear hz hs0
    go_wp2
    go_ret
    exact ⟨_, rfl, by rw [HZ.out]; exact Kd.eT _ _ _ _ _, Below.refl _ _⟩
  | some ad =>
    have heq : (binOp .eql 26 (.slice (some ad) l0.length c0) (.slice none 0 0)).run Tryd.prog w = .ok (.bool false) w := by
      simp only [binOp]
      simp [run_equal_slice_nil w 26 29 (some ad) l0.length c0 Tryd.underlying26]
    have HV := Aside0.mk hs0
    clear hs0
    go_wp2_with (first
      | ((with_reducible refine bH (N := 5) rfl ?_); refine Kd.qA k29 (w0 := w) w.heap.size 29 rfl rfl (xs := []) (inner := []) (ok := fun k_ => xS k_ ∨ w.heap.size ≤ k_) (okp := fun _ => False) (by first | (go_simp; done) | (go_simp; rfl)) ⟨rfl, fun j y hy => by simp at hy⟩ (fun _ hk => hk.elim) (.inr (Nat.le_refl _)) (Below.refl _ _) (Nat.le_refl _) (by simp) ?_; intro v1 w1 hn hb hg hat; have HN := Aside0.mk hn; have HB1 := Aside0.mk hb; have HA1 := Aside0.mk hat; have xW := Aside0.mk (Kd.qB HV.out hb); clear hn hb hg hat)
      | (at_builtin; refine Kd.kD k29 (w0 := w) w.heap.size rfl (.tmp 5) (.tmp 6) 26 29 _ _ rfl Tryd.underlying26 jD rfl (by decide) (by omega) v1 [] l0 (some ad) l0.length c0 (fun k_ => xS k_ ∨ w.heap.size ≤ k_) (fun k_ => xS k_ ∧ k_ < w.heap.size) rfl rfl HN.out (Kd.V_F xW.out) (fun k_ hk => ⟨.inl hk.1, fun e => by obtain ⟨b, hb, hle⟩ := HA1.out; rw [hb] at e; injection e with e; have := hk.2; omega⟩) (fun k_ hk => .inr (Nat.le_trans HB1.out.size hk)) HB1.out HB1.out.size (by have := HL.out; simp; omega) ?_; intro v2 w2 hn2 hb2 hg2 xU; have xX := Aside0.mk hn2; have HB2 := Aside0.mk hb2; clear hn2 hb2 hg2 xU))
    go_ret
    exact ⟨_, rfl, Kd.N_V xX.out, HB2.out⟩
set_option maxHeartbeats 4000000 in
set_option maxRecDepth 100000 in
theorem fQ.calls (xS : Nat → Prop) (A0 : Option Addr) (c0 : Nat) (l0 : List S48) (r : List S48) (w : World) (hs0 : Kd.V k48 48 w w.heap.size (fun k_ => xS k_) (.slice A0 l0.length c0) l0) (h : fQ.f l0 = some r) :
    Calls Tryd.prog 33 #[.slice A0 l0.length c0] w fun e w' => ∃ xV : Value, e = .returned xV ∧ Kd.V k48 48 w' w.heap.size (fun k_ => xS k_ ∨ w.heap.size ≤ k_) xV r ∧ Below w.heap.size w w' := by
  have hlen : l0.length ≤ 1000000000 := Decidable.by_contra fun hn => by rw [fQ.f, if_neg hn] at h; cases h
  rw [fQ.f, if_pos hlen] at h
  obtain rfl := Option.some.inj h
  have HL := Aside0.mk hlen
  clear hlen h
  go_enter Tryd.func33, Tryd.ntmps33
  cases A0 with
  | none =>
    have heq : (binOp .eql 27 (.slice none l0.length c0) (.slice none 0 0)).run Tryd.prog w = .ok (.bool true) w := by
      simp only [binOp]
      simp [run_equal_slice_nil w 27 48 none l0.length c0 Tryd.underlying27]
    have hz : l0 = [] := by
      have hC := (Kd.bM hs0).2.2
      cases l0 with
      | nil => rfl
      | cons x l =>
        obtain ⟨ad, e, _⟩ := hC.2.2 (by simp)
        cases e
    have HZ := Aside0.mk hz
    clear hz hs0
    go_wp2
    go_ret
    exact ⟨_, rfl, by rw [HZ.out]; exact Kd.eT _ _ _ _ _, Below.refl _ _⟩
  | some ad =>
    have heq : (binOp .eql 27 (.slice (some ad) l0.length c0) (.slice none 0 0)).run Tryd.prog w = .ok (.bool false) w := by
      simp only [binOp]
      simp [run_equal_slice_nil w 27 48 (some ad) l0.length c0 Tryd.underlying27]
    have HV := Aside0.mk hs0
    clear hs0
    go_wp2_with (first
      | ((with_reducible refine bH (N := 5) rfl ?_); refine Kd.qA k48 (w0 := w) w.heap.size 48 rfl rfl (xs := []) (inner := []) (ok := fun k_ => xS k_ ∨ w.heap.size ≤ k_) (okp := fun _ => False) (by first | (go_simp; done) | (go_simp; rfl)) ⟨rfl, fun j y hy => by simp at hy⟩ (fun _ hk => hk.elim) (.inr (Nat.le_refl _)) (Below.refl _ _) (Nat.le_refl _) (by simp) ?_; intro v1 w1 hn hb hg hat; have HN := Aside0.mk hn; have HB1 := Aside0.mk hb; have HA1 := Aside0.mk hat; have xW := Aside0.mk (Kd.qB HV.out hb); clear hn hb hg hat)
      | (at_builtin; refine Kd.kD k48 (w0 := w) w.heap.size rfl (.tmp 5) (.tmp 6) 27 48 _ _ rfl Tryd.underlying27 infoP rfl (by decide) (by omega) v1 [] l0 (some ad) l0.length c0 (fun k_ => xS k_ ∨ w.heap.size ≤ k_) (fun k_ => xS k_ ∧ k_ < w.heap.size) rfl rfl HN.out (Kd.V_F xW.out) (fun k_ hk => ⟨.inl hk.1, fun e => by obtain ⟨b, hb, hle⟩ := HA1.out; rw [hb] at e; injection e with e; have := hk.2; omega⟩) (fun k_ hk => .inr (Nat.le_trans HB1.out.size hk)) HB1.out HB1.out.size (by have := HL.out; simp; omega) ?_; intro v2 w2 hn2 hb2 hg2 xU; have xX := Aside0.mk hn2; have HB2 := Aside0.mk hb2; clear hn2 hb2 hg2 xU))
    go_ret
    exact ⟨_, rfl, Kd.N_V xX.out, HB2.out⟩
end Go.Proofs.YtnkkbiabloodaaaDoor.GVa
