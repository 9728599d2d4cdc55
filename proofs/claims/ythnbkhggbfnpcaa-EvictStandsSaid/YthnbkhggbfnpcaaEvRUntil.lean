/- bosunref24.Until: its contract. No conditions beside those stated. -/
import Derived.Test.YthnbkhggbfnpcaaEvFirst
import Derived.Test.YthnbkhggbfnpcaaGEvx4
import Derived.Test.YthnbkhggbfnpcaaGEvx5
namespace Go.Proofs.Ythnbkhggbfnpcaa.GEv
open Go.RowKit Go.Proofs.YthnbkhggbfnpcaaW.PrintWords Go.Proofs.YthnbkhggbfnpcaaW.PrintLast Go.Proofs.YthnbkhggbfnpcaaW.PrintMore Go.Proofs.Ythnbkhggbfnpcaa.Ev
set_option linter.unusedVariables false
set_option linter.unusedSimpArgs false
def untilL (need : Nat) : List S39 → Nat → List ByteArray
  | [], _ => []
  | x :: xs, q => if ltF q need = true then x.f0 :: (if gtF x.f1 0 = true then (match F64.add q x.f1 with | some q' => untilL need xs q' | none => []) else untilL need xs q) else []
def bosunref24_Until.f (k : Nat) (l : List S39) (need : Nat) : Option (List ByteArray) := if (nanD (F64.read need) || leF need 0) = true then some [] else (bosunref24_Order.f k l).bind fun o => if o.length ≤ 1000 then some (untilL need o 0) else none
theorem drop_rd (o : List S39) (i : Nat) (h : i < o.length) : o.drop i = rd_T39 o (i : Int) :: o.drop (i + 1) := by
  rw [List.drop_eq_getElem_cons h]
  congr 1
  simp [rd_T39, List.getD, h]
theorem until_nan (need q : Nat) (h : ltF q need = false) : ∀ l, untilL need l q = []
  | [] => rfl
  | x :: xs => by rw [untilL, h]; rfl
set_option maxHeartbeats 8000000 in
set_option maxRecDepth 100000 in
theorem bosunref24_Until.calls (k : Nat) (A0 : Option Addr) (c0 : Nat) (l0 : List S39) (a1 : Nat) (r : List ByteArray) (w : World) (hr0 : Kd.C k39 w A0 l0.length l0) (hc0 : l0.length ≤ c0) (h : bosunref24_Until.f k l0 a1 = some r) :
    Calls Try.prog 15 #[.slice A0 l0.length c0, .float .f64 a1] w (RowPost w r) := by
  have HR0 := Aside0.mk hr0
  have HC0 := Aside0.mk hc0
  clear hr0 hc0
  unfold bosunref24_Until.f at h
  cases hn : nanD (F64.read a1) with
  | true =>
    rw [hn, Bool.true_or, if_pos rfl] at h
    obtain rfl := Option.some.inj h
    have hgt_ := gtr_float
    have hlt_ := lss_float
    have hle_ := leq_float
    have hne_ := neq_float
    go_enter Try.func15, Try.ntmps15
    go_wp2_with (go_at_call 20; refine (none.same _ _).mono ?_; rintro e w2 ⟨rfl, rfl⟩)
    go_ret
    exact ⟨_, rfl, Kd.R_nil _ _ _ _ _, Below.refl _ _⟩
  | false =>
    rw [hn, Bool.false_or] at h
    cases hle : leF a1 0 with
    | true =>
      rw [hle, if_pos rfl] at h
      obtain rfl := Option.some.inj h
      have hgt_ := gtr_float
      have hlt_ := lss_float
      have hle_ := leq_float
      have hne_ := neq_float
      go_enter Try.func15, Try.ntmps15
      go_wp2_with (go_at_call 20; refine (none.same _ _).mono ?_; rintro e w2 ⟨rfl, rfl⟩)
      go_ret
      exact ⟨_, rfl, Kd.R_nil _ _ _ _ _, Below.refl _ _⟩
    | false =>
      rw [hle, if_neg (by simp)] at h
      obtain ⟨o, ho, h⟩ := Option.bind_eq_some_iff.1 h
      by_cases hlen : o.length ≤ 1000
      · rw [if_pos hlen] at h
        have HF := Aside0.mk (Option.some.inj h)
        have HO := Aside0.mk ho
        clear h ho
        have hgt_ := gtr_float
        have hlt_ := lss_float
        have hle_ := leq_float
        have hne_ := neq_float
        go_enter Try.func15, Try.ntmps15
        go_wp2_with (first
          | (go_at_call 20; refine (none.same _ _).mono ?_; rintro e w2 ⟨rfl, rfl⟩)
          | (go_at_call 21; refine (bosunref24_Order.calls k _ _ l0 o _ HR0.out HC0.out HO.out).mono ?_; rintro e w2 ⟨vo, rfl, hro, hb⟩; have HV := Aside0.mk hro; have HB := Aside0.mk hb; clear hro hb))
        go_loopg [5, 7, 8] o.length (fun kq v5 v7 v8 W => ∃ (i q : Nat) (out : List ByteArray), v8 = .int .i64 i ∧ v7 = .float .f64 q ∧ i ≤ o.length ∧ Aside0 (kq + i = o.length) ∧ out.length ≤ i ∧ Aside0 (out ++ untilL a1 (o.drop i) q = r) ∧ Aside0 (Kd.R Kd.string 9 W w.heap.size (fun _ => True) v5 out) ∧ Aside0 (Kd.R k39 39 W w.heap.size (fun _ => True) vo o) ∧ Aside0 (Below w.heap.size w W))
        case atStart => exact ⟨0, 0, [], rfl, rfl, Nat.zero_le _, ⟨rfl⟩, Nat.le_refl _, ⟨HF.out⟩, ⟨Kd.R_nil _ _ _ _ _⟩, HV, HB⟩
        case round =>
          obtain ⟨i, q, out, rfl, rfl, hi, HG, ho, HF, H5, H6, HB⟩ := hrel
          obtain ⟨Ao, co, eo⟩ := Kd.R_slice H6.out
          subst eo
          by_cases hlt : i < o.length
          · have hi0 : (0 : Int) ≤ i := by omega
            have hil : (i : Int) < (o.length : Int) := by omega
            have hF := HF.out
            rw [drop_rd o i hlt] at hF
            cases hq : ltF q a1 with
            | false =>
              rw [until_nan a1 q hq, List.append_nil] at hF
              go_wp2
              go_ret
              exact ⟨_, rfl, hF ▸ H5.out, HB.out⟩
            | true =>
              rw [untilL, hq, if_pos rfl] at hF
              cases gk with
              | zero => have := HG.out; omega
              | succ k1 =>
                have hg1 := HG.out
                obtain ⟨ad, e, x0, x1, x2⟩ := at_T39 (Kd.R_reads' H6.out).2.2 (i : Int) hi0 hil
                cases e
                rw [Int.toNat_natCast] at x0 x1 x2
                cases hu : gtF (rd_T39 o (i : Int)).f1 0 with
                | false =>
                  rw [hu, if_neg (by simp)] at hF
                  have HF2 := Aside0.mk hF
                  clear hF HF
                  go_wp2_with ((with_reducible refine gate_builtin (b:=.append) (xs:=#[.tmp 28, .tmp 34]) rfl ?_); at_builtin; refine Kd.R_append Kd.string (w0:=w) w.heap.size rfl (.tmp 28) (.tmp 34) 29 9 (.string ⟨#[]⟩) 16 rfl Try.underlying29 info9 rfl (by decide) (by omega) u5 out (rd_T39 o (i : Int)).f0 [.string (rd_T39 o (i : Int)).f0] (fun _ => True) (fun _ => False) rfl rfl rfl (fun _ hk => hk.elim) (fun _ _ => trivial) H5.out HB.out HB.out.size (by omega) ?_; intro v7 w7 ho2 hb hg hat; have hx0 := Kd.R_over' H6.out (Kd.R_typed H5.out) (by decide) hg; have hc7 := (Kd.R_reads' hx0).2.2; have n0 := Aside0.mk hx0; have n1 := Aside0.mk ho2; have n2 := Aside0.mk hb; obtain ⟨ad7, e7, y0, y1, y2⟩ := at_T39 hc7 (i : Int) hi0 hil; cases e7; rw [Int.toNat_natCast] at y0 y1 y2; clear hx0 hc7 ho2 hb hg hat H5 H6 HB; have H6 := n0; have H5 := n1; have HB := n2; clear n0 n1 n2)
                  go_roundg k1
                  case measure => omega
                  case rel => exact ⟨i + 1, q, out ++ [(rd_T39 o (i : Int)).f0], by go_num, rfl, by omega, ⟨by omega⟩, by simp; omega, ⟨by rw [List.append_assoc]; exact HF2.out⟩, H5, H6, HB⟩
                | true =>
                  rw [hu, if_pos rfl] at hF
                  cases ha : F64.add q (rd_T39 o (i : Int)).f1 with
                  | some q' =>
                    rw [ha] at hF
                    have HF2 := Aside0.mk hF
                    have hrun : ∀ w', (binOp .add 25 (.float .f64 q) (.float .f64 (rd_T39 o (i : Int)).f1)).run Try.prog w' = .ok (.float .f64 q') w' := fun w' => run_add_some ha
                    clear hF HF ha
                    go_wp2_with ((with_reducible refine gate_builtin (b:=.append) (xs:=#[.tmp 28, .tmp 34]) rfl ?_); at_builtin; refine Kd.R_append Kd.string (w0:=w) w.heap.size rfl (.tmp 28) (.tmp 34) 29 9 (.string ⟨#[]⟩) 16 rfl Try.underlying29 info9 rfl (by decide) (by omega) u5 out (rd_T39 o (i : Int)).f0 [.string (rd_T39 o (i : Int)).f0] (fun _ => True) (fun _ => False) rfl rfl rfl (fun _ hk => hk.elim) (fun _ _ => trivial) H5.out HB.out HB.out.size (by omega) ?_; intro v7 w7 ho2 hb hg hat; have hx0 := Kd.R_over' H6.out (Kd.R_typed H5.out) (by decide) hg; have hc7 := (Kd.R_reads' hx0).2.2; have n0 := Aside0.mk hx0; have n1 := Aside0.mk ho2; have n2 := Aside0.mk hb; obtain ⟨ad7, e7, y0, y1, y2⟩ := at_T39 hc7 (i : Int) hi0 hil; cases e7; rw [Int.toNat_natCast] at y0 y1 y2; clear hx0 hc7 ho2 hb hg hat H5 H6 HB; have H6 := n0; have H5 := n1; have HB := n2; clear n0 n1 n2)
                    go_roundg k1
                    case measure => omega
                    case rel => exact ⟨i + 1, q', out ++ [(rd_T39 o (i : Int)).f0], by go_num, rfl, by omega, ⟨by omega⟩, by simp; omega, ⟨by rw [List.append_assoc]; exact HF2.out⟩, H5, H6, HB⟩
                  | none =>
                    rw [ha] at hF
                    have HF2 := Aside0.mk hF
                    have HA := Aside0.mk ha
                    clear hF HF ha
                    go_wp2_with ((with_reducible refine gate_builtin (b:=.append) (xs:=#[.tmp 28, .tmp 34]) rfl ?_); at_builtin; refine Kd.R_append Kd.string (w0:=w) w.heap.size rfl (.tmp 28) (.tmp 34) 29 9 (.string ⟨#[]⟩) 16 rfl Try.underlying29 info9 rfl (by decide) (by omega) u5 out (rd_T39 o (i : Int)).f0 [.string (rd_T39 o (i : Int)).f0] (fun _ => True) (fun _ => False) rfl rfl rfl (fun _ hk => hk.elim) (fun _ _ => trivial) H5.out HB.out HB.out.size (by omega) ?_; intro v7 w7 ho2 hb hg hat; have hx0 := Kd.R_over' H6.out (Kd.R_typed H5.out) (by decide) hg; have hc7 := (Kd.R_reads' hx0).2.2; have n0 := Aside0.mk hx0; have n1 := Aside0.mk ho2; have n2 := Aside0.mk hb; obtain ⟨ad7, e7, y0, y1, y2⟩ := at_T39 hc7 (i : Int) hi0 hil; cases e7; rw [Int.toNat_natCast] at y0 y1 y2; clear hx0 hc7 ho2 hb hg hat H5 H6 HB; have H6 := n0; have H5 := n1; have HB := n2; clear n0 n1 n2; obtain ⟨z, hz, hrun⟩ := run_add_none (P := Try.prog) (w := w7) (t := 25) HA.out; have HZ := Aside0.mk hz; clear hz)
                    go_roundg k1
                    case measure => omega
                    case rel => exact ⟨i + 1, z, out ++ [(rd_T39 o (i : Int)).f0], by go_num, rfl, by omega, ⟨by omega⟩, by simp; omega, ⟨by rw [until_nan a1 z (ltF_nan HZ.out), List.append_assoc]; exact HF2.out⟩, ⟨Kd.R_drew H5.out⟩, ⟨Kd.R_drew H6.out⟩, ⟨below_drew1 HB.out⟩⟩
          · have hil : ¬ ((i : Int) < (o.length : Int)) := by omega
            have hF := HF.out
            rw [List.drop_of_length_le (by omega), untilL, List.append_nil] at hF
            go_wp2
            go_ret
            exact ⟨_, rfl, hF ▸ H5.out, HB.out⟩
      · rw [if_neg hlen] at h
        cases h
end Go.Proofs.Ythnbkhggbfnpcaa.GEv
