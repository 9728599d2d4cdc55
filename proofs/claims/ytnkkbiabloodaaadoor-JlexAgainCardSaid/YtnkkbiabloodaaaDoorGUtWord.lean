/- jlex.word: a map of signs, made by a literal and read once: its contract. No conditions beside those stated. -/
import Derived.Test.YtnkkbiabloodaaaDoorGUtUnq
import Derived.Test.YtnkkbiabloodaaaDoorGUtx4
import Derived.Test.YtnkkbiabloodaaaDoorGUtx3
import Derived.Test.YtnkkbiabloodaaaDoorGUtx2
import Derived.Maps.Own
import Derived.Maps.OwnOps
import Derived.Maps.OwnSet
import Derived.Maps.Views
namespace Go.Proofs.YtnkkbiabloodaaaDoor.GUt
open Go.RowKit Go.Maps Go.WideMaps Go.Shelf Go.Proofs.YtnkkbiabloodaaaDoorW.PrintWords Go.Proofs.YtnkkbiabloodaaaDoorW.PrintLast Go.Proofs.YtnkkbiabloodaaaDoorW.PrintMore
set_option linter.unusedVariables false
set_option linter.unusedSimpArgs false

/-- The kind of a sign; -1: it is none. -/
def signN (c : Int) : Int := if c = 123 then 0 else if c = 125 then 1 else if c = 91 then 2 else if c = 93 then 3 else if c = 58 then 4 else if c = 44 then 5 else -1
abbrev signsD : DataW Unit := ((((((DataW.map []).put (.int .u8 123) (.lit (.int .i64 0))).put (.int .u8 125) (.lit (.int .i64 1))).put (.int .u8 91) (.lit (.int .i64 2))).put (.int .u8 93) (.lit (.int .i64 3))).put (.int .u8 58) (.lit (.int .i64 4))).put (.int .u8 44) (.lit (.int .i64 5))
theorem lit_inj {a b : Int} (h : (.lit (.int .i64 a) : DataW Unit) = .lit (.int .i64 b)) : a = b := by
  injection h with h
  injection h
theorem key_ne {a b : Int} (h : a ≠ b) : (Lit.int .u8 a) ≠ .int .u8 b := fun e => h (by injection e)
theorem sign_at (c : Int) (h : 0 ≤ signN c) : Maps.has signsD (.int .u8 c) = true ∧ signsD.atKey (.int .u8 c) (.lit (.int .i64 0)) = .lit (.int .i64 (signN c)) := by
  unfold signN at h
  repeat' split at h
  all_goals first | (subst_vars; exact ⟨rfl, rfl⟩) | omega
theorem sign_no (c : Int) (h : signN c < 0) : Maps.has signsD (.int .u8 c) = false := by
  unfold signN at h
  repeat' split at h
  all_goals first | omega | skip
  rw [has_put_other (key_ne (by assumption)), has_put_other (key_ne (by assumption)), has_put_other (key_ne (by assumption)), has_put_other (key_ne (by assumption)), has_put_other (key_ne (by assumption)), has_put_other (key_ne (by assumption))]
  rfl
/-- The word with which a text begins: its kind, its text, its number, 0, how many bytes it has, the code. -/
def jlex_word.f (k : Nat) (s : ByteArray) : Option (Int × ByteArray × Int × Int × Int × Int) :=
  if s.size = 0 then none else if 0 ≤ signN (bt s 0) then some (signN (bt s 0), ⟨#[]⟩, 0, 0, 1, 0)
  else if bt s 0 = 34 then (utf_Unquote.f k s).bind fun r => some (6, r.1, 0, 0, r.2.1, r.2.2)
  else (jlex_digit.f (bt s 0)).bind fun d => if d = true ∨ bt s 0 = 45 then (jlex_run.f k s true).bind fun n => if 0 ≤ n ∧ n ≤ (s.size : Int) then (jlex_Whole.f k (s.extract 0 n.toNat)).bind fun v => some (10, ⟨#[]⟩, v.1, 0, n, v.2) else none
    else (jlex_run.f k s false).bind fun n => if 0 ≤ n ∧ n ≤ (s.size : Int) then (if (s.extract 0 n.toNat).toList = [110, 117, 108, 108] then some (7, ⟨#[]⟩, 0, 0, n, 0) else if (s.extract 0 n.toNat).toList = [116, 114, 117, 101] then some (8, ⟨#[]⟩, 0, 0, n, 0) else if (s.extract 0 n.toNat).toList = [102, 97, 108, 115, 101] then some (9, ⟨#[]⟩, 0, 0, n, 0) else some (0, ⟨#[]⟩, 0, 0, 0, 6)) else none
theorem jlex_word.mono : ∀ a0 k, LeO (jlex_word.f k a0) (jlex_word.f (k + 1) a0) := fun a0 k =>
  LeO.ite (LeO.refl _) (LeO.ite (LeO.refl _) (LeO.ite (LeO.bind (utf_Unquote.mono a0 k) fun _ => LeO.refl _) (LeO.bind (LeO.refl _) fun _ => LeO.ite (LeO.bind (jlex_run.mono a0 true k) fun _ => LeO.ite (LeO.bind (jlex_Whole.mono _ k) fun _ => LeO.refl _) (LeO.refl _)) (LeO.bind (jlex_run.mono a0 false k) fun _ => LeO.refl _))))
theorem mapLaw : Keyed Tryd.prog 5 := int_keyed Tryd.underlying5
theorem zeroK (w : World) : (zeroValue 67).run Tryd.prog w = .ok (.int .i64 0) w := by kernel_rfl
set_option maxHeartbeats 8000000 in
set_option maxRecDepth 100000 in
theorem jlex_word.calls (k : Nat) (s : ByteArray) (r1 : Int) (r2 : ByteArray) (r3 r4 r5 r6 : Int) (w : World) (h : jlex_word.f k s = some (r1, r2, r3, r4, r5, r6)) (hG : GW.GW w) :
    Calls Tryd.prog 44 #[.string s] w fun e w' => e = .returned (.tuple #[.agg #[.int .i64 r1, .string r2, .int .i64 r3, .int .i64 r4], .int .i64 r5, .int .i64 r6]) ∧ Below w.heap.size w w' := by
  have hmm := @run_makeMap Tryd.prog
  have hs : ¬ s.size = 0 := fun hn => by rw [jlex_word.f, if_pos hn] at h; cases h
  rw [jlex_word.f, if_neg hs] at h
  have q0 : (0 < s.size) = True := eq_true (by omega)
  have q1 : ((0 : Int) < (s.size : Int)) = True := eq_true (by omega)
  have hx0 : ∀ h : 0 < s.size, ((s[0]'h).toNat : Int) = bt s 0 := by have := bt_at s 0; simpa using this
  have hbr := bt_range s 0
  have hwf : (Lit.int .u8 (bt s 0)).wf = true := by simp [Lit.wf, IntKind.min, IntKind.max, IntKind.bits, IntKind.signed]; omega
  have HWF := Aside0.mk hwf
  have HG := Aside0.mk hG
  have HX := Aside0.mk hx0
  generalize hc : bt s 0 = c at *
  clear hs hbr hwf hG
  have o0 := World.ownsMap_made (H := Unit) (w.alloc (.cells #[.int .i64 0, .string ⟨#[]⟩, .int .i64 0, .int .i64 0] 69)) Tryd.prog 5 (plainElem Tryd.prog 67)
  rw [World.size_alloc] at o0
  obtain ⟨w1, e1, o1, g1⟩ := o0.update mapLaw Tryd.underlying98 (by unfold maxLen; omega) (key := .int .u8 123) (keyOf_int_mk Tryd.underlying5 (by decide)) (plainElem_int Tryd.underlying67 (a := 0) (q := .i64) (by decide))
  obtain ⟨w2, e2, o2, g2⟩ := o1.update mapLaw Tryd.underlying98 (by unfold maxLen; omega) (key := .int .u8 125) (keyOf_int_mk Tryd.underlying5 (by decide)) (plainElem_int Tryd.underlying67 (a := 1) (q := .i64) (by decide))
  obtain ⟨w3, e3, o3, g3⟩ := o2.update mapLaw Tryd.underlying98 (by unfold maxLen; omega) (key := .int .u8 91) (keyOf_int_mk Tryd.underlying5 (by decide)) (plainElem_int Tryd.underlying67 (a := 2) (q := .i64) (by decide))
  obtain ⟨w4, e4, o4, g4⟩ := o3.update mapLaw Tryd.underlying98 (by unfold maxLen; omega) (key := .int .u8 93) (keyOf_int_mk Tryd.underlying5 (by decide)) (plainElem_int Tryd.underlying67 (a := 3) (q := .i64) (by decide))
  obtain ⟨w5, e5, o5, g5⟩ := o4.update mapLaw Tryd.underlying98 (by unfold maxLen; omega) (key := .int .u8 58) (keyOf_int_mk Tryd.underlying5 (by decide)) (plainElem_int Tryd.underlying67 (a := 4) (q := .i64) (by decide))
  obtain ⟨w6, e6, o6, g6⟩ := o5.update mapLaw Tryd.underlying98 (by unfold maxLen; omega) (key := .int .u8 44) (keyOf_int_mk Tryd.underlying5 (by decide)) (plainElem_int Tryd.underlying67 (a := 5) (q := .i64) (by decide))
  have hC : w6.heap[w.heap.size]? = some (.cells #[.int .i64 0, .string ⟨#[]⟩, .int .i64 0, .int .i64 0] 69) := by
    have lt : ∀ v : World, w.heap.size + 1 < v.heap.size → w.heap.size < v.heap.size := fun v h => by omega
    have ne : some w.heap.size ≠ some (w.heap.size + 1) := fun e => by injection e with e; omega
    rw [g6.block w.heap.size (lt _ o5.lt) ne, g5.block w.heap.size (lt _ o4.lt) ne, g4.block w.heap.size (lt _ o3.lt) ne, g3.block w.heap.size (lt _ o2.lt) ne, g2.block w.heap.size (lt _ o1.lt) ne, g1.block w.heap.size (lt _ o0.lt) ne]
    exact (Below.heap_alloc _ _ w.heap.size (by simp)).trans (World.alloc_heap_new w _)
  have hB : Below w.heap.size w w6 := by
    have B0 := ((Below.refl w.heap.size w).alloc (Nat.le_refl _) (.cells #[.int .i64 0, .string ⟨#[]⟩, .int .i64 0, .int .i64 0] 69)).alloc (by simp) (.map #[] 0)
    have r : ∀ k, some (w.heap.size + 1) = some k → w.heap.size ≤ k := fun k hk => by injection hk with hk; omega
    exact (Below.grown (Below.grown (Below.grown (Below.grown (Below.grown (Below.grown B0 g1 (Nat.le_of_lt (by have := o0.lt; omega)) r) g2 (Nat.le_of_lt (by have := o1.lt; omega)) r) g3 (Nat.le_of_lt (by have := o2.lt; omega)) r) g4 (Nat.le_of_lt (by have := o3.lt; omega)) r) g5 (Nat.le_of_lt (by have := o4.lt; omega)) r) g6 (Nat.le_of_lt (by have := o5.lt; omega)) r)
  have HC := Aside0.mk hC
  have HB := Aside0.mk hB
  clear hC hB g1 g2 g3 g4 g5 g6 o0 o1 o2 o3 o4 o5
  by_cases hsg : 0 ≤ signN c
  · rw [if_pos hsg] at h
    injection h with h
    injection h with x1 h
    injection h with x2 h
    injection h with x3 h
    injection h with x4 h
    injection h with x5 x6
    subst x1 x2 x3 x4 x5 x6
    have YES1 := Aside0.mk (sign_at c hsg).1
    have YES2 := Aside0.mk (sign_at c hsg).2
    clear hsg
    have d0 := (blk_cell HC.out 0).trans rfl; have d1 := (blk_cell HC.out 1).trans rfl; have d2 := (blk_cell HC.out 2).trans rfl; have d3 := (blk_cell HC.out 3).trans rfl; have f0 := blk_frozen HC.out 0; have f1 := blk_frozen HC.out 1; have f2 := blk_frozen HC.out 2; have f3 := blk_frozen HC.out 3
    go_enter Tryd.func44, Tryd.ntmps44
    go_wp2_with (at_lookup; refine wpList_lookup_own_ok_int _ rfl _ _ 98 rfl 5 67 .i64 mapLaw Tryd.underlying98 Tryd.underlying67 (zeroK _) _ _ _ rfl o6 _ _ rfl (keyOf_int_mk Tryd.underlying5 HWF.out) ?_; intro c1 hat hwc; rw [YES1.out]; obtain rfl := lit_inj (YES2.out.symm.trans hat); clear hat hwc)
    refine bodyPost_ret (results_ctt rfl _ _ w.heap.size 69 #[.int .i64 (signN c), .string ⟨#[]⟩, .int .i64 0, .int .i64 0] (0, 0) _ rfl ?hh Tryd.underlying69 rfl (by kernel_rfl)) rfl ?_
    case hh =>
      refine blk_put (blk_put (blk_put (blk_put (cs := #[.int .i64 0, .string ⟨#[]⟩, .int .i64 0, .int .i64 0]) ?_ 0 _ rfl) 1 _ rfl) 2 _ rfl) 3 _ rfl
      (with_reducible repeat (first | apply blk_drewN | apply blk_drew | apply blk_alloc))
      exact HC.out
    refine ⟨rfl, ?_⟩
    refine Below.setCell (Below.setCell (Below.setCell (Below.setCell ?_ (p := ⟨w.heap.size, 0, none⟩) (Nat.le_refl _) _) (p := ⟨w.heap.size, 1, none⟩) (Nat.le_refl _) _) (p := ⟨w.heap.size, 2, none⟩) (Nat.le_refl _) _) (p := ⟨w.heap.size, 3, none⟩) (Nat.le_refl _) _
    repeat (first | exact HB.out | apply pw_below_drewN | apply below_drew1)
  rw [if_neg hsg] at h
  have NOS := Aside0.mk (sign_no c (by omega))
  clear hsg
  by_cases h34 : c = 34
  · rw [if_pos h34] at h
    obtain ⟨⟨t, n, e⟩, hu, h⟩ := Option.bind_eq_some_iff.1 h
    simp only [] at h
    injection h with h
    injection h with x1 h
    injection h with x2 h
    injection h with x3 h
    injection h with x4 h
    injection h with x5 x6
    subst x1 x2 x3 x4 x5 x6
    have e34 : (c == 34) = true := beq_iff_eq.2 h34
    clear h34
    have d0 := (blk_cell HC.out 0).trans rfl; have d1 := (blk_cell HC.out 1).trans rfl; have d2 := (blk_cell HC.out 2).trans rfl; have d3 := (blk_cell HC.out 3).trans rfl; have f0 := blk_frozen HC.out 0; have f1 := blk_frozen HC.out 1; have f2 := blk_frozen HC.out 2; have f3 := blk_frozen HC.out 3
    go_enter Tryd.func44, Tryd.ntmps44
    go_wp2_with (first | (at_lookup; refine wpList_lookup_own_ok_int _ rfl _ _ 98 rfl 5 67 .i64 mapLaw Tryd.underlying98 Tryd.underlying67 (zeroK _) _ _ _ rfl o6 _ _ rfl (keyOf_int_mk Tryd.underlying5 HWF.out) ?_; intro c1 hat hwc; rw [NOS.out]; clear hat hwc) | (go_at_call 50; refine (utf_Unquote.calls k s t n e _ hu (GW.below HG.out HB.out)).mono ?_; rintro e1 w7 ⟨rfl, hb7⟩; have HC7 := Aside0.mk (blk_below HC.out hb7); have HB7 := Aside0.mk (HB.out.trans (hb7.mono HB.out.size)); clear hb7; have d0 := (blk_cell HC7.out 0).trans rfl; have d1 := (blk_cell HC7.out 1).trans rfl; have d2 := (blk_cell HC7.out 2).trans rfl; have d3 := (blk_cell HC7.out 3).trans rfl; have f0 := blk_frozen HC7.out 0; have f1 := blk_frozen HC7.out 1; have f2 := blk_frozen HC7.out 2; have f3 := blk_frozen HC7.out 3))
    refine bodyPost_ret (results_ctt rfl _ _ w.heap.size 69 #[.int .i64 6, .string t, .int .i64 0, .int .i64 0] (0, 0) _ rfl ?hh Tryd.underlying69 rfl (by kernel_rfl)) rfl ?_
    case hh =>
      refine blk_put (blk_put (blk_put (blk_put (cs := #[.int .i64 0, .string ⟨#[]⟩, .int .i64 0, .int .i64 0]) ?_ 0 _ rfl) 1 _ rfl) 2 _ rfl) 3 _ rfl
      (with_reducible repeat (first | apply blk_drewN | apply blk_drew | apply blk_alloc))
      exact HC7.out
    refine ⟨rfl, ?_⟩
    refine Below.setCell (Below.setCell (Below.setCell (Below.setCell ?_ (p := ⟨w.heap.size, 0, none⟩) (Nat.le_refl _) _) (p := ⟨w.heap.size, 1, none⟩) (Nat.le_refl _) _) (p := ⟨w.heap.size, 2, none⟩) (Nat.le_refl _) _) (p := ⟨w.heap.size, 3, none⟩) (Nat.le_refl _) _
    repeat (first | exact HB7.out | apply pw_below_drewN | apply below_drew1)
  rw [if_neg h34] at h
  have e34 : (c == 34) = false := beq_eq_false_iff_ne.2 h34
  clear h34
  obtain ⟨d, hd, h⟩ := Option.bind_eq_some_iff.1 h
  by_cases hc45 : d = true ∨ c = 45
  · rw [if_pos hc45] at h
    obtain ⟨n, hn, h⟩ := Option.bind_eq_some_iff.1 h
    have hnn : 0 ≤ n ∧ n ≤ (s.size : Int) := Decidable.by_contra fun q => by rw [if_neg q] at h; cases h
    rw [if_pos hnn] at h
    have n0 : (0 ≤ n) = True := eq_true hnn.1
    have n1 : (n ≤ (s.size : Int)) = True := eq_true hnn.2
    clear hnn
    obtain ⟨⟨v, e⟩, hv, h⟩ := Option.bind_eq_some_iff.1 h
    simp only [] at h
    injection h with h
    injection h with x1 h
    injection h with x2 h
    injection h with x3 h
    injection h with x4 h
    injection h with x5 x6
    subst x1 x2 x3 x4 x5 x6
    have hc45' : d = true ∨ (d = false ∧ (c == 45) = true) := by
      cases d with
      | true => exact .inl rfl
      | false => exact .inr ⟨rfl, beq_iff_eq.2 (by
          rcases hc45 with q | q
          · cases q
          · exact q)⟩
    clear hc45
    rcases hc45' with rfl | ⟨rfl, e45⟩
    · have d0 := (blk_cell HC.out 0).trans rfl; have d1 := (blk_cell HC.out 1).trans rfl; have d2 := (blk_cell HC.out 2).trans rfl; have d3 := (blk_cell HC.out 3).trans rfl; have f0 := blk_frozen HC.out 0; have f1 := blk_frozen HC.out 1; have f2 := blk_frozen HC.out 2; have f3 := blk_frozen HC.out 3
      go_enter Tryd.func44, Tryd.ntmps44
      go_wp2_with (first | (at_lookup; refine wpList_lookup_own_ok_int _ rfl _ _ 98 rfl 5 67 .i64 mapLaw Tryd.underlying98 Tryd.underlying67 (zeroK _) _ _ _ rfl o6 _ _ rfl (keyOf_int_mk Tryd.underlying5 HWF.out) ?_; intro c1 hat hwc; rw [NOS.out]; clear hat hwc) | (go_at_call 41; refine (jlex_digit.calls c true _ hd).mono ?_; rintro e1 w7 ⟨rfl, ⟨nd, rfl⟩⟩) | (go_at_call 52; refine (jlex_run.calls k s true n _ hn).mono ?_; rintro e1 w7 ⟨rfl, ⟨nd, rfl⟩⟩) | (go_at_call 26; refine (jlex_Whole.calls k _ v e _ hv).mono ?_; rintro e1 w7 ⟨rfl, ⟨nd, rfl⟩⟩))
      refine bodyPost_ret (results_ctt rfl _ _ w.heap.size 69 #[.int .i64 10, .string ⟨#[]⟩, .int .i64 v, .int .i64 0] (0, 0) _ rfl ?hh Tryd.underlying69 rfl (by kernel_rfl)) rfl ?_
      case hh =>
        refine blk_put (blk_put (blk_put (blk_put (cs := #[.int .i64 0, .string ⟨#[]⟩, .int .i64 0, .int .i64 0]) ?_ 0 _ rfl) 1 _ rfl) 2 _ rfl) 3 _ rfl
        (with_reducible repeat (first | apply blk_drewN | apply blk_drew | apply blk_alloc))
        exact HC.out
      refine ⟨rfl, ?_⟩
      refine Below.setCell (Below.setCell (Below.setCell (Below.setCell ?_ (p := ⟨w.heap.size, 0, none⟩) (Nat.le_refl _) _) (p := ⟨w.heap.size, 1, none⟩) (Nat.le_refl _) _) (p := ⟨w.heap.size, 2, none⟩) (Nat.le_refl _) _) (p := ⟨w.heap.size, 3, none⟩) (Nat.le_refl _) _
      repeat (first | exact HB.out | apply pw_below_drewN | apply below_drew1)
    · have d0 := (blk_cell HC.out 0).trans rfl; have d1 := (blk_cell HC.out 1).trans rfl; have d2 := (blk_cell HC.out 2).trans rfl; have d3 := (blk_cell HC.out 3).trans rfl; have f0 := blk_frozen HC.out 0; have f1 := blk_frozen HC.out 1; have f2 := blk_frozen HC.out 2; have f3 := blk_frozen HC.out 3
      go_enter Tryd.func44, Tryd.ntmps44
      go_wp2_with (first | (at_lookup; refine wpList_lookup_own_ok_int _ rfl _ _ 98 rfl 5 67 .i64 mapLaw Tryd.underlying98 Tryd.underlying67 (zeroK _) _ _ _ rfl o6 _ _ rfl (keyOf_int_mk Tryd.underlying5 HWF.out) ?_; intro c1 hat hwc; rw [NOS.out]; clear hat hwc) | (go_at_call 41; refine (jlex_digit.calls c false _ hd).mono ?_; rintro e1 w7 ⟨rfl, ⟨nd, rfl⟩⟩) | (go_at_call 52; refine (jlex_run.calls k s true n _ hn).mono ?_; rintro e1 w7 ⟨rfl, ⟨nd, rfl⟩⟩) | (go_at_call 26; refine (jlex_Whole.calls k _ v e _ hv).mono ?_; rintro e1 w7 ⟨rfl, ⟨nd, rfl⟩⟩))
      refine bodyPost_ret (results_ctt rfl _ _ w.heap.size 69 #[.int .i64 10, .string ⟨#[]⟩, .int .i64 v, .int .i64 0] (0, 0) _ rfl ?hh Tryd.underlying69 rfl (by kernel_rfl)) rfl ?_
      case hh =>
        refine blk_put (blk_put (blk_put (blk_put (cs := #[.int .i64 0, .string ⟨#[]⟩, .int .i64 0, .int .i64 0]) ?_ 0 _ rfl) 1 _ rfl) 2 _ rfl) 3 _ rfl
        (with_reducible repeat (first | apply blk_drewN | apply blk_drew | apply blk_alloc))
        exact HC.out
      refine ⟨rfl, ?_⟩
      refine Below.setCell (Below.setCell (Below.setCell (Below.setCell ?_ (p := ⟨w.heap.size, 0, none⟩) (Nat.le_refl _) _) (p := ⟨w.heap.size, 1, none⟩) (Nat.le_refl _) _) (p := ⟨w.heap.size, 2, none⟩) (Nat.le_refl _) _) (p := ⟨w.heap.size, 3, none⟩) (Nat.le_refl _) _
      repeat (first | exact HB.out | apply pw_below_drewN | apply below_drew1)
  rw [if_neg hc45] at h
  have hd0 : d = false := by
    cases d with
    | true => exact absurd (.inl rfl) hc45
    | false => rfl
  subst hd0
  have e45 : (c == 45) = false := beq_eq_false_iff_ne.2 (fun q => hc45 (.inr q))
  clear hc45
  obtain ⟨n, hn, h⟩ := Option.bind_eq_some_iff.1 h
  have hnn : 0 ≤ n ∧ n ≤ (s.size : Int) := Decidable.by_contra fun q => by rw [if_neg q] at h; cases h
  rw [if_pos hnn] at h
  have n0 : (0 ≤ n) = True := eq_true hnn.1
  have n1 : (n ≤ (s.size : Int)) = True := eq_true hnn.2
  clear hnn
  by_cases g7 : (s.extract 0 n.toNat).toList = ([110, 117, 108, 108] : List UInt8)
  · rw [if_pos g7] at h
    injection h with h
    injection h with x1 h
    injection h with x2 h
    injection h with x3 h
    injection h with x4 h
    injection h with x5 x6
    subst x1 x2 x3 x4 x5 x6
    have b7 : ((s.extract 0 n.toNat).toList == ([110, 117, 108, 108] : List UInt8)) = true := beq_iff_eq.2 g7
    clear g7
    have d0 := (blk_cell HC.out 0).trans rfl; have d1 := (blk_cell HC.out 1).trans rfl; have d2 := (blk_cell HC.out 2).trans rfl; have d3 := (blk_cell HC.out 3).trans rfl; have f0 := blk_frozen HC.out 0; have f1 := blk_frozen HC.out 1; have f2 := blk_frozen HC.out 2; have f3 := blk_frozen HC.out 3
    go_enter Tryd.func44, Tryd.ntmps44
    go_wp2_with (first | (at_lookup; refine wpList_lookup_own_ok_int _ rfl _ _ 98 rfl 5 67 .i64 mapLaw Tryd.underlying98 Tryd.underlying67 (zeroK _) _ _ _ rfl o6 _ _ rfl (keyOf_int_mk Tryd.underlying5 HWF.out) ?_; intro c1 hat hwc; rw [NOS.out]; clear hat hwc) | (go_at_call 41; refine (jlex_digit.calls c false _ hd).mono ?_; rintro e1 w7 ⟨rfl, ⟨nd, rfl⟩⟩) | (go_at_call 52; refine (jlex_run.calls k s false n _ hn).mono ?_; rintro e1 w7 ⟨rfl, ⟨nd, rfl⟩⟩))
    refine bodyPost_ret (results_ctt rfl _ _ w.heap.size 69 #[.int .i64 7, .string ⟨#[]⟩, .int .i64 0, .int .i64 0] (0, 0) _ rfl ?hh Tryd.underlying69 rfl (by kernel_rfl)) rfl ?_
    case hh =>
      refine blk_put (blk_put (blk_put (blk_put (cs := #[.int .i64 0, .string ⟨#[]⟩, .int .i64 0, .int .i64 0]) ?_ 0 _ rfl) 1 _ rfl) 2 _ rfl) 3 _ rfl
      (with_reducible repeat (first | apply blk_drewN | apply blk_drew | apply blk_alloc))
      exact HC.out
    refine ⟨rfl, ?_⟩
    refine Below.setCell (Below.setCell (Below.setCell (Below.setCell ?_ (p := ⟨w.heap.size, 0, none⟩) (Nat.le_refl _) _) (p := ⟨w.heap.size, 1, none⟩) (Nat.le_refl _) _) (p := ⟨w.heap.size, 2, none⟩) (Nat.le_refl _) _) (p := ⟨w.heap.size, 3, none⟩) (Nat.le_refl _) _
    repeat (first | exact HB.out | apply pw_below_drewN | apply below_drew1)
  rw [if_neg g7] at h
  have b7 : ((s.extract 0 n.toNat).toList == ([110, 117, 108, 108] : List UInt8)) = false := beq_eq_false_iff_ne.2 g7
  clear g7
  by_cases g8 : (s.extract 0 n.toNat).toList = ([116, 114, 117, 101] : List UInt8)
  · rw [if_pos g8] at h
    injection h with h
    injection h with x1 h
    injection h with x2 h
    injection h with x3 h
    injection h with x4 h
    injection h with x5 x6
    subst x1 x2 x3 x4 x5 x6
    have b8 : ((s.extract 0 n.toNat).toList == ([116, 114, 117, 101] : List UInt8)) = true := beq_iff_eq.2 g8
    clear g8
    have d0 := (blk_cell HC.out 0).trans rfl; have d1 := (blk_cell HC.out 1).trans rfl; have d2 := (blk_cell HC.out 2).trans rfl; have d3 := (blk_cell HC.out 3).trans rfl; have f0 := blk_frozen HC.out 0; have f1 := blk_frozen HC.out 1; have f2 := blk_frozen HC.out 2; have f3 := blk_frozen HC.out 3
    go_enter Tryd.func44, Tryd.ntmps44
    go_wp2_with (first | (at_lookup; refine wpList_lookup_own_ok_int _ rfl _ _ 98 rfl 5 67 .i64 mapLaw Tryd.underlying98 Tryd.underlying67 (zeroK _) _ _ _ rfl o6 _ _ rfl (keyOf_int_mk Tryd.underlying5 HWF.out) ?_; intro c1 hat hwc; rw [NOS.out]; clear hat hwc) | (go_at_call 41; refine (jlex_digit.calls c false _ hd).mono ?_; rintro e1 w7 ⟨rfl, ⟨nd, rfl⟩⟩) | (go_at_call 52; refine (jlex_run.calls k s false n _ hn).mono ?_; rintro e1 w7 ⟨rfl, ⟨nd, rfl⟩⟩))
    refine bodyPost_ret (results_ctt rfl _ _ w.heap.size 69 #[.int .i64 8, .string ⟨#[]⟩, .int .i64 0, .int .i64 0] (0, 0) _ rfl ?hh Tryd.underlying69 rfl (by kernel_rfl)) rfl ?_
    case hh =>
      refine blk_put (blk_put (blk_put (blk_put (cs := #[.int .i64 0, .string ⟨#[]⟩, .int .i64 0, .int .i64 0]) ?_ 0 _ rfl) 1 _ rfl) 2 _ rfl) 3 _ rfl
      (with_reducible repeat (first | apply blk_drewN | apply blk_drew | apply blk_alloc))
      exact HC.out
    refine ⟨rfl, ?_⟩
    refine Below.setCell (Below.setCell (Below.setCell (Below.setCell ?_ (p := ⟨w.heap.size, 0, none⟩) (Nat.le_refl _) _) (p := ⟨w.heap.size, 1, none⟩) (Nat.le_refl _) _) (p := ⟨w.heap.size, 2, none⟩) (Nat.le_refl _) _) (p := ⟨w.heap.size, 3, none⟩) (Nat.le_refl _) _
    repeat (first | exact HB.out | apply pw_below_drewN | apply below_drew1)
  rw [if_neg g8] at h
  have b8 : ((s.extract 0 n.toNat).toList == ([116, 114, 117, 101] : List UInt8)) = false := beq_eq_false_iff_ne.2 g8
  clear g8
  by_cases g9 : (s.extract 0 n.toNat).toList = ([102, 97, 108, 115, 101] : List UInt8)
  · rw [if_pos g9] at h
    injection h with h
    injection h with x1 h
    injection h with x2 h
    injection h with x3 h
    injection h with x4 h
    injection h with x5 x6
    subst x1 x2 x3 x4 x5 x6
    have b9 : ((s.extract 0 n.toNat).toList == ([102, 97, 108, 115, 101] : List UInt8)) = true := beq_iff_eq.2 g9
    clear g9
    have d0 := (blk_cell HC.out 0).trans rfl; have d1 := (blk_cell HC.out 1).trans rfl; have d2 := (blk_cell HC.out 2).trans rfl; have d3 := (blk_cell HC.out 3).trans rfl; have f0 := blk_frozen HC.out 0; have f1 := blk_frozen HC.out 1; have f2 := blk_frozen HC.out 2; have f3 := blk_frozen HC.out 3
    go_enter Tryd.func44, Tryd.ntmps44
    go_wp2_with (first | (at_lookup; refine wpList_lookup_own_ok_int _ rfl _ _ 98 rfl 5 67 .i64 mapLaw Tryd.underlying98 Tryd.underlying67 (zeroK _) _ _ _ rfl o6 _ _ rfl (keyOf_int_mk Tryd.underlying5 HWF.out) ?_; intro c1 hat hwc; rw [NOS.out]; clear hat hwc) | (go_at_call 41; refine (jlex_digit.calls c false _ hd).mono ?_; rintro e1 w7 ⟨rfl, ⟨nd, rfl⟩⟩) | (go_at_call 52; refine (jlex_run.calls k s false n _ hn).mono ?_; rintro e1 w7 ⟨rfl, ⟨nd, rfl⟩⟩))
    refine bodyPost_ret (results_ctt rfl _ _ w.heap.size 69 #[.int .i64 9, .string ⟨#[]⟩, .int .i64 0, .int .i64 0] (0, 0) _ rfl ?hh Tryd.underlying69 rfl (by kernel_rfl)) rfl ?_
    case hh =>
      refine blk_put (blk_put (blk_put (blk_put (cs := #[.int .i64 0, .string ⟨#[]⟩, .int .i64 0, .int .i64 0]) ?_ 0 _ rfl) 1 _ rfl) 2 _ rfl) 3 _ rfl
      (with_reducible repeat (first | apply blk_drewN | apply blk_drew | apply blk_alloc))
      exact HC.out
    refine ⟨rfl, ?_⟩
    refine Below.setCell (Below.setCell (Below.setCell (Below.setCell ?_ (p := ⟨w.heap.size, 0, none⟩) (Nat.le_refl _) _) (p := ⟨w.heap.size, 1, none⟩) (Nat.le_refl _) _) (p := ⟨w.heap.size, 2, none⟩) (Nat.le_refl _) _) (p := ⟨w.heap.size, 3, none⟩) (Nat.le_refl _) _
    repeat (first | exact HB.out | apply pw_below_drewN | apply below_drew1)
  rw [if_neg g9] at h
  have b9 : ((s.extract 0 n.toNat).toList == ([102, 97, 108, 115, 101] : List UInt8)) = false := beq_eq_false_iff_ne.2 g9
  clear g9
  injection h with h
  injection h with x1 h
  injection h with x2 h
  injection h with x3 h
  injection h with x4 h
  injection h with x5 x6
  subst x1 x2 x3 x4 x5 x6
  have d0 := (blk_cell HC.out 0).trans rfl; have d1 := (blk_cell HC.out 1).trans rfl; have d2 := (blk_cell HC.out 2).trans rfl; have d3 := (blk_cell HC.out 3).trans rfl; have f0 := blk_frozen HC.out 0; have f1 := blk_frozen HC.out 1; have f2 := blk_frozen HC.out 2; have f3 := blk_frozen HC.out 3
  go_enter Tryd.func44, Tryd.ntmps44
  go_wp2_with (first | (at_lookup; refine wpList_lookup_own_ok_int _ rfl _ _ 98 rfl 5 67 .i64 mapLaw Tryd.underlying98 Tryd.underlying67 (zeroK _) _ _ _ rfl o6 _ _ rfl (keyOf_int_mk Tryd.underlying5 HWF.out) ?_; intro c1 hat hwc; rw [NOS.out]; clear hat hwc) | (go_at_call 41; refine (jlex_digit.calls c false _ hd).mono ?_; rintro e1 w7 ⟨rfl, ⟨nd, rfl⟩⟩) | (go_at_call 52; refine (jlex_run.calls k s false n _ hn).mono ?_; rintro e1 w7 ⟨rfl, ⟨nd, rfl⟩⟩))
  refine bodyPost_ret (results_ctt rfl _ _ w.heap.size 69 #[.int .i64 0, .string ⟨#[]⟩, .int .i64 0, .int .i64 0] (0, 0) _ rfl ?hh Tryd.underlying69 rfl (by kernel_rfl)) rfl ?_
  case hh =>
    refine blk_put (blk_put (blk_put (blk_put (cs := #[.int .i64 0, .string ⟨#[]⟩, .int .i64 0, .int .i64 0]) ?_ 0 _ rfl) 1 _ rfl) 2 _ rfl) 3 _ rfl
    (with_reducible repeat (first | apply blk_drewN | apply blk_drew | apply blk_alloc))
    exact HC.out
  refine ⟨rfl, ?_⟩
  refine Below.setCell (Below.setCell (Below.setCell (Below.setCell ?_ (p := ⟨w.heap.size, 0, none⟩) (Nat.le_refl _) _) (p := ⟨w.heap.size, 1, none⟩) (Nat.le_refl _) _) (p := ⟨w.heap.size, 2, none⟩) (Nat.le_refl _) _) (p := ⟨w.heap.size, 3, none⟩) (Nat.le_refl _) _
  repeat (first | exact HB.out | apply pw_below_drewN | apply below_drew1)
end Go.Proofs.YtnkkbiabloodaaaDoor.GUt
