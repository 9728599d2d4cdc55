/- DiffTells, the pure statement: what changed from a state to another one, and the lines of any event, are the document's; for every input. -/
import Derived.Test.YtpflenjhmeaeoaaGreatDoorDtM
namespace Go.Proofs.YtpflenjhmeaeoaaGreatDoor.Pure
open Go.RowKit Go.Proofs.YtpflenjhmeaeoaaGreatDoor.GUt Go.Proofs.YtpflenjhmeaeoaaGreatDoorW.PrintWords Go.Proofs.YtpflenjhmeaeoaaGreatDoorW.PrintLast Go.Proofs.YtpflenjhmeaeoaaGreatDoorW.PrintMore Go.Proofs.YtpflenjhmeaeoaaGreatDoor.DiffM
set_option linter.unusedVariables false
theorem uf : Ev (fun k => bQ.f k) true := by
  have h : bQ.f 60 = some true := by decide +kernel
  exact Ev.of (fun k => bQ.mono k) h
theorem yG (c : Int) (l : List S51) (hl : l.length * 96 ≤ 140737488351232) (hg : ∀ x ∈ l, G51 x) : dx.f c l = some (c, l.map bU) := by
  rw [dx.f, if_pos]
  refine ⟨by omega, fun x hx => ?_⟩
  obtain ⟨_, _, _, _, _, _, h5⟩ := hg x hx
  refine ⟨by have := h5.1; omega, fun y hy => ?_⟩
  obtain ⟨_, _, h2, h3, _, _, h6⟩ := h5.2.2 y hy
  exact ⟨by have := h3.1; omega, by have := h6.1; omega⟩
def conv (e : S30) : S43 := ⟨e.f0, e.f1, e.f2⟩
theorem yB : ∀ n (p q : List S51), p.length + q.length ≤ n → (kg p q).length ≤ n := by
  intro n
  induction n with
  | zero =>
    intro p q h
    obtain rfl : p = [] := List.eq_nil_of_length_eq_zero (by omega)
    obtain rfl : q = [] := List.eq_nil_of_length_eq_zero (by omega)
    simp [kg, mrg]
  | succ n ih =>
    intro p q h
    cases p with
    | nil => cases q with
      | nil => simp [kg, mrg]
      | cons y ys => have := ih [] ys (by simp at h ⊢ <;> omega); rw [kg, mrg]; simpa using this
    | cons x xs => cases q with
      | nil => have := ih xs [] (by simp at h ⊢ <;> omega); rw [kg, mrg]; simpa using this
      | cons y ys =>
        have i1 := ih xs (y :: ys) (by simp at h ⊢ <;> omega)
        have i2 := ih (x :: xs) ys (by simp at h ⊢ <;> omega)
        have i3 := ih xs ys (by simp at h ⊢ <;> omega)
        rw [kg, mrg]
        split
        · simpa using i1
        · split
          · simpa using i2
          · split
            · exact Nat.le_succ_of_le i3
            · simpa using i3
theorem wT : ∀ n (p q : List S51), p.length + q.length ≤ n → (kg p q).map conv = mrg key mkR same p q := by
  intro n
  induction n with
  | zero =>
    intro p q h
    obtain rfl : p = [] := List.eq_nil_of_length_eq_zero (by omega)
    obtain rfl : q = [] := List.eq_nil_of_length_eq_zero (by omega)
    simp [kg, mrg]
  | succ n ih =>
    intro p q h
    cases p with
    | nil => cases q with
      | nil => simp [kg, mrg]
      | cons y ys => have e := ih [] ys (by simp at h ⊢ <;> omega); rw [kg, mrg, mrg, List.map_cons, ← e]; rfl
    | cons x xs => cases q with
      | nil => have e := ih xs [] (by simp at h ⊢ <;> omega); rw [kg, mrg, mrg, List.map_cons, ← e]; rfl
      | cons y ys =>
        have i1 := ih xs (y :: ys) (by simp at h ⊢ <;> omega)
        have i2 := ih (x :: xs) ys (by simp at h ⊢ <;> omega)
        have i3 := ih xs ys (by simp at h ⊢ <;> omega)
        rw [kg, mrg, mrg]
        by_cases h1 : key x < key y
        · rw [if_pos h1, if_pos h1, List.map_cons, ← i1]; rfl
        · rw [if_neg h1, if_neg h1]
          by_cases h2 : key y < key x
          · rw [if_pos h2, if_pos h2, List.map_cons, ← i2]; rfl
          · rw [if_neg h2, if_neg h2]
            by_cases h3 : same x y = true
            · rw [if_pos h3, if_pos h3, ← i3]
            · rw [if_neg h3, if_neg h3, List.map_cons, ← i3]; rfl
theorem uM (l : List S30) (hl : l.length ≤ 9223372036854775806) : Ev (fun k => bq.f k l (l.map conv)) true := by
  refine Ev.congr (fun k => by rw [bq.f, if_pos (by rw [List.length_map])]) ?_
  have h : ∀ n i, i + n = l.length → Ev (fun k => bq.l0 k l (l.map conv) (l.length : Int) (i : Int)) true := by
    intro n
    induction n with
    | zero =>
      intro i hi
      exact Ev.step (f := fun _ => some true) (fun k => by rw [bq.l0, if_neg (by omega)]) (Ev.now _)
    | succ n ih =>
      intro i hi
      have h1 : i < l.length := by omega
      have h2 : i < (l.map conv).length := by rw [List.length_map]; exact h1
      refine Ev.step (f := fun k => bq.l0 k l (l.map conv) (l.length : Int) ((i + 1 : Nat) : Int)) (fun k => ?_) (ih (i + 1) (by omega))
      rw [bq.l0, if_pos (by omega), if_pos (by omega), if_pos (by omega), if_pos (by rw [List.length_map]; omega), yx h1, oU h2, List.getElem_map, if_neg (by simp [conv]), wr1 (by omega)]
  exact h l.length 0 (by omega)
theorem ug (n : Int) : ∃ t, dF.f n = some t ∧ dI.f n = some t ∧ t.size ≤ 6 := by
  rw [dF.f, dI.f, Option.bind_some]
  by_cases h0 : n = 0
  · subst h0; exact ⟨_, rfl, rfl, by decide⟩
  by_cases h1 : n = 1
  · subst h1; exact ⟨_, rfl, rfl, by decide⟩
  by_cases h2 : n = 2
  · subst h2; exact ⟨_, rfl, rfl, by decide⟩
  rw [if_neg h0, if_neg h1, if_neg h2]
  by_cases h3 : n < 0
  · rw [if_pos h3]; exact ⟨_, rfl, rfl, by decide⟩
  · rw [if_neg h3, if_pos (by omega)]; exact ⟨_, rfl, rfl, by decide⟩
theorem yC (n : Int) (s t : ByteArray) (hs : s.size ≤ 1000) (ht : t.size ≤ 1000) : ∃ u, bI.f n s t = some u ∧ cB.f n s t = some u := by
  obtain ⟨z, h1, h2, h3⟩ := ug n
  have e : (⟨#[32]⟩ : ByteArray).size = 1 := rfl
  rw [bI.f, cB.f, h1, h2, Option.bind_some, if_pos (by omega), if_pos (by rw [ByteArray.size_append, e]; omega), if_pos (by rw [ByteArray.size_append, ByteArray.size_append, e]; omega), if_pos (by rw [ByteArray.size_append, ByteArray.size_append, ByteArray.size_append, e]; omega)]
  exact ⟨_, rfl, rfl⟩
theorem DiffTells : aH.Pure := by
  intro x0 x1 kd file h0 h1 _ _
  obtain ⟨c, a⟩ := x0
  obtain ⟨d, b⟩ := x1
  obtain ⟨_, ha1, ha2, ha⟩ := h0
  obtain ⟨_, hb1, hb2, hb⟩ := h1
  dsimp only at ha1 ha2 ha hb1 hb2 hb
  refine Ev.rounds (r := true) ?_
  show Ev (fun k => aH.f k c a d b kd file) true
  obtain ⟨s, hs⟩ := oQ c a ha2 ha
  obtain ⟨t, ht⟩ := oQ d b hb2 hb
  obtain ⟨u, hu, hu2⟩ := tZ c a ha2
  obtain ⟨v, hv, hv2⟩ := tZ d b hb2
  have hno : Ev (fun k => aH.j0 k kd file true c a d b) true :=
    Ev.step (f := fun k => (bQ.f k).bind fun t => some t) (fun k => by rw [aH.j0, if_pos rfl]) (Ev.bind (f := fun _ t => some t) uf (Ev.now _))
  suffices hyes : Up key a → Up key b → file.size ≤ 200 → Ev (fun k => aH.j0 k kd file false c a d b) true by
    refine Ev.congr (fun k => by rw [aH.f]) ?_
    refine Ev.bind (f := fun k Bo => if Bo = true then (aU.f k d b).bind fun Bl => if Bl = true then (aX.f k c a).bind fun Bh => if Bh = true then (aX.f k d b).bind fun Bf => if Bf = true then aH.j0 k kd file (decide ((file.size : Int) > 200)) c a d b else aH.j0 k kd file true c a d b else aH.j0 k kd file true c a d b else aH.j0 k kd file true c a d b else aH.j0 k kd file true c a d b) hs ?_
    cases s with
    | false => exact hno
    | true =>
      refine Ev.bind (f := fun k Bl => if Bl = true then (aX.f k c a).bind fun Bh => if Bh = true then (aX.f k d b).bind fun Bf => if Bf = true then aH.j0 k kd file (decide ((file.size : Int) > 200)) c a d b else aH.j0 k kd file true c a d b else aH.j0 k kd file true c a d b else aH.j0 k kd file true c a d b) ht ?_
      cases t with
      | false => exact hno
      | true =>
        refine Ev.bind (f := fun k Bh => if Bh = true then (aX.f k d b).bind fun Bf => if Bf = true then aH.j0 k kd file (decide ((file.size : Int) > 200)) c a d b else aH.j0 k kd file true c a d b else aH.j0 k kd file true c a d b) hu ?_
        cases u with
        | false => exact hno
        | true =>
          refine Ev.bind (f := fun k Bf => if Bf = true then aH.j0 k kd file (decide ((file.size : Int) > 200)) c a d b else aH.j0 k kd file true c a d b) hv ?_
          cases v with
          | false => exact hno
          | true =>
            refine Ev.congr (fun k => if_pos rfl) ?_
            by_cases hf : (file.size : Int) > 200
            · rw [decide_eq_true hf]; exact hno
            · rw [decide_eq_false hf]; exact hyes (hu2 rfl) (hv2 rfl) (by omega)
  intro upa upb hfile
  have bnd : a.length + b.length + 1 < 3518437208883 := by omega
  have b1 : Ev (fun k => av.f k c a d b) (kg a b) := sS (a.length + b.length) a b [] (Nat.le_refl _) (by simp; omega) ha
  have b2 := yA c d a b bnd ha
  rw [← wO key ekR mkR same (fun i x => rfl) a b upa upb, ← wT _ a b (Nat.le_refl _)] at b2
  have hmax := yB _ a b (Nat.le_refl _)
  have b3 := uM (kg a b) (by omega)
  obtain ⟨z, hz1, hz2⟩ := yC kd file ⟨#[120]⟩ (by omega) (by decide)
  obtain ⟨y, hy1, hy2, _⟩ := ug kd
  refine Ev.step (f := fun k => (bQ.f k).bind fun Bn => if Bn = true then (av.f k c a d b).bind fun Bj => (aA.f k c (a.map bU) d (b.map bU)).bind fun Bg => (bq.f k Bj Bg).bind fun AZ => if AZ = true then some true else some false else some false) (fun k => by
    rw [aH.j0, if_neg (by decide), yG c a ha1 ha, yG d b hb1 hb]
    simp only [Option.bind_some, hz1, hz2, hy1, hy2, beq_self_eq_true, if_true]) ?_
  refine Ev.bind (f := fun k Bn => if Bn = true then (av.f k c a d b).bind fun Bj => (aA.f k c (a.map bU) d (b.map bU)).bind fun Bg => (bq.f k Bj Bg).bind fun AZ => if AZ = true then some true else some false else some false) uf ?_
  refine Ev.congr (fun k => if_pos rfl) ?_
  refine Ev.bind (f := fun k Bj => (aA.f k c (a.map bU) d (b.map bU)).bind fun Bg => (bq.f k Bj Bg).bind fun AZ => if AZ = true then some true else some false) b1 ?_
  refine Ev.bind (f := fun k Bg => (bq.f k (kg a b) Bg).bind fun AZ => if AZ = true then some true else some false) b2 ?_
  refine Ev.bind (f := fun k AZ => if AZ = true then some true else some false) b3 ?_
  exact Ev.congr (fun k => if_pos rfl) (Ev.now _)
end Go.Proofs.YtpflenjhmeaeoaaGreatDoor.Pure
