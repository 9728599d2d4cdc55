/- DiffTurns, the pure statement: from a state to itself nothing changed; the other way round Add and Remove change places; there is no event just if the pods are alike; for every input. -/
import Derived.Test.YtpflenjhmeaeoaaDoorDtM
namespace Go.Proofs.YtpflenjhmeaeoaaDoor.Pure
open Go.RowKit Go.Proofs.YtpflenjhmeaeoaaDoor.GUt Go.Proofs.YtpflenjhmeaeoaaDoorW.PrintWords Go.Proofs.YtpflenjhmeaeoaaDoorW.PrintLast Go.Proofs.YtpflenjhmeaeoaaDoorW.PrintMore Go.Proofs.YtpflenjhmeaeoaaDoor.DiffM
set_option linter.unusedVariables false
theorem tu : Ev (fun k => bJ.f k) true := by
  have h : bJ.f 60 = some true := by decide +kernel
  exact Ev.of (fun k => bJ.mono k) h
def nC (x y : S102) : Bool := btB x.f0 y.f0 && oL x.f1 y.f1
theorem xR (c : Int) (l : List S102) (hl : l.length * 96 ≤ 140737488351232) (hg : ∀ x ∈ l, rZ x) : dL.f c l = some (c, l.map dz) := by
  rw [dL.f, if_pos]
  refine ⟨by omega, fun x hx => ?_⟩
  obtain ⟨_, _, _, _, _, _, h5⟩ := hg x hx
  refine ⟨by have := h5.1; omega, fun y hy => ?_⟩
  obtain ⟨_, _, h2, h3, _, _, h6⟩ := h5.2.2 y hy
  exact ⟨by have := h3.1; omega, by have := h6.1; omega⟩
theorem qE (x y : S102) : ((dz x).f0.toList = (dz y).f0.toList) ↔ btB x.f0 y.f0 = true := gP.symm
theorem mO {l : List S102} {i : Nat} (h : i < l.length) : aK (l.map dz) (i : Int) = dz l[i] := by
  rw [xE (by simpa using h), List.getElem_map]
theorem uy (c d : Int) (a b : List S102) (hl : a.length ≤ 9223372036854775806) (hg : ∀ x ∈ a, rZ x) : ∃ v, Ev (fun k => aI.f k c (a.map dz) d (b.map dz)) v ∧ (v = true → gY nC a b = true) := by
  by_cases hc : c = d
  · by_cases h : a.length = b.length
    · refine ⟨gY nC a b, ?_, id⟩
      refine Ev.congr (f := fun k => aI.j0 k false c (a.map dz) d (b.map dz)) (fun k => by rw [aI.f, if_pos hc, bne_eq_false_iff_eq.2 (by simp [h])]) ?_
      refine Ev.step (f := fun k => aI.l0 k 0 c (a.map dz) d (b.map dz)) (fun k => by rw [aI.j0, if_neg (by decide)]) ?_
      have key : ∀ n i, i + n = a.length → Ev (fun k => aI.l0 k (i : Int) c (a.map dz) d (b.map dz)) (gY nC (a.drop i) (b.drop i)) := by
        intro n
        induction n with
        | zero =>
          intro i hi
          rw [List.drop_eq_nil_of_le (by omega), List.drop_eq_nil_of_le (by omega), gY]
          exact Ev.step (f := fun _ => some true) (fun k => by rw [aI.l0, if_neg (by rw [List.length_map]; omega)]) (Ev.now _)
        | succ n ih =>
          intro i hi
          have h1 : i < a.length := by omega
          have h2 : i < b.length := by omega
          rw [List.drop_eq_getElem_cons h1, List.drop_eq_getElem_cons h2, gY, nC, Bool.and_assoc]
          refine Ev.step (f := fun k => if (dz a[i]).f0.toList = (dz b[i]).f0.toList then (bB.f k (dz a[i]).f1.f0 (dz a[i]).f1.f1 (dz a[i]).f1.f2 (dz a[i]).f1.f3 (dz a[i]).f1.f4 (dz a[i]).f1.f5 (dz b[i]).f1.f0 (dz b[i]).f1.f1 (dz b[i]).f1.f2 (dz b[i]).f1.f3 (dz b[i]).f1.f4 (dz b[i]).f1.f5).bind fun t => if t = true then aI.l0 k ((i + 1 : Nat) : Int) c (a.map dz) d (b.map dz) else some false else some false)
            (fun k => by rw [aI.l0, if_pos (by rw [List.length_map]; omega), if_pos (by omega), if_pos (by rw [List.length_map]; omega), mO h1, mO h2, wr1 (by omega)]) ?_
          exact Ev.and (qE _ _).symm (Ev.uw (sZ a[i] b[i] (hg _ (List.getElem_mem h1)).2) (ih (i + 1) (by omega)))
      exact key a.length 0 (by omega)
    · refine ⟨false, ?_, fun z => by cases z⟩
      refine Ev.congr (f := fun k => aI.j0 k true c (a.map dz) d (b.map dz)) (fun k => by rw [aI.f, if_pos hc, bne_iff_ne.2 (by simp; omega)]) ?_
      exact Ev.step (f := fun _ => some false) (fun k => by rw [aI.j0, if_pos rfl]) (Ev.now _)
  · refine ⟨false, ?_, fun z => by cases z⟩
    refine Ev.congr (f := fun k => aI.j0 k true c (a.map dz) d (b.map dz)) (fun k => by rw [aI.f, if_neg hc]) ?_
    exact Ev.step (f := fun _ => some false) (fun k => by rw [aI.j0, if_pos rfl]) (Ev.now _)
theorem tC (a b : List S102) : (((fQ a b).length : Int) == 0) = gY nC a b := by
  refine Bool.eq_iff_iff.2 ?_
  rw [beq_iff_eq, qX]
  have h := sQ key mk same a b
  constructor
  · intro q
    obtain ⟨h1, h2⟩ := h.1 (List.eq_nil_of_length_eq_zero (show (fQ a b).length = 0 by omega))
    refine ⟨h1, fun i g1 g2 => ?_⟩
    obtain ⟨e1, e2⟩ := h2 i g1 g2
    rw [nC, Bool.and_eq_true]
    exact ⟨gP.2 e1, e2⟩
  · rintro ⟨h1, h2⟩
    have q := h.2 ⟨h1, fun i g1 g2 => by
      have e := h2 i g1 g2
      rw [nC, Bool.and_eq_true] at e
      exact ⟨gP.1 e.1, e.2⟩⟩
    rw [fQ, q]; rfl
theorem DiffTurns : ak.Pure := by
  intro x0 x1 h0 h1
  obtain ⟨c, a⟩ := x0
  obtain ⟨d, b⟩ := x1
  obtain ⟨_, ha1, ha2, ha⟩ := h0
  obtain ⟨_, hb1, hb2, hb⟩ := h1
  dsimp only at ha1 ha2 ha hb1 hb2 hb
  refine Ev.rounds (r := true) ?_
  show Ev (fun k => ak.f k c a d b) true
  obtain ⟨s, hs⟩ := oM c a ha2 ha
  obtain ⟨t, ht⟩ := oM d b hb2 hb
  obtain ⟨u, hu, _⟩ := tq c a ha2
  obtain ⟨v, hv, _⟩ := tq d b hb2
  have hno : Ev (fun k => ak.j0 k true c a d b) true :=
    Ev.step (f := fun k => (bJ.f k).bind fun t => some t) (fun k => by rw [ak.j0, if_pos rfl]) (Ev.bind (f := fun _ t => some t) tu (Ev.now _))
  suffices hyes : Ev (fun k => ak.j0 k false c a d b) true by
    refine Ev.congr (fun k => by rw [ak.f]) ?_
    refine Ev.bind (f := fun k Aw => if Aw = true then (aR.f k d b).bind fun Au => if Au = true then (aX.f k c a).bind fun Aq => if Aq = true then (aX.f k d b).bind fun Am => ak.j0 k (!Am) c a d b else ak.j0 k true c a d b else ak.j0 k true c a d b else ak.j0 k true c a d b) hs ?_
    cases s with
    | false => exact hno
    | true =>
      refine Ev.bind (f := fun k Au => if Au = true then (aX.f k c a).bind fun Aq => if Aq = true then (aX.f k d b).bind fun Am => ak.j0 k (!Am) c a d b else ak.j0 k true c a d b else ak.j0 k true c a d b) ht ?_
      cases t with
      | false => exact hno
      | true =>
        refine Ev.bind (f := fun k Aq => if Aq = true then (aX.f k d b).bind fun Am => ak.j0 k (!Am) c a d b else ak.j0 k true c a d b) hu ?_
        cases u with
        | false => exact hno
        | true =>
          refine Ev.bind (f := fun k Am => ak.j0 k (!Am) c a d b) hv ?_
          cases v with
          | false => exact hno
          | true => exact hyes
  have bnd : a.length + b.length + 1 < 3518437208883 := by omega
  have b1 : Ev (fun k => aA.f k c a d b) (fQ a b) := lQ (a.length + b.length) a b [] (Nat.le_refl _) (by simp; omega) ha
  have b2 : Ev (fun k => aA.f k d b c a) (fQ b a) := lQ (a.length + b.length) b a [] (by omega) (by simp; omega) hb
  have b3 : Ev (fun k => aA.f k c a c a) (fQ a a) := lQ (a.length + a.length) a a [] (Nat.le_refl _) (by simp; omega) ha
  have e3 : fQ a a = [] := wm key mk same a (fun x _ => uq x.f1)
  have hsw := wo key ek mk same (fun i x => rfl) (fun e => e.f0) (fun i x => rfl) (fun x y => um x.f1 y.f1) (a.length + b.length) a b (Nat.le_refl _)
  have hlen : (fQ a b).length = (fQ b a).length := pQ hsw
  have hmax : (fQ a b).length ≤ 9223372036854775806 := by
    have : ∀ n (p q : List S102), p.length + q.length ≤ n → (fQ p q).length ≤ n := by
      intro n
      induction n with
      | zero =>
        intro p q h
        obtain rfl : p = [] := List.eq_nil_of_length_eq_zero (by omega)
        obtain rfl : q = [] := List.eq_nil_of_length_eq_zero (by omega)
        simp [fQ, mrg]
      | succ n ih =>
        intro p q h
        cases p with
        | nil => cases q with
          | nil => simp [fQ, mrg]
          | cons y ys => have := ih [] ys (by simp at h ⊢ <;> omega); rw [fQ, mrg]; simpa using this
        | cons x xs => cases q with
          | nil => have := ih xs [] (by simp at h ⊢ <;> omega); rw [fQ, mrg]; simpa using this
          | cons y ys =>
            have i1 := ih xs (y :: ys) (by simp at h ⊢ <;> omega)
            have i2 := ih (x :: xs) ys (by simp at h ⊢ <;> omega)
            have i3 := ih xs ys (by simp at h ⊢ <;> omega)
            rw [fQ, mrg]
            split
            · simpa using i1
            · split
              · simpa using i2
              · split
                · exact Nat.le_succ_of_le i3
                · simpa using i3
    have := this _ a b (Nat.le_refl _)
    omega
  obtain ⟨sv, hsv, Ay⟩ := uy c d a b (by omega) ha
  have hend : ∀ x10, x10 = gY nC a b → Ev (fun k => (bJ.f k).bind fun t => if t = true then (if (x10 == (((fQ a b).length : Int) == 0)) = true then (aI.f k c (a.map dz) d (b.map dz)).bind fun t2 => if t2 = true then some (((fQ a b).length : Int) == 0) else some true else some false) else some false) true := by
    intro x10 hx
    refine Ev.bind (f := fun k t => if t = true then (if (x10 == (((fQ a b).length : Int) == 0)) = true then (aI.f k c (a.map dz) d (b.map dz)).bind fun t2 => if t2 = true then some (((fQ a b).length : Int) == 0) else some true else some false) else some false) tu ?_
    refine Ev.congr (fun k => by rw [if_pos rfl, if_pos (by rw [tC, hx]; simp)]) ?_
    refine Ev.bind (f := fun k t2 => if t2 = true then some (((fQ a b).length : Int) == 0) else some true) hsv ?_
    cases sv with
    | false => exact Ev.congr (fun k => if_neg (by decide)) (Ev.now _)
    | true => exact Ev.congr (fun k => by rw [if_pos rfl, tC, Ay rfl]) (Ev.now _)
  have hl1f : ∀ i : Int, gY nC a b = false → Ev (fun k => ak.l1 k (fQ a b) false i c (a.map dz) d (b.map dz)) true := fun i hf =>
    Ev.step (fun k => by rw [ak.l1, if_neg (by decide)]) (hend false hf.symm)
  have hl1t : a.length = b.length → ∀ n i, i + n = a.length → gY nC a b = gY nC (a.drop i) (b.drop i) → Ev (fun k => ak.l1 k (fQ a b) true (i : Int) c (a.map dz) d (b.map dz)) true := by
    intro hab n
    induction n with
    | zero =>
      intro i hi hr
      rw [List.drop_eq_nil_of_le (by omega), List.drop_eq_nil_of_le (by omega), gY] at hr
      exact Ev.step (fun k => by rw [ak.l1, if_pos rfl, if_neg (by rw [List.length_map]; omega)]) (hend true hr.symm)
    | succ n ih =>
      intro i hi hr
      have g1 : i < a.length := by omega
      have g2 : i < b.length := by omega
      rw [List.drop_eq_getElem_cons g1, List.drop_eq_getElem_cons g2, gY, nC] at hr
      by_cases hf : btB a[i].f0 b[i].f0 = true
      · rw [hf, Bool.true_and] at hr
        refine Ev.step (f := fun k => (bB.f k (dz a[i]).f1.f0 (dz a[i]).f1.f1 (dz a[i]).f1.f2 (dz a[i]).f1.f3 (dz a[i]).f1.f4 (dz a[i]).f1.f5 (dz b[i]).f1.f0 (dz b[i]).f1.f1 (dz b[i]).f1.f2 (dz b[i]).f1.f3 (dz b[i]).f1.f4 (dz b[i]).f1.f5).bind fun t => ak.l1 k (fQ a b) t ((i + 1 : Nat) : Int) c (a.map dz) d (b.map dz))
          (fun k => by rw [ak.l1, if_pos rfl, if_pos (by rw [List.length_map]; omega), if_pos (by omega), if_pos (by rw [List.length_map]; omega), mO g1, mO g2, if_pos ((qE _ _).2 hf), wr1 (by omega)]) ?_
        refine Ev.bind (f := fun k t => ak.l1 k (fQ a b) t ((i + 1 : Nat) : Int) c (a.map dz) d (b.map dz)) (sZ a[i] b[i] (ha _ (List.getElem_mem g1)).2) ?_
        cases hp : oL a[i].f1 b[i].f1 with
        | true => rw [hp, Bool.true_and] at hr; exact ih (i + 1) (by omega) hr
        | false => rw [hp, Bool.false_and] at hr; exact hl1f _ hr
      · rw [Bool.eq_false_iff.2 hf, Bool.false_and, Bool.false_and] at hr
        exact Ev.step (f := fun k => ak.l1 k (fQ a b) false ((i + 1 : Nat) : Int) c (a.map dz) d (b.map dz))
          (fun k => by rw [ak.l1, if_pos rfl, if_pos (by rw [List.length_map]; omega), if_pos (by omega), if_pos (by rw [List.length_map]; omega), mO g1, mO g2, if_neg (fun q => hf ((qE _ _).1 q)), wr1 (by omega)]) (hl1f _ hr)
  have hl0 : ∀ n i, i + n = (fQ a b).length → Ev (fun k => ak.l0 k (fQ a b) (fQ b a) ((fQ a b).length : Int) (i : Int) c a d b) true := by
    intro n
    induction n with
    | zero =>
      intro i hi
      refine Ev.step (f := fun k => ak.l1 k (fQ a b) (((a.map dz).length : Int) == ((b.map dz).length : Int)) 0 c (a.map dz) d (b.map dz)) (fun k => by rw [ak.l0, if_neg (by omega), xR c a ha1 ha, xR d b hb1 hb]; rfl) ?_
      by_cases hab : a.length = b.length
      · rw [beq_iff_eq.2 (by simp [hab])]
        exact hl1t hab a.length 0 (by omega) (by rw [List.drop_zero, List.drop_zero])
      · rw [beq_eq_false_iff_ne.2 (by simp; omega)]
        exact hl1f 0 (jy hab)
    | succ n ih =>
      intro i hi
      have g1 : i < (fQ a b).length := by omega
      have g2 : i < (fQ b a).length := by omega
      have hr := qV hsw i g1 g2
      have hr1 : (fQ a b)[i].f1.toList = (fQ b a)[i].f1.toList := hr.1
      have hr2 : (fQ a b)[i].f0 + (fQ b a)[i].f0 = 2 := hr.2
      refine Ev.step (f := fun k => ak.l0 k (fQ a b) (fQ b a) ((fQ a b).length : Int) ((i + 1 : Nat) : Int) c a d b) (fun k => ?_) (ih (i + 1) (by omega))
      rw [ak.l0, if_pos (by omega), if_pos (by omega), if_pos (by omega), if_pos (by omega), sV g1, sV g2, if_pos hr1, hr2, if_pos (bS (by decide) (by decide)), wr1 (by omega)]
  refine Ev.step (f := fun k => (aA.f k c a d b).bind fun Ao => (aA.f k d b c a).bind fun Al => (aA.f k c a c a).bind fun Ap => if (Ap.length : Int) = 0 then ak.j1 k Ao Al ((Ao.length : Int) != (Al.length : Int)) c a d b else ak.j1 k Ao Al true c a d b) (fun k => by rw [ak.j0, if_neg (by decide)]) ?_
  refine Ev.bind (f := fun k Ao => (aA.f k d b c a).bind fun Al => (aA.f k c a c a).bind fun Ap => if (Ap.length : Int) = 0 then ak.j1 k Ao Al ((Ao.length : Int) != (Al.length : Int)) c a d b else ak.j1 k Ao Al true c a d b) b1 ?_
  refine Ev.bind (f := fun k Al => (aA.f k c a c a).bind fun Ap => if (Ap.length : Int) = 0 then ak.j1 k (fQ a b) Al (((fQ a b).length : Int) != (Al.length : Int)) c a d b else ak.j1 k (fQ a b) Al true c a d b) b2 ?_
  refine Ev.bind (f := fun k Ap => if (Ap.length : Int) = 0 then ak.j1 k (fQ a b) (fQ b a) (((fQ a b).length : Int) != ((fQ b a).length : Int)) c a d b else ak.j1 k (fQ a b) (fQ b a) true c a d b) b3 ?_
  refine Ev.congr (f := fun k => ak.j1 k (fQ a b) (fQ b a) false c a d b) (fun k => by rw [e3, if_pos (by rfl), bne_eq_false_iff_eq.2 (by rw [hlen])]) ?_
  exact Ev.step (f := fun k => ak.l0 k (fQ a b) (fQ b a) ((fQ a b).length : Int) 0 c a d b) (fun k => by rw [ak.j1, if_neg (by decide)]) (hl0 (fQ a b).length 0 (by omega))
end Go.Proofs.YtpflenjhmeaeoaaDoor.Pure
