/- DiffTurns, plain: when two pods are alike, by the program and by the document. DiffTurns, plain: what changed, as the program tells it, is the walk of two fingers. DiffTells, plain: what changed, as the document tells it: file by file. No conditions beside those stated. -/
import Derived.Test.YtpflenjhmeaeoaaGreatDoorGUtDiffTellsS
import Derived.Test.YtpflenjhmeaeoaaGreatDoorDfMath
import Derived.Sort.Walk0
namespace Go.Proofs.YtpflenjhmeaeoaaGreatDoor.Pure
open Go.RowKit Go.Proofs.YtpflenjhmeaeoaaGreatDoor.GUt Go.Proofs.YtpflenjhmeaeoaaGreatDoorW.PrintWords Go.Proofs.YtpflenjhmeaeoaaGreatDoorW.PrintLast Go.Proofs.YtpflenjhmeaeoaaGreatDoorW.PrintMore
set_option linter.unusedVariables false
theorem wr1 {i : Nat} (h : i < 9223372036854775807) : wrap64 ((i : Int) + 1) = ((i + 1 : Nat) : Int) := by rw [dG (by omega) (by omega)]; rfl
def btB (a b : ByteArray) : Bool := a.toList == b.toList
theorem iZ {a b : ByteArray} : btB a b = true ↔ a.toList = b.toList := beq_iff_eq
def kD {α : Type} (e : α → α → Bool) : List α → List α → Bool
  | [], [] => true
  | x :: xs, y :: ys => e x y && kD e xs ys
  | _, _ => false
section
variable {α : Type} {e : α → α → Bool}
theorem rP : ∀ {l m : List α}, kD e l m = true → l.length = m.length
  | [], [], _ => rfl
  | x :: xs, y :: ys, h => by rw [kD, Bool.and_eq_true] at h; simp [rP h.2]
theorem jY {l m : List α} (h : l.length ≠ m.length) : kD e l m = false := Bool.eq_false_iff.2 fun q => h (rP q)
theorem xW (g : Nat → Int → Option Bool) (x y : List α) (hl : x.length = y.length) (hend : ∀ k, g (k + 1) (x.length : Int) = some true)
    (hstep : ∀ k (i : Nat) (h : i < x.length) (h' : i < y.length), g (k + 1) (i : Int) = if e x[i] y[i] = true then g k ((i + 1 : Nat) : Int) else some false) :
    ∀ n i, i + n = x.length → Ev (fun k => g k (i : Int)) (kD e (x.drop i) (y.drop i)) := by
  intro n
  induction n with
  | zero =>
    intro i hi
    obtain rfl : i = x.length := by omega
    rw [List.drop_eq_nil_of_le (Nat.le_refl _), List.drop_eq_nil_of_le (by omega), kD]
    exact Ev.step (f := fun _ => some true) hend (Ev.now _)
  | succ n ih =>
    intro i hi
    have h1 : i < x.length := by omega
    have h2 : i < y.length := by omega
    rw [List.drop_eq_getElem_cons h1, List.drop_eq_getElem_cons h2, kD]
    cases he : e x[i] y[i] with
    | false => exact Ev.step (f := fun _ => some false) (fun k => by rw [hstep k i h1 h2, he]; rfl) (Ev.now _)
    | true => exact Ev.step (f := fun k => g k ((i + 1 : Nat) : Int)) (fun k => by rw [hstep k i h1 h2, he]; rfl) (ih (i + 1) (by omega))
theorem mH (g : Nat → Int → Option Bool) (x y : List α) (hl : x.length = y.length) (hend : ∀ k, g (k + 1) (x.length : Int) = some true)
    (hstep : ∀ k (i : Nat) (h : i < x.length) (h' : i < y.length), g (k + 1) (i : Int) = if e x[i] y[i] = true then g k ((i + 1 : Nat) : Int) else some false) : Ev (fun k => g k 0) (kD e x y) :=
  xW g x y hl hend hstep x.length 0 (by omega)
end
def qb (p q : S88) : Bool := p.f0 == q.f0 && (p.f1 == q.f1)
def uL (p q : S71) : Bool := btB p.f0 q.f0 && btB p.f1 q.f1
theorem nO {l : List ByteArray} {i : Nat} (h : i < l.length) : iO ByteArray.empty l (i : Int) = l[i] := by simp [iO, List.getElem?_eq_getElem h]
theorem tV {l : List S88} {i : Nat} (h : i < l.length) : gU l (i : Int) = l[i] := by simp [gU, List.getElem?_eq_getElem h]
theorem tX {l : List S71} {i : Nat} (h : i < l.length) : gJ l (i : Int) = l[i] := by simp [gJ, List.getElem?_eq_getElem h]
theorem xX {l : List S69} {i : Nat} (h : i < l.length) : aj l (i : Int) = l[i] := by simp [aj, List.getElem?_eq_getElem h]
theorem mI {l : List S51} {i : Nat} (h : i < l.length) : aC l (i : Int) = l[i] := by simp [aC, List.getElem?_eq_getElem h]
theorem xY {l : List S59} {i : Nat} (h : i < l.length) : aJ l (i : Int) = l[i] := by simp [aJ, List.getElem?_eq_getElem h]
theorem xZ (l m : List ByteArray) (hm : l.length ≤ 9223372036854775807) : Ev (fun k => aV.f k l m) (kD btB l m) := by
  by_cases h : l.length = m.length
  · refine Ev.congr (fun k => by rw [aV.f, if_pos (by rw [h])]) ?_
    refine mH (fun k i => aV.l0 k l m (l.length : Int) i) l m h (fun k => by rw [aV.l0, if_neg (by omega)]) (fun k i h1 h2 => ?_)
    rw [aV.l0, if_pos (by omega), if_pos (by omega), if_pos (by omega), if_pos (by omega), nO h1, nO h2, wr1 (by omega)]
    by_cases q : l[i].toList = m[i].toList
    · rw [if_pos q, if_pos (iZ.2 q)]
    · rw [if_neg q, if_neg (fun z => q (iZ.1 z))]
  · rw [jY h]
    exact Ev.congr (fun k => by rw [aV.f, if_neg (by omega)]) (Ev.now _)
theorem wP (l m : List S88) (hm : l.length ≤ 9223372036854775807) : Ev (fun k => dM.f k l m) (kD qb l m) := by
  by_cases h : l.length = m.length
  · refine Ev.congr (fun k => by rw [dM.f, if_pos (by rw [h])]) ?_
    refine mH (fun k i => dM.l0 k l m (l.length : Int) i) l m h (fun k => by rw [dM.l0, if_neg (by omega)]) (fun k i h1 h2 => ?_)
    rw [dM.l0, if_pos (by omega), if_pos (by omega), if_pos (by omega), if_pos (by omega), tV h1, tV h2, wr1 (by omega)]
    rw [show (!(l[i].f0 == m[i].f0) || !(l[i].f1 == m[i].f1)) = !(qb l[i] m[i]) by rw [qb, Bool.not_and]]
    cases qb l[i] m[i] <;> rfl
  · rw [jY h]
    exact Ev.congr (fun k => by rw [dM.f, if_neg (by omega)]) (Ev.now _)
theorem yc (l m : List S71) (hm : l.length ≤ 9223372036854775807) : Ev (fun k => dR.f k l m) (kD uL l m) := by
  by_cases h : l.length = m.length
  · refine Ev.congr (fun k => by rw [dR.f, if_pos (by rw [h])]) ?_
    refine mH (fun k i => dR.l0 k l m (l.length : Int) i) l m h (fun k => by rw [dR.l0, if_neg (by omega)]) (fun k i h1 h2 => ?_)
    rw [dR.l0, if_pos (by omega), if_pos (by omega), if_pos (by omega), if_pos (by omega), tX h1, tX h2, wr1 (by omega)]
    rw [show (!(l[i].f0.toList == m[i].f0.toList) || !(l[i].f1.toList == m[i].f1.toList)) = !(uL l[i] m[i]) by rw [uL, btB, btB, Bool.not_and]]
    cases uL l[i] m[i] <;> rfl
  · rw [jY h]
    exact Ev.congr (fun k => by rw [dR.f, if_neg (by omega)]) (Ev.now _)
def wQ (p q : S69) : Bool := btB p.f0 q.f0 && (btB p.f1 q.f1 && ((p.f4 == q.f4) && ((p.f5 == q.f5) && (kD btB p.f2 q.f2 && (kD qb p.f3 q.f3 && kD uL p.f6 q.f6)))))
def yg (p q : S49) : Bool := btB p.f0 q.f0 && (btB p.f1 q.f1 && ((p.f2 == q.f2) && ((p.f3 == q.f3) && ((p.f4 == q.f4) && kD wQ p.f5 q.f5))))
theorem Ev.and {c : Prop} [Decidable c] {b d : Bool} {g : Nat → Option Bool} (hc : b = true ↔ c) (h : Ev g d) : Ev (fun k => if c then g k else some false) (b && d) := by
  by_cases q : c
  · rw [hc.2 q, Bool.true_and]
    exact Ev.congr (fun k => if_pos q) h
  · rw [Bool.eq_false_iff.2 (fun z => q (hc.1 z)), Bool.false_and]
    exact Ev.congr (fun k => if_neg q) (Ev.now _)
theorem Ev.wR {b d : Bool} {f g : Nat → Option Bool} (hf : Ev f b) (h : Ev g d) : Ev (fun k => (f k).bind fun t => if t = true then g k else some false) (b && d) :=
  Ev.bind (f := fun k t => if t = true then g k else some false) hf (Ev.and Iff.rfl h)
theorem zL (p q : S69) (hp : G69 p) : Ev (fun k => vZ k p q) (wQ p q) := by
  obtain ⟨_, _, h2, h3, _, _, h6⟩ := hp
  refine Ev.congr (fun k => by rw [vZ, d9.f]) ?_
  refine Ev.and iZ (Ev.and iZ (Ev.and beq_iff_eq (Ev.and beq_iff_eq (Ev.wR (xZ _ _ h2.2.1) (Ev.wR (wP _ _ h3.2.1) ?_)))))
  exact Ev.congr (f := fun k => dR.f k p.f6 q.f6) (fun k => by cases (dR.f k p.f6 q.f6) <;> rfl) (yc _ _ h6.2.1)
theorem tY : ∀ (l m : List S69), l.length = m.length → (∀ x ∈ l, G69 x) → Ev (fun k => lD k l m) (kD wQ l m)
  | [], [], _, _ => Ev.congr (f := fun _ => some true) (fun k => by simp [lD]) (Ev.now _)
  | p :: ps, q :: qs, h, hg => by
    refine Ev.congr (fun k => by rw [lD]) ?_
    exact Ev.wR (zL p q (hg p (by simp))) (tY ps qs (by simpa using h) (fun x hx => hg x (List.mem_cons_of_mem _ hx)))
theorem zM (p q : S49) (hp : G49 p) : Ev (fun k => dK.f k p.f0 p.f1 p.f2 p.f3 p.f4 p.f5 q.f0 q.f1 q.f2 q.f3 q.f4 q.f5) (yg p q) := by
  obtain ⟨_, _, _, _, _, h5⟩ := hp
  refine Ev.congr (fun k => by rw [dK.f]) ?_
  refine Ev.and iZ (Ev.and iZ (Ev.and beq_iff_eq (Ev.and beq_iff_eq (Ev.and beq_iff_eq ?_))))
  by_cases h : p.f5.length = q.f5.length
  · exact Ev.congr (fun k => by rw [oF, if_pos h]) (tY _ _ h h5.2.2)
  · rw [jY h]
    exact Ev.congr (fun k => by rw [oF, if_neg h]) (Ev.now _)
theorem wS (l m : List ByteArray) (hm : l.length ≤ 9223372036854775807) : Ev (fun k => bK.f k l m) (kD btB l m) := by
  by_cases h : l.length = m.length
  · refine Ev.congr (fun k => by rw [bK.f, if_pos (by rw [h])]) ?_
    refine mH (fun k i => bK.l0 k l m i) l m h (fun k => by rw [bK.l0, if_neg (by omega)]) (fun k i h1 h2 => ?_)
    rw [bK.l0, if_pos (by omega), if_pos (by omega), if_pos (by omega), nO h1, nO h2, wr1 (by omega)]
    by_cases q : l[i].toList = m[i].toList
    · rw [if_pos q, if_pos (iZ.2 q)]
    · rw [if_neg q, if_neg (fun z => q (iZ.1 z))]
  · rw [jY h]
    exact Ev.congr (fun k => by rw [bK.f, if_neg (by omega)]) (Ev.now _)
theorem lU {α β : Type} {e : α → α → Bool} {e' : β → β → Bool} {f : α → β} (h : ∀ x y, e' (f x) (f y) = e x y) : ∀ (l m : List α), l.length = m.length → iP e' (l.map f) (m.map f) = kD e l m
  | [], [], _ => rfl
  | x :: xs, y :: ys, q => by rw [List.map_cons, List.map_cons, iP, kD, h, lU h xs ys (by simpa using q)]
theorem yh (p q : S69) (hp : G69 p) : Ev (fun k => uG k (iM p) (iM q)) (wQ p q) := by
  obtain ⟨_, _, h2, h3, _, _, h6⟩ := hp
  refine Ev.congr (fun k => by rw [uG]) ?_
  refine Ev.and (iZ (a := p.f0)) (Ev.and (iZ (a := p.f1)) (Ev.and (beq_iff_eq (a := p.f4)) (Ev.and (beq_iff_eq (a := p.f5)) (Ev.wR (wS p.f2 q.f2 h2.2.1) ?_))))
  by_cases h : p.f3.length = q.f3.length
  · have h' : (p.f3.map iJ).length = (q.f3.map iJ).length := by simpa using h
    refine Ev.congr (fun k => if_pos h') ?_
    by_cases g : p.f6.length = q.f6.length
    · have g' : (p.f6.map jm).length = (q.f6.map jm).length := by simpa using g
      refine Ev.congr (fun k => if_pos g') ?_
      refine Ev.congr (fun k => ?_) (Ev.now _)
      show some (iP sN (p.f3.map iJ) (q.f3.map iJ) && iP qJ (p.f6.map jm) (q.f6.map jm)) = _
      rw [lU (e := qb) (e' := sN) (f := iJ) (fun x y => rfl) _ _ h, lU (e := uL) (e' := qJ) (f := jm) (fun x y => rfl) _ _ g]
    · have g' : ¬ (p.f6.map jm).length = (q.f6.map jm).length := by simpa using g
      rw [jY g, Bool.and_false]
      exact Ev.congr (fun k => if_neg g') (Ev.now _)
  · have h' : ¬ (p.f3.map iJ).length = (q.f3.map iJ).length := by simpa using h
    rw [jY h, Bool.false_and]
    exact Ev.congr (fun k => if_neg h') (Ev.now _)
theorem rQ : ∀ (l m : List S69), l.length = m.length → (∀ x ∈ l, G69 x) → Ev (fun k => lT k (l.map iM) (m.map iM)) (kD wQ l m)
  | [], [], _, _ => Ev.congr (f := fun _ => some true) (fun k => by simp [lT]) (Ev.now _)
  | p :: ps, q :: qs, h, hg => by
    refine Ev.congr (fun k => by rw [List.map_cons, List.map_cons, lT]) ?_
    exact Ev.wR (yh p q (hg p (by simp))) (rQ ps qs (by simpa using h) (fun x hx => hg x (List.mem_cons_of_mem _ hx)))
theorem yj (x y : S51) (hp : G49 x.f1) : Ev (fun k => bS.f k (bU x).f1.f0 (bU x).f1.f1 (bU x).f1.f2 (bU x).f1.f3 (bU x).f1.f4 (bU x).f1.f5 (bU y).f1.f0 (bU y).f1.f1 (bU y).f1.f2 (bU y).f1.f3 (bU y).f1.f4 (bU y).f1.f5) (yg x.f1 y.f1) := by
  obtain ⟨_, _, _, _, _, h5⟩ := hp
  refine Ev.congr (fun k => by rw [bS.f]) ?_
  refine Ev.and (iZ (a := x.f1.f0)) (Ev.and (iZ (a := x.f1.f1)) (Ev.and (beq_iff_eq (a := x.f1.f2)) (Ev.and (beq_iff_eq (a := x.f1.f3)) (Ev.and (beq_iff_eq (a := x.f1.f4)) ?_))))
  by_cases h : x.f1.f5.length = y.f1.f5.length
  · have h' : (x.f1.f5.map iM).length = (y.f1.f5.map iM).length := by simpa using h
    exact Ev.congr (fun k => if_pos h') (rQ _ _ h h5.2.2)
  · have h' : ¬ (x.f1.f5.map iM).length = (y.f1.f5.map iM).length := by simpa using h
    rw [jY h]
    exact Ev.congr (fun k => if_neg h') (Ev.now _)
end Go.Proofs.YtpflenjhmeaeoaaGreatDoor.Pure
namespace Go.Proofs.YtpflenjhmeaeoaaGreatDoor.Pure
open Go.RowKit Go.Proofs.YtpflenjhmeaeoaaGreatDoor.GUt Go.Proofs.YtpflenjhmeaeoaaGreatDoorW.PrintWords Go.Proofs.YtpflenjhmeaeoaaGreatDoorW.PrintLast Go.Proofs.YtpflenjhmeaeoaaGreatDoorW.PrintMore Go.Proofs.YtpflenjhmeaeoaaGreatDoor.DiffM
set_option linter.unusedVariables false
def key (x : S51) : Key := x.f0.toList
def ek (e : S30) : Key := e.f1.toList
def mk (i : Int) (x : S51) : S30 := ⟨i, x.f0, x.f1.f0⟩
def same (x y : S51) : Bool := yg x.f1 y.f1
abbrev kg (a b : List S51) : List S30 := mrg key mk same a b
theorem qM (x y : S51) : Op.bytesLess x.f0.toList y.f0.toList = decide (key x < key y) := Go.Proofs.bytesLess_eq _ _
theorem rd0 (x : S51) (xs : List S51) : aC (x :: xs) 0 = x := rfl
theorem sS : ∀ (n : Nat) (a b : List S51) (out : List S30), a.length + b.length ≤ n → out.length + n < 3518437208883 → (∀ x ∈ a, G51 x) → Ev (fun k => av.l0 k out a b) (out ++ kg a b) := by
  intro n
  induction n with
  | zero =>
    intro a b out hn ho ha
    obtain rfl : a = [] := List.eq_nil_of_length_eq_zero (by omega)
    obtain rfl : b = [] := List.eq_nil_of_length_eq_zero (by omega)
    rw [kg, mrg, List.append_nil]
    exact Ev.step (f := fun k => av.j1 k out [] [] false) (fun k => by rw [av.l0, if_neg (by simp)]; rfl) (Ev.step (f := fun _ => some out) (fun k => by rw [av.j1, if_neg (by simp)]) (Ev.now out))
  | succ n ih =>
    intro a b out hn ho ha
    have hout : out.length < 3518437208883 := by omega
    cases a with
    | nil =>
      cases b with
      | nil =>
        rw [kg, mrg, List.append_nil]
        exact Ev.step (f := fun k => av.j1 k out [] [] false) (fun k => by rw [av.l0, if_neg (by simp)]; rfl) (Ev.step (f := fun _ => some out) (fun k => by rw [av.j1, if_neg (by simp)]) (Ev.now out))
      | cons y ys =>
        have hr := ih [] ys (out ++ [mk 0 y]) (by simp at hn ⊢ <;> omega) (by simp <;> omega) ha
        rw [List.append_assoc] at hr
        rw [kg, mrg]
        refine Ev.step (f := fun k => av.j1 k out [] (y :: ys) true) (fun k => by rw [av.l0, if_neg (by simp), decide_eq_true (by simp <;> omega)]) ?_
        refine Ev.step (f := fun k => av.j2 k out [] (y :: ys) false) (fun k => by rw [av.j1, if_pos rfl, if_neg (by simp <;> omega), if_neg (by simp)]) ?_
        refine Ev.step (f := fun k => av.j3 k out [] (y :: ys) true) (fun k => by rw [av.j2, if_neg (by simp), if_pos (by simp)]) ?_
        exact Ev.step (f := fun k => av.l0 k (out ++ [mk 0 y]) [] ys) (fun k => by rw [av.j3, if_pos rfl, if_pos (by simp <;> omega), if_pos hout, if_pos (by simp <;> omega)]; rfl) hr
    | cons x xs =>
      have hxs : ∀ z ∈ xs, G51 z := fun z hz => ha z (List.mem_cons_of_mem _ hz)
      cases b with
      | nil =>
        have hr := ih xs [] (out ++ [mk 2 x]) (by simp at hn ⊢ <;> omega) (by simp <;> omega) hxs
        rw [List.append_assoc] at hr
        rw [kg, mrg]
        refine Ev.step (f := fun k => av.j1 k out (x :: xs) [] true) (fun k => by rw [av.l0, if_pos (by simp <;> omega)]) ?_
        refine Ev.step (f := fun k => av.j2 k out (x :: xs) [] true) (fun k => by rw [av.j1, if_pos rfl, if_pos (by simp)]) ?_
        exact Ev.step (f := fun k => av.l0 k (out ++ [mk 2 x]) xs []) (fun k => by rw [av.j2, if_pos rfl, if_pos (by simp <;> omega), if_pos hout, if_pos (by simp <;> omega)]; rfl) hr
      | cons y ys =>
        have px : (0 : Int) < ((x :: xs).length : Int) := by simp <;> omega
        have py : (0 : Int) < ((y :: ys).length : Int) := by simp <;> omega
        have nx : ¬ ((x :: xs).length : Int) = 0 := by omega
        have ny : ¬ ((y :: ys).length : Int) = 0 := by omega
        have ox : 1 ≤ ((x :: xs).length : Int) := by omega
        have oy : 1 ≤ ((y :: ys).length : Int) := by omega
        rw [kg, mrg]
        refine Ev.step (f := fun k => av.j1 k out (x :: xs) (y :: ys) true) (fun k => by rw [av.l0, if_pos px]) ?_
        refine Ev.step (f := fun k => av.j2 k out (x :: xs) (y :: ys) (decide (key x < key y))) (fun k => by rw [av.j1, if_pos rfl, if_neg ny, if_pos px, if_pos px, if_pos py, rd0, rd0, qM]) ?_
        by_cases h1 : key x < key y
        · have hr := ih xs (y :: ys) (out ++ [mk 2 x]) (by simp at hn ⊢ <;> omega) (by simp <;> omega) hxs
          rw [List.append_assoc] at hr
          rw [if_pos h1, decide_eq_true h1]
          exact Ev.step (f := fun k => av.l0 k (out ++ [mk 2 x]) xs (y :: ys)) (fun k => by rw [av.j2, if_pos rfl, if_pos px, if_pos hout, if_pos ox]; rfl) hr
        · rw [if_neg h1, decide_eq_false h1]
          refine Ev.step (f := fun k => av.j3 k out (x :: xs) (y :: ys) (decide (key y < key x))) (fun k => by rw [av.j2, if_neg (by simp), if_neg nx, if_pos py, if_pos px, rd0, rd0, qM]) ?_
          by_cases h2 : key y < key x
          · have hr := ih (x :: xs) ys (out ++ [mk 0 y]) (by simp at hn ⊢ <;> omega) (by simp <;> omega) ha
            rw [List.append_assoc] at hr
            rw [if_pos h2, decide_eq_true h2]
            exact Ev.step (f := fun k => av.l0 k (out ++ [mk 0 y]) (x :: xs) ys) (fun k => by rw [av.j3, if_pos rfl, if_pos py, if_pos hout, if_pos oy]; rfl) hr
          · rw [if_neg h2, decide_eq_false h2]
            have hp := zM x.f1 y.f1 (ha x (by simp)).2
            refine Ev.step (f := fun k => (dK.f k x.f1.f0 x.f1.f1 x.f1.f2 x.f1.f3 x.f1.f4 x.f1.f5 y.f1.f0 y.f1.f1 y.f1.f2 y.f1.f3 y.f1.f4 y.f1.f5).bind fun t => if t = true then av.l0 k out xs ys else av.l0 k (out ++ [mk 1 y]) xs ys)
              (fun k => by rw [av.j3, if_neg (by simp), if_pos px, if_pos py, rd0, rd0]; simp only [if_pos ox, if_pos oy, if_pos hout]; rfl) ?_
            refine Ev.bind (f := fun k t => if t = true then av.l0 k out xs ys else av.l0 k (out ++ [mk 1 y]) xs ys) hp ?_
            by_cases h3 : same x y = true
            · rw [if_pos h3]
              exact Ev.congr (fun k => if_pos h3) (ih xs ys out (by simp at hn ⊢ <;> omega) (by omega) hxs)
            · have hr := ih xs ys (out ++ [mk 1 y]) (by simp at hn ⊢ <;> omega) (by simp <;> omega) hxs
              rw [List.append_assoc] at hr
              rw [if_neg h3]
              exact Ev.congr (fun k => if_neg h3) hr
theorem yt (x18 : List S69) (Bg x20 : Int) (es : List S71) (hes : es.length ≤ 9223372036854775807) (hk : ∀ v, ∃ r, Ev (fun k => aT.l0 k v x18 Bg (wrap64 (x20 + 1))) r) : ∀ n i, i + n = es.length → ∀ x3, ∃ r, Ev (fun k => aT.l2 k x3 x18 Bg x20 es (es.length : Int) (i : Int)) r := by
  intro n
  induction n with
  | zero =>
    intro i hi x3
    by_cases h : x3 > 20000
    · exact ⟨20001, Ev.step (f := fun _ => some 20001) (fun k => by rw [aT.l2, if_neg (by omega), if_pos h]) (Ev.now _)⟩
    · obtain ⟨r, hr⟩ := hk x3
      exact ⟨r, Ev.step (fun k => by rw [aT.l2, if_neg (by omega), if_neg h]) hr⟩
  | succ n ih =>
    intro i hi x3
    obtain ⟨r, hr⟩ := ih (i + 1) (by omega) (wrap64 (x3 + (wrap64 ((wrap64 (10 + (((gJ es i).f0).size : Int))) + (((gJ es i).f1).size : Int)))))
    exact ⟨r, Ev.step (fun k => by rw [aT.l2, if_pos (by omega), if_pos (by omega), if_pos (by omega), wr1 (by omega)]) hr⟩
theorem yu (x18 : List S69) (Bg x20 : Int) (cs : List ByteArray) (hcs : cs.length ≤ 9223372036854775807) (c : S69) (hes : c.f6.length ≤ 9223372036854775807) (hk : ∀ v, ∃ r, Ev (fun k => aT.l0 k v x18 Bg (wrap64 (x20 + 1))) r) : ∀ n i, i + n = cs.length → ∀ x3, ∃ r, Ev (fun k => aT.l1 k x3 x18 Bg x20 cs (cs.length : Int) (i : Int) c.f0 c.f1 c.f2 c.f3 c.f4 c.f5 c.f6) r := by
  intro n
  induction n with
  | zero =>
    intro i hi x3
    obtain ⟨r, hr⟩ := yt x18 Bg x20 c.f6 hes hk c.f6.length 0 (by omega) x3
    exact ⟨r, Ev.step (f := fun k => aT.l2 k x3 x18 Bg x20 c.f6 (c.f6.length : Int) 0) (fun k => by rw [aT.l1, if_neg (by omega)]) hr⟩
  | succ n ih =>
    intro i hi x3
    obtain ⟨r, hr⟩ := ih (i + 1) (by omega) (wrap64 (x3 + (wrap64 (10 + ((iO ByteArray.empty cs i).size : Int)))))
    exact ⟨r, Ev.step (fun k => by rw [aT.l1, if_pos (by omega), if_pos (by omega), if_pos (by omega), wr1 (by omega)]) hr⟩
theorem yw (l : List S69) (hl : l.length ≤ 9223372036854775807) (hg : ∀ x ∈ l, G69 x) : ∀ n i, i + n = l.length → ∀ x3, ∃ r, Ev (fun k => aT.l0 k x3 l (l.length : Int) (i : Int)) r := by
  intro n
  induction n with
  | zero =>
    intro i hi x3
    exact ⟨x3, Ev.step (f := fun _ => some x3) (fun k => by rw [aT.l0, if_neg (by omega)]) (Ev.now _)⟩
  | succ n ih =>
    intro i hi x3
    have h1 : i < l.length := by omega
    obtain ⟨_, _, h2, _, _, _, h6⟩ := hg l[i] (List.getElem_mem h1)
    have hk : ∀ v, ∃ r, Ev (fun k => aT.l0 k v l (l.length : Int) (wrap64 ((i : Int) + 1))) r := fun v => by
      rw [wr1 (by omega)]; exact ih (i + 1) (by omega) v
    obtain ⟨r, hr⟩ := yu l (l.length : Int) (i : Int) l[i].f2 h2.2.1 l[i] h6.2.1 hk l[i].f2.length 0 (by omega) (wrap64 (x3 + (wrap64 ((wrap64 ((wrap64 (20 + ((l[i].f0).size : Int))) + ((l[i].f1).size : Int))) + (wrap64 (10 * ((l[i].f3).length : Int)))))))
    exact ⟨r, Ev.step (fun k => by rw [aT.l0, if_pos (by omega), if_pos (by omega), if_pos (by omega), xX h1]; rfl) hr⟩
theorem oQ (a : Int) (l : List S51) (hl : l.length ≤ 9223372036854775807) (hg : ∀ x ∈ l, G51 x) : ∃ b, Ev (fun k => aU.f k a l) b := by
  have h : ∀ n i, i + n = l.length → ∀ x3, ∃ b, Ev (fun k => aU.l0 k x3 l (l.length : Int) (i : Int)) b := by
    intro n
    induction n with
    | zero =>
      intro i hi x3
      exact ⟨true, Ev.step (f := fun _ => some true) (fun k => by rw [aU.l0, if_neg (by omega)]) (Ev.now _)⟩
    | succ n ih =>
      intro i hi x3
      have h1 : i < l.length := by omega
      obtain ⟨_, _, _, _, _, _, h5⟩ := hg l[i] (List.getElem_mem h1)
      obtain ⟨t, ht⟩ := yw l[i].f1.f5 h5.2.1 h5.2.2 l[i].f1.f5.length 0 (by omega) (wrap64 ((l[i].f1.f0.size : Int) + (l[i].f1.f1.size : Int)))
      by_cases hc : (wrap64 (x3 + (wrap64 ((wrap64 (10 + ((l[i].f0).size : Int))) + t)))) > 40000
      · refine ⟨false, Ev.step (f := fun k => (aT.f k l[i].f1.f0 l[i].f1.f1 l[i].f1.f2 l[i].f1.f3 l[i].f1.f4 l[i].f1.f5).bind fun t => if (wrap64 (x3 + (wrap64 ((wrap64 (10 + ((l[i].f0).size : Int))) + t)))) > 40000 then some false else aU.l0 k (wrap64 (x3 + (wrap64 ((wrap64 (10 + ((l[i].f0).size : Int))) + t)))) l (l.length : Int) ((i + 1 : Nat) : Int)) (fun k => by rw [aU.l0, if_pos (by omega), if_pos (by omega), if_pos (by omega), mI h1, wr1 (by omega)]) ?_⟩
        exact Ev.bind (f := fun k t => if (wrap64 (x3 + (wrap64 ((wrap64 (10 + ((l[i].f0).size : Int))) + t)))) > 40000 then some false else aU.l0 k (wrap64 (x3 + (wrap64 ((wrap64 (10 + ((l[i].f0).size : Int))) + t)))) l (l.length : Int) ((i + 1 : Nat) : Int)) ht (Ev.congr (fun k => if_pos hc) (Ev.now _))
      · obtain ⟨b, hb⟩ := ih (i + 1) (by omega) (wrap64 (x3 + (wrap64 ((wrap64 (10 + ((l[i].f0).size : Int))) + t))))
        refine ⟨b, Ev.step (f := fun k => (aT.f k l[i].f1.f0 l[i].f1.f1 l[i].f1.f2 l[i].f1.f3 l[i].f1.f4 l[i].f1.f5).bind fun t => if (wrap64 (x3 + (wrap64 ((wrap64 (10 + ((l[i].f0).size : Int))) + t)))) > 40000 then some false else aU.l0 k (wrap64 (x3 + (wrap64 ((wrap64 (10 + ((l[i].f0).size : Int))) + t)))) l (l.length : Int) ((i + 1 : Nat) : Int)) (fun k => by rw [aU.l0, if_pos (by omega), if_pos (by omega), if_pos (by omega), mI h1, wr1 (by omega)]) ?_⟩
        exact Ev.bind (f := fun k t => if (wrap64 (x3 + (wrap64 ((wrap64 (10 + ((l[i].f0).size : Int))) + t)))) > 40000 then some false else aU.l0 k (wrap64 (x3 + (wrap64 ((wrap64 (10 + ((l[i].f0).size : Int))) + t)))) l (l.length : Int) ((i + 1 : Nat) : Int)) ht (Ev.congr (fun k => if_neg hc) hb)
  exact h l.length 0 (by omega) 0
theorem tZ (a : Int) (l : List S51) (hl : l.length ≤ 9223372036854775807) : ∃ b, Ev (fun k => aX.f k a l) b ∧ (b = true → Up key l) := by
  have h : ∀ n i, 1 ≤ i → i + n = max l.length 1 → ∃ b, Ev (fun k => aX.l0 k (i : Int) a l) b ∧ (b = true → ∀ j, i ≤ j → (h : j < l.length) → key (l[j - 1]'(by omega)) < key l[j]) := by
    intro n
    induction n with
    | zero =>
      intro i h1 hi
      exact ⟨true, Ev.step (f := fun _ => some true) (fun k => by rw [aX.l0, if_neg (by omega)]) (Ev.now _), fun _ j hj h => by omega⟩
    | succ n ih =>
      intro i h1 hi
      have hlt : i < l.length := by omega
      have hw : wrap64 ((i : Int) - 1) = ((i - 1 : Nat) : Int) := by rw [dG (by omega) (by omega)]; omega
      have hst : ∀ k, aX.l0 (k + 1) (i : Int) a l = if key (l[i - 1]'(by omega)) < key l[i] then aX.l0 k ((i + 1 : Nat) : Int) a l else some false := fun k => by
        rw [aX.l0, hw, if_pos (by omega), if_pos (by omega), if_pos (by omega), if_pos (by omega), mI (by omega), mI hlt, qM, wr1 (by omega)]
        simp only [decide_eq_true_eq]
      by_cases hq : key (l[i - 1]'(by omega)) < key l[i]
      · obtain ⟨b, hb, hb2⟩ := ih (i + 1) (by omega) (by omega)
        refine ⟨b, Ev.step (f := fun k => aX.l0 k ((i + 1 : Nat) : Int) a l) (fun k => by rw [hst, if_pos hq]) hb, fun hbt j hj h => ?_⟩
        by_cases e : j = i
        · subst e; exact hq
        · exact hb2 hbt j (by omega) h
      · exact ⟨false, Ev.step (f := fun _ => some false) (fun k => by rw [hst, if_neg hq]) (Ev.now _), fun z => by cases z⟩
  obtain ⟨b, hb, hb2⟩ := h (max l.length 1 - 1) 1 (by omega) (by omega)
  refine ⟨b, hb, fun hbt => ?_⟩
  refine List.pairwise_iff_getElem.2 fun i j hi hj hij => ?_
  have : ∀ d i, (h1 : i < l.length) → (h2 : i + d + 1 < l.length) → key l[i] < key l[i + d + 1] := by
    intro d
    induction d with
    | zero => intro i h1 h2; exact hb2 hbt (i + 1) (by omega) h2
    | succ d ih => intro i h1 h2; exact kt (ih i h1 (by omega)) (hb2 hbt (i + (d + 1) + 1) (by omega) h2)
  have e := this (j - i - 1) i hi (by omega)
  have e2 : i + (j - i - 1) + 1 = j := by omega
  simpa only [e2] using e
end Go.Proofs.YtpflenjhmeaeoaaGreatDoor.Pure
namespace Go.Proofs.YtpflenjhmeaeoaaGreatDoor.Pure
open Go.RowKit Go.Proofs.YtpflenjhmeaeoaaGreatDoor.GUt Go.Proofs.YtpflenjhmeaeoaaGreatDoorW.PrintWords Go.Proofs.YtpflenjhmeaeoaaGreatDoorW.PrintLast Go.Proofs.YtpflenjhmeaeoaaGreatDoorW.PrintMore Go.Proofs.YtpflenjhmeaeoaaGreatDoor.DiffM
set_option linter.unusedVariables false
def ekR (e : S43) : Key := e.f1.toList
def mkR (i : Int) (x : S51) : S43 := ⟨i, x.f0, x.f1.f0⟩
theorem yx {l : List S30} {i : Nat} (h : i < l.length) : eT l (i : Int) = l[i] := by simp [eT, List.getElem?_eq_getElem h]
theorem oU {l : List S43} {i : Nat} (h : i < l.length) : dU l (i : Int) = l[i] := by simp [dU, List.getElem?_eq_getElem h]
theorem oV {l : List S51} {i : Nat} (h : i < l.length) : aJ (l.map bU) (i : Int) = bU l[i] := by
  rw [xY (by simpa using h), List.getElem_map]
def fi : List S51 → Key → Nat → Int
  | [], _, _ => -1
  | x :: xs, f, j => if key x = f then (j : Int) else fi xs f (j + 1)
theorem qN : ∀ (a : List S51) (f : Key) (j : Nat), fnd key a f = none → fi a f j = -1
  | [], _, _, _ => rfl
  | x :: xs, f, j, h => by
    by_cases q : key x = f
    · rw [jX key q] at h; cases h
    · rw [jW key q] at h
      rw [fi, if_neg q, qN xs f (j + 1) h]
theorem qO : ∀ (a : List S51) (f : Key) (j : Nat) (q : S51), fnd key a f = some q → ∃ i, ∃ h : i < a.length, fi a f j = ((j + i : Nat) : Int) ∧ a[i] = q
  | [], _, _, _, h => by cases h
  | x :: xs, f, j, q, h => by
    by_cases e : key x = f
    · rw [jX key e] at h
      obtain rfl := Option.some.inj h
      exact ⟨0, by simp, by rw [fi, if_pos e]; rfl, rfl⟩
    · rw [jW key e] at h
      obtain ⟨i, hi, h1, h2⟩ := qO xs f (j + 1) q h
      exact ⟨i + 1, by simpa using hi, by rw [fi, if_neg e, h1]; congr 1; omega, by simpa using h2⟩
theorem qP (c : Int) (a : List S51) (f : ByteArray) (hl : a.length ≤ 9223372036854775806) : Ev (fun k => bC.f k c (a.map bU) f) (fi a f.toList 0) := by
  have h : ∀ n i, i + n = a.length → Ev (fun k => bC.l0 k f (i : Int) c (a.map bU)) (fi (a.drop i) f.toList i) := by
    intro n
    induction n with
    | zero =>
      intro i hi
      rw [List.drop_eq_nil_of_le (by omega)]
      exact Ev.step (f := fun _ => some (-1)) (fun k => by rw [bC.l0, if_neg (by rw [List.length_map]; omega)]) (Ev.now _)
    | succ n ih =>
      intro i hi
      have h1 : i < a.length := by omega
      rw [List.drop_eq_getElem_cons h1, fi]
      have hst : ∀ k, bC.l0 (k + 1) f (i : Int) c (a.map bU) = if key a[i] = f.toList then some (i : Int) else bC.l0 k f ((i + 1 : Nat) : Int) c (a.map bU) := fun k => by
        rw [bC.l0, if_pos (by rw [List.length_map]; omega), if_pos (by omega), oV h1, wr1 (by omega)]; rfl
      by_cases q : key a[i] = f.toList
      · rw [if_pos q]
        exact Ev.step (f := fun _ => some (i : Int)) (fun k => by rw [hst, if_pos q]) (Ev.now _)
      · rw [if_neg q]
        exact Ev.step (f := fun k => bC.l0 k f ((i + 1 : Nat) : Int) c (a.map bU)) (fun k => by rw [hst, if_neg q]) (ih (i + 1) (by omega))
  exact h a.length 0 (by omega)
theorem nE {x e : S43} {l : List S43} (h : ekR x < ekR e) : put ekR (x :: l) e = x :: put ekR l e := by simp [put, h]
theorem nG {x e : S43} {l : List S43} (h : ¬ ekR x < ekR e) : put ekR (x :: l) e = e :: x :: l := by simp [put, h]
theorem qQ (l : List S43) (e : S43) : (put ekR l e).length = l.length + 1 := by
  induction l with
  | nil => simp [put]
  | cons x l ih =>
    by_cases h : ekR x < ekR e
    · rw [nE h, List.length_cons, ih, List.length_cons]
    · rw [nG h]; simp
theorem zN (l : List S43) (e : S43) (hl : l.length + 1 < 3518437208883) : Ev (fun k => bA.f k l e.f0 e.f1 e.f2) (put ekR l e) := by
  have h : ∀ n i (out : List S43), i + n = l.length → out.length = i → Ev (fun k => bA.l0 k l out (i : Int) e.f0 e.f1 e.f2) (out ++ put ekR (l.drop i) e) := by
    intro n
    induction n with
    | zero =>
      intro i out hi ho
      have hd : l.drop i = [] := List.drop_eq_nil_of_le (by omega)
      rw [hd]
      refine Ev.step (f := fun _ => some (out ++ [e])) (fun k => ?_) (Ev.now _)
      have e2 : (i : Int).toNat = i := Int.toNat_natCast i
      rw [bA.l0, if_neg (by omega), if_pos (by omega), Option.bind_some, if_pos (by omega), if_pos (by omega), Option.bind_some, e2, hd, if_pos (by simp; omega), List.append_nil]
    | succ n ih =>
      intro i out hi ho
      have h1 : i < l.length := by omega
      have e2 : (i : Int).toNat = i := Int.toNat_natCast i
      have hb : Op.bytesLess l[i].f1.toList e.f1.toList = decide (ekR l[i] < ekR e) := Go.Proofs.bytesLess_eq _ _
      rw [List.drop_eq_getElem_cons h1]
      by_cases q : ekR l[i] < ekR e
      · rw [nE q]
        have hr := ih (i + 1) (out ++ [l[i]]) (by omega) (by simp [ho])
        rw [List.append_assoc] at hr
        exact Ev.step (f := fun k => bA.l0 k l (out ++ [l[i]]) ((i + 1 : Nat) : Int) e.f0 e.f1 e.f2) (fun k => by
          rw [bA.l0, if_pos (by omega), if_pos (by omega), oU h1, if_pos (by rw [hb]; exact decide_eq_true q), if_pos (by omega), wr1 (by omega)]) hr
      · rw [nG q]
        refine Ev.step (f := fun _ => some (out ++ e :: l[i] :: l.drop (i + 1))) (fun k => ?_) (Ev.now _)
        rw [bA.l0, if_pos (by omega), if_pos (by omega), oU h1, if_neg (by rw [hb, decide_eq_false q]; decide), if_pos (by omega), Option.bind_some, if_pos (by omega), Option.bind_some, e2, if_pos (by simp; omega), List.append_assoc, List.drop_eq_getElem_cons h1]
        rfl
  exact h l.length 0 [] (by omega) rfl
theorem oW {β : Type} {g : Nat → List S43 → Option β} {r : β} (l : List S43) (i : Int) (x : S51) (hl : l.length + 1 < 3518437208883) (h : Ev (fun k => g k (put ekR l (mkR i x))) r) :
    Ev (fun k => (bA.f k l i (bU x).f0 (bU x).f1.f0).bind (g k)) r := Ev.bind (zN l (mkR i x) hl) h
theorem zO (c d : Int) (a b : List S51) (ha : a.length ≤ 9223372036854775806) (hb : b.length ≤ 9223372036854775806) : ∀ n i (out : List S43), i + n = a.length → out.length + n + 1 < 3518437208883 →
    Ev (fun k => aA.l1 k out (i : Int) c (a.map bU) d (b.map bU)) (((a.drop i).filterMap (g2 key mkR b)).foldl (put ekR) out) := by
  intro n
  induction n with
  | zero =>
    intro i out hi ho
    rw [List.drop_eq_nil_of_le (by omega)]
    exact Ev.step (f := fun _ => some out) (fun k => by rw [aA.l1, if_neg (by rw [List.length_map]; omega)]) (Ev.now _)
  | succ n ih =>
    intro i out hi ho
    have h1 : i < a.length := by omega
    rw [List.drop_eq_getElem_cons h1, List.filterMap_cons]
    refine Ev.step (f := fun k => (bC.f k d (b.map bU) (bU a[i]).f0).bind fun t => if t < 0 then (bA.f k out 2 (bU a[i]).f0 (bU a[i]).f1.f0).bind fun t2 => aA.l1 k t2 ((i + 1 : Nat) : Int) c (a.map bU) d (b.map bU) else aA.l1 k out ((i + 1 : Nat) : Int) c (a.map bU) d (b.map bU))
      (fun k => by rw [aA.l1, if_pos (by rw [List.length_map]; omega), if_pos (by omega), oV h1, wr1 (by omega)]) ?_
    refine Ev.bind (f := fun k t => if t < 0 then (bA.f k out 2 (bU a[i]).f0 (bU a[i]).f1.f0).bind fun t2 => aA.l1 k t2 ((i + 1 : Nat) : Int) c (a.map bU) d (b.map bU) else aA.l1 k out ((i + 1 : Nat) : Int) c (a.map bU) d (b.map bU)) (qP d b a[i].f0 hb) ?_
    cases hf : fnd key b (key a[i]) with
    | none =>
      have e1 : fi b a[i].f0.toList 0 = -1 := qN b _ 0 hf
      have e2 : g2 key mkR b a[i] = some (mkR 2 a[i]) := by rw [g2, hf]
      rw [e1, e2]
      refine Ev.congr (fun k => if_pos (by decide)) ?_
      refine oW out 2 a[i] (by omega) ?_
      exact ih (i + 1) (put ekR out (mkR 2 a[i])) (by omega) (by rw [qQ]; omega)
    | some q =>
      obtain ⟨j, hj, e1, _⟩ := qO b _ 0 q hf
      have e2 : g2 key mkR b a[i] = none := by rw [g2, hf]
      have e3 : ¬ fi b a[i].f0.toList 0 < 0 := by
        have : fi b (key a[i]) 0 = ((0 + j : Nat) : Int) := e1
        show ¬ fi b (key a[i]) 0 < 0
        omega
      rw [e2]
      refine Ev.congr (fun k => if_neg e3) ?_
      exact ih (i + 1) out (by omega) (by omega)
theorem zP (c d : Int) (a b : List S51) (ha : a.length ≤ 9223372036854775806) (hb : b.length ≤ 9223372036854775806) (hg : ∀ x ∈ a, G51 x) : ∀ n i (out : List S43), i + n = b.length → out.length + n + a.length + 1 < 3518437208883 →
    Ev (fun k => aA.l0 k out (i : Int) c (a.map bU) d (b.map bU)) ((a.filterMap (g2 key mkR b)).foldl (put ekR) (((b.drop i).filterMap (g1 key mkR same a)).foldl (put ekR) out)) := by
  intro n
  induction n with
  | zero =>
    intro i out hi ho
    rw [List.drop_eq_nil_of_le (by omega)]
    refine Ev.step (f := fun k => aA.l1 k out 0 c (a.map bU) d (b.map bU)) (fun k => by rw [aA.l0, if_neg (by rw [List.length_map]; omega)]) ?_
    exact zO c d a b ha hb a.length 0 out (by omega) (by omega)
  | succ n ih =>
    intro i out hi ho
    have h1 : i < b.length := by omega
    rw [List.drop_eq_getElem_cons h1, List.filterMap_cons]
    cases hf : fnd key a (key b[i]) with
    | none =>
      have e1 : fi a b[i].f0.toList 0 = -1 := qN a _ 0 hf
      have e2 : g1 key mkR same a b[i] = some (mkR 0 b[i]) := by rw [g1, hf]
      rw [e2]
      refine Ev.step (f := fun k => (bC.f k c (a.map bU) (bU b[i]).f0).bind fun t => if t < 0 then (bA.f k out 0 (bU b[i]).f0 (bU b[i]).f1.f0).bind fun t2 => aA.l0 k t2 ((i + 1 : Nat) : Int) c (a.map bU) d (b.map bU) else _)
        (fun k => by rw [aA.l0, if_pos (by rw [List.length_map]; omega), if_pos (by omega), oV h1, wr1 (by omega)]) ?_
      refine Ev.bind (f := fun k t => if t < 0 then (bA.f k out 0 (bU b[i]).f0 (bU b[i]).f1.f0).bind fun t2 => aA.l0 k t2 ((i + 1 : Nat) : Int) c (a.map bU) d (b.map bU) else _) (qP c a b[i].f0 ha) ?_
      refine Ev.congr (fun k => if_pos (by rw [e1]; decide)) ?_
      refine oW out 0 b[i] (by omega) ?_
      exact ih (i + 1) (put ekR out (mkR 0 b[i])) (by omega) (by rw [qQ]; omega)
    | some q =>
      obtain ⟨j, hj, e1, hq⟩ := qO a _ 0 q hf
      rw [Nat.zero_add] at e1
      have e1' : fi a b[i].f0.toList 0 = (j : Int) := e1
      have hp := yj a[j] b[i] (hg _ (List.getElem_mem hj)).2
      refine Ev.step (f := fun k => (bC.f k c (a.map bU) (bU b[i]).f0).bind fun t => if t < 0 then (bA.f k out 0 (bU b[i]).f0 (bU b[i]).f1.f0).bind fun t2 => aA.l0 k t2 ((i + 1 : Nat) : Int) c (a.map bU) d (b.map bU) else if 0 ≤ t then if t < ((a.map bU).length : Int) then (bS.f k (aJ (a.map bU) t).f1.f0 (aJ (a.map bU) t).f1.f1 (aJ (a.map bU) t).f1.f2 (aJ (a.map bU) t).f1.f3 (aJ (a.map bU) t).f1.f4 (aJ (a.map bU) t).f1.f5 (bU b[i]).f1.f0 (bU b[i]).f1.f1 (bU b[i]).f1.f2 (bU b[i]).f1.f3 (bU b[i]).f1.f4 (bU b[i]).f1.f5).bind fun AZ => if AZ = true then aA.l0 k out ((i + 1 : Nat) : Int) c (a.map bU) d (b.map bU) else (bA.f k out 1 (bU b[i]).f0 (bU b[i]).f1.f0).bind fun Bf => aA.l0 k Bf ((i + 1 : Nat) : Int) c (a.map bU) d (b.map bU) else none else none)
        (fun k => by rw [aA.l0, if_pos (by rw [List.length_map]; omega), if_pos (by omega), oV h1, wr1 (by omega)]) ?_
      refine Ev.bind (f := fun k t => if t < 0 then (bA.f k out 0 (bU b[i]).f0 (bU b[i]).f1.f0).bind fun t2 => aA.l0 k t2 ((i + 1 : Nat) : Int) c (a.map bU) d (b.map bU) else if 0 ≤ t then if t < ((a.map bU).length : Int) then (bS.f k (aJ (a.map bU) t).f1.f0 (aJ (a.map bU) t).f1.f1 (aJ (a.map bU) t).f1.f2 (aJ (a.map bU) t).f1.f3 (aJ (a.map bU) t).f1.f4 (aJ (a.map bU) t).f1.f5 (bU b[i]).f1.f0 (bU b[i]).f1.f1 (bU b[i]).f1.f2 (bU b[i]).f1.f3 (bU b[i]).f1.f4 (bU b[i]).f1.f5).bind fun AZ => if AZ = true then aA.l0 k out ((i + 1 : Nat) : Int) c (a.map bU) d (b.map bU) else (bA.f k out 1 (bU b[i]).f0 (bU b[i]).f1.f0).bind fun Bf => aA.l0 k Bf ((i + 1 : Nat) : Int) c (a.map bU) d (b.map bU) else none else none) (qP c a b[i].f0 ha) ?_
      refine Ev.congr (fun k => by rw [e1', if_neg (by omega), if_pos (by omega), if_pos (by rw [List.length_map]; omega), oV hj]) ?_
      refine Ev.bind (f := fun k AZ => if AZ = true then aA.l0 k out ((i + 1 : Nat) : Int) c (a.map bU) d (b.map bU) else (bA.f k out 1 (bU b[i]).f0 (bU b[i]).f1.f0).bind fun Bf => aA.l0 k Bf ((i + 1 : Nat) : Int) c (a.map bU) d (b.map bU)) hp ?_
      by_cases hs : yg a[j].f1 b[i].f1 = true
      · have e2 : g1 key mkR same a b[i] = none := by
          simp only [g1, hf]; rw [← hq]; exact if_pos hs
        rw [e2]
        refine Ev.congr (fun k => if_pos hs) ?_
        exact ih (i + 1) out (by omega) (by omega)
      · have e2 : g1 key mkR same a b[i] = some (mkR 1 b[i]) := by
          simp only [g1, hf]; rw [← hq]; exact if_neg hs
        rw [e2]
        refine Ev.congr (fun k => if_neg hs) ?_
        refine oW out 1 b[i] (by omega) ?_
        exact ih (i + 1) (put ekR out (mkR 1 b[i])) (by omega) (by rw [qQ]; omega)
theorem yA (c d : Int) (a b : List S51) (hab : a.length + b.length + 1 < 3518437208883) (hg : ∀ x ∈ a, G51 x) : Ev (fun k => aA.f k c (a.map bU) d (b.map bU)) (zJ key ekR mkR same a b) :=
  zP c d a b (by omega) (by omega) hg b.length 0 [] (by omega) (by simp; omega)
end Go.Proofs.YtpflenjhmeaeoaaGreatDoor.Pure
