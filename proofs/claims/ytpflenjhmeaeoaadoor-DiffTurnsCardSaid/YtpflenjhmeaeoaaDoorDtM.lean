/- DiffTurns, plain: when two pods are alike, by the program and by the document. DiffTurns, plain: what changed, as the program tells it, is the walk of two fingers. No conditions beside those stated. -/
import Derived.Test.YtpflenjhmeaeoaaDoorGUtDiffTurnsS
import Derived.Test.YtpflenjhmeaeoaaDoorDfMath
import Derived.Sort.Walk0
namespace Go.Proofs.YtpflenjhmeaeoaaDoor.Pure
open Go.RowKit Go.Proofs.YtpflenjhmeaeoaaDoor.GUt Go.Proofs.YtpflenjhmeaeoaaDoorW.PrintWords Go.Proofs.YtpflenjhmeaeoaaDoorW.PrintLast Go.Proofs.YtpflenjhmeaeoaaDoorW.PrintMore
set_option linter.unusedVariables false
theorem wr1 {i : Nat} (h : i < 9223372036854775807) : wrap64 ((i : Int) + 1) = ((i + 1 : Nat) : Int) := by rw [bS (by omega) (by omega)]; rfl
def btB (a b : ByteArray) : Bool := a.toList == b.toList
theorem gP {a b : ByteArray} : btB a b = true ↔ a.toList = b.toList := beq_iff_eq
theorem jI (a b : ByteArray) : btB a b = btB b a := Bool.eq_iff_iff.2 (by rw [gP, gP]; exact eq_comm)
def gY {α : Type} (e : α → α → Bool) : List α → List α → Bool
  | [], [] => true
  | x :: xs, y :: ys => e x y && gY e xs ys
  | _, _ => false
section
variable {α : Type} {e : α → α → Bool}
theorem qW : ∀ {l m : List α}, gY e l m = true → l.length = m.length
  | [], [], _ => rfl
  | x :: xs, y :: ys, h => by rw [gY, Bool.and_eq_true] at h; simp [qW h.2]
theorem jy {l m : List α} (h : l.length ≠ m.length) : gY e l m = false := Bool.eq_false_iff.2 fun q => h (qW q)
theorem jU (h : ∀ x y, e x y = e y x) : ∀ (l m : List α), gY e l m = gY e m l
  | [], [] => rfl
  | [], _ :: _ => rfl
  | _ :: _, [] => rfl
  | x :: xs, y :: ys => by rw [gY, gY, h x y, jU h xs ys]
theorem jV (h : ∀ x, e x x = true) : ∀ (l : List α), gY e l l = true
  | [] => rfl
  | x :: xs => by rw [gY, h x, jV h xs]; rfl
theorem qX : ∀ (l m : List α), gY e l m = true ↔ l.length = m.length ∧ ∀ i, (h1 : i < l.length) → (h2 : i < m.length) → e l[i] m[i] = true
  | [], [] => by simp [gY]
  | [], _ :: _ => by simp [gY]
  | _ :: _, [] => by simp [gY]
  | x :: xs, y :: ys => by
    rw [gY, Bool.and_eq_true, qX xs ys]
    constructor
    · rintro ⟨h1, h2, h3⟩
      refine ⟨by simp [h2], fun i g1 g2 => ?_⟩
      cases i with
      | zero => exact h1
      | succ i => exact h3 i (by simpa using g1) (by simpa using g2)
    · rintro ⟨h1, h2⟩
      exact ⟨h2 0 (by simp) (by simp), by simpa using h1, fun i g1 g2 => h2 (i + 1) (by simpa using g1) (by simpa using g2)⟩
theorem xC (g : Nat → Int → Option Bool) (x y : List α) (hl : x.length = y.length) (hend : ∀ k, g (k + 1) (x.length : Int) = some true)
    (hstep : ∀ k (i : Nat) (h : i < x.length) (h' : i < y.length), g (k + 1) (i : Int) = if e x[i] y[i] = true then g k ((i + 1 : Nat) : Int) else some false) :
    ∀ n i, i + n = x.length → Ev (fun k => g k (i : Int)) (gY e (x.drop i) (y.drop i)) := by
  intro n
  induction n with
  | zero =>
    intro i hi
    obtain rfl : i = x.length := by omega
    rw [List.drop_eq_nil_of_le (Nat.le_refl _), List.drop_eq_nil_of_le (by omega), gY]
    exact Ev.step (f := fun _ => some true) hend (Ev.now _)
  | succ n ih =>
    intro i hi
    have h1 : i < x.length := by omega
    have h2 : i < y.length := by omega
    rw [List.drop_eq_getElem_cons h1, List.drop_eq_getElem_cons h2, gY]
    cases he : e x[i] y[i] with
    | false => exact Ev.step (f := fun _ => some false) (fun k => by rw [hstep k i h1 h2, he]; rfl) (Ev.now _)
    | true => exact Ev.step (f := fun k => g k ((i + 1 : Nat) : Int)) (fun k => by rw [hstep k i h1 h2, he]; rfl) (ih (i + 1) (by omega))
theorem mh (g : Nat → Int → Option Bool) (x y : List α) (hl : x.length = y.length) (hend : ∀ k, g (k + 1) (x.length : Int) = some true)
    (hstep : ∀ k (i : Nat) (h : i < x.length) (h' : i < y.length), g (k + 1) (i : Int) = if e x[i] y[i] = true then g k ((i + 1 : Nat) : Int) else some false) : Ev (fun k => g k 0) (gY e x y) :=
  xC g x y hl hend hstep x.length 0 (by omega)
end
def lq (p q : S46) : Bool := p.f0 == q.f0 && (p.f1 == q.f1)
def oZ (p q : S82) : Bool := btB p.f0 q.f0 && btB p.f1 q.f1
theorem nI {l : List ByteArray} {i : Nat} (h : i < l.length) : iH ByteArray.empty l (i : Int) = l[i] := by simp [iH, List.getElem?_eq_getElem h]
theorem sS {l : List S46} {i : Nat} (h : i < l.length) : gN l (i : Int) = l[i] := by simp [gN, List.getElem?_eq_getElem h]
theorem sU {l : List S82} {i : Nat} (h : i < l.length) : fT l (i : Int) = l[i] := by simp [fT, List.getElem?_eq_getElem h]
theorem xD {l : List S43} {i : Nat} (h : i < l.length) : aj l (i : Int) = l[i] := by simp [aj, List.getElem?_eq_getElem h]
theorem mo {l : List S102} {i : Nat} (h : i < l.length) : ay l (i : Int) = l[i] := by simp [ay, List.getElem?_eq_getElem h]
theorem xE {l : List S71} {i : Nat} (h : i < l.length) : aK l (i : Int) = l[i] := by simp [aK, List.getElem?_eq_getElem h]
theorem sV {l : List S65} {i : Nat} (h : i < l.length) : dB l (i : Int) = l[i] := by simp [dB, List.getElem?_eq_getElem h]
theorem xG (l m : List ByteArray) (hm : l.length ≤ 9223372036854775807) : Ev (fun k => aU.f k l m) (gY btB l m) := by
  by_cases h : l.length = m.length
  · refine Ev.congr (fun k => by rw [aU.f, if_pos (by rw [h])]) ?_
    refine mh (fun k i => aU.l0 k l m (l.length : Int) i) l m h (fun k => by rw [aU.l0, if_neg (by omega)]) (fun k i h1 h2 => ?_)
    rw [aU.l0, if_pos (by omega), if_pos (by omega), if_pos (by omega), if_pos (by omega), nI h1, nI h2, wr1 (by omega)]
    by_cases q : l[i].toList = m[i].toList
    · rw [if_pos q, if_pos (gP.2 q)]
    · rw [if_neg q, if_neg (fun z => q (gP.1 z))]
  · rw [jy h]
    exact Ev.congr (fun k => by rw [aU.f, if_neg (by omega)]) (Ev.now _)
theorem wu (l m : List S46) (hm : l.length ≤ 9223372036854775807) : Ev (fun k => dH.f k l m) (gY lq l m) := by
  by_cases h : l.length = m.length
  · refine Ev.congr (fun k => by rw [dH.f, if_pos (by rw [h])]) ?_
    refine mh (fun k i => dH.l0 k l m (l.length : Int) i) l m h (fun k => by rw [dH.l0, if_neg (by omega)]) (fun k i h1 h2 => ?_)
    rw [dH.l0, if_pos (by omega), if_pos (by omega), if_pos (by omega), if_pos (by omega), sS h1, sS h2, wr1 (by omega)]
    rw [show (!(l[i].f0 == m[i].f0) || !(l[i].f1 == m[i].f1)) = !(lq l[i] m[i]) by rw [lq, Bool.not_and]]
    cases lq l[i] m[i] <;> rfl
  · rw [jy h]
    exact Ev.congr (fun k => by rw [dH.f, if_neg (by omega)]) (Ev.now _)
theorem xH (l m : List S82) (hm : l.length ≤ 9223372036854775807) : Ev (fun k => dM.f k l m) (gY oZ l m) := by
  by_cases h : l.length = m.length
  · refine Ev.congr (fun k => by rw [dM.f, if_pos (by rw [h])]) ?_
    refine mh (fun k i => dM.l0 k l m (l.length : Int) i) l m h (fun k => by rw [dM.l0, if_neg (by omega)]) (fun k i h1 h2 => ?_)
    rw [dM.l0, if_pos (by omega), if_pos (by omega), if_pos (by omega), if_pos (by omega), sU h1, sU h2, wr1 (by omega)]
    rw [show (!(l[i].f0.toList == m[i].f0.toList) || !(l[i].f1.toList == m[i].f1.toList)) = !(oZ l[i] m[i]) by rw [oZ, btB, btB, Bool.not_and]]
    cases oZ l[i] m[i] <;> rfl
  · rw [jy h]
    exact Ev.congr (fun k => by rw [dM.f, if_neg (by omega)]) (Ev.now _)
def oK (p q : S43) : Bool := btB p.f0 q.f0 && (btB p.f1 q.f1 && ((p.f4 == q.f4) && ((p.f5 == q.f5) && (gY btB p.f2 q.f2 && (gY lq p.f3 q.f3 && gY oZ p.f6 q.f6)))))
def oL (p q : S25) : Bool := btB p.f0 q.f0 && (btB p.f1 q.f1 && ((p.f2 == q.f2) && ((p.f3 == q.f3) && ((p.f4 == q.f4) && gY oK p.f5 q.f5))))
theorem uj (p q : S43) : oK p q = oK q p := by
  rw [oK, oK, jI p.f0, jI p.f1, Bool.beq_comm (a := p.f4), Bool.beq_comm (a := p.f5), jU jI p.f2, jU (fun x y => by rw [lq, lq, Bool.beq_comm (a := x.f0), Bool.beq_comm (a := x.f1)]) p.f3, jU (fun x y => by rw [oZ, oZ, jI x.f0, jI x.f1]) p.f6]
theorem um (p q : S25) : oL p q = oL q p := by
  rw [oL, oL, jI p.f0, jI p.f1, Bool.beq_comm (a := p.f2), Bool.beq_comm (a := p.f3), Bool.beq_comm (a := p.f4), jU uj p.f5]
theorem mq (a : ByteArray) : btB a a = true := gP.2 rfl
theorem uo (p : S43) : oK p p = true := by
  simp [oK, mq, jV mq, jV (e := lq) (fun x => by simp [lq]), jV (e := oZ) (fun x => by simp [oZ, mq])]
theorem uq (p : S25) : oL p p = true := by simp [oL, mq, jV uo]
theorem Ev.and {c : Prop} [Decidable c] {b d : Bool} {g : Nat → Option Bool} (hc : b = true ↔ c) (h : Ev g d) : Ev (fun k => if c then g k else some false) (b && d) := by
  by_cases q : c
  · rw [hc.2 q, Bool.true_and]
    exact Ev.congr (fun k => if_pos q) h
  · rw [Bool.eq_false_iff.2 (fun z => q (hc.1 z)), Bool.false_and]
    exact Ev.congr (fun k => if_neg q) (Ev.now _)
theorem Ev.uw {b d : Bool} {f g : Nat → Option Bool} (hf : Ev f b) (h : Ev g d) : Ev (fun k => (f k).bind fun t => if t = true then g k else some false) (b && d) :=
  Ev.bind (f := fun k t => if t = true then g k else some false) hf (Ev.and Iff.rfl h)
theorem ze (p q : S43) (hp : G43 p) : Ev (fun k => vL k p q) (oK p q) := by
  obtain ⟨_, _, h2, h3, _, _, h6⟩ := hp
  refine Ev.congr (fun k => by rw [vL, dY.f]) ?_
  refine Ev.and gP (Ev.and gP (Ev.and beq_iff_eq (Ev.and beq_iff_eq (Ev.uw (xG _ _ h2.2.1) (Ev.uw (wu _ _ h3.2.1) ?_)))))
  exact Ev.congr (f := fun k => dM.f k p.f6 q.f6) (fun k => by cases (dM.f k p.f6 q.f6) <;> rfl) (xH _ _ h6.2.1)
theorem sW : ∀ (l m : List S43), l.length = m.length → (∀ x ∈ l, G43 x) → Ev (fun k => lg k l m) (gY oK l m)
  | [], [], _, _ => Ev.congr (f := fun _ => some true) (fun k => by simp [lg]) (Ev.now _)
  | p :: ps, q :: qs, h, hg => by
    refine Ev.congr (fun k => by rw [lg]) ?_
    exact Ev.uw (ze p q (hg p (by simp))) (sW ps qs (by simpa using h) (fun x hx => hg x (List.mem_cons_of_mem _ hx)))
theorem zh (p q : S25) (hp : G25 p) : Ev (fun k => dD.f k p.f0 p.f1 p.f2 p.f3 p.f4 p.f5 q.f0 q.f1 q.f2 q.f3 q.f4 q.f5) (oL p q) := by
  obtain ⟨_, _, _, _, _, h5⟩ := hp
  refine Ev.congr (fun k => by rw [dD.f]) ?_
  refine Ev.and gP (Ev.and gP (Ev.and beq_iff_eq (Ev.and beq_iff_eq (Ev.and beq_iff_eq ?_))))
  by_cases h : p.f5.length = q.f5.length
  · exact Ev.congr (fun k => by rw [ow, if_pos h]) (sW _ _ h h5.2.2)
  · rw [jy h]
    exact Ev.congr (fun k => by rw [ow, if_neg h]) (Ev.now _)
theorem wB (l m : List ByteArray) (hm : l.length ≤ 9223372036854775807) : Ev (fun k => bF.f k l m) (gY btB l m) := by
  by_cases h : l.length = m.length
  · refine Ev.congr (fun k => by rw [bF.f, if_pos (by rw [h])]) ?_
    refine mh (fun k i => bF.l0 k l m i) l m h (fun k => by rw [bF.l0, if_neg (by omega)]) (fun k i h1 h2 => ?_)
    rw [bF.l0, if_pos (by omega), if_pos (by omega), if_pos (by omega), nI h1, nI h2, wr1 (by omega)]
    by_cases q : l[i].toList = m[i].toList
    · rw [if_pos q, if_pos (gP.2 q)]
    · rw [if_neg q, if_neg (fun z => q (gP.1 z))]
  · rw [jy h]
    exact Ev.congr (fun k => by rw [bF.f, if_neg (by omega)]) (Ev.now _)
theorem lN {α β : Type} {e : α → α → Bool} {e' : β → β → Bool} {f : α → β} (h : ∀ x y, e' (f x) (f y) = e x y) : ∀ (l m : List α), l.length = m.length → iG e' (l.map f) (m.map f) = gY e l m
  | [], [], _ => rfl
  | x :: xs, y :: ys, q => by rw [List.map_cons, List.map_cons, iG, gY, h, lN h xs ys (by simpa using q)]
theorem xI (p q : S43) (hp : G43 p) : Ev (fun k => tY k (iD p) (iD q)) (oK p q) := by
  obtain ⟨_, _, h2, h3, _, _, h6⟩ := hp
  refine Ev.congr (fun k => by rw [tY]) ?_
  refine Ev.and (gP (a := p.f0)) (Ev.and (gP (a := p.f1)) (Ev.and (beq_iff_eq (a := p.f4)) (Ev.and (beq_iff_eq (a := p.f5)) (Ev.uw (wB p.f2 q.f2 h2.2.1) ?_))))
  by_cases h : p.f3.length = q.f3.length
  · have h' : (p.f3.map iC).length = (q.f3.map iC).length := by simpa using h
    refine Ev.congr (fun k => if_pos h') ?_
    by_cases g : p.f6.length = q.f6.length
    · have g' : (p.f6.map jd).length = (q.f6.map jd).length := by simpa using g
      refine Ev.congr (fun k => if_pos g') ?_
      refine Ev.congr (fun k => ?_) (Ev.now _)
      show some (iG rX (p.f3.map iC) (q.f3.map iC) && iG qB (p.f6.map jd) (q.f6.map jd)) = _
      rw [lN (e := lq) (e' := rX) (f := iC) (fun x y => rfl) _ _ h, lN (e := oZ) (e' := qB) (f := jd) (fun x y => rfl) _ _ g]
    · have g' : ¬ (p.f6.map jd).length = (q.f6.map jd).length := by simpa using g
      rw [jy g, Bool.and_false]
      exact Ev.congr (fun k => if_neg g') (Ev.now _)
  · have h' : ¬ (p.f3.map iC).length = (q.f3.map iC).length := by simpa using h
    rw [jy h, Bool.false_and]
    exact Ev.congr (fun k => if_neg h') (Ev.now _)
theorem qY : ∀ (l m : List S43), l.length = m.length → (∀ x ∈ l, G43 x) → Ev (fun k => lM k (l.map iD) (m.map iD)) (gY oK l m)
  | [], [], _, _ => Ev.congr (f := fun _ => some true) (fun k => by simp [lM]) (Ev.now _)
  | p :: ps, q :: qs, h, hg => by
    refine Ev.congr (fun k => by rw [List.map_cons, List.map_cons, lM]) ?_
    exact Ev.uw (xI p q (hg p (by simp))) (qY ps qs (by simpa using h) (fun x hx => hg x (List.mem_cons_of_mem _ hx)))
theorem sZ (x y : S102) (hp : G25 x.f1) : Ev (fun k => bB.f k (dz x).f1.f0 (dz x).f1.f1 (dz x).f1.f2 (dz x).f1.f3 (dz x).f1.f4 (dz x).f1.f5 (dz y).f1.f0 (dz y).f1.f1 (dz y).f1.f2 (dz y).f1.f3 (dz y).f1.f4 (dz y).f1.f5) (oL x.f1 y.f1) := by
  obtain ⟨_, _, _, _, _, h5⟩ := hp
  refine Ev.congr (fun k => by rw [bB.f]) ?_
  refine Ev.and (gP (a := x.f1.f0)) (Ev.and (gP (a := x.f1.f1)) (Ev.and (beq_iff_eq (a := x.f1.f2)) (Ev.and (beq_iff_eq (a := x.f1.f3)) (Ev.and (beq_iff_eq (a := x.f1.f4)) ?_))))
  by_cases h : x.f1.f5.length = y.f1.f5.length
  · have h' : (x.f1.f5.map iD).length = (y.f1.f5.map iD).length := by simpa using h
    exact Ev.congr (fun k => if_pos h') (qY _ _ h h5.2.2)
  · have h' : ¬ (x.f1.f5.map iD).length = (y.f1.f5.map iD).length := by simpa using h
    rw [jy h]
    exact Ev.congr (fun k => if_neg h') (Ev.now _)
end Go.Proofs.YtpflenjhmeaeoaaDoor.Pure
namespace Go.Proofs.YtpflenjhmeaeoaaDoor.Pure
open Go.RowKit Go.Proofs.YtpflenjhmeaeoaaDoor.GUt Go.Proofs.YtpflenjhmeaeoaaDoorW.PrintWords Go.Proofs.YtpflenjhmeaeoaaDoorW.PrintLast Go.Proofs.YtpflenjhmeaeoaaDoorW.PrintMore Go.Proofs.YtpflenjhmeaeoaaDoor.DiffM
set_option linter.unusedVariables false
def key (x : S102) : Key := x.f0.toList
def ek (e : S65) : Key := e.f1.toList
def mk (i : Int) (x : S102) : S65 := ⟨i, x.f0, x.f1.f0⟩
def same (x y : S102) : Bool := oL x.f1 y.f1
abbrev fQ (a b : List S102) : List S65 := mrg key mk same a b
theorem qD (x y : S102) : Op.bytesLess x.f0.toList y.f0.toList = decide (key x < key y) := Go.Proofs.bytesLess_eq _ _
theorem rd0 (x : S102) (xs : List S102) : ay (x :: xs) 0 = x := rfl
theorem lQ : ∀ (n : Nat) (a b : List S102) (out : List S65), a.length + b.length ≤ n → out.length + n < 3518437208883 → (∀ x ∈ a, rZ x) → Ev (fun k => aA.l0 k out a b) (out ++ fQ a b) := by
  intro n
  induction n with
  | zero =>
    intro a b out hn ho ha
    obtain rfl : a = [] := List.eq_nil_of_length_eq_zero (by omega)
    obtain rfl : b = [] := List.eq_nil_of_length_eq_zero (by omega)
    rw [fQ, mrg, List.append_nil]
    exact Ev.step (f := fun k => aA.j1 k out [] [] false) (fun k => by rw [aA.l0, if_neg (by simp)]; rfl) (Ev.step (f := fun _ => some out) (fun k => by rw [aA.j1, if_neg (by simp)]) (Ev.now out))
  | succ n ih =>
    intro a b out hn ho ha
    have hout : out.length < 3518437208883 := by omega
    cases a with
    | nil =>
      cases b with
      | nil =>
        rw [fQ, mrg, List.append_nil]
        exact Ev.step (f := fun k => aA.j1 k out [] [] false) (fun k => by rw [aA.l0, if_neg (by simp)]; rfl) (Ev.step (f := fun _ => some out) (fun k => by rw [aA.j1, if_neg (by simp)]) (Ev.now out))
      | cons y ys =>
        have hr := ih [] ys (out ++ [mk 0 y]) (by simp at hn ⊢ <;> omega) (by simp <;> omega) ha
        rw [List.append_assoc] at hr
        rw [fQ, mrg]
        refine Ev.step (f := fun k => aA.j1 k out [] (y :: ys) true) (fun k => by rw [aA.l0, if_neg (by simp), decide_eq_true (by simp <;> omega)]) ?_
        refine Ev.step (f := fun k => aA.j2 k out [] (y :: ys) false) (fun k => by rw [aA.j1, if_pos rfl, if_neg (by simp <;> omega), if_neg (by simp)]) ?_
        refine Ev.step (f := fun k => aA.j3 k out [] (y :: ys) true) (fun k => by rw [aA.j2, if_neg (by simp), if_pos (by simp)]) ?_
        exact Ev.step (f := fun k => aA.l0 k (out ++ [mk 0 y]) [] ys) (fun k => by rw [aA.j3, if_pos rfl, if_pos (by simp <;> omega), if_pos hout, if_pos (by simp <;> omega)]; rfl) hr
    | cons x xs =>
      have hxs : ∀ z ∈ xs, rZ z := fun z hz => ha z (List.mem_cons_of_mem _ hz)
      cases b with
      | nil =>
        have hr := ih xs [] (out ++ [mk 2 x]) (by simp at hn ⊢ <;> omega) (by simp <;> omega) hxs
        rw [List.append_assoc] at hr
        rw [fQ, mrg]
        refine Ev.step (f := fun k => aA.j1 k out (x :: xs) [] true) (fun k => by rw [aA.l0, if_pos (by simp <;> omega)]) ?_
        refine Ev.step (f := fun k => aA.j2 k out (x :: xs) [] true) (fun k => by rw [aA.j1, if_pos rfl, if_pos (by simp)]) ?_
        exact Ev.step (f := fun k => aA.l0 k (out ++ [mk 2 x]) xs []) (fun k => by rw [aA.j2, if_pos rfl, if_pos (by simp <;> omega), if_pos hout, if_pos (by simp <;> omega)]; rfl) hr
      | cons y ys =>
        have px : (0 : Int) < ((x :: xs).length : Int) := by simp <;> omega
        have py : (0 : Int) < ((y :: ys).length : Int) := by simp <;> omega
        have nx : ¬ ((x :: xs).length : Int) = 0 := by omega
        have ny : ¬ ((y :: ys).length : Int) = 0 := by omega
        have ox : 1 ≤ ((x :: xs).length : Int) := by omega
        have oy : 1 ≤ ((y :: ys).length : Int) := by omega
        rw [fQ, mrg]
        refine Ev.step (f := fun k => aA.j1 k out (x :: xs) (y :: ys) true) (fun k => by rw [aA.l0, if_pos px]) ?_
        refine Ev.step (f := fun k => aA.j2 k out (x :: xs) (y :: ys) (decide (key x < key y))) (fun k => by rw [aA.j1, if_pos rfl, if_neg ny, if_pos px, if_pos px, if_pos py, rd0, rd0, qD]) ?_
        by_cases h1 : key x < key y
        · have hr := ih xs (y :: ys) (out ++ [mk 2 x]) (by simp at hn ⊢ <;> omega) (by simp <;> omega) hxs
          rw [List.append_assoc] at hr
          rw [if_pos h1, decide_eq_true h1]
          exact Ev.step (f := fun k => aA.l0 k (out ++ [mk 2 x]) xs (y :: ys)) (fun k => by rw [aA.j2, if_pos rfl, if_pos px, if_pos hout, if_pos ox]; rfl) hr
        · rw [if_neg h1, decide_eq_false h1]
          refine Ev.step (f := fun k => aA.j3 k out (x :: xs) (y :: ys) (decide (key y < key x))) (fun k => by rw [aA.j2, if_neg (by simp), if_neg nx, if_pos py, if_pos px, rd0, rd0, qD]) ?_
          by_cases h2 : key y < key x
          · have hr := ih (x :: xs) ys (out ++ [mk 0 y]) (by simp at hn ⊢ <;> omega) (by simp <;> omega) ha
            rw [List.append_assoc] at hr
            rw [if_pos h2, decide_eq_true h2]
            exact Ev.step (f := fun k => aA.l0 k (out ++ [mk 0 y]) (x :: xs) ys) (fun k => by rw [aA.j3, if_pos rfl, if_pos py, if_pos hout, if_pos oy]; rfl) hr
          · rw [if_neg h2, decide_eq_false h2]
            have hp := zh x.f1 y.f1 (ha x (by simp)).2
            refine Ev.step (f := fun k => (dD.f k x.f1.f0 x.f1.f1 x.f1.f2 x.f1.f3 x.f1.f4 x.f1.f5 y.f1.f0 y.f1.f1 y.f1.f2 y.f1.f3 y.f1.f4 y.f1.f5).bind fun t => if t = true then aA.l0 k out xs ys else aA.l0 k (out ++ [mk 1 y]) xs ys)
              (fun k => by rw [aA.j3, if_neg (by simp), if_pos px, if_pos py, rd0, rd0]; simp only [if_pos ox, if_pos oy, if_pos hout]; rfl) ?_
            refine Ev.bind (f := fun k t => if t = true then aA.l0 k out xs ys else aA.l0 k (out ++ [mk 1 y]) xs ys) hp ?_
            by_cases h3 : same x y = true
            · rw [if_pos h3]
              exact Ev.congr (fun k => if_pos h3) (ih xs ys out (by simp at hn ⊢ <;> omega) (by omega) hxs)
            · have hr := ih xs ys (out ++ [mk 1 y]) (by simp at hn ⊢ <;> omega) (by simp <;> omega) hxs
              rw [List.append_assoc] at hr
              rw [if_neg h3]
              exact Ev.congr (fun k => if_neg h3) hr
theorem xJ (x18 : List S43) (Al x20 : Int) (es : List S82) (hes : es.length ≤ 9223372036854775807) (hk : ∀ v, ∃ r, Ev (fun k => aQ.l0 k v x18 Al (wrap64 (x20 + 1))) r) : ∀ n i, i + n = es.length → ∀ x3, ∃ r, Ev (fun k => aQ.l2 k x3 x18 Al x20 es (es.length : Int) (i : Int)) r := by
  intro n
  induction n with
  | zero =>
    intro i hi x3
    by_cases h : x3 > 20000
    · exact ⟨20001, Ev.step (f := fun _ => some 20001) (fun k => by rw [aQ.l2, if_neg (by omega), if_pos h]) (Ev.now _)⟩
    · obtain ⟨r, hr⟩ := hk x3
      exact ⟨r, Ev.step (fun k => by rw [aQ.l2, if_neg (by omega), if_neg h]) hr⟩
  | succ n ih =>
    intro i hi x3
    obtain ⟨r, hr⟩ := ih (i + 1) (by omega) (wrap64 (x3 + (wrap64 ((wrap64 (10 + (((fT es i).f0).size : Int))) + (((fT es i).f1).size : Int)))))
    exact ⟨r, Ev.step (fun k => by rw [aQ.l2, if_pos (by omega), if_pos (by omega), if_pos (by omega), wr1 (by omega)]) hr⟩
theorem xK (x18 : List S43) (Al x20 : Int) (cs : List ByteArray) (hcs : cs.length ≤ 9223372036854775807) (c : S43) (hes : c.f6.length ≤ 9223372036854775807) (hk : ∀ v, ∃ r, Ev (fun k => aQ.l0 k v x18 Al (wrap64 (x20 + 1))) r) : ∀ n i, i + n = cs.length → ∀ x3, ∃ r, Ev (fun k => aQ.l1 k x3 x18 Al x20 cs (cs.length : Int) (i : Int) c.f0 c.f1 c.f2 c.f3 c.f4 c.f5 c.f6) r := by
  intro n
  induction n with
  | zero =>
    intro i hi x3
    obtain ⟨r, hr⟩ := xJ x18 Al x20 c.f6 hes hk c.f6.length 0 (by omega) x3
    exact ⟨r, Ev.step (f := fun k => aQ.l2 k x3 x18 Al x20 c.f6 (c.f6.length : Int) 0) (fun k => by rw [aQ.l1, if_neg (by omega)]) hr⟩
  | succ n ih =>
    intro i hi x3
    obtain ⟨r, hr⟩ := ih (i + 1) (by omega) (wrap64 (x3 + (wrap64 (10 + ((iH ByteArray.empty cs i).size : Int)))))
    exact ⟨r, Ev.step (fun k => by rw [aQ.l1, if_pos (by omega), if_pos (by omega), if_pos (by omega), wr1 (by omega)]) hr⟩
theorem xL (l : List S43) (hl : l.length ≤ 9223372036854775807) (hg : ∀ x ∈ l, G43 x) : ∀ n i, i + n = l.length → ∀ x3, ∃ r, Ev (fun k => aQ.l0 k x3 l (l.length : Int) (i : Int)) r := by
  intro n
  induction n with
  | zero =>
    intro i hi x3
    exact ⟨x3, Ev.step (f := fun _ => some x3) (fun k => by rw [aQ.l0, if_neg (by omega)]) (Ev.now _)⟩
  | succ n ih =>
    intro i hi x3
    have h1 : i < l.length := by omega
    obtain ⟨_, _, h2, _, _, _, h6⟩ := hg l[i] (List.getElem_mem h1)
    have hk : ∀ v, ∃ r, Ev (fun k => aQ.l0 k v l (l.length : Int) (wrap64 ((i : Int) + 1))) r := fun v => by
      rw [wr1 (by omega)]; exact ih (i + 1) (by omega) v
    obtain ⟨r, hr⟩ := xK l (l.length : Int) (i : Int) l[i].f2 h2.2.1 l[i] h6.2.1 hk l[i].f2.length 0 (by omega) (wrap64 (x3 + (wrap64 ((wrap64 ((wrap64 (20 + ((l[i].f0).size : Int))) + ((l[i].f1).size : Int))) + (wrap64 (10 * ((l[i].f3).length : Int)))))))
    exact ⟨r, Ev.step (fun k => by rw [aQ.l0, if_pos (by omega), if_pos (by omega), if_pos (by omega), xD h1]; rfl) hr⟩
theorem oM (a : Int) (l : List S102) (hl : l.length ≤ 9223372036854775807) (hg : ∀ x ∈ l, rZ x) : ∃ b, Ev (fun k => aR.f k a l) b := by
  have h : ∀ n i, i + n = l.length → ∀ x3, ∃ b, Ev (fun k => aR.l0 k x3 l (l.length : Int) (i : Int)) b := by
    intro n
    induction n with
    | zero =>
      intro i hi x3
      exact ⟨true, Ev.step (f := fun _ => some true) (fun k => by rw [aR.l0, if_neg (by omega)]) (Ev.now _)⟩
    | succ n ih =>
      intro i hi x3
      have h1 : i < l.length := by omega
      obtain ⟨_, _, _, _, _, _, h5⟩ := hg l[i] (List.getElem_mem h1)
      obtain ⟨t, ht⟩ := xL l[i].f1.f5 h5.2.1 h5.2.2 l[i].f1.f5.length 0 (by omega) (wrap64 ((l[i].f1.f0.size : Int) + (l[i].f1.f1.size : Int)))
      by_cases hc : (wrap64 (x3 + (wrap64 ((wrap64 (10 + ((l[i].f0).size : Int))) + t)))) > 40000
      · refine ⟨false, Ev.step (f := fun k => (aQ.f k l[i].f1.f0 l[i].f1.f1 l[i].f1.f2 l[i].f1.f3 l[i].f1.f4 l[i].f1.f5).bind fun t => if (wrap64 (x3 + (wrap64 ((wrap64 (10 + ((l[i].f0).size : Int))) + t)))) > 40000 then some false else aR.l0 k (wrap64 (x3 + (wrap64 ((wrap64 (10 + ((l[i].f0).size : Int))) + t)))) l (l.length : Int) ((i + 1 : Nat) : Int)) (fun k => by rw [aR.l0, if_pos (by omega), if_pos (by omega), if_pos (by omega), mo h1, wr1 (by omega)]) ?_⟩
        exact Ev.bind (f := fun k t => if (wrap64 (x3 + (wrap64 ((wrap64 (10 + ((l[i].f0).size : Int))) + t)))) > 40000 then some false else aR.l0 k (wrap64 (x3 + (wrap64 ((wrap64 (10 + ((l[i].f0).size : Int))) + t)))) l (l.length : Int) ((i + 1 : Nat) : Int)) ht (Ev.congr (fun k => if_pos hc) (Ev.now _))
      · obtain ⟨b, hb⟩ := ih (i + 1) (by omega) (wrap64 (x3 + (wrap64 ((wrap64 (10 + ((l[i].f0).size : Int))) + t))))
        refine ⟨b, Ev.step (f := fun k => (aQ.f k l[i].f1.f0 l[i].f1.f1 l[i].f1.f2 l[i].f1.f3 l[i].f1.f4 l[i].f1.f5).bind fun t => if (wrap64 (x3 + (wrap64 ((wrap64 (10 + ((l[i].f0).size : Int))) + t)))) > 40000 then some false else aR.l0 k (wrap64 (x3 + (wrap64 ((wrap64 (10 + ((l[i].f0).size : Int))) + t)))) l (l.length : Int) ((i + 1 : Nat) : Int)) (fun k => by rw [aR.l0, if_pos (by omega), if_pos (by omega), if_pos (by omega), mo h1, wr1 (by omega)]) ?_⟩
        exact Ev.bind (f := fun k t => if (wrap64 (x3 + (wrap64 ((wrap64 (10 + ((l[i].f0).size : Int))) + t)))) > 40000 then some false else aR.l0 k (wrap64 (x3 + (wrap64 ((wrap64 (10 + ((l[i].f0).size : Int))) + t)))) l (l.length : Int) ((i + 1 : Nat) : Int)) ht (Ev.congr (fun k => if_neg hc) hb)
  exact h l.length 0 (by omega) 0
theorem tq (a : Int) (l : List S102) (hl : l.length ≤ 9223372036854775807) : ∃ b, Ev (fun k => aX.f k a l) b ∧ (b = true → Up key l) := by
  have h : ∀ n i, 1 ≤ i → i + n = max l.length 1 → ∃ b, Ev (fun k => aX.l0 k (i : Int) a l) b ∧ (b = true → ∀ j, i ≤ j → (h : j < l.length) → key (l[j - 1]'(by omega)) < key l[j]) := by
    intro n
    induction n with
    | zero =>
      intro i h1 hi
      exact ⟨true, Ev.step (f := fun _ => some true) (fun k => by rw [aX.l0, if_neg (by omega)]) (Ev.now _), fun _ j hj h => by omega⟩
    | succ n ih =>
      intro i h1 hi
      have hlt : i < l.length := by omega
      have hw : wrap64 ((i : Int) - 1) = ((i - 1 : Nat) : Int) := by rw [bS (by omega) (by omega)]; omega
      have hst : ∀ k, aX.l0 (k + 1) (i : Int) a l = if key (l[i - 1]'(by omega)) < key l[i] then aX.l0 k ((i + 1 : Nat) : Int) a l else some false := fun k => by
        rw [aX.l0, hw, if_pos (by omega), if_pos (by omega), if_pos (by omega), if_pos (by omega), mo (by omega), mo hlt, qD, wr1 (by omega)]
        simp only [decide_eq_true_eq]
      by_cases hq : key (l[i - 1]'(by omega)) < key l[i]
      · obtain ⟨b, hb, hb2⟩ := ih (i + 1) (by omega) (by omega)
        refine ⟨b, Ev.step (f := fun k => aX.l0 k ((i + 1 : Nat) : Int) a l) (fun k => by rw [hst, if_pos hq]) hb, fun hbt j hj h => ?_⟩
        by_cases e : j = i
        · subst e; exact hq
        · exact hb2 hbt j (by omega) h
      · exact ⟨false, Ev.step (f := fun _ => some false) (fun k => by rw [hst, if_neg hq]) (Ev.now _), fun z => by cases z⟩
  obtain ⟨b, hb, hb2⟩ := h (max l.length 1 - 1) 1 (by omega) (by omega)
  refine ⟨b, hb, fun hbt => ?_⟩
  refine List.pairwise_iff_getElem.2 fun i j hi hj hij => ?_
  have : ∀ d i, (h1 : i < l.length) → (h2 : i + d + 1 < l.length) → key l[i] < key l[i + d + 1] := by
    intro d
    induction d with
    | zero => intro i h1 h2; exact hb2 hbt (i + 1) (by omega) h2
    | succ d ih => intro i h1 h2; exact kt (ih i h1 (by omega)) (hb2 hbt (i + (d + 1) + 1) (by omega) h2)
  have e := this (j - i - 1) i hi (by omega)
  have e2 : i + (j - i - 1) + 1 = j := by omega
  simpa only [e2] using e
end Go.Proofs.YtpflenjhmeaeoaaDoor.Pure
