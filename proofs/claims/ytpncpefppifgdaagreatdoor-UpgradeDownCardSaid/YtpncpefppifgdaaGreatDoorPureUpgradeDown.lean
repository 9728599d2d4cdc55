/- UpgradeDown, the pure statement: the state of version 2 of which any one of version 3 was made, or that there is none, is the document's answer; for every input. -/
import Derived.Test.YtpncpefppifgdaaGreatDoorGUtUpgradeDownS
namespace Go.Proofs.YtpncpefppifgdaaGreatDoor.Pure
open Go.RowKit Go.Proofs.YtpncpefppifgdaaGreatDoor.GUt Go.Proofs.YtpncpefppifgdaaGreatDoorW.PrintWords Go.Proofs.YtpncpefppifgdaaGreatDoorW.PrintLast Go.Proofs.YtpncpefppifgdaaGreatDoorW.PrintMore
set_option linter.unusedVariables false
theorem tT : Ev (fun k => aU.f k) true := by
  have h : aU.f 60 = some true := by decide +kernel
  exact Ev.of (fun k => aU.mono k) h
theorem wr1 {i : Nat} (h : i < 9223372036854775807) : wrap64 ((i : Int) + 1) = ((i + 1 : Nat) : Int) := by rw [bW (by omega) (by omega)]; rfl
theorem yw {l : List S71} {i : Nat} (h : i < l.length) : aK l (i : Int) = l[i] := by simp [aK, List.getElem?_eq_getElem h]
theorem yx {l : List S73} {i : Nat} (h : i < l.length) : fZ l (i : Int) = l[i] := by simp [fZ, List.getElem?_eq_getElem h]
theorem tV {l : List S79} {i : Nat} (h : i < l.length) : aG l (i : Int) = l[i] := by simp [aG, List.getElem?_eq_getElem h]
theorem yA {l : List S84} {i : Nat} (h : i < l.length) : au l (i : Int) = l[i] := by simp [au, List.getElem?_eq_getElem h]
theorem yB {l : List S96} {i : Nat} (h : i < l.length) : aA l (i : Int) = l[i] := by simp [aA, List.getElem?_eq_getElem h]
theorem wR {l : List S106} {i : Nat} (h : i < l.length) : bE l (i : Int) = l[i] := by simp [bE, List.getElem?_eq_getElem h]
def uM (x : S73) : S89 := ⟨x.f0, x.f1⟩
def qG (x : S71) : S88 := ⟨x.f0, x.f1, x.f2, x.f3, x.f4, x.f5.map uM⟩
theorem yC (c : Int) (a : List S71) (ha : a.length ≤ 1500000000000) (hc : ∀ x ∈ a, x.f5.length ≤ 1500000000000) : Ev (fun k => bf.f k c a) (c, a.map qG) := by
  have hin : ∀ (i : Nat) (x : S71) (out : List S88) (r : Int × List S88), x.f5.length ≤ 1500000000000 → out.length ≤ 1500000000000 → i < 1500000000001 → Ev (fun k => bf.l0 k a (a.length : Int) ((i + 1 : Nat) : Int) c (out ++ [qG x])) r → ∀ n j (o : List S89), j + n = x.f5.length → o = (x.f5.take j).map uM →
      Ev (fun k => bf.l1 k a (a.length : Int) (i : Int) x.f5 (x.f5.length : Int) (j : Int) c out x.f0 x.f1 x.f2 x.f3 x.f4 o) r := by
    intro i x out r hx ho hi hk n
    induction n with
    | zero =>
      intro j o hj hoj
      obtain rfl : j = x.f5.length := by omega
      rw [List.take_length] at hoj
      subst hoj
      exact Ev.step (fun k => by rw [bf.l1, if_neg (by omega), if_pos (by omega), wr1 (by omega)]; rfl) hk
    | succ n ih =>
      intro j o hj hoj
      have h1 : j < x.f5.length := by omega
      have ht : o ++ [uM x.f5[j]] = (x.f5.take (j + 1)).map uM := by
        rw [hoj, List.take_add_one, List.map_append, List.getElem?_eq_getElem h1]; rfl
      have hol : o.length = j := by rw [hoj, List.length_map, List.length_take]; omega
      refine Ev.step (f := fun k => bf.l1 k a (a.length : Int) (i : Int) x.f5 (x.f5.length : Int) ((j + 1 : Nat) : Int) c out x.f0 x.f1 x.f2 x.f3 x.f4 (o ++ [uM x.f5[j]])) (fun k => by
        rw [bf.l1, if_pos (by omega), if_pos (by omega), if_pos (by omega), if_pos (by omega), yx h1, wr1 (by omega)]; rfl) (ih (j + 1) _ (by omega) ht)
  have h : ∀ n i (out : List S88), i + n = a.length → out.length = i → Ev (fun k => bf.l0 k a (a.length : Int) (i : Int) c out) (c, out ++ (a.drop i).map qG) := by
    intro n
    induction n with
    | zero =>
      intro i out hi ho
      rw [List.drop_eq_nil_of_le (by omega), List.map_nil, List.append_nil]
      exact Ev.step (f := fun _ => some (c, out)) (fun k => by rw [bf.l0, if_neg (by omega)]) (Ev.now _)
    | succ n ih =>
      intro i out hi ho
      have h1 : i < a.length := by omega
      have hr := ih (i + 1) (out ++ [qG a[i]]) (by omega) (by simp [ho])
      rw [List.append_assoc] at hr
      rw [List.drop_eq_getElem_cons h1, List.map_cons]
      have hr2 := hin i a[i] out _ (hc _ (List.getElem_mem h1)) (by omega) (by omega) hr a[i].f5.length 0 [] (by omega) (by simp)
      exact Ev.step (f := fun k => bf.l1 k a (a.length : Int) (i : Int) a[i].f5 (a[i].f5.length : Int) 0 c out a[i].f0 a[i].f1 a[i].f2 a[i].f3 a[i].f4 []) (fun k => by rw [bf.l0, if_pos (by omega), if_pos (by omega), if_pos (by omega), yw h1]) hr2
  exact h a.length 0 [] (by omega) rfl
theorem qb : ∀ l, oM l l = true
  | [] => rfl
  | x :: xs => by simp [oM, zN, qb xs]
theorem qc : ∀ l, oN l l = true
  | [] => rfl
  | x :: xs => by simp [oN, zO, qb, qc xs]
theorem rC (a0 a1 : ByteArray) (a2 a3 : Int) (a4 : Bool) (l : List S84) (hl : l.length ≤ 9000000000000) (h2 : ∀ x ∈ l, x.f2.length ≤ 9000000000000) (h6 : ∀ x ∈ l, x.f6.length ≤ 9000000000000) : ∃ r, Ev (fun k => aT.f k a0 a1 a2 a3 a4 l) r := by
  have he : ∀ (i : Nat) (cs : List S127), cs.length ≤ 9000000000000 → i < 9000000000001 → (∀ v, ∃ b, Ev (fun k => aT.l0 k v l (l.length : Int) ((i + 1 : Nat) : Int)) b) → ∀ n j, j + n = cs.length → ∀ x3, ∃ b, Ev (fun k => aT.l2 k x3 l (l.length : Int) (i : Int) cs (cs.length : Int) (j : Int)) b := by
    intro i cs hcs hi hk n
    induction n with
    | zero =>
      intro j hj x3
      by_cases hq : x3 > 20000
      · exact ⟨20001, Ev.step (f := fun _ => some 20001) (fun k => by rw [aT.l2, if_neg (by omega), if_pos hq]) (Ev.now _)⟩
      · obtain ⟨b, hb⟩ := hk x3
        exact ⟨b, Ev.step (fun k => by rw [aT.l2, if_neg (by omega), if_neg hq, wr1 (by omega)]) hb⟩
    | succ n ih =>
      intro j hj x3
      obtain ⟨b, hb⟩ := ih (j + 1) (by omega) (wrap64 (x3 + (wrap64 ((wrap64 (10 + (((fC cs j).f0).size : Int))) + (((fC cs j).f1).size : Int)))))
      exact ⟨b, Ev.step (fun k => by rw [aT.l2, if_pos (by omega), if_pos (by omega), if_pos (by omega), wr1 (by omega)]) hb⟩
  have hin : ∀ (i : Nat) (x : S84), x.f2.length ≤ 9000000000000 → x.f6.length ≤ 9000000000000 → i < 9000000000001 → (∀ v, ∃ b, Ev (fun k => aT.l0 k v l (l.length : Int) ((i + 1 : Nat) : Int)) b) → ∀ n j, j + n = x.f2.length → ∀ x3, ∃ b, Ev (fun k => aT.l1 k x3 l (l.length : Int) (i : Int) x.f2 (x.f2.length : Int) (j : Int) x.f0 x.f1 x.f2 x.f3 x.f4 x.f5 x.f6) b := by
    intro i x hx2 hx6 hi hk n
    induction n with
    | zero =>
      intro j hj x3
      obtain ⟨b, hb⟩ := he i x.f6 hx6 hi hk x.f6.length 0 (by omega) x3
      exact ⟨b, Ev.step (fun k => by rw [aT.l1, if_neg (by omega)]; rfl) hb⟩
    | succ n ih =>
      intro j hj x3
      obtain ⟨b, hb⟩ := ih (j + 1) (by omega) (wrap64 (x3 + (wrap64 (10 + ((jV ByteArray.empty x.f2 (j : Int)).size : Int)))))
      exact ⟨b, Ev.step (fun k => by rw [aT.l1, if_pos (by omega), if_pos (by omega), if_pos (by omega), wr1 (by omega)]) hb⟩
  have h : ∀ n i, i + n = l.length → ∀ x3, ∃ b, Ev (fun k => aT.l0 k x3 l (l.length : Int) (i : Int)) b := by
    intro n
    induction n with
    | zero =>
      intro i hi x3
      exact ⟨x3, Ev.step (f := fun _ => some x3) (fun k => by rw [aT.l0, if_neg (by omega)]) (Ev.now _)⟩
    | succ n ih =>
      intro i hi x3
      have h1 : i < l.length := by omega
      obtain ⟨b, hb⟩ := hin i l[i] (h2 _ (List.getElem_mem h1)) (h6 _ (List.getElem_mem h1)) (by omega) (fun v => ih (i + 1) (by omega) v) l[i].f2.length 0 (by omega) (wrap64 (x3 + (wrap64 ((wrap64 ((wrap64 (20 + ((l[i].f0).size : Int))) + ((l[i].f1).size : Int))) + (wrap64 (10 * ((l[i].f3).length : Int)))))))
      exact ⟨b, Ev.step (fun k => by rw [aT.l0, if_pos (by omega), if_pos (by omega), if_pos (by omega), yA h1]; rfl) hb⟩
  exact h l.length 0 (by omega) _
def Fits (x : S79) : Prop := x.f1.f5.length ≤ 1500000000000 ∧ (∀ c ∈ x.f1.f5, c.f2.length ≤ 9000000000000) ∧ ∀ c ∈ x.f1.f5, c.f6.length ≤ 9000000000000
theorem wS (c : Int) (l : List S79) (hl : l.length ≤ 1500000000000) (hf : ∀ x ∈ l, Fits x) : ∃ b, Ev (fun k => aX.f k c l) b := by
  have h : ∀ n i, i + n = l.length → ∀ x3, ∃ b, Ev (fun k => aX.l0 k x3 l (l.length : Int) (i : Int)) b := by
    intro n
    induction n with
    | zero =>
      intro i hi x3
      exact ⟨true, Ev.step (f := fun _ => some true) (fun k => by rw [aX.l0, if_neg (by omega)]) (Ev.now _)⟩
    | succ n ih =>
      intro i hi x3
      have h1 : i < l.length := by omega
      have hF := hf _ (List.getElem_mem h1)
      obtain ⟨t, ht⟩ := rC l[i].f1.f0 l[i].f1.f1 l[i].f1.f2 l[i].f1.f3 l[i].f1.f4 l[i].f1.f5 (by have := hF.1; omega) hF.2.1 hF.2.2
      by_cases hq : (wrap64 (x3 + (wrap64 ((wrap64 (10 + ((l[i].f0).size : Int))) + t)))) > 40000
      · refine ⟨false, Ev.step (f := fun k => (aT.f k l[i].f1.f0 l[i].f1.f1 l[i].f1.f2 l[i].f1.f3 l[i].f1.f4 l[i].f1.f5).bind fun BG => if (wrap64 (x3 + (wrap64 ((wrap64 (10 + ((l[i].f0).size : Int))) + BG)))) > 40000 then some false else aX.l0 k (wrap64 (x3 + (wrap64 ((wrap64 (10 + ((l[i].f0).size : Int))) + BG)))) l (l.length : Int) ((i + 1 : Nat) : Int)) (fun k => by rw [aX.l0, if_pos (by omega), if_pos (by omega), if_pos (by omega), tV h1, wr1 (by omega)]) ?_⟩
        exact Ev.bind (f := fun k BG => if (wrap64 (x3 + (wrap64 ((wrap64 (10 + ((l[i].f0).size : Int))) + BG)))) > 40000 then some false else aX.l0 k (wrap64 (x3 + (wrap64 ((wrap64 (10 + ((l[i].f0).size : Int))) + BG)))) l (l.length : Int) ((i + 1 : Nat) : Int)) ht (Ev.congr (f := fun _ => some false) (fun k => if_pos hq) (Ev.now _))
      · obtain ⟨b, hb⟩ := ih (i + 1) (by omega) (wrap64 (x3 + (wrap64 ((wrap64 (10 + ((l[i].f0).size : Int))) + t))))
        refine ⟨b, Ev.step (f := fun k => (aT.f k l[i].f1.f0 l[i].f1.f1 l[i].f1.f2 l[i].f1.f3 l[i].f1.f4 l[i].f1.f5).bind fun BG => if (wrap64 (x3 + (wrap64 ((wrap64 (10 + ((l[i].f0).size : Int))) + BG)))) > 40000 then some false else aX.l0 k (wrap64 (x3 + (wrap64 ((wrap64 (10 + ((l[i].f0).size : Int))) + BG)))) l (l.length : Int) ((i + 1 : Nat) : Int)) (fun k => by rw [aX.l0, if_pos (by omega), if_pos (by omega), if_pos (by omega), tV h1, wr1 (by omega)]) ?_⟩
        exact Ev.bind (f := fun k BG => if (wrap64 (x3 + (wrap64 ((wrap64 (10 + ((l[i].f0).size : Int))) + BG)))) > 40000 then some false else aX.l0 k (wrap64 (x3 + (wrap64 ((wrap64 (10 + ((l[i].f0).size : Int))) + BG)))) l (l.length : Int) ((i + 1 : Nat) : Int)) ht (Ev.congr (fun k => if_neg hq) hb)
  exact h l.length 0 (by omega) 0
def okC (c : S84) : Bool := decide (100 = c.f4) && (decide (64 = c.f5) && (c.f2.isEmpty && (c.f3.isEmpty && c.f6.isEmpty)))
def okP (x : S79) : Bool := decide (wrap64 (x.f1.f2 % 256) = x.f1.f2) && (decide (wrap64 (IntKind.u16.wrap x.f1.f3) = x.f1.f3) && (decide (false = x.f1.f4) && x.f1.f5.all okC))
theorem eqS (l : List ByteArray) : Ev (fun k => aV.f k [] l) l.isEmpty := by
  cases l with
  | nil => exact Ev.step (f := fun _ => some true) (fun k => by rw [aV.f, if_pos rfl, aV.l0, if_neg (by simp)]) (Ev.now _)
  | cons x xs => exact Ev.congr (f := fun _ => some false) (fun k => by rw [aV.f, if_neg (by simp; omega)]) (Ev.now _)
theorem eqP (l : List S126) : Ev (fun k => dF.f k [] l) l.isEmpty := by
  cases l with
  | nil => exact Ev.step (f := fun _ => some true) (fun k => by rw [dF.f, if_pos rfl, dF.l0, if_neg (by simp)]) (Ev.now _)
  | cons x xs => exact Ev.congr (f := fun _ => some false) (fun k => by rw [dF.f, if_neg (by simp; omega)]) (Ev.now _)
theorem eqE (l : List S127) : Ev (fun k => dO.f k [] l) l.isEmpty := by
  cases l with
  | nil => exact Ev.step (f := fun _ => some true) (fun k => by rw [dO.f, if_pos rfl, dO.l0, if_neg (by simp)]) (Ev.now _)
  | cons x xs => exact Ev.congr (f := fun _ => some false) (fun k => by rw [dO.f, if_neg (by simp; omega)]) (Ev.now _)
theorem qH {g : Nat → Option Bool} {f : Nat → Option Bool} {a b : Bool} (h : Ev g a) (k : Ev f b) : Ev (fun n => (g n).bind fun t => if t = true then f n else some false) (a && b) := by
  refine Ev.bind (f := fun n t => if t = true then f n else some false) h ?_
  cases a with
  | true => exact Ev.congr (fun n => if_pos rfl) k
  | false => exact Ev.now _
theorem yJ {g : Nat → Option Bool} {a : Bool} (h : Ev g a) : Ev (fun n => (g n).bind fun t => some t) a := Ev.bind (f := fun _ t => some t) h (Ev.now _)
theorem oQ {p : Prop} [Decidable p] {f : Nat → Option Bool} {b : Bool} (k : Ev f b) : Ev (fun n => if p then f n else some false) (decide p && b) := by
  by_cases h : p
  · rw [decide_eq_true h]; exact Ev.congr (fun n => if_pos h) k
  · rw [decide_eq_false h]; exact Ev.congr (f := fun _ => some false) (fun n => if_neg h) (Ev.now _)
theorem zU (c : S84) : Ev (fun k => yH k (ko (jM c)) c) (okC c) := by
  refine Ev.congr (f := fun k => if (100 : Int) = c.f4 then (if (64 : Int) = c.f5 then ((aV.f k [] c.f2).bind fun t => if t = true then ((dF.f k [] c.f3).bind fun t => if t = true then ((dO.f k [] c.f6).bind fun t => some t) else some false) else some false) else some false) else some false) (fun k => ?_) (oQ (oQ (qH (eqS c.f2) (qH (eqP c.f3) (yJ (eqE c.f6))))))
  show dS.f k c.f0 c.f1 [] [] 100 64 [] c.f0 c.f1 c.f2 c.f3 c.f4 c.f5 c.f6 = _
  rw [dS.f, if_pos rfl, if_pos rfl]
theorem tX : ∀ cs : List S84, Ev (fun k => lZ k ((cs.map jM).map ko) cs) (cs.all okC)
  | [] => Ev.congr (f := fun _ => some true) (fun k => by simp [lZ]) (Ev.now _)
  | c :: cs => by
    rw [List.all_cons]
    exact Ev.congr (fun k => by rw [List.map_cons, List.map_cons, lZ]) (qH (zU c) (tX cs))
theorem zV (x : S79) : Ev (fun k => pF k (iD (iF x)) x) (okP x) := by
  have hl : ((x.f1.f5.map jM).map ko).length = x.f1.f5.length := by rw [List.length_map, List.length_map]
  have h5 : Ev (fun k => nI k ((x.f1.f5.map jM).map ko) x.f1.f5) (x.f1.f5.all okC) := Ev.congr (fun k => by rw [nI, if_pos hl]) (tX _)
  refine Ev.congr (f := fun k => if wrap64 (x.f1.f2 % 256) = x.f1.f2 then (if wrap64 (IntKind.u16.wrap x.f1.f3) = x.f1.f3 then (if false = x.f1.f4 then nI k ((x.f1.f5.map jM).map ko) x.f1.f5 else some false) else some false) else some false) (fun k => ?_) (oQ (oQ (oQ h5)))
  show (if x.f0.toList = x.f0.toList then fE.f k x.f1.f0 x.f1.f1 (wrap64 (x.f1.f2 % 256)) (wrap64 (IntKind.u16.wrap x.f1.f3)) false ((x.f1.f5.map jM).map ko) x.f1.f0 x.f1.f1 x.f1.f2 x.f1.f3 x.f1.f4 x.f1.f5 else some false) = _
  rw [if_pos rfl, fE.f, if_pos rfl, if_pos rfl]
theorem tY : ∀ l : List S79, Ev (fun k => pG k ((l.map iF).map iD) l) (l.all okP)
  | [] => Ev.congr (f := fun _ => some true) (fun k => by simp [pG]) (Ev.now _)
  | x :: l => by
    rw [List.all_cons]
    exact Ev.congr (fun k => by rw [List.map_cons, List.map_cons, pG]) (qH (zV x) (tY l))
theorem yD (c : Int) (l : List S79) (h : ni l) : Ev (fun k => dW.f k c l) (if l.all okP = true then (c, l.map iF, true) else (0, [], false)) := by
  have hs : Ev (fun k => dV.f k c ((l.map iF).map iD) c l) (l.all okP) := Ev.congr (fun k => by rw [dV.f, if_pos rfl, uI, if_pos (by rw [List.length_map, List.length_map])]) (tY l)
  refine Ev.congr (fun k => by rw [dW.f, if_pos h]) ?_
  refine Ev.bind (f := fun _ b => if b = true then some (c, l.map iF, true) else some ((0 : Int), ([] : List S71), false)) hs ?_
  cases l.all okP with
  | true => exact Ev.now _
  | false => exact Ev.now _
def kL (c : S106) : Bool := c.f2.isEmpty && (c.f3.isEmpty && (c.f6.isEmpty && (decide (c.f4 = 100) && decide (c.f5 = 64))))
def lq (x : S96) : Bool := decide (0 ≤ x.f1.f2) && (decide (x.f1.f2 ≤ 255) && (decide (0 ≤ x.f1.f3) && (decide (x.f1.f3 ≤ 65535) && (!x.f1.f4 && x.f1.f5.all kL))))
def qd (c : S106) : S89 := ⟨c.f0, c.f1⟩
def lu (x : S96) : S88 := ⟨x.f0, x.f1.f0, x.f1.f1, x.f1.f2 % 256, IntKind.u16.wrap x.f1.f3, x.f1.f5.map qd⟩
theorem sF {α : Type} {l : List α} (h : ¬ l.isEmpty = true) : (l.length : Int) > 0 := by
  cases l with
  | nil => simp at h
  | cons x xs => simp
theorem iB {α : Type} {l : List α} (h : l.isEmpty = true) : ¬ (l.length : Int) > 0 := by rw [List.isEmpty_iff.1 h]; simp
abbrev No : Int × List S88 × Bool := (0, [], false)
theorem zW (c : Int) (a : List S96) (ha : a.length ≤ 1500000000000) (hc : ∀ x ∈ a, x.f1.f5.length ≤ 1500000000000) : Ev (fun k => aI.f k c a) (if a.all lq = true then (c, a.map lu, true) else No) := by
  have hin : ∀ (i : Nat) (x : S96) (out : List S88) (R : Int × List S88 × Bool), x.f1.f5.length ≤ 1500000000000 → out.length ≤ 1500000000000 → i < 1500000000001 → Ev (fun k => aI.l0 k ((i + 1 : Nat) : Int) c a c (out ++ [lu x])) R → ∀ n j (o : List S89), j + n = x.f1.f5.length → o = (x.f1.f5.take j).map qd →
      Ev (fun k => aI.l1 k (i : Int) (j : Int) c a c out x.f1.f0 x.f1.f1 x.f1.f2 x.f1.f3 x.f1.f4 x.f1.f5 x.f0 x.f1.f0 x.f1.f1 (x.f1.f2 % 256) (IntKind.u16.wrap x.f1.f3) o) (if (x.f1.f5.drop j).all kL = true then R else No) := by
    intro i x out R hx ho hi hk n
    induction n with
    | zero =>
      intro j o hj hoj
      obtain rfl : j = x.f1.f5.length := by omega
      rw [List.take_length] at hoj
      subst hoj
      rw [List.drop_eq_nil_of_le (Nat.le_refl _), List.all_nil, if_pos rfl]
      exact Ev.step (fun k => by rw [aI.l1, if_neg (by omega), if_pos (by omega), wr1 (by omega)]; rfl) hk
    | succ n ih =>
      intro j o hj hoj
      have h1 : j < x.f1.f5.length := by omega
      have ht : o ++ [qd x.f1.f5[j]] = (x.f1.f5.take (j + 1)).map qd := by
        rw [hoj, List.take_add_one, List.map_append, List.getElem?_eq_getElem h1]; rfl
      have hol : o.length = j := by rw [hoj, List.length_map, List.length_take]; omega
      have hr := ih (j + 1) _ (by omega) ht
      rw [List.drop_eq_getElem_cons h1, List.all_cons]
      generalize hw : x.f1.f5[j] = y at ht hr ⊢
      have hrd : bE x.f1.f5 (j : Int) = y := by rw [wR h1, hw]
      have hno : ∀ {f : Nat → Option (Int × List S88 × Bool)}, kL y = false → (∀ k, f (k + 1) = some No) → Ev f (if (kL y && (x.f1.f5.drop (j + 1)).all kL) = true then R else No) := fun hy hf => by
        rw [hy, Bool.false_and, if_neg (by decide)]
        exact Ev.step (f := fun _ => some No) hf (Ev.now _)
      by_cases c2 : y.f2.isEmpty = true
      case neg => exact hno (by simp [kL, Bool.eq_false_iff.2 c2]) (fun k => by rw [aI.l1, if_pos (by omega), if_pos (by omega), hrd, if_pos (sF c2)])
      by_cases c3 : y.f3.isEmpty = true
      case neg => exact hno (by simp [kL, Bool.eq_false_iff.2 c3]) (fun k => by rw [aI.l1, if_pos (by omega), if_pos (by omega), hrd, if_neg (iB c2), if_pos (sF c3)])
      by_cases c6 : y.f6.isEmpty = true
      case neg => exact hno (by simp [kL, Bool.eq_false_iff.2 c6]) (fun k => by rw [aI.l1, if_pos (by omega), if_pos (by omega), hrd, if_neg (iB c2), if_neg (iB c3), if_pos (sF c6)])
      by_cases c4 : y.f4 = 100
      case neg => exact hno (by simp [kL, c4]) (fun k => by rw [aI.l1, if_pos (by omega), if_pos (by omega), hrd, if_neg (iB c2), if_neg (iB c3), if_neg (iB c6), if_neg c4])
      by_cases c5 : y.f5 = 64
      case neg => exact hno (by simp [kL, c5]) (fun k => by rw [aI.l1, if_pos (by omega), if_pos (by omega), hrd, if_neg (iB c2), if_neg (iB c3), if_neg (iB c6), if_pos c4, if_neg c5])
      have hy : kL y = true := by simp [kL, c2, c3, c6, c4, c5]
      rw [hy, Bool.true_and]
      exact Ev.step (fun k => by rw [aI.l1, if_pos (by omega), if_pos (by omega), hrd, if_neg (iB c2), if_neg (iB c3), if_neg (iB c6), if_pos c4, if_pos c5, if_pos (by omega), wr1 (by omega)]; rfl) hr
  have h : ∀ n i (out : List S88), i + n = a.length → out.length = i → Ev (fun k => aI.l0 k (i : Int) c a c out) (if (a.drop i).all lq = true then (c, out ++ (a.drop i).map lu, true) else No) := by
    intro n
    induction n with
    | zero =>
      intro i out hi ho
      rw [List.drop_eq_nil_of_le (by omega), List.map_nil, List.append_nil, List.all_nil, if_pos rfl]
      exact Ev.step (f := fun _ => some (c, out, true)) (fun k => by rw [aI.l0, if_neg (by omega)]) (Ev.now _)
    | succ n ih =>
      intro i out hi ho
      have h1 : i < a.length := by omega
      have hr := ih (i + 1) (out ++ [lu a[i]]) (by omega) (by simp [ho])
      rw [List.append_assoc] at hr
      have hr2 := hin i a[i] out _ (hc _ (List.getElem_mem h1)) (by omega) (by omega) hr a[i].f1.f5.length 0 [] (by omega) (by simp)
      rw [List.drop_zero] at hr2
      rw [List.drop_eq_getElem_cons h1, List.map_cons, List.all_cons]
      have hrd : aA a (i : Int) = a[i] := yB h1
      generalize a[i] = x at hr2 hrd ⊢
      have hno : ∀ {f : Nat → Option (Int × List S88 × Bool)}, lq x = false → (∀ k, f (k + 1) = aI.j1 k (i : Int) true c a c out x.f1.f0 x.f1.f1 x.f1.f2 x.f1.f3 x.f1.f4 x.f1.f5) → Ev f (if (lq x && (a.drop (i + 1)).all lq) = true then (c, out ++ lu x :: (a.drop (i + 1)).map lu, true) else No) := fun hy hf => by
        rw [hy, Bool.false_and, if_neg (by decide)]
        exact Ev.step hf (Ev.step (f := fun _ => some No) (fun k => by rw [aI.j1, if_pos rfl]) (Ev.now _))
      by_cases c1 : x.f1.f2 < 0
      · exact hno (by simp [lq]; omega) (fun k => by rw [aI.l0, if_pos (by omega), if_pos (by omega), hrd, if_pos c1])
      by_cases c2 : x.f1.f2 > 255
      · exact hno (by simp [lq]; omega) (fun k => by rw [aI.l0, if_pos (by omega), if_pos (by omega), hrd, if_neg c1, if_pos c2])
      by_cases c3 : x.f1.f3 < 0
      · exact hno (by simp [lq]; omega) (fun k => by rw [aI.l0, if_pos (by omega), if_pos (by omega), hrd, if_neg c1, if_neg c2, if_pos c3])
      by_cases c4 : x.f1.f3 > 65535
      · exact hno (by simp [lq]; omega) (fun k => by rw [aI.l0, if_pos (by omega), if_pos (by omega), hrd, if_neg c1, if_neg c2, if_neg c3, if_pos c4])
      cases c5 : x.f1.f4 with
      | true => exact hno (by simp [lq, c5]) (fun k => by rw [aI.l0, if_pos (by omega), if_pos (by omega), hrd, if_neg c1, if_neg c2, if_neg c3, if_neg c4, c5])
      | false =>
        have hy : lq x = x.f1.f5.all kL := by simp only [lq, c5, decide_eq_true (show 0 ≤ x.f1.f2 by omega), decide_eq_true (show x.f1.f2 ≤ 255 by omega), decide_eq_true (show 0 ≤ x.f1.f3 by omega), decide_eq_true (show x.f1.f3 ≤ 65535 by omega), Bool.true_and, Bool.not_false]
        have hfin : (if (lq x && (a.drop (i + 1)).all lq) = true then (c, out ++ lu x :: (a.drop (i + 1)).map lu, true) else No) = (if x.f1.f5.all kL = true then (if (a.drop (i + 1)).all lq = true then (c, out ++ ([lu x] ++ (a.drop (i + 1)).map lu), true) else No) else No) := by
          rw [hy]
          cases x.f1.f5.all kL <;> simp
        rw [hfin]
        refine Ev.step (f := fun k => aI.j1 k (i : Int) false c a c out x.f1.f0 x.f1.f1 x.f1.f2 x.f1.f3 false x.f1.f5) (fun k => by rw [aI.l0, if_pos (by omega), if_pos (by omega), hrd, if_neg c1, if_neg c2, if_neg c3, if_neg c4, c5]) ?_
        rw [c5] at hr2
        exact Ev.step (fun k => by rw [aI.j1, if_neg (by decide), if_pos (by omega), if_pos (by omega), hrd]; rfl) hr2
  have := h a.length 0 [] (by omega) rfl
  rw [List.drop_zero, List.nil_append] at this
  exact this
theorem zX (c : S84) : kL (iH c) = okC c := by
  have e3 : (c.f3.map jd).isEmpty = c.f3.isEmpty := by cases c.f3 <;> rfl
  have e6 : (c.f6.map kr).isEmpty = c.f6.isEmpty := by cases c.f6 <;> rfl
  show (c.f2.isEmpty && ((c.f3.map jd).isEmpty && ((c.f6.map kr).isEmpty && (decide (c.f4 = 100) && decide (c.f5 = 64))))) = _
  rw [e3, e6, okC, show decide (c.f4 = 100) = decide (100 = c.f4) from decide_eq_decide.2 eq_comm, show decide (c.f5 = 64) = decide (64 = c.f5) from decide_eq_decide.2 eq_comm]
  cases c.f2.isEmpty <;> cases c.f3.isEmpty <;> cases c.f6.isEmpty <;> cases decide (100 = c.f4) <;> cases decide (64 = c.f5) <;> rfl
theorem rD {n : Int} (h : (Lit.int .i64 n).wf = true) : -9223372036854775808 ≤ n ∧ n ≤ 9223372036854775807 := by
  simp [Lit.wf, IntKind.min, IntKind.max, IntKind.bits, IntKind.signed] at h
  omega
theorem Bv (n : Int) : IntKind.u16.wrap n = n % 65536 := by simp [IntKind.wrap, IntKind.bits, IntKind.signed]
theorem zY (x : S79) (h2 : (Lit.int .i64 x.f1.f2).wf = true) (h3 : (Lit.int .i64 x.f1.f3).wf = true) : lq (iM x) = okP x := by
  have ea : (x.f1.f5.map iH).all kL = x.f1.f5.all okC := by
    rw [List.all_map]
    congr 1
    funext c
    exact zX c
  show (decide (0 ≤ x.f1.f2) && (decide (x.f1.f2 ≤ 255) && (decide (0 ≤ x.f1.f3) && (decide (x.f1.f3 ≤ 65535) && (!x.f1.f4 && (x.f1.f5.map iH).all kL))))) = _
  have r2 := rD h2
  have r3 := rD h3
  have e2 : decide (wrap64 (x.f1.f2 % 256) = x.f1.f2) = (decide (0 ≤ x.f1.f2) && decide (x.f1.f2 ≤ 255)) := by
    rw [bW (by omega) (by omega), ← Bool.decide_and]
    exact decide_eq_decide.2 (by omega)
  have e3 : decide (wrap64 (IntKind.u16.wrap x.f1.f3) = x.f1.f3) = (decide (0 ≤ x.f1.f3) && decide (x.f1.f3 ≤ 65535)) := by
    rw [Bv, bW (by omega) (by omega), ← Bool.decide_and]
    exact decide_eq_decide.2 (by omega)
  rw [ea, okP, e2, e3]
  cases decide (0 ≤ x.f1.f2) <;> cases decide (x.f1.f2 ≤ 255) <;> cases decide (0 ≤ x.f1.f3) <;> cases decide (x.f1.f3 ≤ 65535) <;> cases x.f1.f4 <;> rfl
theorem all_congr {α : Type} {p q : α → Bool} : ∀ l : List α, (∀ x ∈ l, p x = q x) → l.all p = l.all q
  | [], _ => rfl
  | x :: xs, h => by rw [List.all_cons, List.all_cons, h x (by simp), all_congr xs (fun y hy => h y (List.mem_cons_of_mem _ hy))]
theorem yE (l : List S79) : (l.map iM).map lu = (l.map iF).map qG := by
  rw [List.map_map, List.map_map]
  refine List.map_congr_left fun x _ => ?_
  have e : (x.f1.f5.map iH).map qd = (x.f1.f5.map jM).map uM := by rw [List.map_map, List.map_map]; rfl
  show (⟨x.f0, x.f1.f0, x.f1.f1, x.f1.f2 % 256, IntKind.u16.wrap x.f1.f3, (x.f1.f5.map iH).map qd⟩ : S88) = _
  rw [e]; rfl
theorem UpgradeDown : bI.Pure := by
  intro x0 hG
  obtain ⟨c, l⟩ := x0
  obtain ⟨_, hl, _, hx⟩ := hG
  replace hl : l.length * 96 ≤ 140737488351232 := hl
  replace hx : ∀ x ∈ l, G79 x := hx
  have h5 : ∀ x ∈ l, x.f1.f5.length * 120 ≤ 140737488351232 := fun x h => (hx x h).2.2.2.2.2.2.1
  have hC : ∀ x ∈ l, ∀ y ∈ x.f1.f5, G84 y := fun x h => (hx x h).2.2.2.2.2.2.2.2
  have hl1 : l.length ≤ 1500000000000 := by omega
  have hF : ∀ x ∈ l, Fits x := fun x h => ⟨by have := h5 x h; omega, fun y hy => by have := (hC x h y hy).2.2.1.1; omega, fun y hy => by have := (hC x h y hy).2.2.2.2.2.2.1; omega⟩
  refine Ev.rounds (r := true) ?_
  show Ev (fun k => bI.f k c l) true
  obtain ⟨s, hs⟩ := wS c l hl1 hF
  have hD := yD c l ⟨by omega, fun x h => by have := h5 x h; omega⟩
  have hOf : dn.f c l = some (c, l.map iM) := by
    rw [dn.f, if_pos]
    exact ⟨by omega, fun x h => ⟨by have := h5 x h; omega, fun y hy => ⟨by have := (hC x h y hy).2.2.2.1.1; omega, by have := (hC x h y hy).2.2.2.2.2.2.1; omega⟩⟩⟩
  have hR := zW c (l.map iM) (by rw [List.length_map]; exact hl1) (fun x h => by obtain ⟨y, hy, rfl⟩ := List.mem_map.1 h; show (y.f1.f5.map iH).length ≤ _; rw [List.length_map]; exact (hF y hy).1)
  rw [List.all_map, all_congr (p := lq ∘ iM) (q := okP) l (fun x h => zY x (hx x h).2.2.2.1 (hx x h).2.2.2.2.1), yE] at hR
  refine Ev.congr (fun k => by rw [bI.f, hOf]) ?_
  refine Ev.bind (f := fun k BJ => if BJ = true then (dW.f k c l).bind fun BH => (some (c, l.map iM)).bind fun BF => (aI.f k BF.1 BF.2).bind fun Bz => (aU.f k).bind fun BI => if BI = true then (if (BH.2.2 == Bz.2.2) = true then (bf.f k BH.1 BH.2.1).bind fun Bw => (cB.f Bw.1 Bw.2 Bz.1 Bz.2.1).bind fun BD => some BD else some false) else some false else (aU.f k).bind fun BK => some BK) hs ?_
  cases s with
  | false => exact Ev.congr (fun k => if_neg (by decide)) (yJ tT)
  | true =>
    refine Ev.congr (fun k => if_pos rfl) ?_
    refine Ev.bind (f := fun k BH => (some (c, l.map iM)).bind fun BF => (aI.f k BF.1 BF.2).bind fun Bz => (aU.f k).bind fun BI => if BI = true then (if (BH.2.2 == Bz.2.2) = true then (bf.f k BH.1 BH.2.1).bind fun Bw => (cB.f Bw.1 Bw.2 Bz.1 Bz.2.1).bind fun BD => some BD else some false) else some false) hD ?_
    generalize l.all okP = b at hR hD ⊢
    have tail : ∀ (q : Int) (m : List S71) (t : Bool), m.length ≤ 1500000000000 → (∀ x ∈ m, x.f5.length ≤ 1500000000000) → Ev (fun k => aI.f k c (l.map iM)) (q, m.map qG, t) → Ev (fun k => (some (c, l.map iM)).bind fun BF => (aI.f k BF.1 BF.2).bind fun Bz => (aU.f k).bind fun BI => if BI = true then (if (t == Bz.2.2) = true then (bf.f k q m).bind fun Bw => (cB.f Bw.1 Bw.2 Bz.1 Bz.2.1).bind fun BD => some BD else some false) else some false) true := by
      intro q m t hm BL hR
      refine Ev.congr (fun k => Option.bind_some _ _) ?_
      refine Ev.bind (f := fun k Bz => (aU.f k).bind fun BI => if BI = true then (if (t == Bz.2.2) = true then (bf.f k q m).bind fun Bw => (cB.f Bw.1 Bw.2 Bz.1 Bz.2.1).bind fun BD => some BD else some false) else some false) hR ?_
      refine Ev.bind (f := fun k BI => if BI = true then (if (t == t) = true then (bf.f k q m).bind fun Bw => (cB.f Bw.1 Bw.2 q (m.map qG)).bind fun BD => some BD else some false) else some false) tT ?_
      refine Ev.congr (f := fun k => (bf.f k q m).bind fun Bw => (cB.f Bw.1 Bw.2 q (m.map qG)).bind fun BD => some BD) (fun k => by rw [if_pos rfl, if_pos (by simp)]) ?_
      refine Ev.bind (f := fun _ Bw => (cB.f Bw.1 Bw.2 q (m.map qG)).bind fun BD => some BD) (yC q m hm BL) ?_
      refine Ev.congr (f := fun _ => some true) (fun k => ?_) (Ev.now _)
      rw [cB.f, qc]; simp
    cases b with
    | true => exact tail c (l.map iF) true (by rw [List.length_map]; exact hl1) (fun x h => by obtain ⟨y, hy, rfl⟩ := List.mem_map.1 h; show (y.f1.f5.map jM).length ≤ _; rw [List.length_map]; exact (hF y hy).1) hR
    | false => exact tail 0 [] false (by simp) (fun x h => by simp at h) hR
end Go.Proofs.YtpncpefppifgdaaGreatDoor.Pure
