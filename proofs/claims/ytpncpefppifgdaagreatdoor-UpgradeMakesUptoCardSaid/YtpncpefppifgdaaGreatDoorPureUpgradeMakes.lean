/- UpgradeMakes, the pure statement: what is made of any state of version 1, and of version 2, is the document's; for every input of bulk at most 1048576. -/
import Derived.Test.YtpncpefppifgdaaGreatDoorGUtUpgradeMakesS
namespace Go.Proofs.YtpncpefppifgdaaGreatDoor.Pure
open Go.RowKit Go.Proofs.YtpncpefppifgdaaGreatDoor.GUt Go.Proofs.YtpncpefppifgdaaGreatDoorW.PrintWords Go.Proofs.YtpncpefppifgdaaGreatDoorW.PrintLast Go.Proofs.YtpncpefppifgdaaGreatDoorW.PrintMore
set_option linter.unusedVariables false
theorem ug : Ev (fun k => aW.f k) true := by
  have h : aW.f 60 = some true := by decide +kernel
  exact Ev.of (fun k => aW.mono k) h
theorem wr1 {i : Nat} (h : i < 9223372036854775807) : wrap64 ((i : Int) + 1) = ((i + 1 : Nat) : Int) := by rw [dD (by omega) (by omega)]; rfl
theorem yG {l : List S67} {i : Nat} (h : i < l.length) : dA l (i : Int) = l[i] := by simp [dA, List.getElem?_eq_getElem h]
theorem uh {l : List S71} {i : Nat} (h : i < l.length) : aJ l (i : Int) = l[i] := by simp [aJ, List.getElem?_eq_getElem h]
theorem yH {l : List S73} {i : Nat} (h : i < l.length) : fF l (i : Int) = l[i] := by simp [fF, List.getElem?_eq_getElem h]
theorem yI {l : List S85} {i : Nat} (h : i < l.length) : dX l (i : Int) = l[i] := by simp [dX, List.getElem?_eq_getElem h]
theorem yJ {l : List S88} {i : Nat} (h : i < l.length) : aQ l (i : Int) = l[i] := by simp [aQ, List.getElem?_eq_getElem h]
theorem yK {l : List S89} {i : Nat} (h : i < l.length) : gJ l (i : Int) = l[i] := by simp [gJ, List.getElem?_eq_getElem h]
theorem yL {l : List S96} {i : Nat} (h : i < l.length) : bA l (i : Int) = l[i] := by simp [bA, List.getElem?_eq_getElem h]
def iU (x : S67) : S85 := ⟨x.f0, x.f1, x.f2, x.f3⟩
def sM (x : S73) : S89 := ⟨x.f0, x.f1⟩
def jR (x : S71) : S88 := ⟨x.f0, x.f1, x.f2, x.f3, x.f4, x.f5.map sM⟩
def iO (x : S85) : S88 := ⟨x.f0, x.f1, ⟨#[100,101,102,97,117,108,116]⟩, x.f3, 30, [⟨⟨#[109,97,105,110]⟩, x.f2⟩]⟩
def qc (x : S89) : S106 := ⟨x.f0, x.f1, [], [], 100, 64, []⟩
def fu (x : S88) : S96 := ⟨x.f0, ⟨x.f1, x.f2, wrap64 x.f3, wrap64 x.f4, false, x.f5.map qc⟩⟩
theorem yM (c : Int) (a : List S67) (ha : a.length ≤ 1048576) : Ev (fun k => bS.f k c a) (c, a.map iU) := by
  have h : ∀ n i (out : List S85), i + n = a.length → out.length = i → Ev (fun k => bS.l0 k a (a.length : Int) (i : Int) c out) (c, out ++ (a.drop i).map iU) := by
    intro n
    induction n with
    | zero =>
      intro i out hi ho
      rw [List.drop_eq_nil_of_le (by omega), List.map_nil, List.append_nil]
      exact Ev.step (f := fun _ => some (c, out)) (fun k => by rw [bS.l0, if_neg (by omega)]) (Ev.now _)
    | succ n ih =>
      intro i out hi ho
      have h1 : i < a.length := by omega
      have hr := ih (i + 1) (out ++ [iU a[i]]) (by omega) (by simp [ho])
      rw [List.append_assoc] at hr
      rw [List.drop_eq_getElem_cons h1, List.map_cons]
      exact Ev.step (f := fun k => bS.l0 k a (a.length : Int) ((i + 1 : Nat) : Int) c (out ++ [iU a[i]])) (fun k => by rw [bS.l0, if_pos (by omega), if_pos (by omega), if_pos (by omega), if_pos (by omega), yG h1, wr1 (by omega)]; rfl) hr
  exact h a.length 0 [] (by omega) rfl
theorem wT (c : Int) (a : List S85) (ha : a.length ≤ 1048576) : Ev (fun k => aR.f k c a) (IntKind.u64.wrap c, a.map iO) := by
  have h : ∀ n i (out : List S88), i + n = a.length → out.length = i → Ev (fun k => aR.l0 k (i : Int) c a (IntKind.u64.wrap c) out) (IntKind.u64.wrap c, out ++ (a.drop i).map iO) := by
    intro n
    induction n with
    | zero =>
      intro i out hi ho
      rw [List.drop_eq_nil_of_le (by omega), List.map_nil, List.append_nil]
      exact Ev.step (f := fun _ => some (IntKind.u64.wrap c, out)) (fun k => by rw [aR.l0, if_neg (by omega)]) (Ev.now _)
    | succ n ih =>
      intro i out hi ho
      have h1 : i < a.length := by omega
      have hr := ih (i + 1) (out ++ [iO a[i]]) (by omega) (by simp [ho])
      rw [List.append_assoc] at hr
      rw [List.drop_eq_getElem_cons h1, List.map_cons]
      exact Ev.step (f := fun k => aR.l0 k ((i + 1 : Nat) : Int) c a (IntKind.u64.wrap c) (out ++ [iO a[i]])) (fun k => by rw [aR.l0, if_pos (by omega), if_pos (by omega), if_pos (by omega), yI h1, wr1 (by omega)]; rfl) hr
  exact h a.length 0 [] (by omega) rfl
theorem uj (c : Int) (a : List S71) (ha : a.length ≤ 1048576) (hc : ∀ x ∈ a, x.f5.length ≤ 1048576) : Ev (fun k => aY.f k c a) (c, a.map jR) := by
  have hin : ∀ (i : Nat) (x : S71) (out : List S88) (r : Int × List S88), x.f5.length ≤ 1048576 → out.length ≤ 1048576 → i < 1048577 → Ev (fun k => aY.l0 k a (a.length : Int) ((i + 1 : Nat) : Int) c (out ++ [jR x])) r → ∀ n j (o : List S89), j + n = x.f5.length → o = (x.f5.take j).map sM →
      Ev (fun k => aY.l1 k a (a.length : Int) (i : Int) x.f5 (x.f5.length : Int) (j : Int) c out x.f0 x.f1 x.f2 x.f3 x.f4 o) r := by
    intro i x out r hx ho hi hk n
    induction n with
    | zero =>
      intro j o hj hoj
      obtain rfl : j = x.f5.length := by omega
      rw [List.take_length] at hoj
      subst hoj
      exact Ev.step (fun k => by rw [aY.l1, if_neg (by omega), if_pos (by omega), wr1 (by omega)]; rfl) hk
    | succ n ih =>
      intro j o hj hoj
      have h1 : j < x.f5.length := by omega
      have ht : o ++ [sM x.f5[j]] = (x.f5.take (j + 1)).map sM := by
        rw [hoj, List.take_add_one, List.map_append, List.getElem?_eq_getElem h1]; rfl
      have hol : o.length = j := by rw [hoj, List.length_map, List.length_take]; omega
      refine Ev.step (f := fun k => aY.l1 k a (a.length : Int) (i : Int) x.f5 (x.f5.length : Int) ((j + 1 : Nat) : Int) c out x.f0 x.f1 x.f2 x.f3 x.f4 (o ++ [sM x.f5[j]])) (fun k => by
        rw [aY.l1, if_pos (by omega), if_pos (by omega), if_pos (by omega), if_pos (by omega), yH h1, wr1 (by omega)]; rfl) (ih (j + 1) _ (by omega) ht)
  have h : ∀ n i (out : List S88), i + n = a.length → out.length = i → Ev (fun k => aY.l0 k a (a.length : Int) (i : Int) c out) (c, out ++ (a.drop i).map jR) := by
    intro n
    induction n with
    | zero =>
      intro i out hi ho
      rw [List.drop_eq_nil_of_le (by omega), List.map_nil, List.append_nil]
      exact Ev.step (f := fun _ => some (c, out)) (fun k => by rw [aY.l0, if_neg (by omega)]) (Ev.now _)
    | succ n ih =>
      intro i out hi ho
      have h1 : i < a.length := by omega
      have hr := ih (i + 1) (out ++ [jR a[i]]) (by omega) (by simp [ho])
      rw [List.append_assoc] at hr
      rw [List.drop_eq_getElem_cons h1, List.map_cons]
      have hr2 := hin i a[i] out _ (hc _ (List.getElem_mem h1)) (by omega) (by omega) hr a[i].f5.length 0 [] (by omega) (by simp)
      exact Ev.step (f := fun k => aY.l1 k a (a.length : Int) (i : Int) a[i].f5 (a[i].f5.length : Int) 0 c out a[i].f0 a[i].f1 a[i].f2 a[i].f3 a[i].f4 []) (fun k => by rw [aY.l0, if_pos (by omega), if_pos (by omega), if_pos (by omega), uh h1]) hr2
  exact h a.length 0 [] (by omega) rfl
theorem oU (c : Int) (a : List S88) (ha : a.length ≤ 1048576) (hc : ∀ x ∈ a, x.f5.length ≤ 1048576) : Ev (fun k => aD.f k c a) (c, a.map fu) := by
  have hin : ∀ (i : Nat) (x : S88) (out : List S96) (r : Int × List S96), x.f5.length ≤ 1048576 → out.length ≤ 1048576 → i < 1048577 → Ev (fun k => aD.l0 k ((i + 1 : Nat) : Int) c a c (out ++ [fu x])) r → ∀ n j (o : List S106), j + n = x.f5.length → o = (x.f5.take j).map qc →
      Ev (fun k => aD.l1 k (i : Int) (j : Int) c a c out x.f0 x.f1 x.f2 x.f3 x.f4 x.f5 x.f1 x.f2 (wrap64 x.f3) (wrap64 x.f4) false o) r := by
    intro i x out r hx ho hi hk n
    induction n with
    | zero =>
      intro j o hj hoj
      obtain rfl : j = x.f5.length := by omega
      rw [List.take_length] at hoj
      subst hoj
      exact Ev.step (fun k => by rw [aD.l1, if_neg (by omega), if_pos (by omega), wr1 (by omega)]; rfl) hk
    | succ n ih =>
      intro j o hj hoj
      have h1 : j < x.f5.length := by omega
      have ht : o ++ [qc x.f5[j]] = (x.f5.take (j + 1)).map qc := by
        rw [hoj, List.take_add_one, List.map_append, List.getElem?_eq_getElem h1]; rfl
      have hol : o.length = j := by rw [hoj, List.length_map, List.length_take]; omega
      refine Ev.step (f := fun k => aD.l1 k (i : Int) ((j + 1 : Nat) : Int) c a c out x.f0 x.f1 x.f2 x.f3 x.f4 x.f5 x.f1 x.f2 (wrap64 x.f3) (wrap64 x.f4) false (o ++ [qc x.f5[j]])) (fun k => by
        rw [aD.l1, if_pos (by omega), if_pos (by omega), if_pos (by omega), yK h1, wr1 (by omega)]; rfl) (ih (j + 1) _ (by omega) ht)
  have h : ∀ n i (out : List S96), i + n = a.length → out.length = i → Ev (fun k => aD.l0 k (i : Int) c a c out) (c, out ++ (a.drop i).map fu) := by
    intro n
    induction n with
    | zero =>
      intro i out hi ho
      rw [List.drop_eq_nil_of_le (by omega), List.map_nil, List.append_nil]
      exact Ev.step (f := fun _ => some (c, out)) (fun k => by rw [aD.l0, if_neg (by omega)]) (Ev.now _)
    | succ n ih =>
      intro i out hi ho
      have h1 : i < a.length := by omega
      have hr := ih (i + 1) (out ++ [fu a[i]]) (by omega) (by simp [ho])
      rw [List.append_assoc] at hr
      rw [List.drop_eq_getElem_cons h1, List.map_cons]
      have hr2 := hin i a[i] out _ (hc _ (List.getElem_mem h1)) (by omega) (by omega) hr a[i].f5.length 0 [] (by omega) (by simp)
      exact Ev.step (f := fun k => aD.l1 k (i : Int) 0 c a c out a[i].f0 a[i].f1 a[i].f2 a[i].f3 a[i].f4 a[i].f5 a[i].f1 a[i].f2 (wrap64 a[i].f3) (wrap64 a[i].f4) false []) (fun k => by rw [aD.l0, if_pos (by omega), if_pos (by omega), yJ h1]) hr2
  exact h a.length 0 [] (by omega) rfl
theorem wU (c : Int) (l : List S67) (hl : l.length ≤ 1048576) : ∃ b, Ev (fun k => bL.f k c l) b := by
  have h : ∀ n i, i + n = l.length → ∀ x3, ∃ b, Ev (fun k => bL.l0 k x3 l (l.length : Int) (i : Int)) b := by
    intro n
    induction n with
    | zero =>
      intro i hi x3
      exact ⟨true, Ev.step (f := fun _ => some true) (fun k => by rw [bL.l0, if_neg (by omega)]) (Ev.now _)⟩
    | succ n ih =>
      intro i hi x3
      by_cases hq : (wrap64 (x3 + (wrap64 ((wrap64 ((wrap64 (1 + (((dA l i).f0).size : Int))) + (((dA l i).f1).size : Int))) + (((dA l i).f2).size : Int))))) > 20000
      · exact ⟨false, Ev.step (f := fun _ => some false) (fun k => by rw [bL.l0, if_pos (by omega), if_pos (by omega), if_pos (by omega), if_pos hq]) (Ev.now _)⟩
      · obtain ⟨b, hb⟩ := ih (i + 1) (by omega) (wrap64 (x3 + (wrap64 ((wrap64 ((wrap64 (1 + (((dA l i).f0).size : Int))) + (((dA l i).f1).size : Int))) + (((dA l i).f2).size : Int)))))
        exact ⟨b, Ev.step (fun k => by rw [bL.l0, if_pos (by omega), if_pos (by omega), if_pos (by omega), if_neg hq, wr1 (by omega)]) hb⟩
  exact h l.length 0 (by omega) 0
theorem wV (c : Int) (l : List S71) (hl : l.length ≤ 1048576) (hc : ∀ x ∈ l, x.f5.length ≤ 1048576) : ∃ b, Ev (fun k => aZ.f k c l) b := by
  have hin : ∀ (i : Nat) (cs : List S73), cs.length ≤ 1048576 → i < 1048577 → (∀ v, ∃ b, Ev (fun k => aZ.l0 k v l (l.length : Int) ((i + 1 : Nat) : Int)) b) → ∀ n j, j + n = cs.length → ∀ x3, ∃ b, Ev (fun k => aZ.l1 k x3 l (l.length : Int) (i : Int) cs (cs.length : Int) (j : Int)) b := by
    intro i cs hcs hi hk n
    induction n with
    | zero =>
      intro j hj x3
      by_cases hq : x3 > 20000
      · exact ⟨false, Ev.step (f := fun _ => some false) (fun k => by rw [aZ.l1, if_neg (by omega), if_pos hq]) (Ev.now _)⟩
      · obtain ⟨b, hb⟩ := hk x3
        exact ⟨b, Ev.step (fun k => by rw [aZ.l1, if_neg (by omega), if_neg hq, wr1 (by omega)]) hb⟩
    | succ n ih =>
      intro j hj x3
      obtain ⟨b, hb⟩ := ih (j + 1) (by omega) (wrap64 (x3 + (wrap64 ((wrap64 (1 + (((fF cs j).f0).size : Int))) + (((fF cs j).f1).size : Int)))))
      exact ⟨b, Ev.step (fun k => by rw [aZ.l1, if_pos (by omega), if_pos (by omega), if_pos (by omega), wr1 (by omega)]) hb⟩
  have h : ∀ n i, i + n = l.length → ∀ x3, ∃ b, Ev (fun k => aZ.l0 k x3 l (l.length : Int) (i : Int)) b := by
    intro n
    induction n with
    | zero =>
      intro i hi x3
      exact ⟨true, Ev.step (f := fun _ => some true) (fun k => by rw [aZ.l0, if_neg (by omega)]) (Ev.now _)⟩
    | succ n ih =>
      intro i hi x3
      have h1 : i < l.length := by omega
      obtain ⟨b, hb⟩ := hin i l[i].f5 (hc _ (List.getElem_mem h1)) (by omega) (fun v => ih (i + 1) (by omega) v) l[i].f5.length 0 (by omega) (wrap64 (x3 + (wrap64 ((wrap64 ((wrap64 (1 + ((l[i].f0).size : Int))) + ((l[i].f1).size : Int))) + ((l[i].f2).size : Int)))))
      exact ⟨b, Ev.step (fun k => by rw [aZ.l0, if_pos (by omega), if_pos (by omega), if_pos (by omega), uh h1]; rfl) hb⟩
  exact h l.length 0 (by omega) 0
theorem qd : ∀ l, oO l l = true
  | [] => rfl
  | x :: xs => by simp [oO, zU, qd xs]
theorem qg : ∀ l, oP l l = true
  | [] => rfl
  | x :: xs => by simp [oP, zV, qd, qg xs]
theorem kX {α : Type} {e : α → α → Bool} (h : ∀ x, e x x = true) : ∀ l, iP e l l = true
  | [] => by simp [iP]
  | x :: xs => by simp [iP, h, kX h xs]
theorem uT (c : S106) (hc : c.f2 = []) : Ev (fun k => uO k c c) true := by
  refine Ev.step (f := fun k => some true) (fun k => ?_) (Ev.now _)
  rw [uO, hc, if_pos rfl, if_pos rfl, if_pos rfl, if_pos rfl, bN.f, if_pos rfl, bN.l0, if_neg (by simp), Option.bind_some, if_pos rfl, if_pos rfl, if_pos rfl, kX (fun x => by simp [uN]), kX (fun x => by simp [rC])]
  rfl
theorem qh : ∀ l : List S106, (∀ c ∈ l, c.f2 = []) → Ev (fun k => lK k l l) true
  | [], _ => Ev.congr (f := fun _ => some true) (fun k => by simp [lK]) (Ev.now _)
  | c :: cs, h => by
    refine Ev.congr (fun k => by rw [lK]) ?_
    exact Ev.bind (f := fun k b => if b = true then lK k cs cs else some false) (uT c (h c (by simp))) (Ev.congr (fun k => if_pos rfl) (qh cs (fun x hx => h x (List.mem_cons_of_mem _ hx))))
theorem rF (p : S94) (h : ∀ c ∈ p.f5, c.f2 = []) : Ev (fun k => bV.f k p.f0 p.f1 p.f2 p.f3 p.f4 p.f5 p.f0 p.f1 p.f2 p.f3 p.f4 p.f5) true :=
  Ev.congr (fun k => by rw [bV.f, if_pos rfl, if_pos rfl, if_pos rfl, if_pos rfl, if_pos rfl, if_pos rfl]) (qh p.f5 h)
theorem ny (c : Int) (m : List S96) (hm : m.length ≤ 1048576) (h : ∀ x ∈ m, ∀ c ∈ x.f1.f5, c.f2 = []) : Ev (fun k => aC.f k c m c m) true := by
  refine Ev.congr (f := fun k => aC.j0 k false c m c m) (fun k => by rw [aC.f, if_pos rfl, bne_self_eq_false]) ?_
  refine Ev.step (f := fun k => aC.l0 k 0 c m c m) (fun k => by rw [aC.j0, if_neg (by decide)]) ?_
  have key : ∀ n i, i + n = m.length → Ev (fun k => aC.l0 k (i : Int) c m c m) true := by
    intro n
    induction n with
    | zero =>
      intro i hi
      exact Ev.step (f := fun _ => some true) (fun k => by rw [aC.l0, if_neg (by omega)]) (Ev.now _)
    | succ n ih =>
      intro i hi
      have h1 : i < m.length := by omega
      refine Ev.step (f := fun k => (bV.f k m[i].f1.f0 m[i].f1.f1 m[i].f1.f2 m[i].f1.f3 m[i].f1.f4 m[i].f1.f5 m[i].f1.f0 m[i].f1.f1 m[i].f1.f2 m[i].f1.f3 m[i].f1.f4 m[i].f1.f5).bind fun t => if t = true then aC.l0 k ((i + 1 : Nat) : Int) c m c m else some false)
        (fun k => by rw [aC.l0, if_pos (by omega), if_pos (by omega), if_pos (by omega), yL h1, if_pos rfl, wr1 (by omega)]) ?_
      exact Ev.bind (f := fun k t => if t = true then aC.l0 k ((i + 1 : Nat) : Int) c m c m else some false) (rF m[i].f1 (h _ (List.getElem_mem h1))) (Ev.congr (fun k => if_pos rfl) (ih (i + 1) (by omega)))
  exact key m.length 0 (by omega)
theorem nL {α : Type} (U : α → Nat) (hU : ∀ x, 1 ≤ U x) : ∀ l : List α, l.length ≤ (l.map U).sum
  | [] => by simp
  | x :: xs => by have := nL U hU xs; have := hU x; simp; omega
theorem um {α : Type} (U : α → Nat) : ∀ (l : List α) (x : α), x ∈ l → U x ≤ (l.map U).sum
  | y :: ys, x, h => by
    rcases List.mem_cons.1 h with rfl | h
    · simp
    · have := um U ys x h; simp; omega
theorem wW (a : List S67) : (a.map jq).map jR = (a.map iU).map iO := by
  rw [List.map_map, List.map_map]; rfl
theorem uU (x : S71) : jO (iH x) = fu (jR x) := by
  have e : (x.f5.map kJ).map jg = (x.f5.map sM).map qc := by rw [List.map_map, List.map_map]; rfl
  show (⟨x.f0, ⟨x.f1, x.f2, wrap64 x.f3, wrap64 x.f4, false, (x.f5.map kJ).map jg⟩⟩ : S96) = _
  rw [e]; rfl
theorem wX (b : List S71) : (b.map iH).map jO = (b.map jR).map fu := by
  rw [List.map_map, List.map_map]
  exact List.map_congr_left fun x _ => uU x
theorem wY (c : Int) (b : List S71) (hb : b.length ≤ 1048576) (hc : ∀ x ∈ b, x.f5.length ≤ 1048576) : bH.f c (b.map iH) = some (c, (b.map jR).map fu) := by
  rw [bH.f, if_pos, wX]
  refine ⟨by rw [List.length_map]; omega, fun x hx => ?_⟩
  obtain ⟨y, hy, rfl⟩ := List.mem_map.1 hx
  refine ⟨by have := hc y hy; show (y.f5.map kJ).length * 120 ≤ _; rw [List.length_map]; omega, fun z hz => ?_⟩
  obtain ⟨u, hu, rfl⟩ := List.mem_map.1 hz
  exact ⟨by simp [kJ], by simp [kJ]⟩
theorem bare (b : List S88) : ∀ x ∈ b.map fu, ∀ c ∈ x.f1.f5, c.f2 = [] := fun x hx c hc => by
  obtain ⟨y, hy, rfl⟩ := List.mem_map.1 hx
  obtain ⟨u, hu, rfl⟩ := List.mem_map.1 hc
  rfl
theorem UpgradeMakes : aK.Pure := by
  intro x0 x1 _ _ hU
  obtain ⟨c, a⟩ := x0
  obtain ⟨d, b⟩ := x1
  have BP : (a.map U67).sum + (b.map U71).sum ≤ 1048576 := by
    have : (1 + ((a.map U67).sum + 1)) + 1 + ((1 + ((b.map U71).sum + 1)) + 1) ≤ 1048576 := hU
    omega
  have ha : a.length ≤ 1048576 := by have := nL U67 (fun x => by simp [U67]) a; omega
  have hb : b.length ≤ 1048576 := by have := nL U71 (fun x => by simp [U71]) b; omega
  have hc : ∀ x ∈ b, x.f5.length ≤ 1048576 := fun x hx => by
    have h1 := um U71 b x hx
    have h2 := nL U73 (fun x => by simp [U73]) x.f5
    have h3 : (x.f5.map U73).sum ≤ U71 x := by simp only [U71]; omega
    omega
  refine Ev.rounds (r := true) ?_
  show Ev (fun k => aK.f k c a d b) true
  obtain ⟨s, hs⟩ := wU c a ha
  obtain ⟨t, ht⟩ := wV d b hb hc
  have hno : Ev (fun k => aK.j0 k true c a d b) true :=
    Ev.step (f := fun k => (aW.f k).bind fun t => some t) (fun k => by rw [aK.j0, if_pos rfl]) (Ev.bind (f := fun _ t => some t) ug (Ev.now _))
  suffices hyes : Ev (fun k => aK.j0 k false c a d b) true by
    refine Ev.congr (fun k => by rw [aK.f]) ?_
    refine Ev.bind (f := fun k BN => if BN = true then (aZ.f k d b).bind fun BL => aK.j0 k (!BL) c a d b else aK.j0 k true c a d b) hs ?_
    cases s with
    | false => exact hno
    | true =>
      refine Ev.bind (f := fun k BL => aK.j0 k (!BL) c a d b) ht ?_
      cases t with
      | false => exact hno
      | true => exact hyes
  have e1 := yM c a ha
  have e2 := uj d b hb hc
  have hta : (a.map jq).length ≤ 1048576 := by rw [List.length_map]; exact ha
  have htc : ∀ x ∈ a.map jq, x.f5.length ≤ 1048576 := fun x hx => by obtain ⟨y, hy, rfl⟩ := List.mem_map.1 hx; simp [jq]
  have hT : dP.f c a = some (IntKind.u64.wrap c, a.map jq) := by
    have hk : rA a := by show a.length * 80 ≤ 140737488355328; omega
    rw [dP.f, if_pos hk]
  have hTh : bY.f d b = some (d, b.map iH) := by rw [bY.f, if_pos (show lF b from ⟨by omega, fun x hx => by have := hc x hx; omega⟩)]
  have BO : bY.f (IntKind.u64.wrap c) (a.map jq) = some (IntKind.u64.wrap c, (a.map jq).map iH) := by rw [bY.f, if_pos (show lF (a.map jq) from ⟨by omega, fun x hx => by have := htc x hx; omega⟩)]
  have hB : dG.f c a = some (IntKind.u64.wrap c, (a.map jq).map iH) := by rw [dG.f, hT, Option.bind_some, BO]
  have e3 := uj (IntKind.u64.wrap c) (a.map jq) hta htc
  rw [wW] at e3
  have e4 := wT c (a.map iU) (by rw [List.length_map]; exact ha)
  have e5 : dB.f (IntKind.u64.wrap c) ((a.map iU).map iO) (IntKind.u64.wrap c) ((a.map iU).map iO) = some true := by rw [dB.f, qg]; simp
  have e6 := wY d b hb hc
  have e7 := oU d (b.map jR) (by rw [List.length_map]; exact hb) (fun x hx => by obtain ⟨y, hy, rfl⟩ := List.mem_map.1 hx; show (y.f5.map sM).length ≤ _; rw [List.length_map]; exact hc y hy)
  have e8 := ny d ((b.map jR).map fu) (by rw [List.length_map, List.length_map]; exact hb) (bare _)
  have e9 := wY (IntKind.u64.wrap c) (a.map jq) hta htc
  rw [wW] at e9
  have e10 := oU (IntKind.u64.wrap c) ((a.map iU).map iO) (by rw [List.length_map, List.length_map]; exact ha) (fun x hx => by obtain ⟨y, hy, rfl⟩ := List.mem_map.1 hx; simp [iO])
  have e11 := ny (IntKind.u64.wrap c) (((a.map iU).map iO).map fu) (by rw [List.length_map, List.length_map, List.length_map]; exact ha) (bare _)
  refine Ev.step (f := fun k => (bS.f k c a).bind fun BH => (aY.f k d b).bind fun BI => (aW.f k).bind fun BK => if BK = true then (aY.f k (IntKind.u64.wrap c) (a.map jq)).bind fun BF => (aR.f k BH.1 BH.2).bind fun Bz => (dB.f BF.1 BF.2 Bz.1 Bz.2).bind fun BJ => if BJ = true then (aD.f k BI.1 BI.2).bind fun Bw => (aC.f k d ((b.map jR).map fu) Bw.1 Bw.2).bind fun BG => if BG = true then (aR.f k BH.1 BH.2).bind fun Bv => (aD.f k Bv.1 Bv.2).bind fun Bu => (aC.f k (IntKind.u64.wrap c) (((a.map iU).map iO).map fu) Bu.1 Bu.2).bind fun BD => some BD else some false else some false else some false)
    (fun k => by rw [aK.j0, if_neg (by decide), hT, hTh, hB]; simp only [Option.bind_some, e6, e9]) ?_
  refine Ev.bind (f := fun k BH => (aY.f k d b).bind fun BI => (aW.f k).bind fun BK => if BK = true then (aY.f k (IntKind.u64.wrap c) (a.map jq)).bind fun BF => (aR.f k BH.1 BH.2).bind fun Bz => (dB.f BF.1 BF.2 Bz.1 Bz.2).bind fun BJ => if BJ = true then (aD.f k BI.1 BI.2).bind fun Bw => (aC.f k d ((b.map jR).map fu) Bw.1 Bw.2).bind fun BG => if BG = true then (aR.f k BH.1 BH.2).bind fun Bv => (aD.f k Bv.1 Bv.2).bind fun Bu => (aC.f k (IntKind.u64.wrap c) (((a.map iU).map iO).map fu) Bu.1 Bu.2).bind fun BD => some BD else some false else some false else some false) e1 ?_
  refine Ev.bind (f := fun k BI => (aW.f k).bind fun BK => if BK = true then (aY.f k (IntKind.u64.wrap c) (a.map jq)).bind fun BF => (aR.f k c (a.map iU)).bind fun Bz => (dB.f BF.1 BF.2 Bz.1 Bz.2).bind fun BJ => if BJ = true then (aD.f k BI.1 BI.2).bind fun Bw => (aC.f k d ((b.map jR).map fu) Bw.1 Bw.2).bind fun BG => if BG = true then (aR.f k c (a.map iU)).bind fun Bv => (aD.f k Bv.1 Bv.2).bind fun Bu => (aC.f k (IntKind.u64.wrap c) (((a.map iU).map iO).map fu) Bu.1 Bu.2).bind fun BD => some BD else some false else some false else some false) e2 ?_
  refine Ev.bind (f := fun k BK => if BK = true then (aY.f k (IntKind.u64.wrap c) (a.map jq)).bind fun BF => (aR.f k c (a.map iU)).bind fun Bz => (dB.f BF.1 BF.2 Bz.1 Bz.2).bind fun BJ => if BJ = true then (aD.f k d (b.map jR)).bind fun Bw => (aC.f k d ((b.map jR).map fu) Bw.1 Bw.2).bind fun BG => if BG = true then (aR.f k c (a.map iU)).bind fun Bv => (aD.f k Bv.1 Bv.2).bind fun Bu => (aC.f k (IntKind.u64.wrap c) (((a.map iU).map iO).map fu) Bu.1 Bu.2).bind fun BD => some BD else some false else some false else some false) ug ?_
  refine Ev.congr (fun k => if_pos rfl) ?_
  refine Ev.bind (f := fun k BF => (aR.f k c (a.map iU)).bind fun Bz => (dB.f BF.1 BF.2 Bz.1 Bz.2).bind fun BJ => if BJ = true then (aD.f k d (b.map jR)).bind fun Bw => (aC.f k d ((b.map jR).map fu) Bw.1 Bw.2).bind fun BG => if BG = true then (aR.f k c (a.map iU)).bind fun Bv => (aD.f k Bv.1 Bv.2).bind fun Bu => (aC.f k (IntKind.u64.wrap c) (((a.map iU).map iO).map fu) Bu.1 Bu.2).bind fun BD => some BD else some false else some false) e3 ?_
  refine Ev.bind (f := fun k Bz => (dB.f (IntKind.u64.wrap c) ((a.map iU).map iO) Bz.1 Bz.2).bind fun BJ => if BJ = true then (aD.f k d (b.map jR)).bind fun Bw => (aC.f k d ((b.map jR).map fu) Bw.1 Bw.2).bind fun BG => if BG = true then (aR.f k c (a.map iU)).bind fun Bv => (aD.f k Bv.1 Bv.2).bind fun Bu => (aC.f k (IntKind.u64.wrap c) (((a.map iU).map iO).map fu) Bu.1 Bu.2).bind fun BD => some BD else some false else some false) e4 ?_
  refine Ev.congr (f := fun k => (aD.f k d (b.map jR)).bind fun Bw => (aC.f k d ((b.map jR).map fu) Bw.1 Bw.2).bind fun BG => if BG = true then (aR.f k c (a.map iU)).bind fun Bv => (aD.f k Bv.1 Bv.2).bind fun Bu => (aC.f k (IntKind.u64.wrap c) (((a.map iU).map iO).map fu) Bu.1 Bu.2).bind fun BD => some BD else some false) (fun k => by rw [e5, Option.bind_some, if_pos rfl]) ?_
  refine Ev.bind (f := fun k Bw => (aC.f k d ((b.map jR).map fu) Bw.1 Bw.2).bind fun BG => if BG = true then (aR.f k c (a.map iU)).bind fun Bv => (aD.f k Bv.1 Bv.2).bind fun Bu => (aC.f k (IntKind.u64.wrap c) (((a.map iU).map iO).map fu) Bu.1 Bu.2).bind fun BD => some BD else some false) e7 ?_
  refine Ev.bind (f := fun k BG => if BG = true then (aR.f k c (a.map iU)).bind fun Bv => (aD.f k Bv.1 Bv.2).bind fun Bu => (aC.f k (IntKind.u64.wrap c) (((a.map iU).map iO).map fu) Bu.1 Bu.2).bind fun BD => some BD else some false) e8 ?_
  refine Ev.congr (fun k => if_pos rfl) ?_
  refine Ev.bind (f := fun k Bv => (aD.f k Bv.1 Bv.2).bind fun Bu => (aC.f k (IntKind.u64.wrap c) (((a.map iU).map iO).map fu) Bu.1 Bu.2).bind fun BD => some BD) e4 ?_
  refine Ev.bind (f := fun k Bu => (aC.f k (IntKind.u64.wrap c) (((a.map iU).map iO).map fu) Bu.1 Bu.2).bind fun BD => some BD) e10 ?_
  exact Ev.bind (f := fun _ BD => some BD) e11 (Ev.now _)
end Go.Proofs.YtpncpefppifgdaaGreatDoor.Pure
