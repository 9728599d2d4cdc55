/- bosunref14.Same: its plain function and what its walk stands on. No conditions beside those stated. -/
import Derived.Test.YtpncpefppifgdaaGreatDoorCp
import Derived.Test.YtpncpefppifgdaaGreatDoorGUtx15
namespace Go.Proofs.YtpncpefppifgdaaGreatDoor.GUt
open Go.RowKit Go.Proofs.YtpncpefppifgdaaGreatDoorW.PrintWords Go.Proofs.YtpncpefppifgdaaGreatDoorW.PrintLast Go.Proofs.YtpncpefppifgdaaGreatDoorW.PrintMore
set_option linter.unusedVariables false
set_option linter.unusedSimpArgs false
theorem zR (d : Nat) (w : World) (x0 y0 : Int) (x1 y1 : Int) :
    (Op.equalIn (d + 2) 121 (.agg #[.int .i64 x0, .int .i64 x1]) (.agg #[.int .i64 y0, .int .i64 y1])).run Tryz.prog w = .ok (x0 == y0 && (x1 == y1)) w := by
  refine rU Tryz.underlying121 (by kernel_rfl) ?_
  refine oq (by rfl) (by go_simp; rfl) (by go_simp; rfl) (by go_simp) ?_
  exact oo (by rfl) (by go_simp; rfl) (by go_simp; rfl) (by go_simp)
theorem zS (d : Nat) (w : World) (x0 y0 : ByteArray) (x1 y1 : ByteArray) :
    (Op.equalIn (d + 2) 123 (.agg #[.string x0, .string x1]) (.agg #[.string y0, .string y1])).run Tryz.prog w = .ok (x0.toList == y0.toList && (x1.toList == y1.toList)) w := by
  refine rU Tryz.underlying123 (by kernel_rfl) ?_
  refine oq (by rfl) (by go_simp; rfl) (by go_simp; rfl) (by go_simp) ?_
  exact oo (by rfl) (by go_simp; rfl) (by go_simp; rfl) (by go_simp)
def uN (p q : S121) : Bool := p.f0 == q.f0 && (p.f1 == q.f1)
def rC (p q : S123) : Bool := p.f0.toList == q.f0.toList && (p.f1.toList == q.f1.toList)
def iP {α : Type} (e : α → α → Bool) : List α → List α → Bool
  | p :: ps, q :: qs => e p q && iP e ps qs
  | _, _ => true
def uO (k : Nat) (p q : S106) : Option Bool :=
  if p.f0.toList = q.f0.toList then (if p.f1.toList = q.f1.toList then (if p.f4 = q.f4 then (if p.f5 = q.f5 then ((bN.f k p.f2 q.f2).bind fun b => if b = true then (if p.f3.length = q.f3.length then (if p.f6.length = q.f6.length then some (iP uN p.f3 q.f3 && iP rC p.f6 q.f6) else some false) else some false) else some false) else some false) else some false) else some false) else some false
def lK (k : Nat) : List S106 → List S106 → Option Bool
  | p :: ps, q :: qs => (uO k p q).bind fun b => if b = true then lK k ps qs else some false
  | _, _ => some true
def bV.f (k : Nat) (BO BP : ByteArray) (BQ BR : Int) (BS : Bool) (BH : List S106) (BU BZ : ByteArray) (Ca Cb : Int) (Cc : Bool) (BI : List S106) : Option Bool :=
  if BO.toList = BU.toList then (if BP.toList = BZ.toList then (if BQ = Ca then (if BR = Cb then (if BS = Cc then (if BH.length = BI.length then lK k BH BI else some false) else some false) else some false) else some false) else some false) else some false
theorem uP (k : Nat) (p q : S106) : LeO (uO k p q) (uO (k + 1) p q) :=
  LeO.ite (LeO.ite (LeO.ite (LeO.ite (LeO.bind (bN.mono _ _ k) fun b => LeO.refl _) (LeO.refl _)) (LeO.refl _)) (LeO.refl _)) (LeO.refl _)
theorem qb (k : Nat) : ∀ l m, LeO (lK k l m) (lK (k + 1) l m)
  | [], [] => LeO.refl _
  | [], _ :: _ => LeO.refl _
  | _ :: _, [] => LeO.refl _
  | p :: ps, q :: qs => LeO.bind (uP k p q) fun b => LeO.ite (qb k ps qs) (LeO.refl _)
theorem bV.mono : ∀ a0 a1 a2 a3 a4 a5 b0 b1 b2 b3 b4 b5 k, LeO (bV.f k a0 a1 a2 a3 a4 a5 b0 b1 b2 b3 b4 b5) (bV.f (k + 1) a0 a1 a2 a3 a4 a5 b0 b1 b2 b3 b4 b5) := fun a0 a1 a2 a3 a4 a5 b0 b1 b2 b3 b4 b5 k =>
  LeO.ite (LeO.ite (LeO.ite (LeO.ite (LeO.ite (LeO.ite (qb k _ _) (LeO.refl _)) (LeO.refl _)) (LeO.refl _)) (LeO.refl _)) (LeO.refl _)) (LeO.refl _)
structure RB (w W : World) (Pa Pb : Array Value) : Prop where
  a : W.heap[w.heap.size]? = some (.cells Pa 94 (0, 0))
  b : W.heap[w.heap.size + 1]? = some (.cells Pb 94 (0, 0))
  s : Below w.heap.size w W
  z : w.heap.size + 2 ≤ W.heap.size
section
variable {w W W1 : World} {Pa Pb : Array Value}
theorem RB.below (h : RB w W Pa Pb) (hb : Below W.heap.size W W1) : RB w W1 Pa Pb := ⟨aI h.a hb, aI h.b hb, aN h.s hb, Nat.le_trans h.z hb.size⟩
theorem RB.drew (h : RB w W Pa Pb) : RB w W.drew Pa Pb := h.below (iI (Below.refl _ _))
theorem RB.drawn (h : RB w W Pa Pb) (hd : Drawn0 W W1) : RB w W1 Pa Pb := by
  obtain ⟨n, rfl⟩ := hd
  exact h.below (aV (Below.refl _ _) n)
end
theorem wQ {W : World} {g : Nat} {t : TypeId} {c0 c1 c2 c3 c4 c5 c6 : Value} (v0 v1 v2 v3 v4 v5 v6 : Value) (h : W.heap[g]? = some (.cells #[c0, c1, c2, c3, c4, c5, c6] t (0, 0))) :
    ∃ w7, (((((((W.setCell ⟨g, 0, none⟩ v0).setCell ⟨g, 1, none⟩ v1).setCell ⟨g, 2, none⟩ v2).setCell ⟨g, 3, none⟩ v3).setCell ⟨g, 4, none⟩ v4).setCell ⟨g, 5, none⟩ v5).setCell ⟨g, 6, none⟩ v6) = w7 ∧ w7.heap[g]? = some (.cells #[v0, v1, v2, v3, v4, v5, v6] t (0, 0)) ∧ (∀ k, k ≠ g → w7.heap[k]? = W.heap[k]?) ∧ (∀ (B : Nat) (a : World), B ≤ g → Below B a W → Below B a w7) ∧ w7.heap.size = W.heap.size := by
  refine ⟨_, rfl, ?_, fun k hk => ?_, fun B a hB h => ?_, by simp [World.setCell]⟩
  · refine aT (cs := #[v0, v1, v2, v3, v4, v5, c6]) ?_ 6 _ rfl
    refine aT (cs := #[v0, v1, v2, v3, v4, c5, c6]) ?_ 5 _ rfl
    refine aT (cs := #[v0, v1, v2, v3, c4, c5, c6]) ?_ 4 _ rfl
    refine aT (cs := #[v0, v1, v2, c3, c4, c5, c6]) ?_ 3 _ rfl
    refine aT (cs := #[v0, v1, c2, c3, c4, c5, c6]) ?_ 2 _ rfl
    refine aT (cs := #[v0, c1, c2, c3, c4, c5, c6]) ?_ 1 _ rfl
    exact aT h 0 _ rfl
  · iterate 7 (refine (Below.heap_setCell _ _ _ k hk).trans ?_)
    rfl
  · iterate 7 (refine Below.setCell ?_ hB _)
    exact h
theorem RB.wQ {w W w7 : World} {Pa Pb : Array Value} {g : Nat} (h : RB w W Pa Pb) (hg : w.heap.size + 2 ≤ g) (hk : ∀ k, k ≠ g → w7.heap[k]? = W.heap[k]?) (hb : ∀ (B : Nat) (a : World), B ≤ g → Below B a W → Below B a w7) (hs : w7.heap.size = W.heap.size) : RB w w7 Pa Pb :=
  ⟨(hk _ (by omega)).trans h.a, (hk _ (by omega)).trans h.b, hb _ _ (by omega) h.s, by rw [hs]; exact h.z⟩
structure QB (w W : World) (Pa Pb Cx Cy : Array Value) (gx gy : Nat) : Prop where
  r : RB w W Pa Pb
  x : W.heap[gx]? = some (.cells Cx 106 (0, 0))
  y : W.heap[gy]? = some (.cells Cy 106 (0, 0))
theorem QB.below {w W W1 : World} {Pa Pb Cx Cy : Array Value} {gx gy : Nat} (h : QB w W Pa Pb Cx Cy gx gy) (hb : Below W.heap.size W W1) : QB w W1 Pa Pb Cx Cy gx gy := ⟨h.r.below hb, aI h.x hb, aI h.y hb⟩
theorem QB.drawn {w W W1 : World} {Pa Pb Cx Cy : Array Value} {gx gy : Nat} (h : QB w W Pa Pb Cx Cy gx gy) (hd : Drawn0 W W1) : QB w W1 Pa Pb Cx Cy gx gy := h.below hd.below
def bV.T6 : Bool × List (List Nat × List Nat) := (true, [([], []), ([0], [0]), ([], []), ([1, 2], [1, 2]), ([3], [3]), ([], []), ([5], [5]), ([], []), ([6, 7], [6, 7]), ([8], [8]), ([], []), ([], []), ([10, 4, 0, 1, 2, 3, 4, 10, 11], [4, 10]), ([11, 9, 12, 0, 1, 2, 3, 4, 5, 6, 7, 8, 9, 10, 11, 12], [9, 11])])
def bV.B6 : List Nat := [0, 1, 0, 7, 15, 0, 32, 0, 224, 480, 0, 0, 3103, 8191]
theorem bV.sD : gX .any (opsOf Tryz.f31 6) = bV.T6 := by kernel_rfl
theorem bV.oD : fU bV.T6.2 bV.B6 = true := by kernel_rfl
attribute [local go_sem high] zR zS
set_option maxHeartbeats 16000000 in
set_option maxRecDepth 100000 in
theorem bV.calls (k : Nat) (a0 a1 : ByteArray) (a2 a3 : Int) (a4 : Bool) (Aa : Option Addr) (ca : Nat) (la : List S106) (b0 b1 : ByteArray) (b2 b3 : Int) (b4 : Bool) (Ab : Option Addr) (cb : Nat) (lb : List S106) (r : Bool) (w : World) (hra : Kd.C jH w Aa la.length la) (hca : la.length ≤ ca) (hrb : Kd.C jH w Ab lb.length lb) (hcb : lb.length ≤ cb) (h : bV.f k a0 a1 a2 a3 a4 la b0 b1 b2 b3 b4 lb = some r) :
    Calls Tryz.prog 31 #[.agg #[.string a0, .string a1, .int .i64 a2, .int .i64 a3, .bool a4, .slice Aa la.length ca], .agg #[.string b0, .string b1, .int .i64 b2, .int .i64 b3, .bool b4, .slice Ab lb.length cb]] w fun e w' => e = .returned (.bool r) ∧ Below w.heap.size w w' := by
  have CF := Tryz.underlying94
  have Cu := Tryz.underlying106
  have BB := ((Below.refl _ w).alloc (Nat.le_refl _) (.cells #[.string a0, .string a1, .int .i64 a2, .int .i64 a3, .bool a4, .slice Aa la.length ca] 94)).alloc (by simp) (.cells #[.string b0, .string b1, .int .i64 b2, .int .i64 b3, .bool b4, .slice Ab lb.length cb] 94)
  have HB := Aside0.mk BB
  have HA := Aside0.mk hra
  have HBb := Aside0.mk hrb
  have Cv := Aside0.mk (⟨ak (heap_alloc_new w _) _, by have q := heap_alloc_new (w.alloc (.cells #[.string a0, .string a1, .int .i64 a2, .int .i64 a3, .bool a4, .slice Aa la.length ca] 94)) (.cells #[.string b0, .string b1, .int .i64 b2, .int .i64 b3, .bool b4, .slice Ab lb.length cb] 94); simpa using q, BB, by simp⟩ : RB w ((w.alloc (.cells #[.string a0, .string a1, .int .i64 a2, .int .i64 a3, .bool a4, .slice Aa la.length ca] 94)).alloc (.cells #[.string b0, .string b1, .int .i64 b2, .int .i64 b3, .bool b4, .slice Ab lb.length cb] 94)) #[.string a0, .string a1, .int .i64 a2, .int .i64 a3, .bool a4, .slice Aa la.length ca] #[.string b0, .string b1, .int .i64 b2, .int .i64 b3, .bool b4, .slice Ab lb.length cb])
  clear BB hra hrb hca hcb
  unfold bV.f at h
  go_enter Tryz.func31, Tryz.ntmps31
  by_cases e0 : a0.toList = b0.toList
  case neg =>
    rw [if_neg e0] at h
    obtain rfl := Option.some.inj h
    have f0 : (a0.toList == b0.toList) = false := beq_eq_false_iff_ne.2 e0
    have g0 : (a0.toList != b0.toList) = true := bne_iff_ne.2 e0
    clear e0 h
    go_wp2; go_ret; exact ⟨rfl, HB.out⟩
  rw [if_pos e0] at h
  have f0 : (a0.toList == b0.toList) = true := beq_iff_eq.2 e0
  have g0 : (a0.toList != b0.toList) = false := bne_eq_false_iff_eq.2 e0
  skip
  clear e0
  by_cases e1 : a1.toList = b1.toList
  case neg =>
    rw [if_neg e1] at h
    obtain rfl := Option.some.inj h
    have f1 : (a1.toList == b1.toList) = false := beq_eq_false_iff_ne.2 e1
    have g1 : (a1.toList != b1.toList) = true := bne_iff_ne.2 e1
    clear e1 h
    go_wp2; go_ret; exact ⟨rfl, HB.out⟩
  rw [if_pos e1] at h
  have f1 : (a1.toList == b1.toList) = true := beq_iff_eq.2 e1
  have g1 : (a1.toList != b1.toList) = false := bne_eq_false_iff_eq.2 e1
  skip
  clear e1
  by_cases e2 : a2 = b2
  case neg =>
    rw [if_neg e2] at h
    obtain rfl := Option.some.inj h
    have f2 : (a2 == b2) = false := beq_eq_false_iff_ne.2 e2
    have g2 : (a2 != b2) = true := bne_iff_ne.2 e2
    clear e2 h
    go_wp2; go_ret; exact ⟨rfl, HB.out⟩
  rw [if_pos e2] at h
  have f2 : (a2 == b2) = true := beq_iff_eq.2 e2
  have g2 : (a2 != b2) = false := bne_eq_false_iff_eq.2 e2
  skip
  clear e2
  by_cases e3 : a3 = b3
  case neg =>
    rw [if_neg e3] at h
    obtain rfl := Option.some.inj h
    have f3 : (a3 == b3) = false := beq_eq_false_iff_ne.2 e3
    have g3 : (a3 != b3) = true := bne_iff_ne.2 e3
    clear e3 h
    go_wp2; go_ret; exact ⟨rfl, HB.out⟩
  rw [if_pos e3] at h
  have f3 : (a3 == b3) = true := beq_iff_eq.2 e3
  have g3 : (a3 != b3) = false := bne_eq_false_iff_eq.2 e3
  skip
  clear e3
  by_cases e4 : a4 = b4
  case neg =>
    rw [if_neg e4] at h
    obtain rfl := Option.some.inj h
    have f4 : (a4 == b4) = false := beq_eq_false_iff_ne.2 e4
    have g4 : (a4 != b4) = true := bne_iff_ne.2 e4
    clear e4 h
    go_wp2; go_ret; exact ⟨rfl, HB.out⟩
  rw [if_pos e4] at h
  have f4 : (a4 == b4) = true := beq_iff_eq.2 e4
  have g4 : (a4 != b4) = false := bne_eq_false_iff_eq.2 e4
  skip
  clear e4
  by_cases e5 : la.length = lb.length
  case neg =>
    rw [if_neg e5] at h
    obtain rfl := Option.some.inj h
    have f5 : ((la.length : Int) == (lb.length : Int)) = false := beq_eq_false_iff_ne.2 (fun q => e5 (by omega))
    have g5 : ((la.length : Int) != (lb.length : Int)) = true := bne_iff_ne.2 (fun q => e5 (by omega))
    clear e5 h
    go_wp2; go_ret; exact ⟨rfl, HB.out⟩
  rw [if_pos e5] at h
  have f5 : ((la.length : Int) == (lb.length : Int)) = true := beq_iff_eq.2 (by omega)
  have g5 : ((la.length : Int) != (lb.length : Int)) = false := bne_eq_false_iff_eq.2 (by omega)
  have HL := Aside0.mk e5
  clear e5
  have HH := Aside0.mk h
  clear h
  go_wp2
  go_loopg [5] la.length (fun kq v5 w' => ∃ i : Nat, v5 = .int .i64 (i : Int) ∧ Aside0 (i + kq = la.length) ∧ Aside0 (lK k (la.drop i) (lb.drop i) = some r) ∧ Aside0 (RB w w' #[.string a0, .string a1, .int .i64 a2, .int .i64 a3, .bool a4, .slice Aa la.length ca] #[.string b0, .string b1, .int .i64 b2, .int .i64 b3, .bool b4, .slice Ab lb.length cb]))
  case atStart => exact ⟨0, rfl, ⟨by omega⟩, HH, Cv⟩
  case round =>
    clear HH Cv HB
    obtain ⟨i, rfl, hi, HE, HI⟩ := hrel
    have z5 : wr.cell? ⟨w.heap.size, 5, none⟩ = some (.slice Aa la.length ca) := (ah HI.out.a 5).trans rfl
    have z6 : wr.cell? ⟨w.heap.size + 1, 5, none⟩ = some (.slice Ab lb.length cb) := (ah HI.out.b 5).trans rfl
    cases gk with
    | zero =>
      obtain rfl : i = la.length := by have := hi.out; omega
      have hend : decide (((la.length : Nat) : Int) < (la.length : Int)) = false := decide_eq_false (by omega)
      have hE' := HE.out
      rw [List.drop_eq_nil_of_le (Nat.le_refl _), List.drop_eq_nil_of_le (by have := HL.out; omega)] at hE'
      have hE2 : (some true : Option Bool) = some r := hE'
      obtain rfl := Option.some.inj hE2
      clear hE' hE2
      go_wp2
      go_ret
      exact ⟨rfl, HI.out.s⟩
    | succ k1 =>
      have hlt : i < la.length := by have := hi.out; omega
      have hlt1 : i < lb.length := by rw [← HL.out]; exact hlt
      have c1 : decide ((i : Int) < (la.length : Int)) = true := decide_eq_true (by omega)
      have HWV := Aside0.mk (show Value.int .i64 (wrap64 ((i : Int) + 1)) = Value.int .i64 ((i + 1 : Nat) : Int) by have := Kd.kK HA.out; rw [dD (by omega) (by omega)]; rfl)
      have HNX : Aside0 (i + 1 + k1 = la.length) := ⟨by have := hi.out; omega⟩
      have p1 : 0 ≤ (i : Int) := by omega
      have q1 : (i : Int) < (la.length : Int) := by omega
      have q2 : (i : Int) < (lb.length : Int) := by omega
      obtain ⟨ad, A2, c2, A3, c3, A6, c6, e, hx0, hx1, hx2, hx3, hx4, hx5, hx6, Ce, Cg, Ch, Ci, Cj, Ck⟩ := tV HA.out (i : Int) p1 q1
      cases e
      obtain ⟨bd, B2, d2, B3, d3, B6, d6, e, hy0, hy1, hy2, hy3, hy4, Bz, BD, Cm, Cn, Co, Cq, Cr, Ct⟩ := tV HBb.out (i : Int) p1 q2
      cases e
      simp only [Int.toNat_natCast] at hx0 hx1 hx2 hx3 hx4 hx5 hx6 hy0 hy1 hy2 hy3 hy4 Bz BD
      have hE1 := HE.out
      rw [List.drop_eq_getElem_cons hlt, List.drop_eq_getElem_cons hlt1, show la[i] = fV la (i : Int) by simp [fV, List.getElem?_eq_getElem hlt], show lb[i] = fV lb (i : Int) by simp [fV, List.getElem?_eq_getElem hlt1], lK] at hE1
      generalize fV la (i : Int) = x at hx0 hx1 hx2 hx3 hx4 hx5 hx6 Ce Cg Ch Ci Cj Ck hE1
      generalize fV lb (i : Int) = y at hy0 hy1 hy2 hy3 hy4 Bz BD Cm Cn Co Cq Cr Ct hE1
      have BG := Aside0.mk hE1
      have KX := Aside0.mk (⟨Ce, Cg, Ch, Ci, Cj, Ck⟩ : _ ∧ _ ∧ _ ∧ _ ∧ _ ∧ _)
      have KY := Aside0.mk (⟨Cm, Cn, Co, Cq, Cr, Ct⟩ : _ ∧ _ ∧ _ ∧ _ ∧ _ ∧ _)
      replace p1 := eq_true p1
      replace q1 := eq_true q1
      replace q2 := eq_true q2
      have q3 : (i < la.length) = True := eq_true hlt
      have q4 : (i < lb.length) = True := eq_true hlt1
      clear hE1 HE Ce Cg Ch Ci Cj Ck Cm Cn Co Cq Cr Ct
      go_upto_region 6 with (fail)
      (try simp only [Act.put, List.setIfInBounds_toArray, List.set_cons_zero, List.set_cons_succ])
      clear z5 z6
      refine iE (n := 14) (S := fun w' => RB w w' #[.string a0, .string a1, .int .i64 a2, .int .i64 a3, .bool a4, .slice (some ad) la.length ca] #[.string b0, .string b1, .int .i64 b2, .int .i64 b3, .bool b4, .slice (some bd) lb.length cb]) (ds := [13]) #[O,O,O,O,O,O,O,O,O,O,O,O,O,O] (by kernel_rfl) rfl rfl (HI.out.drew) (fun hHeld => ?_)
      refine fC bV.sD bV.oD (fun HT_ HW_ => ?_)
      replace HI := Aside0.mk HI.out.drew
      refine pu_ 0 59 #[I,O,O,O,O,O,O,O,O,O,O,O,O,O] HT_.out ?_
      refine pu_ 2 61 #[I,O,I,O,O,O,O,O,O,O,O,O,O,O] HT_.out ?_
      refine pu_ 5 64 #[I,O,I,O,O,I,O,O,O,O,O,O,O,O] HT_.out ?_
      refine pu_ 7 66 #[I,O,I,O,O,I,O,I,O,O,O,O,O,O] HT_.out ?_
      refine gG (i := 1) (N := some 60) (v := ?_) (a' := ?_) #[I,I,I,O,O,I,O,I,O,O,O,O,O,O] rfl rfl (d9 HT_.out HW_.out (by kernel_rfl)) (fun _ _ _ h => h) (Or.inl ⟨by rfl, ?_⟩) hHeld ?_ ?_
      rotate_left
      · intro w' s0
        have em : w'.cell? ⟨w.heap.size, 5, none⟩ = some (.slice (some ad) la.length ca) := (ah s0.a 5).trans rfl
        have en : w'.cell? ⟨w.heap.size + 1, 5, none⟩ = some (.slice (some bd) lb.length cb) := (ah s0.b 5).trans rfl
        have e0 := (s0.s.cell (World.block_lt_of_cell? w _ hx0)).trans hx0
        have e1 := (s0.s.cell (World.block_lt_of_cell? w _ hx1)).trans hx1
        have e2 := (s0.s.cell (World.block_lt_of_cell? w _ hx2)).trans hx2
        have e3 := (s0.s.cell (World.block_lt_of_cell? w _ hx3)).trans hx3
        have e4 := (s0.s.cell (World.block_lt_of_cell? w _ hx4)).trans hx4
        have e5 := (s0.s.cell (World.block_lt_of_cell? w _ hx5)).trans hx5
        have e6 := (s0.s.cell (World.block_lt_of_cell? w _ hx6)).trans hx6
        have f0 := (s0.s.cell (World.block_lt_of_cell? w _ hy0)).trans hy0
        have f1 := (s0.s.cell (World.block_lt_of_cell? w _ hy1)).trans hy1
        have f2 := (s0.s.cell (World.block_lt_of_cell? w _ hy2)).trans hy2
        have f3 := (s0.s.cell (World.block_lt_of_cell? w _ hy3)).trans hy3
        have f4 := (s0.s.cell (World.block_lt_of_cell? w _ hy4)).trans hy4
        have f5 := (s0.s.cell (World.block_lt_of_cell? w _ Bz)).trans Bz
        have f6 := (s0.s.cell (World.block_lt_of_cell? w _ BD)).trans BD
        go_simp
        with_reducible rfl
      rotate_left
      · simp only [Act.put, List.setIfInBounds_toArray, List.set_cons_zero, List.set_cons_succ, bJ, bK]
        rfl
      refine pu_ 3 62 #[I,I,I,I,O,I,O,I,O,O,O,O,O,O] HT_.out ?_
      refine gG (i := 4) (N := some 63) (v := ?_) (a' := ?_) #[I,I,I,I,I,I,O,I,O,O,O,O,O,O] rfl rfl (d9 HT_.out HW_.out (by kernel_rfl)) (fun _ _ _ h => h) (Or.inl ⟨by rfl, ?_⟩) hHeld ?_ ?_
      rotate_left
      · intro w' s0
        have em : w'.cell? ⟨w.heap.size, 5, none⟩ = some (.slice (some ad) la.length ca) := (ah s0.a 5).trans rfl
        have en : w'.cell? ⟨w.heap.size + 1, 5, none⟩ = some (.slice (some bd) lb.length cb) := (ah s0.b 5).trans rfl
        have e0 := (s0.s.cell (World.block_lt_of_cell? w _ hx0)).trans hx0
        have e1 := (s0.s.cell (World.block_lt_of_cell? w _ hx1)).trans hx1
        have e2 := (s0.s.cell (World.block_lt_of_cell? w _ hx2)).trans hx2
        have e3 := (s0.s.cell (World.block_lt_of_cell? w _ hx3)).trans hx3
        have e4 := (s0.s.cell (World.block_lt_of_cell? w _ hx4)).trans hx4
        have e5 := (s0.s.cell (World.block_lt_of_cell? w _ hx5)).trans hx5
        have e6 := (s0.s.cell (World.block_lt_of_cell? w _ hx6)).trans hx6
        have f0 := (s0.s.cell (World.block_lt_of_cell? w _ hy0)).trans hy0
        have f1 := (s0.s.cell (World.block_lt_of_cell? w _ hy1)).trans hy1
        have f2 := (s0.s.cell (World.block_lt_of_cell? w _ hy2)).trans hy2
        have f3 := (s0.s.cell (World.block_lt_of_cell? w _ hy3)).trans hy3
        have f4 := (s0.s.cell (World.block_lt_of_cell? w _ hy4)).trans hy4
        have f5 := (s0.s.cell (World.block_lt_of_cell? w _ Bz)).trans Bz
        have f6 := (s0.s.cell (World.block_lt_of_cell? w _ BD)).trans BD
        go_simp
        with_reducible rfl
      rotate_left
      · simp only [Act.put, List.setIfInBounds_toArray, List.set_cons_zero, List.set_cons_succ, bJ, bK]
        rfl
      refine gG (i := 6) (N := some 65) (v := ?_) (a' := ?_) #[I,I,I,I,I,I,I,I,O,O,O,O,O,O] rfl rfl (d9 HT_.out HW_.out (by kernel_rfl)) (fun _ _ _ h => h) (Or.inl ⟨by rfl, ?_⟩) hHeld ?_ ?_
      rotate_left
      · intro w' s0
        have em : w'.cell? ⟨w.heap.size, 5, none⟩ = some (.slice (some ad) la.length ca) := (ah s0.a 5).trans rfl
        have en : w'.cell? ⟨w.heap.size + 1, 5, none⟩ = some (.slice (some bd) lb.length cb) := (ah s0.b 5).trans rfl
        have e0 := (s0.s.cell (World.block_lt_of_cell? w _ hx0)).trans hx0
        have e1 := (s0.s.cell (World.block_lt_of_cell? w _ hx1)).trans hx1
        have e2 := (s0.s.cell (World.block_lt_of_cell? w _ hx2)).trans hx2
        have e3 := (s0.s.cell (World.block_lt_of_cell? w _ hx3)).trans hx3
        have e4 := (s0.s.cell (World.block_lt_of_cell? w _ hx4)).trans hx4
        have e5 := (s0.s.cell (World.block_lt_of_cell? w _ hx5)).trans hx5
        have e6 := (s0.s.cell (World.block_lt_of_cell? w _ hx6)).trans hx6
        have f0 := (s0.s.cell (World.block_lt_of_cell? w _ hy0)).trans hy0
        have f1 := (s0.s.cell (World.block_lt_of_cell? w _ hy1)).trans hy1
        have f2 := (s0.s.cell (World.block_lt_of_cell? w _ hy2)).trans hy2
        have f3 := (s0.s.cell (World.block_lt_of_cell? w _ hy3)).trans hy3
        have f4 := (s0.s.cell (World.block_lt_of_cell? w _ hy4)).trans hy4
        have f5 := (s0.s.cell (World.block_lt_of_cell? w _ Bz)).trans Bz
        have f6 := (s0.s.cell (World.block_lt_of_cell? w _ BD)).trans BD
        go_simp
        with_reducible rfl
      rotate_left
      · simp only [Act.put, List.setIfInBounds_toArray, List.set_cons_zero, List.set_cons_succ, bJ, bK]
        rfl
      refine pu_ 8 67 #[I,I,I,I,I,I,I,I,I,O,O,O,O,O] HT_.out ?_
      refine gG (i := 9) (N := some 68) (v := ?_) (a' := ?_) #[I,I,I,I,I,I,I,I,I,I,O,O,O,O] rfl rfl (d9 HT_.out HW_.out (by kernel_rfl)) (fun _ _ _ h => h) (Or.inl ⟨by rfl, ?_⟩) hHeld ?_ ?_
      rotate_left
      · intro w' s0
        have em : w'.cell? ⟨w.heap.size, 5, none⟩ = some (.slice (some ad) la.length ca) := (ah s0.a 5).trans rfl
        have en : w'.cell? ⟨w.heap.size + 1, 5, none⟩ = some (.slice (some bd) lb.length cb) := (ah s0.b 5).trans rfl
        have e0 := (s0.s.cell (World.block_lt_of_cell? w _ hx0)).trans hx0
        have e1 := (s0.s.cell (World.block_lt_of_cell? w _ hx1)).trans hx1
        have e2 := (s0.s.cell (World.block_lt_of_cell? w _ hx2)).trans hx2
        have e3 := (s0.s.cell (World.block_lt_of_cell? w _ hx3)).trans hx3
        have e4 := (s0.s.cell (World.block_lt_of_cell? w _ hx4)).trans hx4
        have e5 := (s0.s.cell (World.block_lt_of_cell? w _ hx5)).trans hx5
        have e6 := (s0.s.cell (World.block_lt_of_cell? w _ hx6)).trans hx6
        have f0 := (s0.s.cell (World.block_lt_of_cell? w _ hy0)).trans hy0
        have f1 := (s0.s.cell (World.block_lt_of_cell? w _ hy1)).trans hy1
        have f2 := (s0.s.cell (World.block_lt_of_cell? w _ hy2)).trans hy2
        have f3 := (s0.s.cell (World.block_lt_of_cell? w _ hy3)).trans hy3
        have f4 := (s0.s.cell (World.block_lt_of_cell? w _ hy4)).trans hy4
        have f5 := (s0.s.cell (World.block_lt_of_cell? w _ Bz)).trans Bz
        have f6 := (s0.s.cell (World.block_lt_of_cell? w _ BD)).trans BD
        go_simp
        with_reducible rfl
      rotate_left
      · simp only [Act.put, List.setIfInBounds_toArray, List.set_cons_zero, List.set_cons_succ, bJ, bK]
        rfl
      refine yN (σ := Nat × Nat) 2 #[I,I,I,I,I,I,I,I,I,I,I,I,O,O] (fun s => [(6, .pointer (some ⟨s.1,0,none⟩)), (7, .pointer (some ⟨s.2,0,none⟩))]) (fun s w' => Aside0 (RB w w' #[.string a0, .string a1, .int .i64 a2, .int .i64 a3, .bool a4, .slice (some ad) la.length ca] #[.string b0, .string b1, .int .i64 b2, .int .i64 b3, .bool b4, .slice (some bd) lb.length cb]) ∧ Aside0 (w'.heap[s.1]? = some (.cells #[.string ⟨#[]⟩, .string ⟨#[]⟩, .slice none 0 0, .slice none 0 0, .int .i64 0, .int .i64 0, .slice none 0 0] 106 (0, 0))) ∧ Aside0 (w'.heap[s.2]? = some (.cells #[.string ⟨#[]⟩, .string ⟨#[]⟩, .slice none 0 0, .slice none 0 0, .int .i64 0, .int .i64 0, .slice none 0 0] 106 (0, 0))) ∧ Aside0 (w.heap.size + 2 ≤ s.1) ∧ Aside0 (w.heap.size + 2 ≤ s.2) ∧ Aside0 (s.1 ≠ s.2)) ?_ ?_
      rotate_left
      · intro hCont
        refine AZ (i := 10) (j := 11) (Ni := some 6) (Nj := some 7) #[I,I,I,I,I,I,I,I,I,I,I,O,O,O] #[I,I,I,I,I,I,I,I,I,I,O,I,O,O] rfl rfl rfl rfl (yZ HT_.out (by kernel_rfl)) (by decide) (by decide) (fun K hK => ?_) (fun K hK => ?_)
        · skip
          refine kg ?hg (N := 6) ?hd (cs := #[.string ⟨#[]⟩, .string ⟨#[]⟩, .slice none 0 0, .slice none 0 0, .int .i64 0, .int .i64 0, .slice none 0 0]) (t := 106) ?hr ?_
          (case hd => rfl)
          (case hg => rfl)
          (case hr => first | (go_simp; done) | (go_simp; rfl))
          intro gx hg wa hbox hb
          have NHX := Aside0.mk (show w.heap.size + 2 ≤ gx by rw [hg]; exact HI.out.z)
          replace HI := Aside0.mk (HI.out.below hb)
          have HX := Aside0.mk hbox
          clear hg hbox hb
          refine hK.out _ _ (HI.out) (fun hHeld => ?_)
          clear hK K
          refine dS (a' := ?_) ?_ ?_
          rotate_left
          · show Act.put _ (some 6) _ = _
            simp only [Act.put, List.setIfInBounds_toArray, List.set_cons_zero, List.set_cons_succ, bJ, bK]
            rfl
          refine fE (i := 11) (N := some 7) #[I,I,I,I,I,I,I,I,I,I,I,I,O,O] rfl rfl (dh HT_.out (by kernel_rfl)) (by decide) (fun K hK => ?_)
          refine kg ?hg (N := 7) ?hd (cs := #[.string ⟨#[]⟩, .string ⟨#[]⟩, .slice none 0 0, .slice none 0 0, .int .i64 0, .int .i64 0, .slice none 0 0]) (t := 106) ?hr ?_
          (case hd => rfl)
          (case hg => rfl)
          (case hr => first | (go_simp; done) | (go_simp; rfl))
          intro gy hg wa hbox hb
          have NHY := Aside0.mk (show w.heap.size + 2 ≤ gy by rw [hg]; exact HI.out.z)
          have NE := Aside0.mk (show gx ≠ gy by have := bE HX.out; omega)
          replace HX := Aside0.mk (aI HX.out hb)
          replace HI := Aside0.mk (HI.out.below hb)
          have HY := Aside0.mk hbox
          clear hg hbox hb
          refine hK.out _ _ (HI.out) (fun hHeld => ?_)
          clear hK K
          refine dS (a' := ?_) ?_ ?_
          rotate_left
          · show Act.put _ (some 7) _ = _
            simp only [Act.put, List.setIfInBounds_toArray, List.set_cons_zero, List.set_cons_succ, bJ, bK]
            rfl
          exact dS (by simp only [kE, Act.put, List.setIfInBounds_toArray, List.set_cons_zero, List.set_cons_succ]) (hCont (gx, gy) _ ⟨HI, HX, HY, NHX, NHY, NE⟩)
        · skip
          refine kg ?hg (N := 7) ?hd (cs := #[.string ⟨#[]⟩, .string ⟨#[]⟩, .slice none 0 0, .slice none 0 0, .int .i64 0, .int .i64 0, .slice none 0 0]) (t := 106) ?hr ?_
          (case hd => rfl)
          (case hg => rfl)
          (case hr => first | (go_simp; done) | (go_simp; rfl))
          intro gy hg wa hbox hb
          have NHY := Aside0.mk (show w.heap.size + 2 ≤ gy by rw [hg]; exact HI.out.z)
          replace HI := Aside0.mk (HI.out.below hb)
          have HY := Aside0.mk hbox
          clear hg hbox hb
          refine hK.out _ _ (HI.out) (fun hHeld => ?_)
          clear hK K
          refine dS (a' := ?_) ?_ ?_
          rotate_left
          · show Act.put _ (some 7) _ = _
            simp only [Act.put, List.setIfInBounds_toArray, List.set_cons_zero, List.set_cons_succ, bJ, bK]
            rfl
          refine fE (i := 10) (N := some 6) #[I,I,I,I,I,I,I,I,I,I,I,I,O,O] rfl rfl (dh HT_.out (by kernel_rfl)) (by decide) (fun K hK => ?_)
          refine kg ?hg (N := 6) ?hd (cs := #[.string ⟨#[]⟩, .string ⟨#[]⟩, .slice none 0 0, .slice none 0 0, .int .i64 0, .int .i64 0, .slice none 0 0]) (t := 106) ?hr ?_
          (case hd => rfl)
          (case hg => rfl)
          (case hr => first | (go_simp; done) | (go_simp; rfl))
          intro gx hg wa hbox hb
          have NHX := Aside0.mk (show w.heap.size + 2 ≤ gx by rw [hg]; exact HI.out.z)
          have NE := Aside0.mk (show gx ≠ gy by have := bE HY.out; omega)
          replace HY := Aside0.mk (aI HY.out hb)
          replace HI := Aside0.mk (HI.out.below hb)
          have HX := Aside0.mk hbox
          clear hg hbox hb
          refine hK.out _ _ (HI.out) (fun hHeld => ?_)
          clear hK K
          refine dS (a' := ?_) ?_ ?_
          rotate_left
          · show Act.put _ (some 6) _ = _
            simp only [Act.put, List.setIfInBounds_toArray, List.set_cons_zero, List.set_cons_succ, bJ, bK]
            rfl
          exact dS (by simp only [kE, Act.put, List.setIfInBounds_toArray, List.set_cons_zero, List.set_cons_succ]) (hCont (gx, gy) _ ⟨HI, HX, HY, NHX, NHY, NE⟩)
      rintro ⟨gx, gy⟩ wq ⟨HI, HX, HY, NHX, NHY, NE⟩
      dsimp only at HI HX HY NHX NHY NE
      have hHeld : RB w wq #[.string a0, .string a1, .int .i64 a2, .int .i64 a3, .bool a4, .slice (some ad) la.length ca] #[.string b0, .string b1, .int .i64 b2, .int .i64 b3, .bool b4, .slice (some bd) lb.length cb] := HI.out
      refine dS (a' := ?_) ?_ ?_
      rotate_left
      · simp only [kE, Act.put, List.setIfInBounds_toArray, List.set_cons_zero, List.set_cons_succ]
        rfl
      refine fE (i := 12) (N := none) #[I,I,I,I,I,I,I,I,I,I,I,I,I,O] rfl rfl (dh HT_.out (by kernel_rfl)) (by decide) (fun K hK => ?_)
      have z0 : wq.cell? ⟨gx,0,none⟩ = some (.string ⟨#[]⟩) := (ah HX.out 0).trans rfl
      have z1 : wq.cell? ⟨gx,1,none⟩ = some (.string ⟨#[]⟩) := (ah HX.out 1).trans rfl
      have z2 : wq.cell? ⟨gx,2,none⟩ = some (.slice none 0 0) := (ah HX.out 2).trans rfl
      have z3 : wq.cell? ⟨gx,3,none⟩ = some (.slice none 0 0) := (ah HX.out 3).trans rfl
      have z4 : wq.cell? ⟨gx,4,none⟩ = some (.int .i64 0) := (ah HX.out 4).trans rfl
      have z5 : wq.cell? ⟨gx,5,none⟩ = some (.int .i64 0) := (ah HX.out 5).trans rfl
      have z6 : wq.cell? ⟨gx,6,none⟩ = some (.slice none 0 0) := (ah HX.out 6).trans rfl
      have f0 := ay HX.out 0
      have f1 := ay HX.out 1
      have f2 := ay HX.out 2
      have f3 := ay HX.out 3
      have f4 := ay HX.out 4
      have f5 := ay HX.out 5
      have f6 := ay HX.out 6
      refine jL (w1 := ?_) (by rfl) rfl ?_ ?_
      rotate_left
      · go_simp
        rfl
      clear z0 f0 z1 f1 z2 f2 z3 f3 z4 f4 z5 f5 z6 f6
      obtain ⟨BF, e7, h7, k7, b7, s7⟩ := wQ (.string x.f0) (.string x.f1) (.slice A2 x.f2.length c2) (.slice A3 x.f3.length c3) (.int .i64 x.f4) (.int .i64 x.f5) (.slice A6 x.f6.length c6) HX.out
      rw [e7]
      replace HI := Aside0.mk (HI.out.wQ NHX.out k7 b7 s7)
      replace HY := Aside0.mk ((k7 _ NE.out.symm).trans HY.out)
      replace HX := Aside0.mk h7
      clear e7 h7 k7 b7 s7
      refine hK.out _ _ (HI.out) (fun hHeld => ?_)
      clear hK K
      refine kL (i := 13) (N := none) #[I,I,I,I,I,I,I,I,I,I,I,I,I,I] rfl rfl (dh HT_.out (by kernel_rfl)) (by decide) (fun K hK => ?_)
      have z0 : BF.cell? ⟨gy,0,none⟩ = some (.string ⟨#[]⟩) := (ah HY.out 0).trans rfl
      have z1 : BF.cell? ⟨gy,1,none⟩ = some (.string ⟨#[]⟩) := (ah HY.out 1).trans rfl
      have z2 : BF.cell? ⟨gy,2,none⟩ = some (.slice none 0 0) := (ah HY.out 2).trans rfl
      have z3 : BF.cell? ⟨gy,3,none⟩ = some (.slice none 0 0) := (ah HY.out 3).trans rfl
      have z4 : BF.cell? ⟨gy,4,none⟩ = some (.int .i64 0) := (ah HY.out 4).trans rfl
      have z5 : BF.cell? ⟨gy,5,none⟩ = some (.int .i64 0) := (ah HY.out 5).trans rfl
      have z6 : BF.cell? ⟨gy,6,none⟩ = some (.slice none 0 0) := (ah HY.out 6).trans rfl
      have f0 := ay HY.out 0
      have f1 := ay HY.out 1
      have f2 := ay HY.out 2
      have f3 := ay HY.out 3
      have f4 := ay HY.out 4
      have f5 := ay HY.out 5
      have f6 := ay HY.out 6
      refine jL (w1 := ?_) (by rfl) rfl ?_ ?_
      rotate_left
      · go_simp
        rfl
      clear z0 f0 z1 f1 z2 f2 z3 f3 z4 f4 z5 f5 z6 f6
      obtain ⟨Bw, e7, h7, k7, b7, s7⟩ := wQ (.string y.f0) (.string y.f1) (.slice B2 y.f2.length d2) (.slice B3 y.f3.length d3) (.int .i64 y.f4) (.int .i64 y.f5) (.slice B6 y.f6.length d6) HY.out
      rw [e7]
      replace HI := Aside0.mk (HI.out.wQ NHY.out k7 b7 s7)
      replace HX := Aside0.mk ((k7 _ NE.out).trans HX.out)
      replace HY := Aside0.mk h7
      clear e7 h7 k7 b7 s7
      refine hK.out _ _ ?_
      clear hK K
      refine jd (gI HT_.out (by kernel_rfl)) ?_
      have HQ := Aside0.mk (⟨HI.out, HX.out, HY.out⟩ : QB w Bw #[.string a0, .string a1, .int .i64 a2, .int .i64 a3, .bool a4, .slice (some ad) la.length ca] #[.string b0, .string b1, .int .i64 b2, .int .i64 b3, .bool b4, .slice (some bd) lb.length cb] #[.string x.f0, .string x.f1, .slice A2 x.f2.length c2, .slice A3 x.f3.length c3, .int .i64 x.f4, .int .i64 x.f5, .slice A6 x.f6.length c6] #[.string y.f0, .string y.f1, .slice B2 y.f2.length d2, .slice B3 y.f3.length d3, .int .i64 y.f4, .int .i64 y.f5, .slice B6 y.f6.length d6] gx gy)
      clear HX HY HI NHX NHY NE
      have CG : Bw.cell? ⟨gx, 0, none⟩ = some (.string x.f0) := (ah HQ.out.x 0).trans rfl
      have CJ : Bw.cell? ⟨gx, 1, none⟩ = some (.string x.f1) := (ah HQ.out.x 1).trans rfl
      have CK : Bw.cell? ⟨gx, 2, none⟩ = some (.slice A2 x.f2.length c2) := (ah HQ.out.x 2).trans rfl
      have CO : Bw.cell? ⟨gx, 3, none⟩ = some (.slice A3 x.f3.length c3) := (ah HQ.out.x 3).trans rfl
      have CP : Bw.cell? ⟨gx, 4, none⟩ = some (.int .i64 x.f4) := (ah HQ.out.x 4).trans rfl
      have CQ : Bw.cell? ⟨gx, 5, none⟩ = some (.int .i64 x.f5) := (ah HQ.out.x 5).trans rfl
      have CS : Bw.cell? ⟨gx, 6, none⟩ = some (.slice A6 x.f6.length c6) := (ah HQ.out.x 6).trans rfl
      have CU : Bw.cell? ⟨gy, 0, none⟩ = some (.string y.f0) := (ah HQ.out.y 0).trans rfl
      have CV : Bw.cell? ⟨gy, 1, none⟩ = some (.string y.f1) := (ah HQ.out.y 1).trans rfl
      have CW : Bw.cell? ⟨gy, 2, none⟩ = some (.slice B2 y.f2.length d2) := (ah HQ.out.y 2).trans rfl
      have CX : Bw.cell? ⟨gy, 3, none⟩ = some (.slice B3 y.f3.length d3) := (ah HQ.out.y 3).trans rfl
      have CY : Bw.cell? ⟨gy, 4, none⟩ = some (.int .i64 y.f4) := (ah HQ.out.y 4).trans rfl
      have CZ : Bw.cell? ⟨gy, 5, none⟩ = some (.int .i64 y.f5) := (ah HQ.out.y 5).trans rfl
      have C8 : Bw.cell? ⟨gy, 6, none⟩ = some (.slice B6 y.f6.length d6) := (ah HQ.out.y 6).trans rfl
      have h1 := BG.out
      clear BG
      unfold uO at h1
      by_cases e0 : x.f0.toList = y.f0.toList
      case neg =>
        rw [if_neg e0] at h1
        obtain rfl := Option.some.inj (show some false = some r from h1)
        have f0 : (x.f0.toList == y.f0.toList) = false := beq_eq_false_iff_ne.2 e0
        have g0 : (x.f0.toList != y.f0.toList) = true := bne_iff_ne.2 e0
        clear e0 h1
        go_wp2; go_ret; exact ⟨rfl, HQ.out.r.s⟩
      rw [if_pos e0] at h1
      have f0 : (x.f0.toList == y.f0.toList) = true := beq_iff_eq.2 e0
      have g0 : (x.f0.toList != y.f0.toList) = false := bne_eq_false_iff_eq.2 e0
      clear e0
      by_cases e1 : x.f1.toList = y.f1.toList
      case neg =>
        rw [if_neg e1] at h1
        obtain rfl := Option.some.inj (show some false = some r from h1)
        have f1 : (x.f1.toList == y.f1.toList) = false := beq_eq_false_iff_ne.2 e1
        have g1 : (x.f1.toList != y.f1.toList) = true := bne_iff_ne.2 e1
        clear e1 h1
        go_wp2; go_ret; exact ⟨rfl, HQ.out.r.s⟩
      rw [if_pos e1] at h1
      have f1 : (x.f1.toList == y.f1.toList) = true := beq_iff_eq.2 e1
      have g1 : (x.f1.toList != y.f1.toList) = false := bne_eq_false_iff_eq.2 e1
      clear e1
      by_cases e4 : x.f4 = y.f4
      case neg =>
        rw [if_neg e4] at h1
        obtain rfl := Option.some.inj (show some false = some r from h1)
        have f4 : (x.f4 == y.f4) = false := beq_eq_false_iff_ne.2 e4
        have g4 : (x.f4 != y.f4) = true := bne_iff_ne.2 e4
        clear e4 h1
        go_wp2; go_ret; exact ⟨rfl, HQ.out.r.s⟩
      rw [if_pos e4] at h1
      have f4 : (x.f4 == y.f4) = true := beq_iff_eq.2 e4
      have g4 : (x.f4 != y.f4) = false := bne_eq_false_iff_eq.2 e4
      clear e4
      by_cases e5 : x.f5 = y.f5
      case neg =>
        rw [if_neg e5] at h1
        obtain rfl := Option.some.inj (show some false = some r from h1)
        have f5 : (x.f5 == y.f5) = false := beq_eq_false_iff_ne.2 e5
        have g5 : (x.f5 != y.f5) = true := bne_iff_ne.2 e5
        clear e5 h1
        go_wp2; go_ret; exact ⟨rfl, HQ.out.r.s⟩
      rw [if_pos e5] at h1
      have f5 : (x.f5 == y.f5) = true := beq_iff_eq.2 e5
      have g5 : (x.f5 != y.f5) = false := bne_eq_false_iff_eq.2 e5
      clear e5
      obtain ⟨bt, ht⟩ : ∃ b, bN.f k x.f2 y.f2 = some b := by
        cases hq : bN.f k x.f2 y.f2 with
        | none => rw [hq] at h1; cases h1
        | some b => exact ⟨b, rfl⟩
      rw [ht] at h1
      have HT := Aside0.mk ht
      clear ht
      cases bt with
      | false =>
        obtain rfl := Option.some.inj (show some false = some r from h1)
        clear h1
        go_wp2_with (first | (go_at_call 54; refine (bN.calls k A2 c2 x.f2 B2 d2 y.f2 _ _ (Kd.cZ KX.out.2.1 HQ.out.r.s) KX.out.1 (Kd.cZ KY.out.2.1 HQ.out.r.s) KY.out.1 HT.out).mono ?_; rintro e Bv ⟨rfl, hd⟩; have Bu := Aside0.mk (HQ.out.below hd.below); clear hd; have BJ : Bv.cell? ⟨gx, 3, none⟩ = some (.slice A3 x.f3.length c3) := (ah Bu.out.x 3).trans rfl; have BK : Bv.cell? ⟨gx, 6, none⟩ = some (.slice A6 x.f6.length c6) := (ah Bu.out.x 6).trans rfl; have BL : Bv.cell? ⟨gy, 3, none⟩ = some (.slice B3 y.f3.length d3) := (ah Bu.out.y 3).trans rfl; have BN : Bv.cell? ⟨gy, 6, none⟩ = some (.slice B6 y.f6.length d6) := (ah Bu.out.y 6).trans rfl))
        go_ret
        exact ⟨rfl, Bu.out.r.s⟩
      | true =>
        have h2 : (if x.f3.length = y.f3.length then (if x.f6.length = y.f6.length then some (iP uN x.f3 y.f3 && iP rC x.f6 y.f6) else some false) else some false).bind (fun b => if b = true then lK k (la.drop (i + 1)) (lb.drop (i + 1)) else some false) = some r := h1
        clear h1
        by_cases e8 : x.f3.length = y.f3.length
        case neg =>
          rw [if_neg e8] at h2
          obtain rfl := Option.some.inj (show some false = some r from h2)
          have f8 : ((x.f3.length : Int) == (y.f3.length : Int)) = false := beq_eq_false_iff_ne.2 (fun q => e8 (by omega))
          have g8 : ((x.f3.length : Int) != (y.f3.length : Int)) = true := bne_iff_ne.2 (fun q => e8 (by omega))
          clear e8 h2
          go_wp2_with (first | (go_at_call 54; refine (bN.calls k A2 c2 x.f2 B2 d2 y.f2 _ _ (Kd.cZ KX.out.2.1 HQ.out.r.s) KX.out.1 (Kd.cZ KY.out.2.1 HQ.out.r.s) KY.out.1 HT.out).mono ?_; rintro e Bv ⟨rfl, hd⟩; have Bu := Aside0.mk (HQ.out.below hd.below); clear hd; have BJ : Bv.cell? ⟨gx, 3, none⟩ = some (.slice A3 x.f3.length c3) := (ah Bu.out.x 3).trans rfl; have BK : Bv.cell? ⟨gx, 6, none⟩ = some (.slice A6 x.f6.length c6) := (ah Bu.out.x 6).trans rfl; have BL : Bv.cell? ⟨gy, 3, none⟩ = some (.slice B3 y.f3.length d3) := (ah Bu.out.y 3).trans rfl; have BN : Bv.cell? ⟨gy, 6, none⟩ = some (.slice B6 y.f6.length d6) := (ah Bu.out.y 6).trans rfl))
          go_ret
          exact ⟨rfl, Bu.out.r.s⟩
        rw [if_pos e8] at h2
        have f8 : ((x.f3.length : Int) == (y.f3.length : Int)) = true := beq_iff_eq.2 (by omega)
        have g8 : ((x.f3.length : Int) != (y.f3.length : Int)) = false := bne_eq_false_iff_eq.2 (by omega)
        have Cw := Aside0.mk e8
        clear e8
        by_cases e9 : x.f6.length = y.f6.length
        case neg =>
          rw [if_neg e9] at h2
          obtain rfl := Option.some.inj (show some false = some r from h2)
          have f9 : ((x.f6.length : Int) == (y.f6.length : Int)) = false := beq_eq_false_iff_ne.2 (fun q => e9 (by omega))
          have g9 : ((x.f6.length : Int) != (y.f6.length : Int)) = true := bne_iff_ne.2 (fun q => e9 (by omega))
          clear e9 h2
          go_wp2_with (first | (go_at_call 54; refine (bN.calls k A2 c2 x.f2 B2 d2 y.f2 _ _ (Kd.cZ KX.out.2.1 HQ.out.r.s) KX.out.1 (Kd.cZ KY.out.2.1 HQ.out.r.s) KY.out.1 HT.out).mono ?_; rintro e Bv ⟨rfl, hd⟩; have Bu := Aside0.mk (HQ.out.below hd.below); clear hd; have BJ : Bv.cell? ⟨gx, 3, none⟩ = some (.slice A3 x.f3.length c3) := (ah Bu.out.x 3).trans rfl; have BK : Bv.cell? ⟨gx, 6, none⟩ = some (.slice A6 x.f6.length c6) := (ah Bu.out.x 6).trans rfl; have BL : Bv.cell? ⟨gy, 3, none⟩ = some (.slice B3 y.f3.length d3) := (ah Bu.out.y 3).trans rfl; have BN : Bv.cell? ⟨gy, 6, none⟩ = some (.slice B6 y.f6.length d6) := (ah Bu.out.y 6).trans rfl))
          go_ret
          exact ⟨rfl, Bu.out.r.s⟩
        rw [if_pos e9] at h2
        have f9 : ((x.f6.length : Int) == (y.f6.length : Int)) = true := beq_iff_eq.2 (by omega)
        have g9 : ((x.f6.length : Int) != (y.f6.length : Int)) = false := bne_eq_false_iff_eq.2 (by omega)
        have Cz := Aside0.mk e9
        have HR3 := Aside0.mk (show (some (iP uN (x.f3.drop 0) (y.f3.drop 0) && iP rC x.f6 y.f6)).bind (fun b => if b = true then lK k (la.drop (i + 1)) (lb.drop (i + 1)) else some false) = some r from h2)
        clear e9 h2
        go_wp2_with (first | (go_at_call 54; refine (bN.calls k A2 c2 x.f2 B2 d2 y.f2 _ _ (Kd.cZ KX.out.2.1 HQ.out.r.s) KX.out.1 (Kd.cZ KY.out.2.1 HQ.out.r.s) KY.out.1 HT.out).mono ?_; rintro e Bv ⟨rfl, hd⟩; have Bu := Aside0.mk (HQ.out.below hd.below); clear hd; have BJ : Bv.cell? ⟨gx, 3, none⟩ = some (.slice A3 x.f3.length c3) := (ah Bu.out.x 3).trans rfl; have BK : Bv.cell? ⟨gx, 6, none⟩ = some (.slice A6 x.f6.length c6) := (ah Bu.out.x 6).trans rfl; have BL : Bv.cell? ⟨gy, 3, none⟩ = some (.slice B3 y.f3.length d3) := (ah Bu.out.y 3).trans rfl; have BN : Bv.cell? ⟨gy, 6, none⟩ = some (.slice B6 y.f6.length d6) := (ah Bu.out.y 6).trans rfl))
        clear HQ f0 f1 f4 f5 g0 g1 g4 g5 f8 g8 f9 g9 CG CU CJ CV CK CW CO CX CP CY CQ CZ CS C8 BJ BK BL BN
        go_loopg [8] x.f3.length (fun kq v8 w' => ∃ j : Nat, v8 = .int .i64 (j : Int) ∧ Aside0 (j + kq = x.f3.length) ∧ Aside0 ((some (iP uN (x.f3.drop j) (y.f3.drop j) && iP rC x.f6 y.f6)).bind (fun b => if b = true then lK k (la.drop (i + 1)) (lb.drop (i + 1)) else some false) = some r) ∧ Aside0 (QB w w' #[.string a0, .string a1, .int .i64 a2, .int .i64 a3, .bool a4, .slice (some ad) la.length ca] #[.string b0, .string b1, .int .i64 b2, .int .i64 b3, .bool b4, .slice (some bd) lb.length cb] #[.string x.f0, .string x.f1, .slice A2 x.f2.length c2, .slice A3 x.f3.length c3, .int .i64 x.f4, .int .i64 x.f5, .slice A6 x.f6.length c6] #[.string y.f0, .string y.f1, .slice B2 y.f2.length d2, .slice B3 y.f3.length d3, .int .i64 y.f4, .int .i64 y.f5, .slice B6 y.f6.length d6] gx gy))
        case atStart => exact ⟨0, rfl, ⟨by omega⟩, HR3, Bu⟩
        case round =>
          clear HR3 Bu
          obtain ⟨j, rfl, hj, HE, HQ⟩ := hrel
          have C9 : wr.cell? ⟨gx, 3, none⟩ = some (.slice A3 x.f3.length c3) := (ah HQ.out.x 3).trans rfl
          have Da : wr.cell? ⟨gy, 3, none⟩ = some (.slice B3 y.f3.length d3) := (ah HQ.out.y 3).trans rfl
          cases gk with
          | zero =>
            obtain rfl : j = x.f3.length := by have := hj.out; omega
            have hend : decide (((x.f3.length : Nat) : Int) < (x.f3.length : Int)) = false := decide_eq_false (by omega)
            have hE' := HE.out
            rw [List.drop_eq_nil_of_le (Nat.le_refl _), List.drop_eq_nil_of_le (by have := Cw.out; omega)] at hE'
            have CB := Aside0.mk (show (some (iP rC (x.f6.drop 0) (y.f6.drop 0))).bind (fun b => if b = true then lK k (la.drop (i + 1)) (lb.drop (i + 1)) else some false) = some r from hE')
            clear hE' HE hj
            go_wp2
            clear hend C9 Da
            go_loopg [9] x.f6.length (fun kq v9 w' => ∃ m : Nat, v9 = .int .i64 (m : Int) ∧ Aside0 (m + kq = x.f6.length) ∧ Aside0 ((some (iP rC (x.f6.drop m) (y.f6.drop m))).bind (fun b => if b = true then lK k (la.drop (i + 1)) (lb.drop (i + 1)) else some false) = some r) ∧ Aside0 (QB w w' #[.string a0, .string a1, .int .i64 a2, .int .i64 a3, .bool a4, .slice (some ad) la.length ca] #[.string b0, .string b1, .int .i64 b2, .int .i64 b3, .bool b4, .slice (some bd) lb.length cb] #[.string x.f0, .string x.f1, .slice A2 x.f2.length c2, .slice A3 x.f3.length c3, .int .i64 x.f4, .int .i64 x.f5, .slice A6 x.f6.length c6] #[.string y.f0, .string y.f1, .slice B2 y.f2.length d2, .slice B3 y.f3.length d3, .int .i64 y.f4, .int .i64 y.f5, .slice B6 y.f6.length d6] gx gy))
            case atStart => exact ⟨0, rfl, ⟨by omega⟩, CB, HQ⟩
            case round =>
              clear CB HQ
              obtain ⟨m, rfl, hm, HE, HQ⟩ := hrel
              have Dc : wr.cell? ⟨gx, 6, none⟩ = some (.slice A6 x.f6.length c6) := (ah HQ.out.x 6).trans rfl
              have Df : wr.cell? ⟨gy, 6, none⟩ = some (.slice B6 y.f6.length d6) := (ah HQ.out.y 6).trans rfl
              cases gk with
              | zero =>
                obtain rfl : m = x.f6.length := by have := hm.out; omega
                have hend : decide (((x.f6.length : Nat) : Int) < (x.f6.length : Int)) = false := decide_eq_false (by omega)
                have hE' := HE.out
                rw [List.drop_eq_nil_of_le (Nat.le_refl _), List.drop_eq_nil_of_le (by have := Cz.out; omega)] at hE'
                have Db := Aside0.mk (show lK k (la.drop (i + 1)) (lb.drop (i + 1)) = some r from hE')
                clear hE' HE hm
                go_wp2
                go_roundg k1
                case measure => exact Nat.lt_succ_self k1
                case rel => exact ⟨i + 1, by first | exact HWV.out | rfl, HNX, Db, ⟨HQ.out.r⟩⟩
              | succ k3 =>
                have hl2 : m < x.f6.length := by have := hm.out; omega
                have hl3 : m < y.f6.length := by rw [← Cz.out]; exact hl2
                have d1 : decide ((m : Int) < (x.f6.length : Int)) = true := decide_eq_true (by omega)
                have p3 : 0 ≤ (m : Int) := by omega
                have q5 : (m : Int) < (x.f6.length : Int) := by omega
                have q6 : (m : Int) < (y.f6.length : Int) := by omega
                obtain ⟨aex, e, hx0, hx1⟩ := tT KX.out.2.2.2.2.2 (m : Int) p3 q5
                cases e
                obtain ⟨aey, e, hy0, hy1⟩ := tT KY.out.2.2.2.2.2 (m : Int) p3 q6
                cases e
                replace hx0 := (HQ.out.r.s.cell (World.block_lt_of_cell? w _ hx0)).trans hx0
                replace hx1 := (HQ.out.r.s.cell (World.block_lt_of_cell? w _ hx1)).trans hx1
                replace hy0 := (HQ.out.r.s.cell (World.block_lt_of_cell? w _ hy0)).trans hy0
                replace hy1 := (HQ.out.r.s.cell (World.block_lt_of_cell? w _ hy1)).trans hy1
                simp only [Int.toNat_natCast] at hx0 hx1 hy0 hy1
                have hE1 := HE.out
                rw [List.drop_eq_getElem_cons hl2, List.drop_eq_getElem_cons hl3, show x.f6[m] = jV x.f6 (m : Int) by simp [jV, List.getElem?_eq_getElem hl2], show y.f6[m] = jV y.f6 (m : Int) by simp [jV, List.getElem?_eq_getElem hl3], iP] at hE1
                generalize jV x.f6 (m : Int) = p at hx0 hx1 hE1
                generalize jV y.f6 (m : Int) = q at hy0 hy1 hE1
                have HWM := Aside0.mk (show Value.int .i64 (wrap64 ((m : Int) + 1)) = Value.int .i64 ((m + 1 : Nat) : Int) by have := Kd.kK KX.out.2.2.2.2.2; rw [dD (by omega) (by omega)]; rfl)
                have HNM : Aside0 (m + 1 + k3 = x.f6.length) := ⟨by have := hm.out; omega⟩
                replace p3 := eq_true p3
                replace q5 := eq_true q5
                replace q6 := eq_true q6
                have q7 : (m < x.f6.length) = True := eq_true hl2
                have q8 : (m < y.f6.length) = True := eq_true hl3
                clear hl2 hl3 HE hm
                cases hb : rC p q with
                | false =>
                  rw [hb] at hE1
                  obtain rfl := Option.some.inj (show some false = some r from hE1)
                  clear hE1
                  replace hb : (p.f0.toList == q.f0.toList && (p.f1.toList == q.f1.toList)) = false := hb
                  go_wp2
                  repeat (go_quiet (fail); try go_wp2)
                  go_ret
                  exact ⟨rfl, by repeat (first | exact HQ.out.r.s | apply aV)⟩
                | true =>
                  rw [hb, Bool.true_and] at hE1
                  have BG := Aside0.mk hE1
                  clear hE1
                  replace hb : (p.f0.toList == q.f0.toList && (p.f1.toList == q.f1.toList)) = true := hb
                  go_wp2
                  repeat (go_quiet (fail); try go_wp2)
                  go_roundg k3
                  case measure => exact Nat.lt_succ_self k3
                  case rel => exact ⟨m + 1, by first | exact HWM.out | rfl, HNM, BG, ⟨HQ.out.drawn (by repeat (first | exact Drawn0.refl _ | apply Drawn0.step))⟩⟩
          | succ k2 =>
            have hl2 : j < x.f3.length := by have := hj.out; omega
            have hl3 : j < y.f3.length := by rw [← Cw.out]; exact hl2
            have d1 : decide ((j : Int) < (x.f3.length : Int)) = true := decide_eq_true (by omega)
            have p3 : 0 ≤ (j : Int) := by omega
            have q5 : (j : Int) < (x.f3.length : Int) := by omega
            have q6 : (j : Int) < (y.f3.length : Int) := by omega
            obtain ⟨apx, e, hx0, hx1⟩ := tQ KX.out.2.2.2.1 (j : Int) p3 q5
            cases e
            obtain ⟨apy, e, hy0, hy1⟩ := tQ KY.out.2.2.2.1 (j : Int) p3 q6
            cases e
            replace hx0 := (HQ.out.r.s.cell (World.block_lt_of_cell? w _ hx0)).trans hx0
            replace hx1 := (HQ.out.r.s.cell (World.block_lt_of_cell? w _ hx1)).trans hx1
            replace hy0 := (HQ.out.r.s.cell (World.block_lt_of_cell? w _ hy0)).trans hy0
            replace hy1 := (HQ.out.r.s.cell (World.block_lt_of_cell? w _ hy1)).trans hy1
            simp only [Int.toNat_natCast] at hx0 hx1 hy0 hy1
            have hE1 := HE.out
            rw [List.drop_eq_getElem_cons hl2, List.drop_eq_getElem_cons hl3, show x.f3[j] = jU x.f3 (j : Int) by simp [jU, List.getElem?_eq_getElem hl2], show y.f3[j] = jU y.f3 (j : Int) by simp [jU, List.getElem?_eq_getElem hl3], iP] at hE1
            generalize jU x.f3 (j : Int) = p at hx0 hx1 hE1
            generalize jU y.f3 (j : Int) = q at hy0 hy1 hE1
            have HWM := Aside0.mk (show Value.int .i64 (wrap64 ((j : Int) + 1)) = Value.int .i64 ((j + 1 : Nat) : Int) by have := Kd.kK KX.out.2.2.2.1; rw [dD (by omega) (by omega)]; rfl)
            have HNM : Aside0 (j + 1 + k2 = x.f3.length) := ⟨by have := hj.out; omega⟩
            replace p3 := eq_true p3
            replace q5 := eq_true q5
            replace q6 := eq_true q6
            have q7 : (j < x.f3.length) = True := eq_true hl2
            have q8 : (j < y.f3.length) = True := eq_true hl3
            clear hl2 hl3 HE hj
            cases hb : uN p q with
            | false =>
              rw [hb] at hE1
              obtain rfl := Option.some.inj (show some false = some r from hE1)
              clear hE1
              replace hb : (p.f0 == q.f0 && (p.f1 == q.f1)) = false := hb
              go_wp2
              repeat (go_quiet (fail); try go_wp2)
              go_ret
              exact ⟨rfl, by repeat (first | exact HQ.out.r.s | apply aV)⟩
            | true =>
              rw [hb, Bool.true_and] at hE1
              have BG := Aside0.mk hE1
              clear hE1
              replace hb : (p.f0 == q.f0 && (p.f1 == q.f1)) = true := hb
              go_wp2
              repeat (go_quiet (fail); try go_wp2)
              go_roundg k2
              case measure => exact Nat.lt_succ_self k2
              case rel => exact ⟨j + 1, by first | exact HWM.out | rfl, HNM, BG, ⟨HQ.out.drawn (by repeat (first | exact Drawn0.refl _ | apply Drawn0.step))⟩⟩
end Go.Proofs.YtpncpefppifgdaaGreatDoor.GUt
