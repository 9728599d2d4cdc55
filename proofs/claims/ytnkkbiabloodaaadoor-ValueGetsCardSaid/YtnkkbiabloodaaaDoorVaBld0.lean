/- What is told of the heap while law05's Build runs: plain facts, and an append behind a cut whose capacity is its length. No conditions beside those stated. -/
import Derived.Test.YtnkkbiabloodaaaDoorVaRef
import Derived.Test.YtnkkbiabloodaaaDoorGVax7
import Derived.ArgAppend
namespace Go.Proofs.YtnkkbiabloodaaaDoor.GVa
open Go.RowKit Go.Proofs.YtnkkbiabloodaaaDoorW.PrintWords Go.Proofs.YtnkkbiabloodaaaDoorW.PrintLast Go.Proofs.YtnkkbiabloodaaaDoorW.PrintMore
set_option linter.unusedVariables false
set_option linter.unusedSimpArgs false
section
variable {P : Program} {ops : Array Oper} {o : Oper} {a : Act} {Q : Exit → Act → World → Prop} {Kc : Act → World → Prop} {α : Type}
theorem xD {w : World} {base base' : Nat} {e : TypeId} {size n : Nat} {v : Value} {xs : List Value} (h : w.ownsRow base e size v n xs) (hb : base' ≤ base) : w.ownsRow base' e size v n xs := by
  refine ⟨h.1, ?_⟩
  rcases h.2 with h | ⟨g, cap, cur, e1, h1, h2⟩
  · exact .inl h
  · exact .inr ⟨g, cap, cur, e1, by omega, h2⟩
theorem oW {d : Kd α} {W : World} {ok : Nat → Prop} {xs : List α} {news : List Value} (hs0 : 0 < d.sz) (h : cu (Kd.FK d W ok) d.sz xs news) : ∀ u ∈ news, u.oneCell' = true := by
  intro u hu
  obtain ⟨q, hq, rfl⟩ := List.mem_iff_getElem.1 hu
  have hql : q / d.sz < xs.length := by
    rw [Nat.div_lt_iff_lt_mul hs0]
    rw [← h.1]
    exact hq
  have hc := h.2 (q / d.sz) _ (List.getElem?_eq_getElem hql)
  refine d.K_one (Kd.gK hc) _ ?_
  rw [List.mem_iff_getElem?]
  refine ⟨q % d.sz, ?_⟩
  rw [List.getElem?_take, if_pos (Nat.mod_lt _ hs0), List.getElem?_drop, Nat.mul_comm, Nat.div_add_mod, List.getElem?_eq_getElem hq]
theorem gG (d : Kd α) {w0 W : World} (base : Nat) (hw : Region.wanted o (yielded ops a.tmps) = true) (s x : Operand) (t e : TypeId) (z : Value) (bytes : Nat)
    (ho : o.op = .call { callee := .builtin .append, args := #[s, x], argTypes := #[t, t] })
    (ht : P.underlying t = some (.slice e)) (hinfo : (P.info? e).map (fun i => (i.zero, i.size, i.bytes)) = some (some z, d.sz, bytes)) (hz : z.cells.size = d.sz) (hs0 : 0 < d.sz) (hb0 : 0 < bytes)
    (xs ys : List α) (A B : Option Addr) (m c : Nat) (ok okp : Nat → Prop) (hs : a.eval s = .slice A xs.length xs.length) (hx : a.eval x = .slice B m c)
    (HS : Kd.F d W okp A xs.length xs) (HR : Kd.F d W okp B m ys) (hm : 0 < m) (hokp : ∀ k, okp k → k < W.heap.size → ok k) (hfresh : ∀ k, W.heap.size ≤ k → ok k)
    (hnil : A = none → xs = []) (hl : (xs.length + m) * bytes ≤ 140737488355328)
    (h : ∀ v1 w1, Kd.N d e w1 W.heap.size ok v1 (xs ++ ys) → Below W.heap.size W w1 → Kc (a.put o.dst v1) w1) :
    if Region.wanted o (yielded ops a.tmps) = true then Oper.wp P o a W Kc Q else Kc (a.put o.dst undef) W := by
  obtain ⟨i0, hi, hzz⟩ := Option.map_eq_some_iff.1 hinfo
  simp only [Prod.mk.injEq] at hzz
  obtain ⟨hz0, hz1, hz2⟩ := hzz
  have HRr := Kd.oo HR
  have HSr := Kd.oo HS
  have hym : ys.length = m := HRr.1
  have hlen : xs.length + m ≤ 140737488355328 := Nat.le_trans (Nat.le_mul_of_pos_right _ hb0) hl
  obtain ⟨ad, rfl, _⟩ := HRr.2.2 hm
  obtain ⟨news, hnr, hnc⟩ := dP.mE HRr
  have h1c := oW hs0 hnr
  have hrun : ∃ v1 w1 olds, (Builtin.append_ #[t, t] o.type #[.slice A xs.length xs.length, .slice (some ad) m c]).run P W = .ok v1 w1 ∧ w1.ownsRow W.heap.size e d.sz v1 (xs.length + m) (olds ++ news) ∧ W.grownBy w1 none ∧ cu (Kd.FK d W okp) d.sz xs olds := by
    cases A with
    | some b =>
      obtain ⟨olds, hor, hoc⟩ := dP.mE HSr
      obtain ⟨v', w', hrun, r1, r2⟩ := run_append_arg_grows (P := P) W t o.type e i0 z d.sz bytes ht hi hz0 hz1 hz2 hz hs0 b xs.length xs.length olds hor.1 hoc ad m c news (by rw [hnr.1, hym]) hnc (by omega) (by simp only [maxLen]; omega) hl
      exact ⟨v', w', olds, hrun, r1, r2, hor⟩
    | none =>
      obtain rfl := hnil rfl
      obtain ⟨v', w', hrun, r1, r2, _⟩ := run_append_own (P := P) W W.heap.size t o.type e i0 z d.sz bytes ht hi hz0 hz1 hz2 hz hs0 (.slice none 0 0) 0 [] (World.ownsRow_nil W _ e d.sz) ad m c news (by rw [hnr.1, hym]) hnc h1c (by simp only [maxLen]; simp at hlen; omega) (by simpa using hl) (Nat.le_refl _)
      exact ⟨v', w', [], hrun, r1, r2, ⟨by simp, fun j p hj => by simp at hj⟩⟩
  obtain ⟨v1, w1, olds, hrun, hown, hg, hor⟩ := hrun
  have hb1 : Below W.heap.size W w1 := ⟨hg.os, hg.tape, hg.output, hg.size, fun k hk => hg.block k hk (by simp)⟩
  have hrep := Kd.jH hor hnr
  have xS : (xs ++ ys).length = xs.length + m := by rw [List.length_append, hym]
  have hN : Kd.N d e w1 W.heap.size ok v1 (xs ++ ys) := by
    refine ⟨fun k hk => hfresh k (iJ hown k hk), Kd.chunks d.sz (xs ++ ys).length (olds ++ news), Kd.dF _ _ _, ⟨fun k hk => hk.symm, olds ++ news, by rw [Kd.dF, xS]; exact hown, Kd.kQ hrep (fun y c hk => ⟨d.K_len (Kd.gK hk), d.K_one (Kd.gK hk)⟩)⟩, fun j y c hy hc => ?_⟩
    rw [Kd.iA hc]
    refine Kd.kN (Kd.l8 (Kd.kP (hrep.2 j y hy)) (fun k hk hlt => hb1.block k hlt)) (fun k hk => ⟨hokp k hk.1 hk.2, fun he => ?_⟩)
    have := iJ hown k he.symm
    have := hk.2
    omega
  rw [if_pos hw]
  unfold Oper.wp
  simp [execOp, ho, resolve, invoke, builtin, hs, hx, hrun, Result.andThen]
  exact h _ _ hN hb1
end
def okG (B : Nat) (G : List Nat) (k : Nat) : Prop := B ≤ k ∧ k ∉ G
theorem mY {B : Nat} {G G' : List Nat} (h : ∀ g ∈ G', g ∈ G) {k : Nat} (hk : okG B G k) : okG B G' k := ⟨hk.1, fun hg => hk.2 (h k hg)⟩
structure Inn {α β : Type} (dX : Kd α) (dY : Kd β) (eX eY B : Nat) (G : List Nat) (w1 w : World) (gp gx gy : Nat) (cp cx cy : Array Value) (vx vy : Value) (X : List α) (Y : List β) : Prop where
  b : Below w1.heap.size w1 w
  hp : w.heap[gp]? = some (.cells cp 75 (0, 0))
  hx : w.heap[gx]? = some (.cells cx 29 (0, 0))
  hy : w.heap[gy]? = some (.cells cy 33 (0, 0))
  nx : Kd.N dX eX w w1.heap.size (fun k => okG B G k ∧ some k ≠ vy.ownBlock) vx X
  ny : Kd.N dY eY w w1.heap.size (fun k => okG B G k ∧ some k ≠ vx.ownBlock) vy Y
  ep : w1.heap.size ≤ gp
  ex : w1.heap.size ≤ gx
  ey : w1.heap.size ≤ gy
  mp : gp ∈ G
  mx : gx ∈ G
  my : gy ∈ G
  lt : ∀ g ∈ G, g < w.heap.size
  lb : B ≤ w1.heap.size
section
variable {α β : Type} {dX : Kd α} {dY : Kd β} {eX eY B : Nat} {G : List Nat} {w1 w w2 : World} {gp gx gy : Nat} {cp cx cy cx' cy' : Array Value} {vx vy v' : Value} {X : List α} {Y : List β}
theorem Inn.below (h : Inn dX dY eX eY B G w1 w gp gx gy cp cx cy vx vy X Y) (hb : Below w.heap.size w w2) : Inn dX dY eX eY B G w1 w2 gp gx gy cp cx cy vx vy X Y :=
  ⟨aK h.b hb, aI h.hp hb, aI h.hx hb, aI h.hy hb, Kd.fC h.nx hb, Kd.fC h.ny hb, h.ep, h.ex, h.ey, h.mp, h.mx, h.my, fun g hg => Nat.lt_of_lt_of_le (h.lt g hg) hb.size, h.lb⟩
theorem Inn.drew (h : Inn dX dY eX eY B G w1 w gp gx gy cp cx cy vx vy X Y) : Inn dX dY eX eY B G w1 w.drew gp gx gy cp cx cy vx vy X Y := h.below (dQ (Below.refl _ _))
theorem Inn.fresh (h : Inn dX dY eX eY B G w1 w gp gx gy cp cx cy vx vy X Y) {k : Nat} (hk : w.heap.size ≤ k) : (okG B G k ∧ some k ≠ vy.ownBlock) ∧ some k ≠ vx.ownBlock :=
  ⟨⟨⟨Nat.le_trans h.lb (Nat.le_trans h.b.size hk), fun hg => Nat.lt_irrefl _ (Nat.lt_of_lt_of_le (h.lt k hg) hk)⟩, fun e => Nat.lt_irrefl _ (Nat.lt_of_lt_of_le (Kd.kG h.ny k e.symm) hk)⟩, fun e => Nat.lt_irrefl _ (Nat.lt_of_lt_of_le (Kd.kG h.nx k e.symm) hk)⟩
theorem Inn.lH (h : Inn dX dY eX eY B G w1 w gp gx gy cp cx cy vx vy X Y) {k : Nat} (hk : w.heap.size ≤ k) : (okG B G k ∧ some k ≠ vx.ownBlock) ∧ some k ≠ vy.ownBlock :=
  ⟨⟨(h.fresh hk).1.1, (h.fresh hk).2⟩, (h.fresh hk).1.2⟩
theorem Inn.old (h : Inn dX dY eX eY B G w1 w gp gx gy cp cx cy vx vy X Y) {k : Nat} (hB : okG B G k) (hk : k < w1.heap.size) : (okG B G k ∧ some k ≠ vy.ownBlock) ∧ some k ≠ vx.ownBlock :=
  ⟨⟨hB, fun e => by have := Kd.gu h.ny k e.symm; omega⟩, fun e => by have := Kd.gu h.nx k e.symm; omega⟩
theorem Inn.uI (h : Inn dX dY eX eY B G w1 w gp gx gy cp cx cy vx vy X Y) {k : Nat} (hB : okG B G k) (hk : k < w1.heap.size) : (okG B G k ∧ some k ≠ vx.ownBlock) ∧ some k ≠ vy.ownBlock :=
  ⟨⟨hB, (h.old hB hk).2⟩, (h.old hB hk).1.2⟩
theorem Inn.more (h : Inn dX dY eX eY B G w1 w gp gx gy cp cx cy vx vy X Y) {g : Nat} (hg : w.heap.size ≤ g) (hb : Below w.heap.size w w2) (hg2 : g < w2.heap.size) : Inn dX dY eX eY B (g :: G) w1 w2 gp gx gy cp cx cy vx vy X Y :=
  have h2 := h.below hb
  ⟨h2.b, h2.hp, h2.hx, h2.hy, Kd.dG (Kd.fC (Kd.mW h.nx g hg) hb) (fun k hk => ⟨⟨hk.1.1.1, by simp only [List.mem_cons, not_or]; exact ⟨hk.2, hk.1.1.2⟩⟩, hk.1.2⟩), Kd.dG (Kd.fC (Kd.mW h.ny g hg) hb) (fun k hk => ⟨⟨hk.1.1.1, by simp only [List.mem_cons, not_or]; exact ⟨hk.2, hk.1.1.2⟩⟩, hk.1.2⟩), h.ep, h.ex, h.ey, List.mem_cons_of_mem _ h.mp, List.mem_cons_of_mem _ h.mx, List.mem_cons_of_mem _ h.my, fun k hk => by
    rcases List.mem_cons.1 hk with rfl | hk
    · exact hg2
    · exact h2.lt k hk, h.lb⟩
theorem Inn.less {G' : List Nat} (h : Inn dX dY eX eY B G w1 w gp gx gy cp cx cy vx vy X Y) (hG : ∀ g ∈ G', g ∈ G) (mp : gp ∈ G') (mx : gx ∈ G') (my : gy ∈ G') : Inn dX dY eX eY B G' w1 w gp gx gy cp cx cy vx vy X Y :=
  ⟨h.b, h.hp, h.hx, h.hy, Kd.dG h.nx (fun k hk => ⟨mY hG hk.1, hk.2⟩), Kd.dG h.ny (fun k hk => ⟨mY hG hk.1, hk.2⟩), h.ep, h.ex, h.ey, mp, mx, my, fun g hg => h.lt g (hG g hg), h.lb⟩
theorem Inn.away (h : Inn dX dY eX eY B G w1 w gp gx gy cp cx cy vx vy X Y) {g : Nat} (hg : g ∈ G) : some g ≠ vx.ownBlock ∧ some g ≠ vy.ownBlock :=
  ⟨fun e => (h.nx.1 g e.symm).1.2 hg, fun e => (h.ny.1 g e.symm).1.2 hg⟩
theorem Inn.qF {X' : List α} (h : Inn dX dY eX eY B G w1 w gp gx gy cp cx cy vx vy X Y) (hn : Kd.N dX eX w2 w1.heap.size (fun k => okG B G k ∧ some k ≠ vy.ownBlock) v' X') (hb : Below w1.heap.size w1 w2) (hg : w.grownBy w2 vx.ownBlock) (hat : v'.ownBlock = vx.ownBlock ∨ ∃ b, v'.ownBlock = some b ∧ w.heap.size ≤ b) : Inn dX dY eX eY B G w1 w2 gp gx gy cp cx cy v' vy X' Y :=
  ⟨hb, dU h.hp hg (h.away h.mp).1, dU h.hx hg (h.away h.mx).1, dU h.hy hg (h.away h.my).1, hn, Kd.kR h.ny hg hat, h.ep, h.ex, h.ey, h.mp, h.mx, h.my, fun g hg2 => Nat.lt_of_lt_of_le (h.lt g hg2) hg.size, h.lb⟩
theorem Inn.uV {Y' : List β} (h : Inn dX dY eX eY B G w1 w gp gx gy cp cx cy vx vy X Y) (hn : Kd.N dY eY w2 w1.heap.size (fun k => okG B G k ∧ some k ≠ vx.ownBlock) v' Y') (hb : Below w1.heap.size w1 w2) (hg : w.grownBy w2 vy.ownBlock) (hat : v'.ownBlock = vy.ownBlock ∨ ∃ b, v'.ownBlock = some b ∧ w.heap.size ≤ b) : Inn dX dY eX eY B G w1 w2 gp gx gy cp cx cy vx v' X Y' :=
  ⟨hb, dU h.hp hg (h.away h.mp).2, dU h.hx hg (h.away h.mx).2, dU h.hy hg (h.away h.my).2, Kd.kR h.nx hg hat, hn, h.ep, h.ex, h.ey, h.mp, h.mx, h.my, fun g hg2 => Nat.lt_of_lt_of_le (h.lt g hg2) hg.size, h.lb⟩
theorem Inn.wL (h : Inn dX dY eX eY B G w1 w gp gx gy cp cx cy vx vy X Y) (j : Nat) (u : Value) (e : cx.setIfInBounds j u = cx') : Inn dX dY eX eY B G w1 (w.setCell ⟨gx, j, none⟩ u) gp gx gy cp cx' cy vx vy X Y :=
  ⟨aG h.b h.ex, bq h.hp (iN h.hp h.hx (by decide)) _, aQ h.hx j u e, bq h.hy (iN h.hy h.hx (by decide)) _, Kd.jK h.nx (fun k hk e => hk.1.2 (by rw [e]; exact h.mx)) _, Kd.jK h.ny (fun k hk e => hk.1.2 (by rw [e]; exact h.mx)) _, h.ep, h.ex, h.ey, h.mp, h.mx, h.my, fun g hg => by simpa [World.setCell] using h.lt g hg, h.lb⟩
theorem Inn.wM (h : Inn dX dY eX eY B G w1 w gp gx gy cp cx cy vx vy X Y) (j : Nat) (u : Value) (e : cy.setIfInBounds j u = cy') : Inn dX dY eX eY B G w1 (w.setCell ⟨gy, j, none⟩ u) gp gx gy cp cx cy' vx vy X Y :=
  ⟨aG h.b h.ey, bq h.hp (iN h.hp h.hy (by decide)) _, bq h.hx (iN h.hx h.hy (by decide)) _, aQ h.hy j u e, Kd.jK h.nx (fun k hk e => hk.1.2 (by rw [e]; exact h.my)) _, Kd.jK h.ny (fun k hk e => hk.1.2 (by rw [e]; exact h.my)) _, h.ep, h.ex, h.ey, h.mp, h.mx, h.my, fun g hg => by simpa [World.setCell] using h.lt g hg, h.lb⟩
end
structure Two (w : World) (gv gw : Nat) (cv cw : Array Value) : Prop where
  v : w.heap[gv]? = some (.cells cv 29 (0, 0))
  w : w.heap[gw]? = some (.cells cw 33 (0, 0))
theorem Two.below {w w2 : World} {gv gw : Nat} {cv cw : Array Value} (h : Two w gv gw cv cw) (hb : Below w.heap.size w w2) : Two w2 gv gw cv cw := ⟨aI h.v hb, aI h.w hb⟩
theorem Two.grown {w w2 : World} {gv gw : Nat} {cv cw : Array Value} {row : Option Nat} (h : Two w gv gw cv cw) (hg : w.grownBy w2 row) (hv : some gv ≠ row) (hw : some gw ≠ row) : Two w2 gv gw cv cw := ⟨dU h.v hg hv, dU h.w hg hw⟩
theorem oF {α : Type} {d : Kd α} {W : World} {ok : Nat → Prop} {n : Nat} {xs : List α} (h : Kd.F d W ok none n xs) : xs = [] := by
  have hC := Kd.qz h
  cases n with
  | zero => exact List.eq_nil_of_length_eq_zero hC.1
  | succ n =>
    obtain ⟨ad, e, _⟩ := hC.2.2 (Nat.succ_pos n)
    cases e
structure Out (w w' : World) (g2 g3 : Nat) (va vb : Value) (la : List S29) : Prop where
  b : Below w.heap.size w w'
  h2 : w'.heap[g2]? = some (.cells #[.int .i64 0, .bool false, .int .i64 0, .string (⟨#[]⟩ : ByteArray), .slice none 0 0, .slice none 0 0] 29 (0, 0))
  h3 : w'.heap[g3]? = some (.cells #[.int .i64 0, .bool false, .int .i64 0, .string (⟨#[]⟩ : ByteArray), .slice none 0 0, .slice none 0 0] 33 (0, 0))
  e2 : w.heap.size ≤ g2
  e3 : w.heap.size ≤ g3
  a : Kd.V k29 29 w' 0 (okG w.heap.size [g2, g3]) va la
  c : Kd.V k33 33 w' 0 (okG w.heap.size [g2, g3]) vb (cZ la)
theorem Out.below {w w' w2 : World} {g2 g3 : Nat} {va vb : Value} {la : List S29} (h : Out w w' g2 g3 va vb la) (hb : Below w'.heap.size w' w2) : Out w w2 g2 g3 va vb la :=
  ⟨aK h.b hb, aI h.h2 hb, aI h.h3 hb, h.e2, h.e3, Kd.bB h.a hb, Kd.bB h.c hb⟩
theorem dW : ∀ l, (cZ l).length = l.length
 | [] => rfl
 | x :: l => by rw [cZ, List.length_cons, List.length_cons, dW l]
theorem lU (a b : List S29) : cZ (a ++ b) = cZ a ++ cZ b := by rw [gX, gX, gX, List.map_append]
theorem rC (a : List S29) (n : Nat) : (cZ a).take n = cZ (a.take n) := by rw [gX, gX, List.map_take]
theorem wm (a : List S29) (n : Nat) : (cZ a).drop n = cZ (a.drop n) := by rw [gX, gX, List.map_drop]
theorem kV (a : List S29) (i : Int) : bG (cZ a) i = toR (aH a i) := by
  unfold bG aH
  rw [gX, List.getD_eq_getElem?_getD, List.getD_eq_getElem?_getD, List.getElem?_map]
  cases a[i.toNat]? with
  | none => rfl
  | some v => rfl
theorem o8 (a b : List S48) : dz (a ++ b) = dz a ++ dz b := by rw [jd, jd, jd, List.map_append]
theorem iK (l) : (dz l).length = l.length := by rw [jd, List.length_map]
def bK (p : S75) (n : Nat) : Nat := if 0 < p.f1 ∧ (p.f0 = 4 ∨ p.f0 = 5) then min p.f1.toNat n else 0
theorem wN (p : S75) (n : Nat) : bK p n ≤ n := by unfold bK; split <;> omega
def mZ (p : S75) : Int → List S29 → Option (List S48)
 | _, [] => some []
 | i, v :: l => (eF.f p.f0 p.f1 p.f2 p.f3 p.f4 i).bind fun s => (mZ p (i + 1) l).bind fun r => some ((⟨s, v⟩ : S48) :: r)
def bNew (p : S75) (m : List S29) : Option S29 :=
  if p.f0 = 4 then some ⟨p.f0, p.f2, p.f3, p.f4, m, []⟩ else (mZ p 0 m).bind fun r => some ⟨p.f0, p.f2, p.f3, p.f4, [], r⟩
def bGo : List S75 → List S29 → Option (List S29)
 | [], la => some la
 | p :: l, la => (bNew p (la.drop (la.length - bK p la.length))).bind fun x => bGo l (la.take (la.length - bK p la.length) ++ [x])
def o9 (la : List S29) : S29 := la.getD (la.length - 1) z29
def qd (l : List S75) : Option S29 := if l.length ≤ 1000000 then (bGo l []).map o9 else none
def aZ.f (l0 : List S75) : Option (Int × Bool × Int × ByteArray × (List S29) × (List S48) × Int × Bool × Int × ByteArray × (List S33) × (List S50)) :=
  (qd l0).bind fun x => some (x.f0, x.f1, x.f2, x.f3, x.f4, x.f5, x.f0, x.f1, x.f2, x.f3, cZ x.f4, dz x.f5)
theorem xK {w1 w : World} {g t : Nat} {c0 c1 c2 c3 c4 v0 v1 v2 v3 v4 : Value} (hb : Below w1.heap.size w1 w) (hc : w.heap[g]? = some (.cells #[c0, c1, c2, c3, c4] t (0, 0))) (hg : w1.heap.size ≤ g) :
    ∃ w9, (((((w.setCell ⟨g, 0, none⟩ v0).setCell ⟨g, 1, none⟩ v1).setCell ⟨g, 2, none⟩ v2).setCell ⟨g, 3, none⟩ v3).setCell ⟨g, 4, none⟩ v4) = w9 ∧ w9.heap[g]? = some (.cells #[v0, v1, v2, v3, v4] t (0, 0)) ∧ Below w1.heap.size w1 w9 :=
  ⟨_, rfl, aQ (aQ (aQ (aQ (aQ hc 0 v0 rfl) 1 v1 rfl) 2 v2 rfl) 3 v3 rfl) 4 v4 rfl, aG (aG (aG (aG (aG hb hg) hg) hg) hg) hg⟩
theorem lX {w1 w : World} {g t : Nat} {c0 c1 c2 c3 c4 c5 : Value} (v0 v1 v2 v3 v4 v5 : Value) (hb : Below w1.heap.size w1 w) (hc : w.heap[g]? = some (.cells #[c0, c1, c2, c3, c4, c5] t (0, 0))) (hg : w1.heap.size ≤ g) :
    ∃ w9, ((((((w.setCell ⟨g, 0, none⟩ v0).setCell ⟨g, 1, none⟩ v1).setCell ⟨g, 2, none⟩ v2).setCell ⟨g, 3, none⟩ v3).setCell ⟨g, 4, none⟩ v4).setCell ⟨g, 5, none⟩ v5) = w9 ∧ w9.heap[g]? = some (.cells #[v0, v1, v2, v3, v4, v5] t (0, 0)) ∧ Below w1.heap.size w1 w9 ∧ (∀ k, k ≠ g → w9.heap[k]? = w.heap[k]?) ∧ w9.heap.size = w.heap.size :=
  ⟨_, rfl, aQ (aQ (aQ (aQ (aQ (aQ hc 0 v0 rfl) 1 v1 rfl) 2 v2 rfl) 3 v3 rfl) 4 v4 rfl) 5 v5 rfl, aG (aG (aG (aG (aG (aG hb hg) hg) hg) hg) hg) hg, fun k hk =>
    (Below.heap_setCell _ ⟨g, 5, none⟩ v5 k hk).trans ((Below.heap_setCell _ ⟨g, 4, none⟩ v4 k hk).trans ((Below.heap_setCell _ ⟨g, 3, none⟩ v3 k hk).trans ((Below.heap_setCell _ ⟨g, 2, none⟩ v2 k hk).trans ((Below.heap_setCell _ ⟨g, 1, none⟩ v1 k hk).trans (Below.heap_setCell _ ⟨g, 0, none⟩ v0 k hk))))), by simp [World.setCell]⟩
theorem xQ {p : S75} (n : Nat) (h : ¬ 0 < p.f1) : bK p n = 0 := by unfold bK; rw [if_neg (fun h2 => h h2.1)]
theorem xE {p : S75} (n : Nat) (h4 : ¬ p.f0 = 4) (h5 : ¬ p.f0 = 5) : bK p n = 0 := by unfold bK; rw [if_neg (fun h2 => h2.2.elim h4 h5)]
theorem vM {p : S75} (n : Nat) (h : 0 < p.f1) (h5 : p.f0 = 4 ∨ p.f0 = 5) : ((bK p n : Nat) : Int) = if (n : Int) < p.f1 then (n : Int) else p.f1 := by
  unfold bK; rw [if_pos ⟨h, h5⟩]; split <;> omega
theorem Inn.other {α β : Type} {dX : Kd α} {dY : Kd β} {eX eY B : Nat} {G : List Nat} {w1 w w2 : World} {gp gx gy g : Nat} {cp cx cy : Array Value} {vx vy : Value} {X : List α} {Y : List β} (h : Inn dX dY eX eY B G w1 w gp gx gy cp cx cy vx vy X Y)
    (hb : Below w1.heap.size w1 w2) (hk : ∀ k, k ≠ g → w2.heap[k]? = w.heap[k]?) (hs : w2.heap.size = w.heap.size) (hg : g ∈ G) (np : gp ≠ g) (nx : gx ≠ g) (ny : gy ≠ g) : Inn dX dY eX eY B G w1 w2 gp gx gy cp cx cy vx vy X Y :=
  ⟨hb, (hk gp np).trans h.hp, (hk gx nx).trans h.hx, (hk gy ny).trans h.hy, Kd.lC h.nx (fun k ho _ => hk k (fun e => ho.1.2 (e ▸ hg))), Kd.lC h.ny (fun k ho _ => hk k (fun e => ho.1.2 (e ▸ hg))), h.ep, h.ex, h.ey, h.mp, h.mx, h.my, fun g hg => by rw [hs]; exact h.lt g hg, h.lb⟩
structure Made (B g2 g3 : Nat) (wr wc : World) (gx gy : Nat) (X : S29) (v4 v5 u4 u5 : Value) : Prop where
  b : Below wr.heap.size wr wc
  hx : wc.heap[gx]? = some (.cells #[.int .i64 X.f0, .bool X.f1, .int .i64 X.f2, .string X.f3, v4, v5] 29 (0, 0))
  hy : wc.heap[gy]? = some (.cells #[.int .i64 X.f0, .bool X.f1, .int .i64 X.f2, .string X.f3, u4, u5] 33 (0, 0))
  x4 : Kd.V k29 29 wc 0 (okG B [g2, g3]) v4 X.f4
  x5 : Kd.V k48 48 wc 0 (okG B [g2, g3]) v5 X.f5
  y4 : Kd.V k33 33 wc 0 (okG B [g2, g3]) u4 (cZ X.f4)
  y5 : Kd.V k50 50 wc 0 (okG B [g2, g3]) u5 (dz X.f5)
theorem Made.below {B g2 g3 : Nat} {wr wc w2 : World} {gx gy : Nat} {X : S29} {v4 v5 u4 u5 : Value} (h : Made B g2 g3 wr wc gx gy X v4 v5 u4 u5) (hb : Below wc.heap.size wc w2) : Made B g2 g3 wr w2 gx gy X v4 v5 u4 u5 :=
  ⟨aK h.b hb, aI h.hx hb, aI h.hy hb, Kd.bB h.x4 hb, Kd.bB h.x5 hb, Kd.bB h.y4 hb, Kd.bB h.y5 hb⟩
theorem j4 {p : S75} : ∀ {m : List S29} {i : Int} {r}, mZ p i m = some r → r.length = m.length
 | [], i, r, h => by obtain rfl := Option.some.inj h; rfl
 | v :: l, i, r, h => by
   obtain ⟨s, _, h⟩ := Option.bind_eq_some_iff.1 h
   obtain ⟨q, hq, h⟩ := Option.bind_eq_some_iff.1 h
   obtain rfl := Option.some.inj h
   rw [List.length_cons, List.length_cons, j4 hq]
theorem pq {p : S75} : ∀ {m : List S29} {i : Int} {r} (j : Nat), mZ p i m = some r → j < m.length → ∃ s, eF.f p.f0 p.f1 p.f2 p.f3 p.f4 (i + (j : Int)) = some s ∧ r[j]? = some ⟨s, aH m (j : Int)⟩
 | [], i, r, j, h, hj => by simp at hj
 | v :: l, i, r, j, h, hj => by
   obtain ⟨s, hs, h⟩ := Option.bind_eq_some_iff.1 h
   obtain ⟨q, hq, h⟩ := Option.bind_eq_some_iff.1 h
   obtain rfl := Option.some.inj h
   cases j with
   | zero => exact ⟨s, by simpa using hs, rfl⟩
   | succ j =>
     obtain ⟨t, ht, hr⟩ := pq j hq (by simpa using hj)
     refine ⟨t, ?_, ?_⟩
     · rw [← ht]; congr 1; push_cast; omega
     · rw [List.getElem?_cons_succ, hr]; rfl
theorem nR {α : Type} {l : List α} {j : Nat} {x : α} (h : l[j]? = some x) : l.take (j + 1) = l.take j ++ [x] := by rw [List.take_add_one, h]; rfl
theorem rd_some {l : List S29} {j : Nat} (h : j < l.length) : l[j]? = some (aH l (j : Int)) := by
  unfold aH
  rw [Int.toNat_natCast, List.getD_eq_getElem?_getD, List.getElem?_eq_getElem h]; rfl
theorem qG {l : List S29} {m j : Nat} : aH (l.drop m) (j : Int) = aH l ((m + j : Nat) : Int) := by
  unfold aH
  rw [Int.toNat_natCast, Int.toNat_natCast, List.getD_eq_getElem?_getD, List.getD_eq_getElem?_getD, List.getElem?_drop]
theorem dB {W w1 : World} (hg : W.grownBy w1 none) : Below W.heap.size W w1 := ⟨hg.os, hg.tape, hg.output, hg.size, fun k hk => hg.block k hk (by simp)⟩
theorem Out.fresh {w w' : World} {g2 g3 : Nat} {va vb : Value} {la : List S29} (h : Out w w' g2 g3 va vb la) {k : Nat} (hk : w'.heap.size ≤ k) : okG w.heap.size [g2, g3] k := by
  have z2 := bO h.h2
  have z3 := bO h.h3
  refine ⟨Nat.le_trans h.b.size hk, fun hg => ?_⟩
  simp only [List.mem_cons, List.not_mem_nil, or_false] at hg
  omega
theorem pz {P : Program} (t e : TypeId) {i : TypeInfo} (ht : P.underlying t = some (.slice e)) (hi : P.info? e = some i) (A : Option Addr) (n c m : Nat) (hm : m ≤ n) (hc : n ≤ c) :
    ∀ W : World, (Instr.slice t (.slice A n c) none (some (.int .i64 (m : Int))) (some (.int .i64 (m : Int)))).run P W = .ok (.slice A m m) W := by
  intro W
  have hel : P.elem t = e := by simp [Program.elem, ht]
  have hu : P.underlying t = some (.slice (P.elem t)) := by rw [hel]; exact ht
  have ha : (A.map fun x => x.add 0) = A := by cases A <;> simp [Addr.add]
  rw [run_slice_hm W t A n c hu .i64 .i64 (m : Int) (m : Int) (by omega) (by omega) (by omega), hel]
  simp [sizeOf, typeInfo, hi, sliced, Result.andThen, ha]
theorem lI (X : S29) : toR X = ⟨X.f0, X.f1, X.f2, X.f3, cZ X.f4, dz X.f5⟩ := by cases X; rfl
theorem uW {α : Type} {d : Kd α} {e b : Nat} {W : World} {ok : Nat → Prop} {A : Option Addr} {c m : Nat} {xs : List α} (h : Kd.V d e W b ok (.slice A xs.length c) xs) (hm : m ≤ xs.length) : Kd.F d W ok A (xs.take m).length (xs.take m) := Kd.vH (Kd.jM h).2.2 hm
theorem iQ {x : Int} {n : Nat} (h : x = (n : Int)) (hn : n ≤ 9223372036854775807) : wrap64 x = (n : Int) := by rw [h]; unfold wrap64; omega
theorem sP {l0 : List S75} {i K : Nat} {la r : List S29} {p : S75} {X : S29} (hi : i < l0.length) (hp : fu l0 (i : Int) = p) (hK : bK p la.length = K) (hX : bNew p (la.drop (la.length - K)) = some X) (h : bGo (l0.drop i) la = some r) :
    bGo (l0.drop (i + 1)) (la.take (la.length - K) ++ [X]) = some r := by
  have hp2 : l0[i] = p := by
    rw [← hp]; unfold fu
    rw [Int.toNat_natCast, List.getD_eq_getElem?_getD, List.getElem?_eq_getElem hi]; rfl
  rw [List.drop_eq_getElem_cons hi, hp2, bGo, hK, hX] at h
  exact h
theorem Out.next {w wc w2 : World} {g2 g3 : Nat} {va vb va' vb' : Value} {la T : List S29} {X : S29} {xR : S33} (h : Out w wc g2 g3 va vb la) (hb : Below wc.heap.size wc w2) (hR : xR = toR X)
    (na : Kd.V k29 29 w2 0 (okG w.heap.size [g2, g3]) va' (T ++ [X])) (nb : Kd.V k33 33 w2 0 (okG w.heap.size [g2, g3]) vb' (cZ T ++ [xR])) : Out w w2 g2 g3 va' vb' (T ++ [X]) :=
  have o := h.below hb
  ⟨o.b, o.h2, o.h3, o.e2, o.e3, na, by rw [lU, cZ, cZ, ← hR]; exact nb⟩
theorem uJ {l0 : List S75} {i K : Nat} {la r : List S29} {p : S75} (hi : i < l0.length) (hp : fu l0 (i : Int) = p) (hK : bK p la.length = K) (h : bGo (l0.drop i) la = some r) : ∃ X, bNew p (la.drop (la.length - K)) = some X := by
  have hp2 : l0[i] = p := by
    rw [← hp]; unfold fu
    rw [Int.toNat_natCast, List.getD_eq_getElem?_getD, List.getElem?_eq_getElem hi]; rfl
  rw [List.drop_eq_getElem_cons hi, hp2, bGo, hK] at h
  obtain ⟨X, hX, _⟩ := Option.bind_eq_some_iff.1 h
  exact ⟨X, hX⟩
abbrev cP (p : S75) : Array Value := #[.int .i64 p.f0, .int .i64 p.f1, .bool p.f2, .int .i64 p.f3, .string p.f4]
abbrev cL (p : S75) (v : Value) : Array Value := #[.int .i64 p.f0, .bool p.f2, .int .i64 p.f3, .string p.f4, v, .slice none 0 0]
abbrev cK (p : S75) (v : Value) : Array Value := #[.int .i64 p.f0, .bool p.f2, .int .i64 p.f3, .string p.f4, .slice none 0 0, v]
abbrev InL (B : Nat) (G : List Nat) (w1 w : World) (gp gx gy : Nat) (p : S75) (bx bY vx vy : Value) (X : List S29) (Y : List S33) : Prop := Inn k29 k33 29 33 B G w1 w gp gx gy (cP p) (cL p bx) (cL p bY) vx vy X Y
abbrev InK (B : Nat) (G : List Nat) (w1 w : World) (gp gx gy : Nat) (p : S75) (bx bY vx vy : Value) (X : List S48) (Y : List S50) : Prop := Inn k48 k50 48 50 B G w1 w gp gx gy (cP p) (cK p bx) (cK p bY) vx vy X Y
def Mid (B : Nat) (G : List Nat) (w1 w : World) (gp gx gy : Nat) (p : S75) (X : S29) (j : Nat) : Prop :=
  (p.f0 = 4 ∧ ∃ vx vy, InL B G w1 w gp gx gy p vx vy vx vy (X.f4.take j) (cZ (X.f4.take j))) ∨ (¬ p.f0 = 4 ∧ ∃ vx vy, InK B G w1 w gp gx gy p vx vy vx vy (X.f5.take j) (dz (X.f5.take j)))
section
variable {B g2 g3 gp gx gy j : Nat} {G : List Nat} {w1 w w2 : World} {p : S75} {X : S29}
theorem Mid.below (h : Mid B G w1 w gp gx gy p X j) (hb : Below w.heap.size w w2) : Mid B G w1 w2 gp gx gy p X j :=
  h.imp (fun ⟨h4, vx, vy, h⟩ => ⟨h4, vx, vy, h.below hb⟩) (fun ⟨h4, vx, vy, h⟩ => ⟨h4, vx, vy, h.below hb⟩)
theorem Mid.more {g : Nat} (h : Mid B G w1 w gp gx gy p X j) (hg : w.heap.size ≤ g) (hb : Below w.heap.size w w2) (hg2 : g < w2.heap.size) : Mid B (g :: G) w1 w2 gp gx gy p X j :=
  h.imp (fun ⟨h4, vx, vy, h⟩ => ⟨h4, vx, vy, h.more hg hb hg2⟩) (fun ⟨h4, vx, vy, h⟩ => ⟨h4, vx, vy, h.more hg hb hg2⟩)
theorem Mid.less {G' : List Nat} (h : Mid B G w1 w gp gx gy p X j) (hG : ∀ g ∈ G', g ∈ G) (mp : gp ∈ G') (mx : gx ∈ G') (my : gy ∈ G') : Mid B G' w1 w gp gx gy p X j :=
  h.imp (fun ⟨h4, vx, vy, h⟩ => ⟨h4, vx, vy, h.less hG mp mx my⟩) (fun ⟨h4, vx, vy, h⟩ => ⟨h4, vx, vy, h.less hG mp mx my⟩)
theorem Mid.other {g : Nat} (h : Mid B G w1 w gp gx gy p X j) (hb : Below w1.heap.size w1 w2) (hk : ∀ k, k ≠ g → w2.heap[k]? = w.heap[k]?) (hs : w2.heap.size = w.heap.size) (hg : g ∈ G) (np : gp ≠ g) (nx : gx ≠ g) (ny : gy ≠ g) : Mid B G w1 w2 gp gx gy p X j :=
  h.imp (fun ⟨h4, vx, vy, h⟩ => ⟨h4, vx, vy, h.other hb hk hs hg np nx ny⟩) (fun ⟨h4, vx, vy, h⟩ => ⟨h4, vx, vy, h.other hb hk hs hg np nx ny⟩)
theorem Mid.b (h : Mid B G w1 w gp gx gy p X j) : Below w1.heap.size w1 w := h.elim (fun ⟨_, _, _, h⟩ => h.b) (fun ⟨_, _, _, h⟩ => h.b)
theorem Mid.hp (h : Mid B G w1 w gp gx gy p X j) : w.heap[gp]? = some (.cells (cP p) 75 (0, 0)) := h.elim (fun ⟨_, _, _, h⟩ => h.hp) (fun ⟨_, _, _, h⟩ => h.hp)
theorem Mid.lt (h : Mid B G w1 w gp gx gy p X j) : ∀ g ∈ G, g < w.heap.size := h.elim (fun ⟨_, _, _, h⟩ => h.lt) (fun ⟨_, _, _, h⟩ => h.lt)
theorem Mid.mem (h : Mid B G w1 w gp gx gy p X j) : gp ∈ G ∧ gx ∈ G ∧ gy ∈ G := h.elim (fun ⟨_, _, _, h⟩ => ⟨h.mp, h.mx, h.my⟩) (fun ⟨_, _, _, h⟩ => ⟨h.mp, h.mx, h.my⟩)
theorem Mid.made {M : List S29} (h : Mid B G w1 w gp gx gy p X j) (hX : bNew p M = some X) (hj : M.length ≤ j) (m2 : g2 ∈ G) (m3 : g3 ∈ G) : ∃ v4 v5 u4 u5, Made B g2 g3 w1 w gx gy X v4 v5 u4 u5 := by
  have hok : ∀ {k}, okG B G k → okG B [g2, g3] k := fun hk => mY (fun g hg => by
    simp only [List.mem_cons, List.not_mem_nil, or_false] at hg
    rcases hg with rfl | rfl
    · exact m2
    · exact m3) hk
  rcases h with ⟨h4, vx, vy, h⟩ | ⟨h4, vx, vy, h⟩
  · rw [bNew, if_pos h4] at hX
    obtain rfl := Option.some.inj hX
    have ht : M.take j = M := List.take_of_length_le hj
    have nx := h.nx
    have ny := h.ny
    simp only [ht] at nx ny
    exact ⟨vx, .slice none 0 0, vy, .slice none 0 0, h.b, h.hx, h.hy, Kd.N_V (Kd.dG nx (fun k hk => hok hk.1)), Kd.eT _ _ _ _ _, Kd.N_V (Kd.dG ny (fun k hk => hok hk.1)), Kd.eT _ _ _ _ _⟩
  · rw [bNew, if_neg h4] at hX
    obtain ⟨r, hr, hX⟩ := Option.bind_eq_some_iff.1 hX
    obtain rfl := Option.some.inj hX
    have ht : r.take j = r := List.take_of_length_le (by rw [j4 hr]; exact hj)
    have nx := h.nx
    have ny := h.ny
    simp only [ht] at nx ny
    exact ⟨.slice none 0 0, vx, .slice none 0 0, vy, h.b, h.hx, h.hy, Kd.eT _ _ _ _ _, Kd.N_V (Kd.dG nx (fun k hk => hok hk.1)), Kd.eT _ _ _ _ _, Kd.N_V (Kd.dG ny (fun k hk => hok hk.1))⟩
end
theorem uX {W : World} {ok : Nat → Prop} {b : Nat} {ad : Addr} {n c : Nat} {xs : List S29} (h : Kd.V k29 29 W b ok (.slice (some ad) n c) xs) (q : Nat) (hq : q < n) :
    ∃ A4 c4 A5 c5, (aH xs (q : Int)).f4.length ≤ c4 ∧ Kd.F k29 W ok A4 (aH xs (q : Int)).f4.length (aH xs (q : Int)).f4 ∧ (aH xs (q : Int)).f5.length ≤ c5 ∧ Kd.F k48 W ok A5 (aH xs (q : Int)).f5.length (aH xs (q : Int)).f5 ∧
      W.cell? (ad.add (q * 6)) = some (.int .i64 (aH xs (q : Int)).f0) ∧ W.cell? ⟨(ad.add (q * 6)).block, (ad.add (q * 6)).off + 1, none⟩ = some (.bool (aH xs (q : Int)).f1) ∧ W.cell? ⟨(ad.add (q * 6)).block, (ad.add (q * 6)).off + 2, none⟩ = some (.int .i64 (aH xs (q : Int)).f2) ∧ W.cell? ⟨(ad.add (q * 6)).block, (ad.add (q * 6)).off + 3, none⟩ = some (.string (aH xs (q : Int)).f3) ∧
      W.cell? ⟨(ad.add (q * 6)).block, (ad.add (q * 6)).off + 4, none⟩ = some (.slice A4 (aH xs (q : Int)).f4.length c4) ∧ W.cell? ⟨(ad.add (q * 6)).block, (ad.add (q * 6)).off + 5, none⟩ = some (.slice A5 (aH xs (q : Int)).f5.length c5) := by
  obtain ⟨cs, hcl, hFK, hc0⟩ := Kd.jO h z29 (q : Int) (by omega) (by omega)
  obtain ⟨A4, c4, A5, c5, rfl, l4, F4, l5, F5⟩ := j3 hFK
  simp only [Int.toNat_natCast] at hc0
  have hc : ∀ (j : Nat) (u : Value), ([.int .i64 (aH xs (q : Int)).f0, .bool (aH xs (q : Int)).f1, .int .i64 (aH xs (q : Int)).f2, .string (aH xs (q : Int)).f3, .slice A4 (aH xs (q : Int)).f4.length c4, .slice A5 (aH xs (q : Int)).f5.length c5] : List Value)[j]? = some u → W.cell? (ad.add (q * 6 + j)) = some u := hc0
  exact ⟨A4, c4, A5, c5, l4, F4, l5, F5, hc 0 _ rfl, by rw [← bN _ _ 1 (by omega)]; exact hc 1 _ rfl, by rw [← bN _ _ 2 (by omega)]; exact hc 2 _ rfl, by rw [← bN _ _ 3 (by omega)]; exact hc 3 _ rfl, by rw [← bN _ _ 4 (by omega)]; exact hc 4 _ rfl, by rw [← bN _ _ 5 (by omega)]; exact hc 5 _ rfl⟩
theorem uY {W : World} {ok : Nat → Prop} {b : Nat} {ad : Addr} {n c : Nat} {xs : List S33} (h : Kd.V k33 33 W b ok (.slice (some ad) n c) xs) (q : Nat) (hq : q < n) :
    ∃ A4 c4 A5 c5, (bG xs (q : Int)).f4.length ≤ c4 ∧ Kd.F k33 W ok A4 (bG xs (q : Int)).f4.length (bG xs (q : Int)).f4 ∧ (bG xs (q : Int)).f5.length ≤ c5 ∧ Kd.F k50 W ok A5 (bG xs (q : Int)).f5.length (bG xs (q : Int)).f5 ∧
      W.cell? (ad.add (q * 6)) = some (.int .i64 (bG xs (q : Int)).f0) ∧ W.cell? ⟨(ad.add (q * 6)).block, (ad.add (q * 6)).off + 1, none⟩ = some (.bool (bG xs (q : Int)).f1) ∧ W.cell? ⟨(ad.add (q * 6)).block, (ad.add (q * 6)).off + 2, none⟩ = some (.int .i64 (bG xs (q : Int)).f2) ∧ W.cell? ⟨(ad.add (q * 6)).block, (ad.add (q * 6)).off + 3, none⟩ = some (.string (bG xs (q : Int)).f3) ∧
      W.cell? ⟨(ad.add (q * 6)).block, (ad.add (q * 6)).off + 4, none⟩ = some (.slice A4 (bG xs (q : Int)).f4.length c4) ∧ W.cell? ⟨(ad.add (q * 6)).block, (ad.add (q * 6)).off + 5, none⟩ = some (.slice A5 (bG xs (q : Int)).f5.length c5) := by
  obtain ⟨cs, hcl, hFK, hc0⟩ := Kd.jO h z33 (q : Int) (by omega) (by omega)
  obtain ⟨A4, c4, A5, c5, rfl, l4, F4, l5, F5⟩ := rA hFK
  simp only [Int.toNat_natCast] at hc0
  have hc : ∀ (j : Nat) (u : Value), ([.int .i64 (bG xs (q : Int)).f0, .bool (bG xs (q : Int)).f1, .int .i64 (bG xs (q : Int)).f2, .string (bG xs (q : Int)).f3, .slice A4 (bG xs (q : Int)).f4.length c4, .slice A5 (bG xs (q : Int)).f5.length c5] : List Value)[j]? = some u → W.cell? (ad.add (q * 6 + j)) = some u := hc0
  exact ⟨A4, c4, A5, c5, l4, F4, l5, F5, hc 0 _ rfl, by rw [← bN _ _ 1 (by omega)]; exact hc 1 _ rfl, by rw [← bN _ _ 2 (by omega)]; exact hc 2 _ rfl, by rw [← bN _ _ 3 (by omega)]; exact hc 3 _ rfl, by rw [← bN _ _ 4 (by omega)]; exact hc 4 _ rfl, by rw [← bN _ _ 5 (by omega)]; exact hc 5 _ rfl⟩
theorem gM {α : Type} {d : Kd α} {w1 W : World} {ok : Nat → Prop} {A : Option Addr} {n : Nat} {xs : List α} (h : Kd.F d w1 ok A n xs) (hb : Below w1.heap.size w1 W) : Kd.F d W (fun k => ok k ∧ k < w1.heap.size) A n xs := Kd.om (Kd.oh h) (fun k hk _ => hb.block k hk.2)
theorem wO : (Tryd.prog.info? 48).map (fun i => (i.zero, i.size, i.bytes)) = some (some (.agg #[(.string ⟨#[]⟩), (.int .i64 0), (.bool false), (.int .i64 0), (.string ⟨#[]⟩), (.slice none 0 0), (.slice none 0 0)]), 7, 104) := by kernel_rfl
theorem wP : (Tryd.prog.info? 50).map (fun i => (i.zero, i.size, i.bytes)) = some (some (.agg #[(.string ⟨#[]⟩), (.int .i64 0), (.bool false), (.int .i64 0), (.string ⟨#[]⟩), (.slice none 0 0), (.slice none 0 0)]), 7, 104) := by kernel_rfl
section
variable {B g2 g3 gp gx gy j : Nat} {G : List Nat} {w1 w w2 : World} {p : S75} {X : S29}
theorem Mid.tx (h : Mid B G w1 w gp gx gy p X j) : ∃ cs, w.heap[gx]? = some (.cells cs 29 (0, 0)) := h.elim (fun ⟨_, _, _, h⟩ => ⟨_, h.hx⟩) (fun ⟨_, _, _, h⟩ => ⟨_, h.hx⟩)
theorem Mid.ty (h : Mid B G w1 w gp gx gy p X j) : ∃ cs, w.heap[gy]? = some (.cells cs 33 (0, 0)) := h.elim (fun ⟨_, _, _, h⟩ => ⟨_, h.hy⟩) (fun ⟨_, _, _, h⟩ => ⟨_, h.hy⟩)
theorem Mid.ge (h : Mid B G w1 w gp gx gy p X j) : w1.heap.size ≤ gp ∧ w1.heap.size ≤ gx ∧ w1.heap.size ≤ gy := h.elim (fun ⟨_, _, _, h⟩ => ⟨h.ep, h.ex, h.ey⟩) (fun ⟨_, _, _, h⟩ => ⟨h.ep, h.ex, h.ey⟩)
theorem Mid.xL {gv : Nat} {c0 c1 c2 c3 c4 c5 : Value} (v0 v1 v2 v3 v4 v5 : Value) (h : Mid B G w1 w gp gx gy p X j) (hv : w.heap[gv]? = some (.cells #[c0, c1, c2, c3, c4, c5] 29 (0, 0))) (hm : gv ∈ G) (hg : w1.heap.size ≤ gv) (hn : gv ≠ gx) :
    ∃ w9, ((((((w.setCell ⟨gv, 0, none⟩ v0).setCell ⟨gv, 1, none⟩ v1).setCell ⟨gv, 2, none⟩ v2).setCell ⟨gv, 3, none⟩ v3).setCell ⟨gv, 4, none⟩ v4).setCell ⟨gv, 5, none⟩ v5) = w9 ∧ Mid B G w1 w9 gp gx gy p X j ∧ w9.heap[gv]? = some (.cells #[v0, v1, v2, v3, v4, v5] 29 (0, 0)) ∧ (∀ k, k ≠ gv → w9.heap[k]? = w.heap[k]?) := by
  obtain ⟨w9, e, h1, h2, h3, h4⟩ := lX v0 v1 v2 v3 v4 v5 h.b hv hg
  obtain ⟨_, ty⟩ := h.ty
  exact ⟨w9, e, h.other h2 h3 h4 hm (iN h.hp hv (by decide)) hn.symm (iN ty hv (by decide)), h1, h3⟩
theorem Mid.setW {gv : Nat} {c0 c1 c2 c3 c4 c5 : Value} (v0 v1 v2 v3 v4 v5 : Value) (h : Mid B G w1 w gp gx gy p X j) (hv : w.heap[gv]? = some (.cells #[c0, c1, c2, c3, c4, c5] 33 (0, 0))) (hm : gv ∈ G) (hg : w1.heap.size ≤ gv) (hn : gv ≠ gy) :
    ∃ w9, ((((((w.setCell ⟨gv, 0, none⟩ v0).setCell ⟨gv, 1, none⟩ v1).setCell ⟨gv, 2, none⟩ v2).setCell ⟨gv, 3, none⟩ v3).setCell ⟨gv, 4, none⟩ v4).setCell ⟨gv, 5, none⟩ v5) = w9 ∧ Mid B G w1 w9 gp gx gy p X j ∧ w9.heap[gv]? = some (.cells #[v0, v1, v2, v3, v4, v5] 33 (0, 0)) ∧ (∀ k, k ≠ gv → w9.heap[k]? = w.heap[k]?) := by
  obtain ⟨w9, e, h1, h2, h3, h4⟩ := lX v0 v1 v2 v3 v4 v5 h.b hv hg
  obtain ⟨_, tx⟩ := h.tx
  exact ⟨w9, e, h.other h2 h3 h4 hm (iN h.hp hv (by decide)) (iN tx hv (by decide)) hn.symm, h1, h3⟩
end
theorem mg {α : Type} {d : Kd α} {e base : Nat} {w : World} {ok ok1 xU : Nat → Prop} {v : Value} {xs : List α} (h : Kd.N d e w base (fun k => (ok k ∧ ok1 k) ∧ xU k) v xs) : Kd.N d e w base (fun k => (ok k ∧ xU k) ∧ ok1 k) v xs := Kd.dG h (fun _ hk => ⟨⟨hk.1.1, hk.2⟩, hk.1.2⟩)
theorem rD {p : S75} {la : List S29} {m j q : Nat} {X v : S29} {u : S33} (hX : bNew p (la.drop m) = some X) (h4 : p.f0 = 4) (hq : m + j = q) (hn : q < la.length) (hv : aH la (q : Int) = v) (hu : bG (cZ la) (q : Int) = u) :
    X.f4.take (j + 1) = X.f4.take j ++ [v] ∧ cZ (X.f4.take (j + 1)) = cZ (X.f4.take j) ++ [u] := by
  rw [bNew, if_pos h4] at hX
  obtain rfl := Option.some.inj hX
  have h1 : (la.drop m).take (j + 1) = (la.drop m).take j ++ [v] := nR (by rw [rd_some (by rw [List.length_drop]; omega), qG, hq, hv])
  refine ⟨h1, ?_⟩
  show cZ ((la.drop m).take (j + 1)) = cZ ((la.drop m).take j) ++ [u]
  rw [h1, lU, ← hu, kV, hv]; rfl
theorem rE {p : S75} {la : List S29} {m j q : Nat} {X v : S29} {u : S33} (hX : bNew p (la.drop m) = some X) (h4 : ¬ p.f0 = 4) (hq : m + j = q) (hn : q < la.length) (hv : aH la (q : Int) = v) (hu : bG (cZ la) (q : Int) = u) :
    ∃ s, eF.f p.f0 p.f1 p.f2 p.f3 p.f4 (j : Int) = some s ∧ X.f5.take (j + 1) = X.f5.take j ++ [(⟨s, v⟩ : S48)] ∧ dz (X.f5.take (j + 1)) = dz (X.f5.take j) ++ [(⟨s, u⟩ : S50)] := by
  rw [bNew, if_neg h4] at hX
  obtain ⟨r, hr, hX⟩ := Option.bind_eq_some_iff.1 hX
  obtain rfl := Option.some.inj hX
  obtain ⟨s, hs, hrj⟩ := pq j hr (by rw [List.length_drop]; omega)
  rw [Int.zero_add] at hs
  rw [qG, hq, hv] at hrj
  have h1 := nR hrj
  refine ⟨s, hs, h1, ?_⟩
  show dz (r.take (j + 1)) = dz (r.take j) ++ [(⟨s, u⟩ : S50)]
  rw [h1, o8, ← hu, kV, hv]; rfl
theorem sQ {p : S75} {M : List S29} {X : S29} (hX : bNew p M = some X) : X.f4.length ≤ M.length ∧ X.f5.length ≤ M.length := by
  by_cases h4 : p.f0 = 4
  · rw [bNew, if_pos h4] at hX
    obtain rfl := Option.some.inj hX
    exact ⟨Nat.le_refl _, Nat.zero_le _⟩
  · rw [bNew, if_neg h4] at hX
    obtain ⟨r, hr, hX⟩ := Option.bind_eq_some_iff.1 hX
    obtain rfl := Option.some.inj hX
    exact ⟨Nat.zero_le _, by show r.length ≤ _; rw [j4 hr]; exact Nat.le_refl _⟩
theorem uZ {B g2 g3 gp gx gy gv gw : Nat} {w1 : World} (h1 : w1.heap.size ≤ gp ∧ w1.heap.size ≤ gx ∧ w1.heap.size ≤ gy) (h2 : w1.heap.size ≤ gv) (h3 : w1.heap.size ≤ gw) : ∀ k, okG B [g2, g3] k ∧ k < w1.heap.size → okG B [gv, gw, gp, gx, gy, g2, g3] k := by
  intro k ⟨hk, hlt⟩
  refine ⟨hk.1, fun hg => ?_⟩
  have h := hk.2
  simp only [List.mem_cons, List.not_mem_nil, or_false] at hg h
  omega
theorem j5 {w w' : World} {ad : Addr} {n : Nat} {v : Value} (hb : w'.heap[ad.block]? = w.heap[ad.block]?) (h : w.cell? (ad.add n) = some v) : w'.cell? (ad.add n) = some v :=
  (World.cell?_of_block (a := ad.add n) (by rw [add_block]; exact hb)).trans h
theorem dN {w w' : World} {ad : Addr} {n o : Nat} {v : Value} (hb : w'.heap[ad.block]? = w.heap[ad.block]?) (h : w.cell? ⟨(ad.add n).block, o, none⟩ = some v) : w'.cell? ⟨(ad.add n).block, o, none⟩ = some v :=
  (World.cell?_of_block (a := ⟨(ad.add n).block, o, none⟩) (by show w'.heap[(ad.add n).block]? = w.heap[(ad.add n).block]?; rw [add_block]; exact hb)).trans h
theorem u6 {α : Type} {d : Kd α} {e b n c : Nat} {W : World} {ok : Nat → Prop} {ad : Addr} {xs : List α} (h : Kd.V d e W b ok (.slice (some ad) n c) xs) (z : α) (hn : 0 < n) (hs : 0 < d.sz) : ok ad.block := by
  obtain ⟨ad', c', he, _, _, _, hk⟩ := Kd.su (Kd.V_F h) z 0 (Int.le_refl _) (by omega)
  injection he with he
  subst he
  exact hk hs
theorem sS {la : List S29} {q : Nat} (h : la.length - 1 = q) : o9 la = aH la (q : Int) := by
  unfold o9 aH
  rw [Int.toNat_natCast, h]
theorem qH {α : Type} {d : Kd α} {e b c g2 g3 B : Nat} {W W1 W2 : World} {A : Option Addr} {xs : List α} (hl : xs.length ≤ c) (h : Kd.F d W (okG B [g2, g3]) A xs.length xs) (h1 : ∀ k, k ≠ g2 → W1.heap[k]? = W.heap[k]?) (h2 : ∀ k, k ≠ g3 → W2.heap[k]? = W1.heap[k]?) : Kd.V d e W2 b (fun k => B ≤ k) (.slice A xs.length c) xs :=
  Kd.bI (Kd.jc hl (Kd.om h (fun k hk _ => by
    have z := hk.2
    simp only [List.mem_cons, List.not_mem_nil, or_false, not_or] at z
    exact (h2 k z.2).trans (h1 k z.1)))) (fun k hk => hk.1)
end Go.Proofs.YtnkkbiabloodaaaDoor.GVa
