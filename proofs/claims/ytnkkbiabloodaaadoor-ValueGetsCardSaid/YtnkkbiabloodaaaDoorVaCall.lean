/- The calls of ValueGets, told by values: what they read is there, what they hand back is read. No conditions beside those stated. -/
import Derived.Test.YtnkkbiabloodaaaDoorVaGets
import Derived.Test.YtnkkbiabloodaaaDoorGVaBuild
import Derived.Test.YtnkkbiabloodaaaDoorGVax2
namespace Go.Proofs.YtnkkbiabloodaaaDoor.GVa
open Go.RowKit Go.Proofs.YtnkkbiabloodaaaDoorW.PrintWords Go.Proofs.YtnkkbiabloodaaaDoorW.PrintLast Go.Proofs.YtnkkbiabloodaaaDoorW.PrintMore
set_option linter.unusedVariables false
set_option linter.unusedSimpArgs false
abbrev yes : Nat → Prop := fun _ => True
structure VV (w : World) (x : SV) (A4 : Option Addr) (c4 : Nat) (A5 : Option Addr) (c5 : Nat) : Prop where
  a : Kd.V k29 29 w 0 yes (.slice A4 x.f4.length c4) x.f4
  b : Kd.V k48 48 w 0 yes (.slice A5 x.f5.length c5) x.f5
structure RR (w : World) (x : SV) (A4 : Option Addr) (c4 : Nat) (A5 : Option Addr) (c5 : Nat) : Prop where
  a : Kd.V k33 33 w 0 yes (.slice A4 (cZ x.f4).length c4) (cZ x.f4)
  b : Kd.V k50 50 w 0 yes (.slice A5 (dz x.f5).length c5) (dz x.f5)
abbrev vc (x : SV) (A4 : Option Addr) (c4 : Nat) (A5 : Option Addr) (c5 : Nat) : Array Value := #[.int .i64 x.f0, .bool x.f1, .int .i64 x.f2, .string x.f3, .slice A4 x.f4.length c4, .slice A5 x.f5.length c5]
abbrev rc (x : SV) (A4 : Option Addr) (c4 : Nat) (A5 : Option Addr) (c5 : Nat) : Array Value := #[.int .i64 x.f0, .bool x.f1, .int .i64 x.f2, .string x.f3, .slice A4 (cZ x.f4).length c4, .slice A5 (dz x.f5).length c5]
section
variable {w w' : World} {x X : SV} {A4 B4 : Option Addr} {c4 d4 : Nat} {A5 B5 : Option Addr} {c5 d5 n k : Nat}
theorem VV.below (h : VV w x A4 c4 A5 c5) (hb : Below w.heap.size w w') : VV w' x A4 c4 A5 c5 := ⟨Kd.bB h.a hb, Kd.bB h.b hb⟩
theorem RR.below (h : RR w x A4 c4 A5 c5) (hb : Below w.heap.size w w') : RR w' x A4 c4 A5 c5 := ⟨Kd.bB h.a hb, Kd.bB h.b hb⟩
theorem kg {α : Type} {d : Kd α} {e b : Nat} {ok : Nat → Prop} {v : Value} {xs : List α} (h : Kd.V d e w b ok v xs) : ∃ A c, v = .slice A xs.length c ∧ Kd.V d e w 0 yes (.slice A xs.length c) xs := by
  obtain ⟨A, c, rfl⟩ := Kd.dJ h
  exact ⟨A, c, rfl, Kd.bI (base := 0) h (fun _ _ => trivial)⟩
theorem iy (hx : Ok n x) (hn : n ≤ 100) (hk : 1000000 ≤ k) (h : VV w x A4 c4 A5 c5) :
    Calls Tryd.prog 14 #[.agg (vc x A4 c4 A5 c5)] w fun e w' => ∃ B4 d4 B5 d5, e = .returned (.agg (rc x B4 d4 B5 d5)) ∧ RR w' x B4 d4 B5 d5 ∧ Below w.heap.size w w' := by
  refine (aW.calls k x.f0 x.f1 x.f2 x.f3 A4 c4 x.f4 A5 c5 x.f5 _ _ _ _ _ _ w (Kd.bM h.a).2.2 (Kd.bM h.a).2.1 (Kd.bM h.b).2.2 (Kd.bM h.b).2.1 (wU n x hx k (by omega))).mono ?_
  rintro e w' ⟨v4, v5, rfl, h4, h5, hb⟩
  obtain ⟨B4, d4, rfl, g4⟩ := kg (Kd.R_V (base' := 0) h4)
  obtain ⟨B5, d5, rfl, g5⟩ := kg (Kd.R_V (base' := 0) h5)
  exact ⟨B4, d4, B5, d5, rfl, ⟨g4, g5⟩, hb⟩
theorem iU (hx : Ok n x) (hn : n ≤ 100) (hk : 1000000 ≤ k) (h : RR w x A4 c4 A5 c5) (g : RR w x B4 d4 B5 d5) :
    Calls Tryd.prog 13 #[.agg (rc x A4 c4 A5 c5), .agg (rc x B4 d4 B5 d5)] w fun e w' => e = .returned (.bool true) ∧ Below w.heap.size w w' :=
  aJ.calls k x.f0 x.f1 x.f2 x.f3 A4 c4 _ A5 c5 _ x.f0 x.f1 x.f2 x.f3 B4 d4 _ B5 d5 _ true w (Kd.bM h.a).2.2 (Kd.bM h.a).2.1 (Kd.bM h.b).2.2 (Kd.bM h.b).2.1 (Kd.bM g.a).2.2 (Kd.bM g.a).2.1 (Kd.bM g.b).2.2 (Kd.bM g.b).2.1 ((vQ n x x hx hx k (by omega)).trans (congrArg some (qM n x hx)))
theorem tO {key : ByteArray} {b : Bool} (h : VV w x A4 c4 A5 c5) (hg : bP.f k x.f0 x.f1 x.f2 x.f3 x.f4 x.f5 key = some (X.f0, X.f1, X.f2, X.f3, X.f4, X.f5, b)) :
    Calls Tryd.prog 11 #[.agg (vc x A4 c4 A5 c5), .string key] w fun e w' => ∃ B4 d4 B5 d5, e = .returned (.tuple #[.agg (vc X B4 d4 B5 d5), .bool b]) ∧ VV w' X B4 d4 B5 d5 ∧ Below w.heap.size w w' := by
  refine (bP.calls k x.f0 x.f1 x.f2 x.f3 A4 c4 x.f4 yes A5 c5 x.f5 key _ _ _ _ _ _ _ w (Kd.bM h.a).2.2 (Kd.bM h.a).2.1 h.b hg).mono ?_
  rintro e w' ⟨v4, v5, rfl, h4, h5, hb⟩
  obtain ⟨B4, d4, rfl, g4⟩ := kg h4
  obtain ⟨B5, d5, rfl, g5⟩ := kg h5
  exact ⟨B4, d4, B5, d5, rfl, ⟨g4, g5⟩, hb⟩
theorem rF {key : ByteArray} {b : Bool} (h : RR w x A4 c4 A5 c5) (hg : bT.f k x.f0 x.f1 x.f2 x.f3 (cZ x.f4) (dz x.f5) key = some (X.f0, X.f1, X.f2, X.f3, cZ X.f4, dz X.f5, b)) :
    Calls Tryd.prog 12 #[.agg (rc x A4 c4 A5 c5), .string key] w fun e w' => ∃ B4 d4 B5 d5, e = .returned (.tuple #[.agg (rc X B4 d4 B5 d5), .bool b]) ∧ RR w' X B4 d4 B5 d5 ∧ Below w.heap.size w w' := by
  refine (bT.calls k x.f0 x.f1 x.f2 x.f3 A4 c4 _ yes A5 c5 _ key _ _ _ _ _ _ _ w (Kd.bM h.a).2.2 (Kd.bM h.a).2.1 h.b hg).mono ?_
  rintro e w' ⟨v4, v5, rfl, h4, h5, hb⟩
  obtain ⟨B4, d4, rfl, g4⟩ := kg h4
  obtain ⟨B5, d5, rfl, g5⟩ := kg h5
  exact ⟨B4, d4, B5, d5, rfl, ⟨g4, g5⟩, hb⟩
theorem ql {l : List S75} {A : Option Addr} {c : Nat} (hr : Kd.C k75 w A l.length l) (hc : l.length ≤ c) (h : qd l = some x) :
    Calls Tryd.prog 10 #[.slice A l.length c] w fun e w' => ∃ A4 c4 A5 c5 B4 d4 B5 d5, e = .returned (.tuple #[.agg (vc x A4 c4 A5 c5), .agg (rc x B4 d4 B5 d5)]) ∧ VV w' x A4 c4 A5 c5 ∧ RR w' x B4 d4 B5 d5 ∧ Below w.heap.size w w' := by
  refine (aZ.calls A c l _ _ _ _ _ _ _ _ _ _ _ _ w hr hc (show aZ.f l = some (x.f0, x.f1, x.f2, x.f3, x.f4, x.f5, x.f0, x.f1, x.f2, x.f3, cZ x.f4, dz x.f5) by rw [aZ.f, h]; rfl)).mono ?_
  rintro e w' ⟨v4, v5, v6, v7, rfl, h4, h5, h6, h7, hb⟩
  obtain ⟨A4, c4, rfl, g4⟩ := kg h4
  obtain ⟨A5, c5, rfl, g5⟩ := kg h5
  obtain ⟨B4, d4, rfl, g6⟩ := kg h6
  obtain ⟨B5, d5, rfl, g7⟩ := kg h7
  exact ⟨A4, c4, A5, c5, B4, d4, B5, d5, rfl, ⟨g4, g5⟩, ⟨g6, g7⟩, hb⟩
def flat (a : Int) (b : Bool) (c : Int) (d : ByteArray) : SV := ⟨a, b, c, d, [], []⟩
theorem RR.nil (a : Int) (b : Bool) (c : Int) (d : ByteArray) : RR w (flat a b c d) none 0 none 0 := ⟨Kd.eT _ _ _ _ _, Kd.eT _ _ _ _ _⟩
theorem lM {f : Nat} {args : Array Value} {a : Int} {b : Bool} {c : Int} {d : ByteArray}
    (h : Calls Tryd.prog f args w fun e w' => ∃ xS xU : Value, e = .returned (.agg #[.int .i64 a, .bool b, .int .i64 c, .string d, xS, xU]) ∧ Kd.R k29 29 w' w.heap.size (fun k_ => some k_ ≠ (xU : Value).ownBlock) xS [] ∧ Kd.R k48 48 w' w.heap.size (fun k_ => some k_ ≠ (xS : Value).ownBlock) xU [] ∧ Below w.heap.size w w') :
    Calls Tryd.prog f args w fun e w' => ∃ A4 c4 A5 c5, e = .returned (.agg (vc (flat a b c d) A4 c4 A5 c5)) ∧ VV w' (flat a b c d) A4 c4 A5 c5 ∧ Below w.heap.size w w' := by
  refine h.mono ?_
  rintro e w' ⟨v4, v5, rfl, h4, h5, hb⟩
  obtain ⟨A4, c4, rfl, g4⟩ := kg (Kd.R_V (base' := 0) h4)
  obtain ⟨A5, c5, rfl, g5⟩ := kg (Kd.R_V (base' := 0) h5)
  exact ⟨A4, c4, A5, c5, rfl, ⟨g4, g5⟩, hb⟩
theorem nC {A : Option Addr} {c : Nat} {l : List SV} (hl : l.length ≤ 1000) (h : Kd.V k29 29 w 0 yes (.slice A l.length c) l) :
    Calls Tryd.prog 18 #[.slice A l.length c] w fun e w' => ∃ A4 c4 A5 c5, e = .returned (.agg (vc ⟨4, false, 0, ⟨#[]⟩, l, []⟩ A4 c4 A5 c5)) ∧ VV w' ⟨4, false, 0, ⟨#[]⟩, l, []⟩ A4 c4 A5 c5 ∧ Below w.heap.size w w' := by
  refine (gB.calls yes A c l 4 false 0 ⟨#[]⟩ l [] w h (by rw [gB.f, fP.f, if_pos (by omega)]; rfl)).mono ?_
  rintro e w' ⟨v4, v5, rfl, h4, h5, hb⟩
  obtain ⟨A4, c4, rfl, g4⟩ := kg h4
  obtain ⟨A5, c5, rfl, g5⟩ := kg (Kd.R_V (base' := 0) h5)
  exact ⟨A4, c4, A5, c5, rfl, ⟨g4, g5⟩, hb⟩
theorem nD {A : Option Addr} {c : Nat} {l : List SP} (hl : l.length ≤ 1000) (h : Kd.V k48 48 w 0 yes (.slice A l.length c) l) :
    Calls Tryd.prog 19 #[.slice A l.length c] w fun e w' => ∃ A4 c4 A5 c5, e = .returned (.agg (vc ⟨5, false, 0, ⟨#[]⟩, [], l⟩ A4 c4 A5 c5)) ∧ VV w' ⟨5, false, 0, ⟨#[]⟩, [], l⟩ A4 c4 A5 c5 ∧ Below w.heap.size w w' := by
  refine (gV.calls yes A c l 5 false 0 ⟨#[]⟩ [] l w h (by rw [gV.f, fQ.f, if_pos (by omega)]; rfl)).mono ?_
  rintro e w' ⟨v4, v5, rfl, h4, h5, hb⟩
  obtain ⟨A4, c4, rfl, g4⟩ := kg (Kd.R_V (base' := 0) h4)
  obtain ⟨A5, c5, rfl, g5⟩ := kg h5
  exact ⟨A4, c4, A5, c5, rfl, ⟨g4, g5⟩, hb⟩
theorem VV.fk (h : VV w x A4 c4 A5 c5) : Kd.FK k29 w yes x [.int .i64 x.f0, .bool x.f1, .int .i64 x.f2, .string x.f3, .slice A4 x.f4.length c4, .slice A5 x.f5.length c5] :=
  iI w yes x (Kd.bM h.a).2.1 (Kd.V_F h.a) (Kd.bM h.b).2.1 (Kd.V_F h.b)
theorem VV.fp (h : VV w x A4 c4 A5 c5) (key : ByteArray) : Kd.FK k48 w yes (⟨key, x⟩ : S48) [.string key, .int .i64 x.f0, .bool x.f1, .int .i64 x.f2, .string x.f3, .slice A4 x.f4.length c4, .slice A5 x.f5.length c5] :=
  qC w yes (⟨key, x⟩ : S48) (Kd.bM h.a).2.1 (Kd.V_F h.a) (Kd.bM h.b).2.1 (Kd.V_F h.b)
theorem RR.fk (h : RR w x A4 c4 A5 c5) : Kd.FK k33 w yes (toR x) [.int .i64 x.f0, .bool x.f1, .int .i64 x.f2, .string x.f3, .slice A4 (cZ x.f4).length c4, .slice A5 (dz x.f5).length c5] := by
  rw [lI]
  exact jF w yes (⟨x.f0, x.f1, x.f2, x.f3, cZ x.f4, dz x.f5⟩ : S33) (Kd.bM h.a).2.1 (Kd.V_F h.a) (Kd.bM h.b).2.1 (Kd.V_F h.b)
theorem RR.fp (h : RR w x A4 c4 A5 c5) (key : ByteArray) : Kd.FK k50 w yes (⟨key, toR x⟩ : S50) [.string key, .int .i64 x.f0, .bool x.f1, .int .i64 x.f2, .string x.f3, .slice A4 (cZ x.f4).length c4, .slice A5 (dz x.f5).length c5] := by
  rw [lI]
  exact qE w yes (⟨key, ⟨x.f0, x.f1, x.f2, x.f3, cZ x.f4, dz x.f5⟩⟩ : S50) (Kd.bM h.a).2.1 (Kd.V_F h.a) (Kd.bM h.b).2.1 (Kd.V_F h.b)
def iL (x X : SV) : SV := ⟨4, false, 0, ⟨#[]⟩, [x, X], []⟩
def iM (key : ByteArray) (x : SV) : SV := ⟨5, false, 0, ⟨#[]⟩, [], [⟨key, x⟩]⟩
theorem RR.row {A : Option Addr} {c : Nat} (h : Kd.V k33 33 w 0 yes (.slice A [toR x, toR X].length c) [toR x, toR X]) : RR w (iL x X) A c none 0 := by
  have e : cZ (iL x X).f4 = [toR x, toR X] := by show cZ [x, X] = _; rw [cZ, cZ, cZ]
  exact ⟨e.symm ▸ h, Kd.eT _ _ _ _ _⟩
theorem RR.map {key : ByteArray} {A : Option Addr} {c : Nat} (h : Kd.V k50 50 w 0 yes (.slice A [(⟨key, toR x⟩ : S50)].length c) [(⟨key, toR x⟩ : S50)]) : RR w (iM key x) none 0 A c := by
  have e : dz (iM key x).f5 = [(⟨key, toR x⟩ : S50)] := by show dz [⟨key, x⟩] = _; rw [dz, dz]
  exact ⟨Kd.eT _ _ _ _ _, e.symm ▸ h⟩
theorem vW (hx : Ok 82 x) (hX : Ok 82 X) : Ok 83 (iL x X) := ⟨by show (0 : Nat) ≤ _; omega, by show (2 : Nat) ≤ _; omega, by show (0 : Nat) ≤ _; omega, fun v hv => (by
    rcases List.mem_cons.1 hv with rfl | hv
    · exact hx
    · rw [List.mem_singleton.1 hv]; exact hX), fun q hq => (by cases hq)⟩
theorem vX {key : ByteArray} (hx : Ok 82 x) (h : key.size ≤ 100000) : Ok 83 (iM key x) := ⟨by show (0 : Nat) ≤ _; omega, by show (0 : Nat) ≤ _; omega, by show (1 : Nat) ≤ _; omega, fun v hv => (by cases hv), fun q hq => (by
    rw [List.mem_singleton.1 hq]; exact ⟨h, hx⟩)⟩
def bA.Good (k : Nat) (l : List S75) (key : ByteArray) : Prop :=
  3000000 ≤ k ∧ ((∃ s, bJ.f k l = some s ∧ (s = false ∨ 5000 < key.size)) ∨ (bJ.f k l = some true ∧ key.size ≤ 5000 ∧ ∃ x, qd l = some x ∧ Ok 82 x))
end
end Go.Proofs.YtnkkbiabloodaaaDoor.GVa
