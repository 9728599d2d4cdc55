/- upgrade: each of a list, made another thing; a state of version 1 made one of version 2, of version 2 one of version 3: contracts. No conditions beside those stated. -/
import Derived.Test.YtpncpefppifgdaaGreatDoorCp
import Derived.Laws.Cover3
namespace Go.Proofs.YtpncpefppifgdaaGreatDoor.GUt
open Go.RowKit Go.Proofs.YtpncpefppifgdaaGreatDoorW.PrintWords Go.Proofs.YtpncpefppifgdaaGreatDoorW.PrintLast Go.Proofs.YtpncpefppifgdaaGreatDoorW.PrintMore
set_option linter.unusedVariables false
set_option linter.unusedSimpArgs false
theorem yA : (Tryz.prog.info? 71).map (fun i => (i.zero, i.size, i.bytes)) = some (some (.agg #[.string ⟨#[]⟩, .string ⟨#[]⟩, .string ⟨#[]⟩, .int .u8 0, .int .u16 0, .slice none 0 0]), 6, 80) := by kernel_rfl
theorem yB : (Tryz.prog.info? 79).map (fun i => (i.zero, i.size, i.bytes)) = some (some (.agg #[.string ⟨#[]⟩, .string ⟨#[]⟩, .string ⟨#[]⟩, .int .i64 0, .int .i64 0, .bool false, .slice none 0 0]), 7, 96) := by kernel_rfl
theorem yC : (Tryz.prog.info? 84).map (fun i => (i.zero, i.size, i.bytes)) = some (some (.agg #[.string ⟨#[]⟩, .string ⟨#[]⟩, .slice none 0 0, .slice none 0 0, .int .i64 0, .int .i64 0, .slice none 0 0]), 7, 120) := by kernel_rfl
def jq (x : S67) : S71 := ⟨x.f0, x.f1, ⟨#[100, 101, 102, 97, 117, 108, 116]⟩, x.f3, 30, [⟨⟨#[109, 97, 105, 110]⟩, x.f2⟩]⟩
def kJ (x : S73) : S84 := ⟨x.f0, x.f1, [], [], 100, 64, []⟩
def iH (x : S71) : S79 := ⟨x.f0, ⟨x.f1, x.f2, wrap64 x.f3, wrap64 x.f4, false, x.f5.map kJ⟩⟩
abbrev Own {α : Type} (d : Kd α) (e : Nat) (w W : World) (v : Value) (xs : List α) : Prop := Kd.N d e W w.heap.size (fun k_ => w.heap.size ≤ k_) v xs
abbrev wO {α : Type} (d : Kd α) (e : Nat) (w W : World) (v : Value) (xs : List α) : Prop := Kd.V d e W w.heap.size (fun k_ => w.heap.size ≤ k_) v xs
theorem oM {α : Type} {d : Kd α} {e : Nat} {w W : World} {v : Value} {xs : List α} (h : Own d e w W v xs) (hs : w.heap.size ≤ W.heap.size) : ∀ k, W.heap.size ≤ k → w.heap.size ≤ k ∧ some k ≠ v.ownBlock := fun k hk =>
  ⟨Nat.le_trans hs hk, fun e => by have := Kd.Af h k e.symm; omega⟩
theorem oN (w : World) (o o' : Obj) : ((w.alloc o).alloc o').heap[w.heap.size + 1]? = some o' := by have q := heap_alloc_new (w.alloc o) o'; simpa using q
set_option maxHeartbeats 4000000 in
set_option maxRecDepth 100000 in
theorem Bo.calls (x : S67) (w : World) :
    Calls Tryz.prog 30 #[.agg #[.string x.f0, .string x.f1, .string x.f2, .int .u8 x.f3]] w fun e w' => ∃ (Av : Option Addr) (nv cv : Nat), e = .returned (.agg #[.string x.f0, .string x.f1, .string (⟨#[100, 101, 102, 97, 117, 108, 116]⟩ : ByteArray), .int .u8 x.f3, .int .u16 30, .slice Av nv cv]) ∧ wO k73 73 w w' (.slice Av nv cv) [⟨⟨#[109, 97, 105, 110]⟩, x.f2⟩] ∧ Below w.heap.size w w' := by
  have BR := Tryz.underlying67
  have BS := Tryz.underlying71
  have BH := Tryz.underlying73
  have HB := Aside0.mk (((Below.refl _ w).alloc (Nat.le_refl _) (.cells #[.string x.f0, .string x.f1, .string x.f2, .int .u8 x.f3] 67)).alloc (by simp) (.cells #[.string ⟨#[]⟩, .string ⟨#[]⟩, .string ⟨#[]⟩, .int .u8 0, .int .u16 0, .slice none 0 0] 71))
  have HBX := Aside0.mk (ak (heap_alloc_new w (.cells #[.string x.f0, .string x.f1, .string x.f2, .int .u8 x.f3] 67)) (.cells #[.string ⟨#[]⟩, .string ⟨#[]⟩, .string ⟨#[]⟩, .int .u8 0, .int .u16 0, .slice none 0 0] 71))
  have HBR := Aside0.mk (oN w (.cells #[.string x.f0, .string x.f1, .string x.f2, .int .u8 x.f3] 67) (.cells #[.string ⟨#[]⟩, .string ⟨#[]⟩, .string ⟨#[]⟩, .int .u8 0, .int .u16 0, .slice none 0 0] 71))
  go_enter Tryz.func30, Tryz.ntmps30
  go_wp2_with (first
    | ((with_reducible refine dz (N := 12) rfl ?_); refine Kd.mY k73 (w0 := w) w.heap.size 73 rfl rfl (xs := [⟨⟨#[109, 97, 105, 110]⟩, x.f2⟩]) (inner := [.string (⟨#[109, 97, 105, 110]⟩ : ByteArray), .string x.f2]) (ok := fun k_ => w.heap.size + 2 ≤ k_) (okp := fun _ => False) (by first | (go_simp; done) | (go_simp; rfl)) (dW.c2 (xI _ _ (⟨⟨#[109, 97, 105, 110]⟩, x.f2⟩ : S73)) (dW.none _ _)) (fun k hk => hk.elim) (by simp) HB.out HB.out.size (by simp) ?_; intro v1 w1 hn hb hg hat; obtain ⟨Av, nv, cv, ev⟩ : ∃ B n d, v1 = .slice B n d := (Kd.jv hn).elim fun A h => h.elim fun c e => ⟨A, _, c, e⟩; subst ev; have HN := Aside0.mk hn; have HB1 := Aside0.mk hb; have HR := Aside0.mk ((hg.block (w.heap.size + 1) (by simp) (fun e => by cases e)).trans HBR.out); clear hn hb hat hg; have z0 : w1.cell? ⟨w.heap.size + 1, 0, none⟩ = some (.string ⟨#[]⟩) := (ah HR.out 0).trans rfl; have z1 : w1.cell? ⟨w.heap.size + 1, 1, none⟩ = some (.string ⟨#[]⟩) := (ah HR.out 1).trans rfl; have z2 : w1.cell? ⟨w.heap.size + 1, 2, none⟩ = some (.string ⟨#[]⟩) := (ah HR.out 2).trans rfl; have z3 : w1.cell? ⟨w.heap.size + 1, 3, none⟩ = some (.int .u8 0) := (ah HR.out 3).trans rfl; have z4 : w1.cell? ⟨w.heap.size + 1, 4, none⟩ = some (.int .u16 0) := (ah HR.out 4).trans rfl; have z5 : w1.cell? ⟨w.heap.size + 1, 5, none⟩ = some (.slice none 0 0) := (ah HR.out 5).trans rfl; have Bv := ay HR.out 0; have Bw := ay HR.out 1; have BK := ay HR.out 2; have BL := ay HR.out 3; have BN := ay HR.out 4; have BO := ay HR.out 5))
  refine bodyPost_ret (results_cell_row rfl _ _ (w.heap.size + 1) 71 #[.string x.f0, .string x.f1, .string (⟨#[100, 101, 102, 97, 117, 108, 116]⟩ : ByteArray), .int .u8 x.f3, .int .u16 30, .slice Av nv cv] (0, 0) _ rfl (by refine aT (cs := #[.string x.f0, .string x.f1, .string (⟨#[100, 101, 102, 97, 117, 108, 116]⟩ : ByteArray), .int .u8 x.f3, .int .u16 30, .slice none 0 0]) ?_ 5 _ rfl; refine aT (cs := #[.string x.f0, .string x.f1, .string (⟨#[100, 101, 102, 97, 117, 108, 116]⟩ : ByteArray), .int .u8 x.f3, .int .u16 0, .slice none 0 0]) ?_ 4 _ rfl; refine aT (cs := #[.string x.f0, .string x.f1, .string (⟨#[100, 101, 102, 97, 117, 108, 116]⟩ : ByteArray), .int .u8 0, .int .u16 0, .slice none 0 0]) ?_ 3 _ rfl; refine aT (cs := #[.string x.f0, .string x.f1, .string ⟨#[]⟩, .int .u8 0, .int .u16 0, .slice none 0 0]) ?_ 2 _ rfl; refine aT (cs := #[.string x.f0, .string ⟨#[]⟩, .string ⟨#[]⟩, .int .u8 0, .int .u16 0, .slice none 0 0]) ?_ 1 _ rfl; refine aT (cs := #[.string ⟨#[]⟩, .string ⟨#[]⟩, .string ⟨#[]⟩, .int .u8 0, .int .u16 0, .slice none 0 0]) ?_ 0 _ rfl; exact HR.out) Tryz.underlying71 rfl (by kernel_rfl)) rfl ?_
  refine ⟨_, _, _, rfl, Kd.N_V (base := w.heap.size) <| Kd.kG (ok := fun k_ => w.heap.size + 2 ≤ k_) ?_ (fun k hk => by omega), ?_⟩
  · iterate 6 (refine Kd.pQ ?_ (fun k hk => by simp; omega) _)
    exact HN.out
  · iterate 6 (refine fG ?_ (by omega))
    exact HB1.out
theorem zP {W : World} {base : Nat} {ok : Nat → Prop} {x : S67} {Av : Option Addr} {nv cv : Nat} (h : Kd.V k73 73 W base ok (.slice Av nv cv) [⟨⟨#[109, 97, 105, 110]⟩, x.f2⟩]) : Kd.FK k71 W ok (jq x) [.string x.f0, .string x.f1, .string (⟨#[100, 101, 102, 97, 117, 108, 116]⟩ : ByteArray), .int .u8 x.f3, .int .u16 30, .slice Av nv cv] := by
  obtain ⟨e, l, hF⟩ := Kd.rW h
  subst e
  exact xJ W ok (jq x) l hF
theorem yD (W : World) (ok : Nat → Prop) (x : S73) : Kd.FK k84 W ok (kJ x) [.string x.f0, .string x.f1, .slice none 0 0, .slice none 0 0, .int .i64 100, .int .i64 64, .slice none 0 0] := xO W ok (kJ x) (Nat.le_refl _) (Kd.tC _ _ _) (Nat.le_refl _) (Kd.tC _ _ _) (Nat.le_refl _) (Kd.tC _ _ _)
theorem wP {W : World} {base : Nat} {ok : Nat → Prop} {x : S71} {Av : Option Addr} {nv cv : Nat} (h : Kd.V k84 84 W base ok (.slice Av nv cv) (x.f5.map kJ)) : Kd.FK k79 W ok (iH x) [.string x.f0, .string x.f1, .string x.f2, .int .i64 (wrap64 x.f3), .int .i64 (wrap64 x.f4), .bool false, .slice Av nv cv] := by
  obtain ⟨e, l, hF⟩ := Kd.rW h
  subst e
  exact xP W ok (iH x) l hF
set_option maxHeartbeats 4000000 in
set_option maxRecDepth 100000 in
theorem cont.calls (x : S73) (w : World) :
    Calls Tryz.prog 36 #[.agg #[.string x.f0, .string x.f1]] w fun e w' => e = .returned (.agg #[.string x.f0, .string x.f1, .slice none 0 0, .slice none 0 0, .int .i64 100, .int .i64 64, .slice none 0 0]) ∧ Below w.heap.size w w' := by
  have BH := Tryz.underlying73
  have BU := Tryz.underlying84
  have HB := Aside0.mk (((Below.refl _ w).alloc (Nat.le_refl _) (.cells #[.string x.f0, .string x.f1] 73)).alloc (by simp) (.cells #[.string ⟨#[]⟩, .string ⟨#[]⟩, .slice none 0 0, .slice none 0 0, .int .i64 0, .int .i64 0, .slice none 0 0] 84))
  have HBX := Aside0.mk (ak (heap_alloc_new w (.cells #[.string x.f0, .string x.f1] 73)) (.cells #[.string ⟨#[]⟩, .string ⟨#[]⟩, .slice none 0 0, .slice none 0 0, .int .i64 0, .int .i64 0, .slice none 0 0] 84))
  have HBR := Aside0.mk (oN w (.cells #[.string x.f0, .string x.f1] 73) (.cells #[.string ⟨#[]⟩, .string ⟨#[]⟩, .slice none 0 0, .slice none 0 0, .int .i64 0, .int .i64 0, .slice none 0 0] 84))
  go_enter Tryz.func36, Tryz.ntmps36
  go_wp2
  refine bodyPost_ret (results_cell_row rfl _ _ (w.heap.size + 1) 84 #[.string x.f0, .string x.f1, .slice none 0 0, .slice none 0 0, .int .i64 100, .int .i64 64, .slice none 0 0] (0, 0) _ rfl (by exact oN _ _ _) Tryz.underlying84 rfl (by kernel_rfl)) rfl ?_
  exact ⟨rfl, ((Below.refl _ w).alloc (Nat.le_refl _) _).alloc (by simp) _⟩
set_option maxHeartbeats 4000000 in
set_option maxRecDepth 100000 in
theorem AJ.calls (A0 : Option Addr) (c0 : Nat) (l : List S73) (w : World) (hr : Kd.C k73 w A0 l.length l) (hz : l.length * 120 ≤ 140737488355328) :
    Calls Tryz.prog 35 #[.slice A0 l.length c0, .func (.func 36) #[] #[]] w fun e w' => ∃ v, e = .returned v ∧ wO k84 84 w w' v (l.map kJ) ∧ Below w.heap.size w w' := by
  have hui := Tryz.underlying73
  have huo := Tryz.underlying84
  have HR := Aside0.mk hr
  have HZ := Aside0.mk hz
  clear hr hz
  go_enter Tryz.func35, Tryz.ntmps35
  go_wp2
  go_loopg [5, 10] l.length (fun kq v5 v10 w' => ∃ (i : Nat) (u : Value), u = v5 ∧ v10 = .int .i64 (i : Int) ∧ Aside0 (i + kq = l.length) ∧ Aside0 (Own k84 84 w w' u ((l.take i).map kJ)) ∧ Aside0 (Below w.heap.size w w'))
  case atStart => exact ⟨0, _, rfl, rfl, ⟨by omega⟩, ⟨Kd.kQ _ _ _ _ _⟩, ⟨Below.refl _ _⟩⟩
  case round =>
    obtain ⟨i, u, hu, rfl, hi, HN, HB⟩ := hrel
    subst hu
    cases gk with
    | zero =>
      obtain rfl : i = l.length := by have := hi.out; omega
      have hend : decide (((l.length : Nat) : Int) < (l.length : Int)) = false := decide_eq_false (by omega)
      have HN' := HN.out
      rw [List.take_length] at HN'
      have HNZ := Aside0.mk HN'
      clear HN' HN hi
      go_wp2
      go_ret
      exact ⟨_, rfl, Kd.N_V HNZ.out, HB.out⟩
    | succ k1 =>
      have hlt : i < l.length := by have := hi.out; omega
      have c1 : decide ((i : Int) < (l.length : Int)) = true := decide_eq_true (by omega)
      have p1 : 0 ≤ (i : Int) := by omega
      have q1 : (i : Int) < (l.length : Int) := by omega
      obtain ⟨ad, e, hx0, hx1⟩ := rY HR.out (i : Int) p1 q1
      cases e
      have htk : (l.take (i + 1)).map kJ = (l.take i).map kJ ++ [kJ (fF l (i : Int))] := by
        rw [List.take_add_one, List.map_append, List.getElem?_eq_getElem hlt]
        simp [fF, List.getElem?_eq_getElem hlt]
      have hmem : fF l (i : Int) ∈ l := by
        have e : fF l (i : Int) = l[i] := by simp [fF, List.getElem?_eq_getElem hlt]
        rw [e]; exact List.getElem_mem hlt
      replace hx0 := (HB.out.cell (World.block_lt_of_cell? w _ hx0)).trans hx0
      replace hx1 := (HB.out.cell (World.block_lt_of_cell? w _ hx1)).trans hx1
      simp only [Int.toNat_natCast] at hx0 hx1
      generalize fF l (i : Int) = x at hx0 hx1 htk hmem
      replace p1 := eq_true p1
      replace q1 := eq_true q1
      have q3 : (i < l.length) = True := eq_true hlt
      have HTK := Aside0.mk htk
      have HMEM := Aside0.mk hmem
      have HAW := Aside0.mk (oM HN.out HB.out.size)
      have hwv : Value.int .i64 (wrap64 ((i : Int) + 1)) = Value.int .i64 ((i + 1 : Nat) : Int) := by have := Kd.kK HR.out; rw [dD (by omega) (by omega)]; rfl
      have HWV := Aside0.mk hwv
      have hnx : Aside0 (i + 1 + k1 = l.length) := ⟨by have := hi.out; omega⟩
      clear htk hmem hwv hi
      go_wp2_with (first
        | (go_at_call 36; refine (cont.calls x _).mono ?_; rintro e w1 ⟨rfl, hb⟩; have hB1 := aN (HB.out.alloc HB.out.size (.cells #[.string x.f0, .string x.f1] 73)) hb; have HB1 := Aside0.mk hB1; have Bz := Aside0.mk (Kd.lC (Kd.qD HN.out (.cells #[.string x.f0, .string x.f1] 73)) hb); have hbs := hb.size; have BD := Aside0.mk (show wr.heap.size ≤ w1.heap.size by simp at hbs; omega); clear hb hB1 hbs)
        | ((with_reducible refine dz (N := 18) rfl ?_); refine Kd.mY k84 (w0 := w) w.heap.size 84 rfl rfl (xs := [kJ x]) (inner := [.string x.f0, .string x.f1, .slice none 0 0, .slice none 0 0, .int .i64 100, .int .i64 64, .slice none 0 0]) (ok := fun k_ => wr.heap.size ≤ k_) (okp := fun k_ => wr.heap.size ≤ k_) (by first | (go_simp; done) | (go_simp; rfl)) (dW.c7 (yD _ _ x) (dW.none _ _)) (fun k hk => hk) BD.out HB1.out HB1.out.size (by simp) ?_; intro v2 w2 hn hb hg hat; have BF := Aside0.mk (Kd.nK Bz.out hg (fun k _ => fun e => by cases e)); obtain ⟨Az, cz, ez⟩ := Kd.jv hn; subst ez; have HL := Aside0.mk hn; have HB2 := Aside0.mk hb; clear hn hb hg hat)
        | (at_builtin; refine Kd.gV k84 (w0 := w) w.heap.size rfl (.tmp 14) (.tmp 18) 75 84 _ 120 rfl Tryz.underlying75 yC rfl (by decide) (by omega) u ((l.take i).map kJ) [kJ x] Az [kJ x].length cz (fun k_ => w.heap.size ≤ k_) (fun k_ => wr.heap.size ≤ k_) rfl rfl BF.out (Kd.N_F HL.out) HAW.out (fun k hk => Nat.le_trans HB2.out.size hk) HB2.out HB2.out.size (by have := HZ.out; have := hnx.out; simp; omega) ?_; intro v3 w3 hn hb hg hat; have BG := Aside0.mk hn; have HB3 := Aside0.mk hb; clear hn hb hg hat))
      go_roundg k1
      case measure => exact Nat.lt_succ_self k1
      case rel => exact ⟨i + 1, _, rfl, by first | exact HWV.out | rfl, hnx, ⟨HTK.out ▸ BG.out⟩, HB3⟩
set_option maxHeartbeats 4000000 in
set_option maxRecDepth 100000 in
theorem AL.calls (A0 : Option Addr) (c0 : Nat) (l : List S67) (w : World) (hr : Kd.C k67 w A0 l.length l) (hz : l.length * 80 ≤ 140737488355328) :
    Calls Tryz.prog 29 #[.slice A0 l.length c0, .func (.func 30) #[] #[]] w fun e w' => ∃ v, e = .returned v ∧ wO k71 71 w w' v (l.map jq) ∧ Below w.heap.size w w' := by
  have hui := Tryz.underlying67
  have huo := Tryz.underlying71
  have HR := Aside0.mk hr
  have HZ := Aside0.mk hz
  clear hr hz
  go_enter Tryz.func29, Tryz.ntmps29
  go_wp2
  go_loopg [5, 10] l.length (fun kq v5 v10 w' => ∃ (i : Nat) (u : Value), u = v5 ∧ v10 = .int .i64 (i : Int) ∧ Aside0 (i + kq = l.length) ∧ Aside0 (Own k71 71 w w' u ((l.take i).map jq)) ∧ Aside0 (Below w.heap.size w w'))
  case atStart => exact ⟨0, _, rfl, rfl, ⟨by omega⟩, ⟨Kd.kQ _ _ _ _ _⟩, ⟨Below.refl _ _⟩⟩
  case round =>
    obtain ⟨i, u, hu, rfl, hi, HN, HB⟩ := hrel
    subst hu
    cases gk with
    | zero =>
      obtain rfl : i = l.length := by have := hi.out; omega
      have hend : decide (((l.length : Nat) : Int) < (l.length : Int)) = false := decide_eq_false (by omega)
      have HN' := HN.out
      rw [List.take_length] at HN'
      have HNZ := Aside0.mk HN'
      clear HN' HN hi
      go_wp2
      go_ret
      exact ⟨_, rfl, Kd.N_V HNZ.out, HB.out⟩
    | succ k1 =>
      have hlt : i < l.length := by have := hi.out; omega
      have c1 : decide ((i : Int) < (l.length : Int)) = true := decide_eq_true (by omega)
      have p1 : 0 ≤ (i : Int) := by omega
      have q1 : (i : Int) < (l.length : Int) := by omega
      obtain ⟨ad, e, hx0, hx1, hx2, hx3⟩ := qE HR.out (i : Int) p1 q1
      cases e
      have htk : (l.take (i + 1)).map jq = (l.take i).map jq ++ [jq (dA l (i : Int))] := by
        rw [List.take_add_one, List.map_append, List.getElem?_eq_getElem hlt]
        simp [dA, List.getElem?_eq_getElem hlt]
      have hmem : dA l (i : Int) ∈ l := by
        have e : dA l (i : Int) = l[i] := by simp [dA, List.getElem?_eq_getElem hlt]
        rw [e]; exact List.getElem_mem hlt
      replace hx0 := (HB.out.cell (World.block_lt_of_cell? w _ hx0)).trans hx0
      replace hx1 := (HB.out.cell (World.block_lt_of_cell? w _ hx1)).trans hx1
      replace hx2 := (HB.out.cell (World.block_lt_of_cell? w _ hx2)).trans hx2
      replace hx3 := (HB.out.cell (World.block_lt_of_cell? w _ hx3)).trans hx3
      simp only [Int.toNat_natCast] at hx0 hx1 hx2 hx3
      generalize dA l (i : Int) = x at hx0 hx1 hx2 hx3 htk hmem
      replace p1 := eq_true p1
      replace q1 := eq_true q1
      have q3 : (i < l.length) = True := eq_true hlt
      have HTK := Aside0.mk htk
      have HMEM := Aside0.mk hmem
      have HAW := Aside0.mk (oM HN.out HB.out.size)
      have hwv : Value.int .i64 (wrap64 ((i : Int) + 1)) = Value.int .i64 ((i + 1 : Nat) : Int) := by have := Kd.kK HR.out; rw [dD (by omega) (by omega)]; rfl
      have HWV := Aside0.mk hwv
      have hnx : Aside0 (i + 1 + k1 = l.length) := ⟨by have := hi.out; omega⟩
      clear htk hmem hwv hi
      go_wp2_with (first
        | (go_at_call 30; refine (Bo.calls x _).mono ?_; rintro e w1 ⟨Av, nv, cv, rfl, hV, hb⟩; have hB1 := aN (HB.out.alloc HB.out.size (.cells #[.string x.f0, .string x.f1, .string x.f2, .int .u8 x.f3] 67)) hb; have HB1 := Aside0.mk hB1; have Bz := Aside0.mk (Kd.lC (Kd.qD HN.out (.cells #[.string x.f0, .string x.f1, .string x.f2, .int .u8 x.f3] 67)) hb); have hbs := hb.size; have BD := Aside0.mk (show wr.heap.size ≤ w1.heap.size by simp at hbs; omega); have HV := Aside0.mk (Kd.eO (ok' := fun k_ => wr.heap.size ≤ k_) hV (fun k hk => by simp at hk; omega)); clear hV; clear hb hB1 hbs)
        | ((with_reducible refine dz (N := 18) rfl ?_); refine Kd.mY k71 (w0 := w) w.heap.size 71 rfl rfl (xs := [jq x]) (inner := [.string x.f0, .string x.f1, .string (⟨#[100, 101, 102, 97, 117, 108, 116]⟩ : ByteArray), .int .u8 x.f3, .int .u16 30, .slice Av nv cv]) (ok := fun k_ => wr.heap.size ≤ k_) (okp := fun k_ => wr.heap.size ≤ k_) (by first | (go_simp; done) | (go_simp; rfl)) (dW.c6 (zP HV.out) (dW.none _ _)) (fun k hk => hk) BD.out HB1.out HB1.out.size (by simp) ?_; intro v2 w2 hn hb hg hat; have BF := Aside0.mk (Kd.nK Bz.out hg (fun k _ => fun e => by cases e)); obtain ⟨Az, cz, ez⟩ := Kd.jv hn; subst ez; have HL := Aside0.mk hn; have HB2 := Aside0.mk hb; clear hn hb hg hat)
        | (at_builtin; refine Kd.gV k71 (w0 := w) w.heap.size rfl (.tmp 14) (.tmp 18) 27 71 _ 80 rfl Tryz.underlying27 yA rfl (by decide) (by omega) u ((l.take i).map jq) [jq x] Az [jq x].length cz (fun k_ => w.heap.size ≤ k_) (fun k_ => wr.heap.size ≤ k_) rfl rfl BF.out (Kd.N_F HL.out) HAW.out (fun k hk => Nat.le_trans HB2.out.size hk) HB2.out HB2.out.size (by have := HZ.out; have := hnx.out; simp; omega) ?_; intro v3 w3 hn hb hg hat; have BG := Aside0.mk hn; have HB3 := Aside0.mk hb; clear hn hb hg hat))
      go_roundg k1
      case measure => exact Nat.lt_succ_self k1
      case rel => exact ⟨i + 1, _, rfl, by first | exact HWV.out | rfl, hnx, ⟨HTK.out ▸ BG.out⟩, HB3⟩
def jD.T1 : Bool × List (List Nat × List Nat) := (true, [([], []), ([0], [0]), ([], []), ([2], [2]), ([], []), ([4], [4]), ([], []), ([6], [6]), ([7], [7]), ([], []), ([9], [9]), ([10], [10]), ([], []), ([12], [12]), ([13], [13]), ([3, 5, 8, 11, 14], [3, 5, 8, 11, 14]), ([1, 15], [1, 15]), ([16, 14, 0, 1, 2, 3, 4, 5, 6, 7, 8, 9, 10, 11, 12, 13, 14, 15, 16], [16])])
def jD.B1 : List Nat := [0, 1, 0, 4, 0, 16, 0, 64, 192, 0, 512, 1536, 0, 4096, 12288, 32764, 65535, 131071]
theorem jD.sJ : gX .any (opsOf Tryz.f34 1) = jD.T1 := by kernel_rfl
theorem jD.oK : fU jD.T1.2 jD.B1 = true := by kernel_rfl
set_option maxHeartbeats 4000000 in
set_option maxRecDepth 100000 in
theorem zQ.calls (x : S71) (A5 : Option Addr) (c5 : Nat) (w : World) (hr : Kd.C k73 w A5 x.f5.length x.f5) (hz : x.f5.length * 120 ≤ 140737488355328) :
    Calls Tryz.prog 34 #[.agg #[.string x.f0, .string x.f1, .string x.f2, .int .u8 x.f3, .int .u16 x.f4, .slice A5 x.f5.length c5]] w fun e w' => ∃ (Av : Option Addr) (nv cv : Nat), e = .returned (.agg #[.string x.f0, .string x.f1, .string x.f2, .int .i64 (wrap64 x.f3), .int .i64 (wrap64 x.f4), .bool false, .slice Av nv cv]) ∧ wO k84 84 w w' (.slice Av nv cv) (x.f5.map kJ) ∧ Below w.heap.size w w' := by
  have BI := Aside0.mk hr
  have BZ := Aside0.mk hz
  clear hr hz
  have hux := Tryz.underlying71
  have huo := Tryz.underlying79
  have HB := Aside0.mk (((Below.refl _ w).alloc (Nat.le_refl _) (.cells #[.string x.f0, .string x.f1, .string x.f2, .int .u8 x.f3, .int .u16 x.f4, .slice A5 x.f5.length c5] 71)).alloc (by simp) (.cells #[.string ⟨#[]⟩, .string ⟨#[]⟩, .string ⟨#[]⟩, .int .i64 0, .int .i64 0, .bool false, .slice none 0 0] 79))
  have HX := Aside0.mk (ak (heap_alloc_new w (.cells #[.string x.f0, .string x.f1, .string x.f2, .int .u8 x.f3, .int .u16 x.f4, .slice A5 x.f5.length c5] 71)) (.cells #[.string ⟨#[]⟩, .string ⟨#[]⟩, .string ⟨#[]⟩, .int .i64 0, .int .i64 0, .bool false, .slice none 0 0] 79))
  have HR := Aside0.mk (oN w (.cells #[.string x.f0, .string x.f1, .string x.f2, .int .u8 x.f3, .int .u16 x.f4, .slice A5 x.f5.length c5] 71) (.cells #[.string ⟨#[]⟩, .string ⟨#[]⟩, .string ⟨#[]⟩, .int .i64 0, .int .i64 0, .bool false, .slice none 0 0] 79))
  go_enter Tryz.func34, Tryz.ntmps34
  go_upto_region 1 with (fail)
  (try simp only [Act.put, List.setIfInBounds_toArray, List.set_cons_zero, List.set_cons_succ])
  generalize ((w.alloc (.cells #[.string x.f0, .string x.f1, .string x.f2, .int .u8 x.f3, .int .u16 x.f4, .slice A5 x.f5.length c5] 71)).alloc (.cells #[.string ⟨#[]⟩, .string ⟨#[]⟩, .string ⟨#[]⟩, .int .i64 0, .int .i64 0, .bool false, .slice none 0 0] 79)) = wA at HB HX HR ⊢
  refine iE (n := 18) (S := fun w' => w'.heap[w.heap.size]? = some (.cells #[.string x.f0, .string x.f1, .string x.f2, .int .u8 x.f3, .int .u16 x.f4, .slice A5 x.f5.length c5] 71 (0, 0))) (ds := [17]) #[false, false, false, false, false, false, false, false, false, false, false, false, false, false, false, false, false, false] (by kernel_rfl) rfl rfl (HX.out) (fun hHeld => ?_)
  refine fC jD.sJ jD.oK (fun HT_ HW_ => ?_)
  replace HX := Aside0.mk (av HX.out)
  replace HR := Aside0.mk (av HR.out)
  replace HB := Aside0.mk (bF HB.out)
  refine eX (i := 0) (N := some 3) (v := ?_) (a' := ?_) #[true, false, false, false, false, false, false, false, false, false, false, false, false, false, false, false, false, false] rfl rfl (dV HT_.out (by kernel_rfl)) (fun _ _ _ h => h) (Or.inl ⟨by rfl, ?_⟩) ?_ ?_
  rotate_left
  · intro w'
    go_simp
    with_reducible rfl
  rotate_left
  · simp only [Act.put, List.setIfInBounds_toArray, List.set_cons_zero, List.set_cons_succ, bJ, bK]
    rfl
  refine eX (i := 2) (N := some 5) (v := ?_) (a' := ?_) #[true, false, true, false, false, false, false, false, false, false, false, false, false, false, false, false, false, false] rfl rfl (dV HT_.out (by kernel_rfl)) (fun _ _ _ h => h) (Or.inl ⟨by rfl, ?_⟩) ?_ ?_
  rotate_left
  · intro w'
    go_simp
    with_reducible rfl
  rotate_left
  · simp only [Act.put, List.setIfInBounds_toArray, List.set_cons_zero, List.set_cons_succ, bJ, bK]
    rfl
  refine eX (i := 4) (N := some 7) (v := ?_) (a' := ?_) #[true, false, true, false, true, false, false, false, false, false, false, false, false, false, false, false, false, false] rfl rfl (dV HT_.out (by kernel_rfl)) (fun _ _ _ h => h) (Or.inl ⟨by rfl, ?_⟩) ?_ ?_
  rotate_left
  · intro w'
    go_simp
    with_reducible rfl
  rotate_left
  · simp only [Act.put, List.setIfInBounds_toArray, List.set_cons_zero, List.set_cons_succ, bJ, bK]
    rfl
  refine eX (i := 6) (N := some 9) (v := ?_) (a' := ?_) #[true, false, true, false, true, false, true, false, false, false, false, false, false, false, false, false, false, false] rfl rfl (dV HT_.out (by kernel_rfl)) (fun _ _ _ h => h) (Or.inl ⟨by rfl, ?_⟩) ?_ ?_
  rotate_left
  · intro w'
    go_simp
    with_reducible rfl
  rotate_left
  · simp only [Act.put, List.setIfInBounds_toArray, List.set_cons_zero, List.set_cons_succ, bJ, bK]
    rfl
  refine eX (i := 9) (N := some 12) (v := ?_) (a' := ?_) #[true, false, true, false, true, false, true, false, false, true, false, false, false, false, false, false, false, false] rfl rfl (dV HT_.out (by kernel_rfl)) (fun _ _ _ h => h) (Or.inl ⟨by rfl, ?_⟩) ?_ ?_
  rotate_left
  · intro w'
    go_simp
    with_reducible rfl
  rotate_left
  · simp only [Act.put, List.setIfInBounds_toArray, List.set_cons_zero, List.set_cons_succ, bJ, bK]
    rfl
  refine eX (i := 12) (N := some 15) (v := ?_) (a' := ?_) #[true, false, true, false, true, false, true, false, false, true, false, false, true, false, false, false, false, false] rfl rfl (dV HT_.out (by kernel_rfl)) (fun _ _ _ h => h) (Or.inl ⟨by rfl, ?_⟩) ?_ ?_
  rotate_left
  · intro w'
    go_simp
    with_reducible rfl
  rotate_left
  · simp only [Act.put, List.setIfInBounds_toArray, List.set_cons_zero, List.set_cons_succ, bJ, bK]
    rfl
  refine gG (i := 1) (N := some 4) (v := ?_) (a' := ?_) #[true, true, true, false, true, false, true, false, false, true, false, false, true, false, false, false, false, false] rfl rfl (d9 HT_.out HW_.out (by kernel_rfl)) (fun _ _ _ h => h) (Or.inl ⟨by rfl, ?_⟩) hHeld ?_ ?_
  rotate_left
  · intro w' s0
    have e0 : w'.cell? ⟨w.heap.size, 0, none⟩ = some (.string x.f0) := (ah s0 0).trans rfl
    have e1 : w'.cell? ⟨w.heap.size, 1, none⟩ = some (.string x.f1) := (ah s0 1).trans rfl
    have e2 : w'.cell? ⟨w.heap.size, 2, none⟩ = some (.string x.f2) := (ah s0 2).trans rfl
    have e3 : w'.cell? ⟨w.heap.size, 3, none⟩ = some (.int .u8 x.f3) := (ah s0 3).trans rfl
    have e4 : w'.cell? ⟨w.heap.size, 4, none⟩ = some (.int .u16 x.f4) := (ah s0 4).trans rfl
    have e5 : w'.cell? ⟨w.heap.size, 5, none⟩ = some (.slice A5 x.f5.length c5) := (ah s0 5).trans rfl
    go_simp
    with_reducible rfl
  rotate_left
  · simp only [Act.put, List.setIfInBounds_toArray, List.set_cons_zero, List.set_cons_succ, bJ, bK]
    rfl
  refine gG (i := 3) (N := some 6) (v := ?_) (a' := ?_) #[true, true, true, true, true, false, true, false, false, true, false, false, true, false, false, false, false, false] rfl rfl (d9 HT_.out HW_.out (by kernel_rfl)) (fun _ _ _ h => h) (Or.inl ⟨by rfl, ?_⟩) hHeld ?_ ?_
  rotate_left
  · intro w' s0
    have e0 : w'.cell? ⟨w.heap.size, 0, none⟩ = some (.string x.f0) := (ah s0 0).trans rfl
    have e1 : w'.cell? ⟨w.heap.size, 1, none⟩ = some (.string x.f1) := (ah s0 1).trans rfl
    have e2 : w'.cell? ⟨w.heap.size, 2, none⟩ = some (.string x.f2) := (ah s0 2).trans rfl
    have e3 : w'.cell? ⟨w.heap.size, 3, none⟩ = some (.int .u8 x.f3) := (ah s0 3).trans rfl
    have e4 : w'.cell? ⟨w.heap.size, 4, none⟩ = some (.int .u16 x.f4) := (ah s0 4).trans rfl
    have e5 : w'.cell? ⟨w.heap.size, 5, none⟩ = some (.slice A5 x.f5.length c5) := (ah s0 5).trans rfl
    go_simp
    with_reducible rfl
  rotate_left
  · simp only [Act.put, List.setIfInBounds_toArray, List.set_cons_zero, List.set_cons_succ, bJ, bK]
    rfl
  refine gG (i := 5) (N := some 8) (v := ?_) (a' := ?_) #[true, true, true, true, true, true, true, false, false, true, false, false, true, false, false, false, false, false] rfl rfl (d9 HT_.out HW_.out (by kernel_rfl)) (fun _ _ _ h => h) (Or.inl ⟨by rfl, ?_⟩) hHeld ?_ ?_
  rotate_left
  · intro w' s0
    have e0 : w'.cell? ⟨w.heap.size, 0, none⟩ = some (.string x.f0) := (ah s0 0).trans rfl
    have e1 : w'.cell? ⟨w.heap.size, 1, none⟩ = some (.string x.f1) := (ah s0 1).trans rfl
    have e2 : w'.cell? ⟨w.heap.size, 2, none⟩ = some (.string x.f2) := (ah s0 2).trans rfl
    have e3 : w'.cell? ⟨w.heap.size, 3, none⟩ = some (.int .u8 x.f3) := (ah s0 3).trans rfl
    have e4 : w'.cell? ⟨w.heap.size, 4, none⟩ = some (.int .u16 x.f4) := (ah s0 4).trans rfl
    have e5 : w'.cell? ⟨w.heap.size, 5, none⟩ = some (.slice A5 x.f5.length c5) := (ah s0 5).trans rfl
    go_simp
    with_reducible rfl
  rotate_left
  · simp only [Act.put, List.setIfInBounds_toArray, List.set_cons_zero, List.set_cons_succ, bJ, bK]
    rfl
  refine gG (i := 7) (N := some 10) (v := ?_) (a' := ?_) #[true, true, true, true, true, true, true, true, false, true, false, false, true, false, false, false, false, false] rfl rfl (d9 HT_.out HW_.out (by kernel_rfl)) (fun _ _ _ h => h) (Or.inl ⟨by rfl, ?_⟩) hHeld ?_ ?_
  rotate_left
  · intro w' s0
    have e0 : w'.cell? ⟨w.heap.size, 0, none⟩ = some (.string x.f0) := (ah s0 0).trans rfl
    have e1 : w'.cell? ⟨w.heap.size, 1, none⟩ = some (.string x.f1) := (ah s0 1).trans rfl
    have e2 : w'.cell? ⟨w.heap.size, 2, none⟩ = some (.string x.f2) := (ah s0 2).trans rfl
    have e3 : w'.cell? ⟨w.heap.size, 3, none⟩ = some (.int .u8 x.f3) := (ah s0 3).trans rfl
    have e4 : w'.cell? ⟨w.heap.size, 4, none⟩ = some (.int .u16 x.f4) := (ah s0 4).trans rfl
    have e5 : w'.cell? ⟨w.heap.size, 5, none⟩ = some (.slice A5 x.f5.length c5) := (ah s0 5).trans rfl
    go_simp
    with_reducible rfl
  rotate_left
  · simp only [Act.put, List.setIfInBounds_toArray, List.set_cons_zero, List.set_cons_succ, bJ, bK]
    rfl
  refine eX (i := 8) (N := some 11) (v := ?_) (a' := ?_) #[true, true, true, true, true, true, true, true, true, true, false, false, true, false, false, false, false, false] rfl rfl (dV HT_.out (by kernel_rfl)) (fun _ _ _ h => h) (Or.inl ⟨by rfl, ?_⟩) ?_ ?_
  rotate_left
  · intro w'
    go_simp
    with_reducible rfl
  rotate_left
  · simp only [Act.put, List.setIfInBounds_toArray, List.set_cons_zero, List.set_cons_succ, bJ, bK]
    rfl
  refine gG (i := 10) (N := some 13) (v := ?_) (a' := ?_) #[true, true, true, true, true, true, true, true, true, true, true, false, true, false, false, false, false, false] rfl rfl (d9 HT_.out HW_.out (by kernel_rfl)) (fun _ _ _ h => h) (Or.inl ⟨by rfl, ?_⟩) hHeld ?_ ?_
  rotate_left
  · intro w' s0
    have e0 : w'.cell? ⟨w.heap.size, 0, none⟩ = some (.string x.f0) := (ah s0 0).trans rfl
    have e1 : w'.cell? ⟨w.heap.size, 1, none⟩ = some (.string x.f1) := (ah s0 1).trans rfl
    have e2 : w'.cell? ⟨w.heap.size, 2, none⟩ = some (.string x.f2) := (ah s0 2).trans rfl
    have e3 : w'.cell? ⟨w.heap.size, 3, none⟩ = some (.int .u8 x.f3) := (ah s0 3).trans rfl
    have e4 : w'.cell? ⟨w.heap.size, 4, none⟩ = some (.int .u16 x.f4) := (ah s0 4).trans rfl
    have e5 : w'.cell? ⟨w.heap.size, 5, none⟩ = some (.slice A5 x.f5.length c5) := (ah s0 5).trans rfl
    go_simp
    with_reducible rfl
  rotate_left
  · simp only [Act.put, List.setIfInBounds_toArray, List.set_cons_zero, List.set_cons_succ, bJ, bK]
    rfl
  refine eX (i := 11) (N := some 14) (v := ?_) (a' := ?_) #[true, true, true, true, true, true, true, true, true, true, true, true, true, false, false, false, false, false] rfl rfl (dV HT_.out (by kernel_rfl)) (fun _ _ _ h => h) (Or.inl ⟨by rfl, ?_⟩) ?_ ?_
  rotate_left
  · intro w'
    go_simp
    with_reducible rfl
  rotate_left
  · simp only [Act.put, List.setIfInBounds_toArray, List.set_cons_zero, List.set_cons_succ, bJ, bK]
    rfl
  refine gG (i := 13) (N := some 16) (v := ?_) (a' := ?_) #[true, true, true, true, true, true, true, true, true, true, true, true, true, true, false, false, false, false] rfl rfl (d9 HT_.out HW_.out (by kernel_rfl)) (fun _ _ _ h => h) (Or.inl ⟨by rfl, ?_⟩) hHeld ?_ ?_
  rotate_left
  · intro w' s0
    have e0 : w'.cell? ⟨w.heap.size, 0, none⟩ = some (.string x.f0) := (ah s0 0).trans rfl
    have e1 : w'.cell? ⟨w.heap.size, 1, none⟩ = some (.string x.f1) := (ah s0 1).trans rfl
    have e2 : w'.cell? ⟨w.heap.size, 2, none⟩ = some (.string x.f2) := (ah s0 2).trans rfl
    have e3 : w'.cell? ⟨w.heap.size, 3, none⟩ = some (.int .u8 x.f3) := (ah s0 3).trans rfl
    have e4 : w'.cell? ⟨w.heap.size, 4, none⟩ = some (.int .u16 x.f4) := (ah s0 4).trans rfl
    have e5 : w'.cell? ⟨w.heap.size, 5, none⟩ = some (.slice A5 x.f5.length c5) := (ah s0 5).trans rfl
    go_simp
    with_reducible rfl
  rotate_left
  · simp only [Act.put, List.setIfInBounds_toArray, List.set_cons_zero, List.set_cons_succ, bJ, bK]
    rfl
  refine fE (i := 14) (N := some 17) #[true, true, true, true, true, true, true, true, true, true, true, true, true, true, true, false, false, false] rfl rfl (dh HT_.out (by kernel_rfl)) (by decide) (fun K hK => ?_)
  refine eH Tryz.func35 (by kernel_rfl) rfl #[.slice A5 x.f5.length c5, .func (.func 36) #[] #[]] (by rfl) rfl rfl (by (try simp only [List.map_toArray, List.map_cons, List.map_nil]); first | done | rfl) ?_
  refine (AJ.calls A5 c5 x.f5 _ (Kd.cZ BI.out HB.out) BZ.out).mono ?_
  rintro e w5 ⟨v, rfl, hV, hb⟩
  obtain ⟨Av, nv, cv, er⟩ : ∃ B n d, v = .slice B n d := (Kd.iw hV).elim fun A h => h.elim fun c e => ⟨A, _, c, e⟩
  subst er
  refine ⟨_, rfl, ?_⟩
  have hsz := bE HR.out
  have HV := Aside0.mk (Kd.eO (ok' := (fun k_ => w.heap.size + 2 ≤ k_)) hV (fun k hk => by omega))
  replace HX := Aside0.mk (aI HX.out hb)
  replace HR := Aside0.mk (aI HR.out hb)
  replace HB := Aside0.mk (aN HB.out hb)
  clear hV hb hsz
  refine hK.out _ _ (HX.out) (fun hHeld => ?_)
  clear hK K
  refine dS (a' := ?_) ?_ ?_
  rotate_left
  · show Act.put _ (some 17) _ = _
    simp only [Act.put, List.setIfInBounds_toArray, List.set_cons_zero, List.set_cons_succ, bJ, bK]
    rfl
  refine eX (i := 15) (N := some 18) (v := ?_) (a' := ?_) #[true, true, true, true, true, true, true, true, true, true, true, true, true, true, true, true, false, false] rfl rfl (dV HT_.out (by kernel_rfl)) (fun _ _ _ h => h) (Or.inl ⟨by rfl, ?_⟩) ?_ ?_
  rotate_left
  · intro w'
    go_simp
    with_reducible rfl
  rotate_left
  · simp only [Act.put, List.setIfInBounds_toArray, List.set_cons_zero, List.set_cons_succ, bJ, bK]
    rfl
  refine eX (i := 16) (N := some 19) (v := ?_) (a' := ?_) #[true, true, true, true, true, true, true, true, true, true, true, true, true, true, true, true, true, false] rfl rfl (dV HT_.out (by kernel_rfl)) (fun _ _ _ h => h) (Or.inl ⟨by rfl, ?_⟩) ?_ ?_
  rotate_left
  · intro w'
    go_simp
    with_reducible rfl
  rotate_left
  · simp only [Act.put, List.setIfInBounds_toArray, List.set_cons_zero, List.set_cons_succ, bJ, bK]
    rfl
  refine kL (i := 17) (N := none) #[true, true, true, true, true, true, true, true, true, true, true, true, true, true, true, true, true, true] rfl rfl (dh HT_.out (by kernel_rfl)) (by decide) (fun K hK => ?_)
  have z0 : w5.cell? ⟨w.heap.size + 1, 0, none⟩ = some (.string ⟨#[]⟩) := (ah HR.out 0).trans rfl
  have z1 : w5.cell? ⟨w.heap.size + 1, 1, none⟩ = some (.string ⟨#[]⟩) := (ah HR.out 1).trans rfl
  have z2 : w5.cell? ⟨w.heap.size + 1, 2, none⟩ = some (.string ⟨#[]⟩) := (ah HR.out 2).trans rfl
  have z3 : w5.cell? ⟨w.heap.size + 1, 3, none⟩ = some (.int .i64 0) := (ah HR.out 3).trans rfl
  have z4 : w5.cell? ⟨w.heap.size + 1, 4, none⟩ = some (.int .i64 0) := (ah HR.out 4).trans rfl
  have z5 : w5.cell? ⟨w.heap.size + 1, 5, none⟩ = some (.bool false) := (ah HR.out 5).trans rfl
  have z6 : w5.cell? ⟨w.heap.size + 1, 6, none⟩ = some (.slice none 0 0) := (ah HR.out 6).trans rfl
  have Bv := ay HR.out 0
  have Bw := ay HR.out 1
  have BK := ay HR.out 2
  have BL := ay HR.out 3
  have BN := ay HR.out 4
  have BO := ay HR.out 5
  have Ca := ay HR.out 6
  refine jL (w1 := ?_) (by rfl) rfl ?_ ?_
  rotate_left
  · go_simp
    rfl
  clear z0 Bv z1 Bw z2 BK z3 BL z4 BN z5 BO z6 Ca
  refine hK.out _ _ ?_
  clear hK K
  refine jd (gI HT_.out (by kernel_rfl)) ?_
  go_wp2
  refine bodyPost_ret (results_cell_row rfl _ _ (w.heap.size + 1) 79 #[.string x.f0, .string x.f1, .string x.f2, .int .i64 (wrap64 x.f3), .int .i64 (wrap64 x.f4), .bool false, .slice Av nv cv] (0, 0) _ rfl (by refine aT (cs := #[.string x.f0, .string x.f1, .string x.f2, .int .i64 (wrap64 x.f3), .int .i64 (wrap64 x.f4), .bool false, .slice none 0 0]) ?_ 6 _ rfl; refine aT (cs := #[.string x.f0, .string x.f1, .string x.f2, .int .i64 (wrap64 x.f3), .int .i64 (wrap64 x.f4), .bool false, .slice none 0 0]) ?_ 5 _ rfl; refine aT (cs := #[.string x.f0, .string x.f1, .string x.f2, .int .i64 (wrap64 x.f3), .int .i64 0, .bool false, .slice none 0 0]) ?_ 4 _ rfl; refine aT (cs := #[.string x.f0, .string x.f1, .string x.f2, .int .i64 0, .int .i64 0, .bool false, .slice none 0 0]) ?_ 3 _ rfl; refine aT (cs := #[.string x.f0, .string x.f1, .string ⟨#[]⟩, .int .i64 0, .int .i64 0, .bool false, .slice none 0 0]) ?_ 2 _ rfl; refine aT (cs := #[.string x.f0, .string ⟨#[]⟩, .string ⟨#[]⟩, .int .i64 0, .int .i64 0, .bool false, .slice none 0 0]) ?_ 1 _ rfl; refine aT (cs := #[.string ⟨#[]⟩, .string ⟨#[]⟩, .string ⟨#[]⟩, .int .i64 0, .int .i64 0, .bool false, .slice none 0 0]) ?_ 0 _ rfl; exact HR.out) Tryz.underlying79 rfl (by kernel_rfl)) rfl ?_
  refine ⟨_, _, _, rfl, Kd.jf (base' := w.heap.size) (Kd.eO (ok := (fun k_ => w.heap.size + 2 ≤ k_)) ?_ (fun k hk => by omega)) (Nat.le_refl _), ?_⟩
  · iterate 7 (refine Kd.dM ?_ (fun k hk => by simp; omega) _)
    exact HV.out
  · iterate 7 (refine fG ?_ (by omega))
    exact HB.out
set_option maxHeartbeats 4000000 in
set_option maxRecDepth 100000 in
theorem AO.calls (A0 : Option Addr) (c0 : Nat) (l : List S71) (w : World) (hr : Kd.C k71 w A0 l.length l) (hz : l.length * 96 ≤ 140737488355328) (hc : ∀ x ∈ l, x.f5.length * 120 ≤ 140737488355328) :
    Calls Tryz.prog 33 #[.slice A0 l.length c0, .func (.func 34) #[] #[]] w fun e w' => ∃ v, e = .returned v ∧ wO k79 79 w w' v (l.map iH) ∧ Below w.heap.size w w' := by
  have hui := Tryz.underlying71
  have huo := Tryz.underlying79
  have HR := Aside0.mk hr
  have HZ := Aside0.mk hz
  have HCO := Aside0.mk hc
  clear hc
  clear hr hz
  go_enter Tryz.func33, Tryz.ntmps33
  go_wp2
  go_loopg [5, 10] l.length (fun kq v5 v10 w' => ∃ (i : Nat) (u : Value), u = v5 ∧ v10 = .int .i64 (i : Int) ∧ Aside0 (i + kq = l.length) ∧ Aside0 (Own k79 79 w w' u ((l.take i).map iH)) ∧ Aside0 (Below w.heap.size w w'))
  case atStart => exact ⟨0, _, rfl, rfl, ⟨by omega⟩, ⟨Kd.kQ _ _ _ _ _⟩, ⟨Below.refl _ _⟩⟩
  case round =>
    obtain ⟨i, u, hu, rfl, hi, HN, HB⟩ := hrel
    subst hu
    cases gk with
    | zero =>
      obtain rfl : i = l.length := by have := hi.out; omega
      have hend : decide (((l.length : Nat) : Int) < (l.length : Int)) = false := decide_eq_false (by omega)
      have HN' := HN.out
      rw [List.take_length] at HN'
      have HNZ := Aside0.mk HN'
      clear HN' HN hi
      go_wp2
      go_ret
      exact ⟨_, rfl, Kd.N_V HNZ.out, HB.out⟩
    | succ k1 =>
      have hlt : i < l.length := by have := hi.out; omega
      have c1 : decide ((i : Int) < (l.length : Int)) = true := decide_eq_true (by omega)
      have p1 : 0 ≤ (i : Int) := by omega
      have q1 : (i : Int) < (l.length : Int) := by omega
      obtain ⟨ad, A5, c5, e, hx0, hx1, hx2, hx3, hx4, hx5, BP, BJ⟩ := rZ HR.out (i : Int) p1 q1
      cases e
      have htk : (l.take (i + 1)).map iH = (l.take i).map iH ++ [iH (aJ l (i : Int))] := by
        rw [List.take_add_one, List.map_append, List.getElem?_eq_getElem hlt]
        simp [aJ, List.getElem?_eq_getElem hlt]
      have hmem : aJ l (i : Int) ∈ l := by
        have e : aJ l (i : Int) = l[i] := by simp [aJ, List.getElem?_eq_getElem hlt]
        rw [e]; exact List.getElem_mem hlt
      replace hx0 := (HB.out.cell (World.block_lt_of_cell? w _ hx0)).trans hx0
      replace hx1 := (HB.out.cell (World.block_lt_of_cell? w _ hx1)).trans hx1
      replace hx2 := (HB.out.cell (World.block_lt_of_cell? w _ hx2)).trans hx2
      replace hx3 := (HB.out.cell (World.block_lt_of_cell? w _ hx3)).trans hx3
      replace hx4 := (HB.out.cell (World.block_lt_of_cell? w _ hx4)).trans hx4
      replace hx5 := (HB.out.cell (World.block_lt_of_cell? w _ hx5)).trans hx5
      simp only [Int.toNat_natCast] at hx0 hx1 hx2 hx3 hx4 hx5
      generalize aJ l (i : Int) = x at hx0 hx1 hx2 hx3 hx4 hx5 BP BJ htk hmem
      replace p1 := eq_true p1
      replace q1 := eq_true q1
      have q3 : (i < l.length) = True := eq_true hlt
      have HTK := Aside0.mk htk
      have HMEM := Aside0.mk hmem
      have BI := Aside0.mk BJ
      clear BP BJ
      have HAW := Aside0.mk (oM HN.out HB.out.size)
      have hwv : Value.int .i64 (wrap64 ((i : Int) + 1)) = Value.int .i64 ((i + 1 : Nat) : Int) := by have := Kd.kK HR.out; rw [dD (by omega) (by omega)]; rfl
      have HWV := Aside0.mk hwv
      have hnx : Aside0 (i + 1 + k1 = l.length) := ⟨by have := hi.out; omega⟩
      clear htk hmem hwv hi
      go_wp2_with (first
        | (go_at_call 34; refine (zQ.calls x A5 c5 _ (Kd.cZ BI.out (HB.out.alloc HB.out.size _)) (HCO.out x HMEM.out)).mono ?_; rintro e w1 ⟨Av, nv, cv, rfl, hV, hb⟩; have hB1 := aN (HB.out.alloc HB.out.size (.cells #[.string x.f0, .string x.f1, .string x.f2, .int .u8 x.f3, .int .u16 x.f4, .slice A5 x.f5.length c5] 71)) hb; have HB1 := Aside0.mk hB1; have Bz := Aside0.mk (Kd.lC (Kd.qD HN.out (.cells #[.string x.f0, .string x.f1, .string x.f2, .int .u8 x.f3, .int .u16 x.f4, .slice A5 x.f5.length c5] 71)) hb); have hbs := hb.size; have BD := Aside0.mk (show wr.heap.size ≤ w1.heap.size by simp at hbs; omega); have HV := Aside0.mk (Kd.eO (ok' := fun k_ => wr.heap.size ≤ k_) hV (fun k hk => by simp at hk; omega)); clear hV; clear hb hB1 hbs)
        | ((with_reducible refine dz (N := 18) rfl ?_); refine Kd.mY k79 (w0 := w) w.heap.size 79 rfl rfl (xs := [iH x]) (inner := [.string x.f0, .string x.f1, .string x.f2, .int .i64 (wrap64 x.f3), .int .i64 (wrap64 x.f4), .bool false, .slice Av nv cv]) (ok := fun k_ => wr.heap.size ≤ k_) (okp := fun k_ => wr.heap.size ≤ k_) (by first | (go_simp; done) | (go_simp; rfl)) (dW.c7 (wP HV.out) (dW.none _ _)) (fun k hk => hk) BD.out HB1.out HB1.out.size (by simp) ?_; intro v2 w2 hn hb hg hat; have BF := Aside0.mk (Kd.nK Bz.out hg (fun k _ => fun e => by cases e)); obtain ⟨Az, cz, ez⟩ := Kd.jv hn; subst ez; have HL := Aside0.mk hn; have HB2 := Aside0.mk hb; clear hn hb hg hat)
        | (at_builtin; refine Kd.gV k79 (w0 := w) w.heap.size rfl (.tmp 14) (.tmp 18) 49 79 _ 96 rfl Tryz.underlying49 yB rfl (by decide) (by omega) u ((l.take i).map iH) [iH x] Az [iH x].length cz (fun k_ => w.heap.size ≤ k_) (fun k_ => wr.heap.size ≤ k_) rfl rfl BF.out (Kd.N_F HL.out) HAW.out (fun k hk => Nat.le_trans HB2.out.size hk) HB2.out HB2.out.size (by have := HZ.out; have := hnx.out; simp; omega) ?_; intro v3 w3 hn hb hg hat; have BG := Aside0.mk hn; have HB3 := Aside0.mk hb; clear hn hb hg hat))
      go_roundg k1
      case measure => exact Nat.lt_succ_self k1
      case rel => exact ⟨i + 1, _, rfl, by first | exact HWV.out | rfl, hnx, ⟨HTK.out ▸ BG.out⟩, HB3⟩
def rA (l : List S67) : Prop := l.length * 80 ≤ 140737488355328
def lF (l : List S71) : Prop := l.length * 96 ≤ 140737488355328 ∧ ∀ x ∈ l, x.f5.length * 120 ≤ 140737488355328
instance (l : List S67) : Decidable (rA l) := by unfold rA; infer_instance
instance (l : List S71) : Decidable (lF l) := by unfold lF; infer_instance
def dP.f (a0 : Int) (l : List S67) : Option (Int × List S71) := if rA l then some (IntKind.u64.wrap a0, l.map jq) else none
def bY.f (a0 : Int) (l : List S71) : Option (Int × List S79) := if lF l then some (a0, l.map iH) else none
def dG.f (a0 : Int) (l : List S67) : Option (Int × List S79) := (dP.f a0 l).bind fun p => bY.f p.1 p.2
def dP.T1 : Bool × List (List Nat × List Nat) := (true, [([], []), ([0], [0]), ([1], [1]), ([], []), ([3], [3]), ([4], [4]), ([2, 5], [2, 5]), ([6, 5, 0, 1, 2, 3, 4, 5, 6], [6])])
def dP.B1 : List Nat := [0, 1, 3, 0, 8, 24, 63, 127]
theorem dP.sJ : gX .any (opsOf Tryz.f12 1) = dP.T1 := by kernel_rfl
theorem dP.oK : fU dP.T1.2 dP.B1 = true := by kernel_rfl
set_option maxHeartbeats 4000000 in
set_option maxRecDepth 100000 in
theorem dP.calls (a0 : Int) (A1 : Option Addr) (c1 : Nat) (l : List S67) (r1 : Int) (r2 : List S71) (w : World) (hr : Kd.C k67 w A1 l.length l) (hc : l.length ≤ c1) (h : dP.f a0 l = some (r1, r2)) :
    Calls Tryz.prog 12 #[.agg #[.int .u32 a0, .slice A1 l.length c1]] w fun e w' => ∃ Bu : Value, e = .returned (.agg #[.int .u64 r1, Bu]) ∧ Kd.V k71 71 w' w.heap.size (fun k_ => w.heap.size ≤ k_) Bu r2 ∧ Below w.heap.size w w' := by
  have hok : rA l := Decidable.by_contra fun hn => by rw [dP.f, if_neg hn] at h; cases h
  rw [dP.f, if_pos hok] at h
  simp only [Option.some.injEq, Prod.mk.injEq] at h
  obtain ⟨rfl, rfl⟩ := h
  have HR1 := Aside0.mk hr
  have HOK := Aside0.mk hok
  clear hr hc hok
  have hux := Tryz.underlying25
  have huo := Tryz.underlying29
  have HB := Aside0.mk (((Below.refl _ w).alloc (Nat.le_refl _) (.cells #[.int .u32 a0, .slice A1 l.length c1] 25)).alloc (by simp) (.cells #[.int .u64 0, .slice none 0 0] 29))
  have HX := Aside0.mk (ak (heap_alloc_new w (.cells #[.int .u32 a0, .slice A1 l.length c1] 25)) (.cells #[.int .u64 0, .slice none 0 0] 29))
  have HR := Aside0.mk (oN w (.cells #[.int .u32 a0, .slice A1 l.length c1] 25) (.cells #[.int .u64 0, .slice none 0 0] 29))
  go_enter Tryz.func12, Tryz.ntmps12
  go_upto_region 1 with (fail)
  (try simp only [Act.put, List.setIfInBounds_toArray, List.set_cons_zero, List.set_cons_succ])
  generalize ((w.alloc (.cells #[.int .u32 a0, .slice A1 l.length c1] 25)).alloc (.cells #[.int .u64 0, .slice none 0 0] 29)) = wA at HB HX HR ⊢
  refine iE (n := 8) (S := fun w' => w'.heap[w.heap.size]? = some (.cells #[.int .u32 a0, .slice A1 l.length c1] 25 (0, 0))) (ds := [7]) #[false, false, false, false, false, false, false, false] (by kernel_rfl) rfl rfl (HX.out) (fun hHeld => ?_)
  refine fC dP.sJ dP.oK (fun HT_ HW_ => ?_)
  replace HX := Aside0.mk (av HX.out)
  replace HR := Aside0.mk (av HR.out)
  replace HB := Aside0.mk (bF HB.out)
  refine eX (i := 0) (N := some 3) (v := ?_) (a' := ?_) #[true, false, false, false, false, false, false, false] rfl rfl (dV HT_.out (by kernel_rfl)) (fun _ _ _ h => h) (Or.inl ⟨by rfl, ?_⟩) ?_ ?_
  rotate_left
  · intro w'
    go_simp
    with_reducible rfl
  rotate_left
  · simp only [Act.put, List.setIfInBounds_toArray, List.set_cons_zero, List.set_cons_succ, bJ, bK]
    rfl
  refine eX (i := 3) (N := some 6) (v := ?_) (a' := ?_) #[true, false, false, true, false, false, false, false] rfl rfl (dV HT_.out (by kernel_rfl)) (fun _ _ _ h => h) (Or.inl ⟨by rfl, ?_⟩) ?_ ?_
  rotate_left
  · intro w'
    go_simp
    with_reducible rfl
  rotate_left
  · simp only [Act.put, List.setIfInBounds_toArray, List.set_cons_zero, List.set_cons_succ, bJ, bK]
    rfl
  refine gG (i := 1) (N := some 4) (v := ?_) (a' := ?_) #[true, true, false, true, false, false, false, false] rfl rfl (d9 HT_.out HW_.out (by kernel_rfl)) (fun _ _ _ h => h) (Or.inl ⟨by rfl, ?_⟩) hHeld ?_ ?_
  rotate_left
  · intro w' s0
    have e0 : w'.cell? ⟨w.heap.size, 0, none⟩ = some (.int .u32 a0) := (ah s0 0).trans rfl
    have e1 : w'.cell? ⟨w.heap.size, 1, none⟩ = some (.slice A1 l.length c1) := (ah s0 1).trans rfl
    go_simp
    with_reducible rfl
  rotate_left
  · simp only [Act.put, List.setIfInBounds_toArray, List.set_cons_zero, List.set_cons_succ, bJ, bK]
    rfl
  refine eX (i := 2) (N := some 5) (v := ?_) (a' := ?_) #[true, true, true, true, false, false, false, false] rfl rfl (dV HT_.out (by kernel_rfl)) (fun _ _ _ h => h) (Or.inl ⟨by rfl, ?_⟩) ?_ ?_
  rotate_left
  · intro w'
    go_simp
    with_reducible rfl
  rotate_left
  · simp only [Act.put, List.setIfInBounds_toArray, List.set_cons_zero, List.set_cons_succ, bJ, bK]
    rfl
  refine gG (i := 4) (N := some 7) (v := ?_) (a' := ?_) #[true, true, true, true, true, false, false, false] rfl rfl (d9 HT_.out HW_.out (by kernel_rfl)) (fun _ _ _ h => h) (Or.inl ⟨by rfl, ?_⟩) hHeld ?_ ?_
  rotate_left
  · intro w' s0
    have e0 : w'.cell? ⟨w.heap.size, 0, none⟩ = some (.int .u32 a0) := (ah s0 0).trans rfl
    have e1 : w'.cell? ⟨w.heap.size, 1, none⟩ = some (.slice A1 l.length c1) := (ah s0 1).trans rfl
    go_simp
    with_reducible rfl
  rotate_left
  · simp only [Act.put, List.setIfInBounds_toArray, List.set_cons_zero, List.set_cons_succ, bJ, bK]
    rfl
  refine fE (i := 5) (N := some 8) #[true, true, true, true, true, true, false, false] rfl rfl (dh HT_.out (by kernel_rfl)) (by decide) (fun K hK => ?_)
  refine eH Tryz.func29 (by kernel_rfl) rfl #[.slice A1 l.length c1, .func (.func 30) #[] #[]] (by rfl) rfl rfl (by (try simp only [List.map_toArray, List.map_cons, List.map_nil]); first | done | rfl) ?_
  refine (AL.calls A1 c1 l _ (Kd.cZ HR1.out HB.out) HOK.out).mono ?_
  rintro e w5 ⟨v, rfl, hV, hb⟩
  obtain ⟨Av, nv, cv, er⟩ : ∃ B n d, v = .slice B n d := (Kd.iw hV).elim fun A h => h.elim fun c e => ⟨A, _, c, e⟩
  subst er
  refine ⟨_, rfl, ?_⟩
  have hsz := bE HR.out
  have HV := Aside0.mk (Kd.eO (ok' := (fun k_ => w.heap.size + 2 ≤ k_)) hV (fun k hk => by omega))
  replace HX := Aside0.mk (aI HX.out hb)
  replace HR := Aside0.mk (aI HR.out hb)
  replace HB := Aside0.mk (aN HB.out hb)
  clear hV hb hsz
  refine hK.out _ _ (HX.out) (fun hHeld => ?_)
  clear hK K
  refine dS (a' := ?_) ?_ ?_
  rotate_left
  · show Act.put _ (some 8) _ = _
    simp only [Act.put, List.setIfInBounds_toArray, List.set_cons_zero, List.set_cons_succ, bJ, bK]
    rfl
  refine eX (i := 6) (N := some 9) (v := ?_) (a' := ?_) #[true, true, true, true, true, true, true, false] rfl rfl (dV HT_.out (by kernel_rfl)) (fun _ _ _ h => h) (Or.inl ⟨by rfl, ?_⟩) ?_ ?_
  rotate_left
  · intro w'
    go_simp
    with_reducible rfl
  rotate_left
  · simp only [Act.put, List.setIfInBounds_toArray, List.set_cons_zero, List.set_cons_succ, bJ, bK]
    rfl
  refine kL (i := 7) (N := none) #[true, true, true, true, true, true, true, true] rfl rfl (dh HT_.out (by kernel_rfl)) (by decide) (fun K hK => ?_)
  have z0 : w5.cell? ⟨w.heap.size + 1, 0, none⟩ = some (.int .u64 0) := (ah HR.out 0).trans rfl
  have z1 : w5.cell? ⟨w.heap.size + 1, 1, none⟩ = some (.slice none 0 0) := (ah HR.out 1).trans rfl
  have Bv := ay HR.out 0
  have Bw := ay HR.out 1
  refine jL (w1 := ?_) (by rfl) rfl ?_ ?_
  rotate_left
  · go_simp
    rfl
  clear z0 Bv z1 Bw
  refine hK.out _ _ ?_
  clear hK K
  refine jd (gI HT_.out (by kernel_rfl)) ?_
  go_wp2
  refine bodyPost_ret (results_cell_row rfl _ _ (w.heap.size + 1) 29 #[.int .u64 (IntKind.u64.wrap a0), .slice Av nv cv] (0, 0) _ rfl (by refine aT (cs := #[.int .u64 (IntKind.u64.wrap a0), .slice none 0 0]) ?_ 1 _ rfl; refine aT (cs := #[.int .u64 0, .slice none 0 0]) ?_ 0 _ rfl; exact HR.out) Tryz.underlying29 rfl (by kernel_rfl)) rfl ?_
  refine ⟨_, rfl, Kd.jf (base' := w.heap.size) (Kd.eO (ok := (fun k_ => w.heap.size + 2 ≤ k_)) ?_ (fun k hk => by omega)) (Nat.le_refl _), ?_⟩
  · iterate 2 (refine Kd.dM ?_ (fun k hk => by simp; omega) _)
    exact HV.out
  · iterate 2 (refine fG ?_ (by omega))
    exact HB.out
def bY.T1 : Bool × List (List Nat × List Nat) := (true, [([], []), ([0], [0]), ([], []), ([2], [2]), ([3], [3]), ([1, 4], [1, 4]), ([5, 4, 0, 1, 2, 3, 4, 5], [5])])
def bY.B1 : List Nat := [0, 1, 0, 4, 12, 31, 63]
theorem bY.sJ : gX .any (opsOf Tryz.f16 1) = bY.T1 := by kernel_rfl
theorem bY.oK : fU bY.T1.2 bY.B1 = true := by kernel_rfl
set_option maxHeartbeats 4000000 in
set_option maxRecDepth 100000 in
theorem bY.calls (a0 : Int) (A1 : Option Addr) (c1 : Nat) (l : List S71) (r1 : Int) (r2 : List S79) (w : World) (hr : Kd.C k71 w A1 l.length l) (hc : l.length ≤ c1) (h : bY.f a0 l = some (r1, r2)) :
    Calls Tryz.prog 16 #[.agg #[.int .u64 a0, .slice A1 l.length c1]] w fun e w' => ∃ Bu : Value, e = .returned (.agg #[.int .u64 r1, Bu]) ∧ Kd.V k79 79 w' w.heap.size (fun k_ => w.heap.size ≤ k_) Bu r2 ∧ Below w.heap.size w w' := by
  have hok : lF l := Decidable.by_contra fun hn => by rw [bY.f, if_neg hn] at h; cases h
  rw [bY.f, if_pos hok] at h
  simp only [Option.some.injEq, Prod.mk.injEq] at h
  obtain ⟨rfl, rfl⟩ := h
  have HR1 := Aside0.mk hr
  have HOK := Aside0.mk hok
  clear hr hc hok
  have hux := Tryz.underlying29
  have huo := Tryz.underlying51
  have HB := Aside0.mk (((Below.refl _ w).alloc (Nat.le_refl _) (.cells #[.int .u64 a0, .slice A1 l.length c1] 29)).alloc (by simp) (.cells #[.int .u64 0, .slice none 0 0] 51))
  have HX := Aside0.mk (ak (heap_alloc_new w (.cells #[.int .u64 a0, .slice A1 l.length c1] 29)) (.cells #[.int .u64 0, .slice none 0 0] 51))
  have HR := Aside0.mk (oN w (.cells #[.int .u64 a0, .slice A1 l.length c1] 29) (.cells #[.int .u64 0, .slice none 0 0] 51))
  go_enter Tryz.func16, Tryz.ntmps16
  go_upto_region 1 with (fail)
  (try simp only [Act.put, List.setIfInBounds_toArray, List.set_cons_zero, List.set_cons_succ])
  generalize ((w.alloc (.cells #[.int .u64 a0, .slice A1 l.length c1] 29)).alloc (.cells #[.int .u64 0, .slice none 0 0] 51)) = wA at HB HX HR ⊢
  refine iE (n := 7) (S := fun w' => w'.heap[w.heap.size]? = some (.cells #[.int .u64 a0, .slice A1 l.length c1] 29 (0, 0))) (ds := [6]) #[false, false, false, false, false, false, false] (by kernel_rfl) rfl rfl (HX.out) (fun hHeld => ?_)
  refine fC bY.sJ bY.oK (fun HT_ HW_ => ?_)
  replace HX := Aside0.mk (av HX.out)
  replace HR := Aside0.mk (av HR.out)
  replace HB := Aside0.mk (bF HB.out)
  refine eX (i := 0) (N := some 3) (v := ?_) (a' := ?_) #[true, false, false, false, false, false, false] rfl rfl (dV HT_.out (by kernel_rfl)) (fun _ _ _ h => h) (Or.inl ⟨by rfl, ?_⟩) ?_ ?_
  rotate_left
  · intro w'
    go_simp
    with_reducible rfl
  rotate_left
  · simp only [Act.put, List.setIfInBounds_toArray, List.set_cons_zero, List.set_cons_succ, bJ, bK]
    rfl
  refine eX (i := 2) (N := some 5) (v := ?_) (a' := ?_) #[true, false, true, false, false, false, false] rfl rfl (dV HT_.out (by kernel_rfl)) (fun _ _ _ h => h) (Or.inl ⟨by rfl, ?_⟩) ?_ ?_
  rotate_left
  · intro w'
    go_simp
    with_reducible rfl
  rotate_left
  · simp only [Act.put, List.setIfInBounds_toArray, List.set_cons_zero, List.set_cons_succ, bJ, bK]
    rfl
  refine gG (i := 1) (N := some 4) (v := ?_) (a' := ?_) #[true, true, true, false, false, false, false] rfl rfl (d9 HT_.out HW_.out (by kernel_rfl)) (fun _ _ _ h => h) (Or.inl ⟨by rfl, ?_⟩) hHeld ?_ ?_
  rotate_left
  · intro w' s0
    have e0 : w'.cell? ⟨w.heap.size, 0, none⟩ = some (.int .u64 a0) := (ah s0 0).trans rfl
    have e1 : w'.cell? ⟨w.heap.size, 1, none⟩ = some (.slice A1 l.length c1) := (ah s0 1).trans rfl
    go_simp
    with_reducible rfl
  rotate_left
  · simp only [Act.put, List.setIfInBounds_toArray, List.set_cons_zero, List.set_cons_succ, bJ, bK]
    rfl
  refine gG (i := 3) (N := some 6) (v := ?_) (a' := ?_) #[true, true, true, true, false, false, false] rfl rfl (d9 HT_.out HW_.out (by kernel_rfl)) (fun _ _ _ h => h) (Or.inl ⟨by rfl, ?_⟩) hHeld ?_ ?_
  rotate_left
  · intro w' s0
    have e0 : w'.cell? ⟨w.heap.size, 0, none⟩ = some (.int .u64 a0) := (ah s0 0).trans rfl
    have e1 : w'.cell? ⟨w.heap.size, 1, none⟩ = some (.slice A1 l.length c1) := (ah s0 1).trans rfl
    go_simp
    with_reducible rfl
  rotate_left
  · simp only [Act.put, List.setIfInBounds_toArray, List.set_cons_zero, List.set_cons_succ, bJ, bK]
    rfl
  refine fE (i := 4) (N := some 7) #[true, true, true, true, true, false, false] rfl rfl (dh HT_.out (by kernel_rfl)) (by decide) (fun K hK => ?_)
  refine eH Tryz.func33 (by kernel_rfl) rfl #[.slice A1 l.length c1, .func (.func 34) #[] #[]] (by rfl) rfl rfl (by (try simp only [List.map_toArray, List.map_cons, List.map_nil]); first | done | rfl) ?_
  refine (AO.calls A1 c1 l _ (Kd.cZ HR1.out HB.out) HOK.out.1 HOK.out.2).mono ?_
  rintro e w5 ⟨v, rfl, hV, hb⟩
  obtain ⟨Av, nv, cv, er⟩ : ∃ B n d, v = .slice B n d := (Kd.iw hV).elim fun A h => h.elim fun c e => ⟨A, _, c, e⟩
  subst er
  refine ⟨_, rfl, ?_⟩
  have hsz := bE HR.out
  have HV := Aside0.mk (Kd.eO (ok' := (fun k_ => w.heap.size + 2 ≤ k_)) hV (fun k hk => by omega))
  replace HX := Aside0.mk (aI HX.out hb)
  replace HR := Aside0.mk (aI HR.out hb)
  replace HB := Aside0.mk (aN HB.out hb)
  clear hV hb hsz
  refine hK.out _ _ (HX.out) (fun hHeld => ?_)
  clear hK K
  refine dS (a' := ?_) ?_ ?_
  rotate_left
  · show Act.put _ (some 7) _ = _
    simp only [Act.put, List.setIfInBounds_toArray, List.set_cons_zero, List.set_cons_succ, bJ, bK]
    rfl
  refine eX (i := 5) (N := some 8) (v := ?_) (a' := ?_) #[true, true, true, true, true, true, false] rfl rfl (dV HT_.out (by kernel_rfl)) (fun _ _ _ h => h) (Or.inl ⟨by rfl, ?_⟩) ?_ ?_
  rotate_left
  · intro w'
    go_simp
    with_reducible rfl
  rotate_left
  · simp only [Act.put, List.setIfInBounds_toArray, List.set_cons_zero, List.set_cons_succ, bJ, bK]
    rfl
  refine kL (i := 6) (N := none) #[true, true, true, true, true, true, true] rfl rfl (dh HT_.out (by kernel_rfl)) (by decide) (fun K hK => ?_)
  have z0 : w5.cell? ⟨w.heap.size + 1, 0, none⟩ = some (.int .u64 0) := (ah HR.out 0).trans rfl
  have z1 : w5.cell? ⟨w.heap.size + 1, 1, none⟩ = some (.slice none 0 0) := (ah HR.out 1).trans rfl
  have Bv := ay HR.out 0
  have Bw := ay HR.out 1
  refine jL (w1 := ?_) (by rfl) rfl ?_ ?_
  rotate_left
  · go_simp
    rfl
  clear z0 Bv z1 Bw
  refine hK.out _ _ ?_
  clear hK K
  refine jd (gI HT_.out (by kernel_rfl)) ?_
  go_wp2
  refine bodyPost_ret (results_cell_row rfl _ _ (w.heap.size + 1) 51 #[.int .u64 a0, .slice Av nv cv] (0, 0) _ rfl (by refine aT (cs := #[.int .u64 a0, .slice none 0 0]) ?_ 1 _ rfl; refine aT (cs := #[.int .u64 0, .slice none 0 0]) ?_ 0 _ rfl; exact HR.out) Tryz.underlying51 rfl (by kernel_rfl)) rfl ?_
  refine ⟨_, rfl, Kd.jf (base' := w.heap.size) (Kd.eO (ok := (fun k_ => w.heap.size + 2 ≤ k_)) ?_ (fun k hk => by omega)) (Nat.le_refl _), ?_⟩
  · iterate 2 (refine Kd.dM ?_ (fun k hk => by simp; omega) _)
    exact HV.out
  · iterate 2 (refine fG ?_ (by omega))
    exact HB.out
set_option maxHeartbeats 4000000 in
set_option maxRecDepth 100000 in
theorem dG.calls (a0 : Int) (A1 : Option Addr) (c1 : Nat) (l : List S67) (r1 : Int) (r2 : List S79) (w : World) (hr : Kd.C k67 w A1 l.length l) (hc : l.length ≤ c1) (h : dG.f a0 l = some (r1, r2)) :
    Calls Tryz.prog 18 #[.agg #[.int .u32 a0, .slice A1 l.length c1]] w fun e w' => ∃ Bu : Value, e = .returned (.agg #[.int .u64 r1, Bu]) ∧ Kd.V k79 79 w' w.heap.size (fun k_ => w.heap.size ≤ k_) Bu r2 ∧ Below w.heap.size w w' := by
  obtain ⟨⟨s1, s2⟩, h1, h2⟩ := Option.bind_eq_some_iff.1 h
  have H1 := Aside0.mk h1
  have H2 := Aside0.mk h2
  have HR1 := Aside0.mk hr
  have Cb := Aside0.mk hc
  clear h h1 h2 hr hc
  have hux := Tryz.underlying25
  have huo := Tryz.underlying51
  have HB := Aside0.mk (((Below.refl _ w).alloc (Nat.le_refl _) (.cells #[.int .u32 a0, .slice A1 l.length c1] 25)).alloc (by simp) (.cells #[.int .u64 0, .slice none 0 0] 51))
  have HR := Aside0.mk (oN w (.cells #[.int .u32 a0, .slice A1 l.length c1] 25) (.cells #[.int .u64 0, .slice none 0 0] 51))
  go_enter Tryz.func18, Tryz.ntmps18
  go_wp2_with (first
    | (go_at_call 12; refine (dP.calls a0 A1 c1 l s1 s2 _ (Kd.cZ HR1.out HB.out) Cb.out H1.out).mono ?_; rintro e w1 ⟨v1, rfl, hV, hb⟩; obtain ⟨Av, cv, ev⟩ := Kd.iw hV; subst ev; have HB1 := Aside0.mk (aN HB.out hb); have HR2 := Aside0.mk (aI HR.out hb); have BQ := Aside0.mk (Kd.eY hV); clear hV hb)
    | (go_at_call 16; refine (bY.calls s1 Av cv s2 r1 r2 _ BQ.out.2.2 BQ.out.2.1 H2.out).mono ?_; rintro e w2 ⟨v2, rfl, hV, hb⟩; obtain ⟨Aw, cw, ew⟩ := Kd.iw hV; subst ew; have HB2 := Aside0.mk (aN HB1.out hb); have HR3 := Aside0.mk (aI HR2.out hb); have hsz := bE HR2.out; have Cc := Aside0.mk (Kd.eO (ok' := (fun k_ => w.heap.size + 2 ≤ k_)) hV (fun k hk => by omega)); clear hV hb hsz; have z0 : w2.cell? ⟨w.heap.size + 1, 0, none⟩ = some (.int .u64 0) := (ah HR3.out 0).trans rfl; have z1 : w2.cell? ⟨w.heap.size + 1, 1, none⟩ = some (.slice none 0 0) := (ah HR3.out 1).trans rfl; have Bv := ay HR3.out 0; have Bw := ay HR3.out 1))
  refine bodyPost_ret (results_cell_row rfl _ _ (w.heap.size + 1) 51 #[.int .u64 r1, .slice Aw r2.length cw] (0, 0) _ rfl (by refine aT (cs := #[.int .u64 r1, .slice none 0 0]) ?_ 1 _ rfl; refine aT (cs := #[.int .u64 0, .slice none 0 0]) ?_ 0 _ rfl; exact HR3.out) Tryz.underlying51 rfl (by kernel_rfl)) rfl ?_
  refine ⟨_, rfl, Kd.jf (base' := w.heap.size) (Kd.eO (ok := (fun k_ => w.heap.size + 2 ≤ k_)) ?_ (fun k hk => by omega)) (Nat.le_refl _), ?_⟩
  · iterate 2 (refine Kd.dM ?_ (fun k hk => by simp; omega) _)
    exact Cc.out
  · iterate 2 (refine fG ?_ (by omega))
    exact HB2.out
end Go.Proofs.YtpncpefppifgdaaGreatDoor.GUt
