/- upgrade: each of a list, made another thing; a state of version 1 made one of version 2, of version 2 one of version 3: contracts. No conditions beside those stated. -/
import Derived.Test.YtpncpefppifgdaaGreatDoorCp
import Derived.Laws.Cover3
namespace Go.Proofs.YtpncpefppifgdaaGreatDoor.GUt
open Go.RowKit Go.Proofs.YtpncpefppifgdaaGreatDoorW.PrintWords Go.Proofs.YtpncpefppifgdaaGreatDoorW.PrintLast Go.Proofs.YtpncpefppifgdaaGreatDoorW.PrintMore
set_option linter.unusedVariables false
set_option linter.unusedSimpArgs false
theorem tN : (Tryz.prog.info? 71).map (fun i => (i.zero, i.size, i.bytes)) = some (some (.agg #[.string ⟨#[]⟩, .string ⟨#[]⟩, .string ⟨#[]⟩, .int .u8 0, .int .u16 0, .slice none 0 0]), 6, 80) := by kernel_rfl
theorem xX : (Tryz.prog.info? 79).map (fun i => (i.zero, i.size, i.bytes)) = some (some (.agg #[.string ⟨#[]⟩, .string ⟨#[]⟩, .string ⟨#[]⟩, .int .i64 0, .int .i64 0, .bool false, .slice none 0 0]), 7, 96) := by kernel_rfl
theorem xY : (Tryz.prog.info? 84).map (fun i => (i.zero, i.size, i.bytes)) = some (some (.agg #[.string ⟨#[]⟩, .string ⟨#[]⟩, .slice none 0 0, .slice none 0 0, .int .i64 0, .int .i64 0, .slice none 0 0]), 7, 120) := by kernel_rfl
def nM (x : S67) : S71 := ⟨x.f0, x.f1, ⟨#[100, 101, 102, 97, 117, 108, 116]⟩, x.f3, 30, [⟨⟨#[109, 97, 105, 110]⟩, x.f2⟩]⟩
def ko (x : S73) : S84 := ⟨x.f0, x.f1, [], [], 100, 64, []⟩
def iD (x : S71) : S79 := ⟨x.f0, ⟨x.f1, x.f2, wrap64 x.f3, wrap64 x.f4, false, x.f5.map ko⟩⟩
abbrev Own {α : Type} (d : Kd α) (e : Nat) (w W : World) (v : Value) (xs : List α) : Prop := Kd.N d e W w.heap.size (fun k_ => w.heap.size ≤ k_) v xs
abbrev ru {α : Type} (d : Kd α) (e : Nat) (w W : World) (v : Value) (xs : List α) : Prop := Kd.V d e W w.heap.size (fun k_ => w.heap.size ≤ k_) v xs
theorem kY {α : Type} {d : Kd α} {e : Nat} {w W : World} {v : Value} {xs : List α} (h : Own d e w W v xs) (hs : w.heap.size ≤ W.heap.size) : ∀ k, W.heap.size ≤ k → w.heap.size ≤ k ∧ some k ≠ v.ownBlock := fun k hk =>
  ⟨Nat.le_trans hs hk, fun e => by have := Kd.Ag h k e.symm; omega⟩
theorem kZ (w : World) (o o' : Obj) : ((w.alloc o).alloc o').heap[w.heap.size + 1]? = some o' := by have q := heap_alloc_new (w.alloc o) o'; simpa using q
set_option maxHeartbeats 4000000 in
set_option maxRecDepth 100000 in
theorem Bo.calls (x : S67) (w : World) :
    Calls Tryz.prog 30 #[.agg #[.string x.f0, .string x.f1, .string x.f2, .int .u8 x.f3]] w fun e w' => ∃ (Av : Option Addr) (nv cv : Nat), e = .returned (.agg #[.string x.f0, .string x.f1, .string (⟨#[100, 101, 102, 97, 117, 108, 116]⟩ : ByteArray), .int .u8 x.f3, .int .u16 30, .slice Av nv cv]) ∧ ru k73 73 w w' (.slice Av nv cv) [⟨⟨#[109, 97, 105, 110]⟩, x.f2⟩] ∧ Below w.heap.size w w' := by
  have BU := Tryz.underlying67
  have BZ := Tryz.underlying71
  have BJ := Tryz.underlying73
  have HB := Aside0.mk (((Below.refl _ w).alloc (Nat.le_refl _) (.cells #[.string x.f0, .string x.f1, .string x.f2, .int .u8 x.f3] 67)).alloc (by simp) (.cells #[.string ⟨#[]⟩, .string ⟨#[]⟩, .string ⟨#[]⟩, .int .u8 0, .int .u16 0, .slice none 0 0] 71))
  have HBX := Aside0.mk (ak (heap_alloc_new w (.cells #[.string x.f0, .string x.f1, .string x.f2, .int .u8 x.f3] 67)) (.cells #[.string ⟨#[]⟩, .string ⟨#[]⟩, .string ⟨#[]⟩, .int .u8 0, .int .u16 0, .slice none 0 0] 71))
  have HBR := Aside0.mk (kZ w (.cells #[.string x.f0, .string x.f1, .string x.f2, .int .u8 x.f3] 67) (.cells #[.string ⟨#[]⟩, .string ⟨#[]⟩, .string ⟨#[]⟩, .int .u8 0, .int .u16 0, .slice none 0 0] 71))
  go_enter Tryz.func30, Tryz.ntmps30
  go_wp2_with (first
    | ((with_reducible refine bN (N := 12) rfl ?_); refine Kd.lX k73 (w0 := w) w.heap.size 73 rfl rfl (xs := [⟨⟨#[109, 97, 105, 110]⟩, x.f2⟩]) (inner := [.string (⟨#[109, 97, 105, 110]⟩ : ByteArray), .string x.f2]) (ok := fun k_ => w.heap.size + 2 ≤ k_) (okp := fun _ => False) (by first | (go_simp; done) | (go_simp; rfl)) (dQ.c2 (tu _ _ (⟨⟨#[109, 97, 105, 110]⟩, x.f2⟩ : S73)) (dQ.none _ _)) (fun k hk => hk.elim) (by simp) HB.out HB.out.size (by simp) ?_; intro v1 w1 hn hb hg hat; obtain ⟨Av, nv, cv, ev⟩ : ∃ B n d, v1 = .slice B n d := (Kd.iR hn).elim fun A h => h.elim fun c e => ⟨A, _, c, e⟩; subst ev; have HN := Aside0.mk hn; have HB1 := Aside0.mk hb; have HR := Aside0.mk ((hg.block (w.heap.size + 1) (by simp) (fun e => by cases e)).trans HBR.out); clear hn hb hat hg; have z0 : w1.cell? ⟨w.heap.size + 1, 0, none⟩ = some (.string ⟨#[]⟩) := (ah HR.out 0).trans rfl; have z1 : w1.cell? ⟨w.heap.size + 1, 1, none⟩ = some (.string ⟨#[]⟩) := (ah HR.out 1).trans rfl; have z2 : w1.cell? ⟨w.heap.size + 1, 2, none⟩ = some (.string ⟨#[]⟩) := (ah HR.out 2).trans rfl; have z3 : w1.cell? ⟨w.heap.size + 1, 3, none⟩ = some (.int .u8 0) := (ah HR.out 3).trans rfl; have z4 : w1.cell? ⟨w.heap.size + 1, 4, none⟩ = some (.int .u16 0) := (ah HR.out 4).trans rfl; have z5 : w1.cell? ⟨w.heap.size + 1, 5, none⟩ = some (.slice none 0 0) := (ah HR.out 5).trans rfl; have Bz := av HR.out 0; have BD := av HR.out 1; have BN := av HR.out 2; have BO := av HR.out 3; have BP := av HR.out 4; have BQ := av HR.out 5))
  refine bodyPost_ret (results_cell_row rfl _ _ (w.heap.size + 1) 71 #[.string x.f0, .string x.f1, .string (⟨#[100, 101, 102, 97, 117, 108, 116]⟩ : ByteArray), .int .u8 x.f3, .int .u16 30, .slice Av nv cv] (0, 0) _ rfl (by refine aQ (cs := #[.string x.f0, .string x.f1, .string (⟨#[100, 101, 102, 97, 117, 108, 116]⟩ : ByteArray), .int .u8 x.f3, .int .u16 30, .slice none 0 0]) ?_ 5 _ rfl; refine aQ (cs := #[.string x.f0, .string x.f1, .string (⟨#[100, 101, 102, 97, 117, 108, 116]⟩ : ByteArray), .int .u8 x.f3, .int .u16 0, .slice none 0 0]) ?_ 4 _ rfl; refine aQ (cs := #[.string x.f0, .string x.f1, .string (⟨#[100, 101, 102, 97, 117, 108, 116]⟩ : ByteArray), .int .u8 0, .int .u16 0, .slice none 0 0]) ?_ 3 _ rfl; refine aQ (cs := #[.string x.f0, .string x.f1, .string ⟨#[]⟩, .int .u8 0, .int .u16 0, .slice none 0 0]) ?_ 2 _ rfl; refine aQ (cs := #[.string x.f0, .string ⟨#[]⟩, .string ⟨#[]⟩, .int .u8 0, .int .u16 0, .slice none 0 0]) ?_ 1 _ rfl; refine aQ (cs := #[.string ⟨#[]⟩, .string ⟨#[]⟩, .string ⟨#[]⟩, .int .u8 0, .int .u16 0, .slice none 0 0]) ?_ 0 _ rfl; exact HR.out) Tryz.underlying71 rfl (by kernel_rfl)) rfl ?_
  refine ⟨_, _, _, rfl, Kd.N_V (base := w.heap.size) <| Kd.kE (ok := fun k_ => w.heap.size + 2 ≤ k_) ?_ (fun k hk => by omega), ?_⟩
  · iterate 6 (refine Kd.pQ ?_ (fun k hk => by simp; omega) _)
    exact HN.out
  · iterate 6 (refine eu ?_ (by omega))
    exact HB1.out
theorem zI {W : World} {base : Nat} {ok : Nat → Prop} {x : S67} {Av : Option Addr} {nv cv : Nat} (h : Kd.V k73 73 W base ok (.slice Av nv cv) [⟨⟨#[109, 97, 105, 110]⟩, x.f2⟩]) : Kd.FK k71 W ok (nM x) [.string x.f0, .string x.f1, .string (⟨#[100, 101, 102, 97, 117, 108, 116]⟩ : ByteArray), .int .u8 x.f3, .int .u16 30, .slice Av nv cv] := by
  obtain ⟨e, l, hF⟩ := Kd.qV h
  subst e
  exact tC W ok (nM x) l hF
theorem xZ (W : World) (ok : Nat → Prop) (x : S73) : Kd.FK k84 W ok (ko x) [.string x.f0, .string x.f1, .slice none 0 0, .slice none 0 0, .int .i64 100, .int .i64 64, .slice none 0 0] := xE W ok (ko x) (Nat.le_refl _) (Kd.sU _ _ _) (Nat.le_refl _) (Kd.sU _ _ _) (Nat.le_refl _) (Kd.sU _ _ _)
theorem wN {W : World} {base : Nat} {ok : Nat → Prop} {x : S71} {Av : Option Addr} {nv cv : Nat} (h : Kd.V k84 84 W base ok (.slice Av nv cv) (x.f5.map ko)) : Kd.FK k79 W ok (iD x) [.string x.f0, .string x.f1, .string x.f2, .int .i64 (wrap64 x.f3), .int .i64 (wrap64 x.f4), .bool false, .slice Av nv cv] := by
  obtain ⟨e, l, hF⟩ := Kd.qV h
  subst e
  exact xG W ok (iD x) l hF
set_option maxHeartbeats 4000000 in
set_option maxRecDepth 100000 in
theorem cont.calls (x : S73) (w : World) :
    Calls Tryz.prog 36 #[.agg #[.string x.f0, .string x.f1]] w fun e w' => e = .returned (.agg #[.string x.f0, .string x.f1, .slice none 0 0, .slice none 0 0, .int .i64 100, .int .i64 64, .slice none 0 0]) ∧ Below w.heap.size w w' := by
  have BJ := Tryz.underlying73
  have Ca := Tryz.underlying84
  have HB := Aside0.mk (((Below.refl _ w).alloc (Nat.le_refl _) (.cells #[.string x.f0, .string x.f1] 73)).alloc (by simp) (.cells #[.string ⟨#[]⟩, .string ⟨#[]⟩, .slice none 0 0, .slice none 0 0, .int .i64 0, .int .i64 0, .slice none 0 0] 84))
  have HBX := Aside0.mk (ak (heap_alloc_new w (.cells #[.string x.f0, .string x.f1] 73)) (.cells #[.string ⟨#[]⟩, .string ⟨#[]⟩, .slice none 0 0, .slice none 0 0, .int .i64 0, .int .i64 0, .slice none 0 0] 84))
  have HBR := Aside0.mk (kZ w (.cells #[.string x.f0, .string x.f1] 73) (.cells #[.string ⟨#[]⟩, .string ⟨#[]⟩, .slice none 0 0, .slice none 0 0, .int .i64 0, .int .i64 0, .slice none 0 0] 84))
  go_enter Tryz.func36, Tryz.ntmps36
  go_wp2
  refine bodyPost_ret (results_cell_row rfl _ _ (w.heap.size + 1) 84 #[.string x.f0, .string x.f1, .slice none 0 0, .slice none 0 0, .int .i64 100, .int .i64 64, .slice none 0 0] (0, 0) _ rfl (by exact kZ _ _ _) Tryz.underlying84 rfl (by kernel_rfl)) rfl ?_
  exact ⟨rfl, ((Below.refl _ w).alloc (Nat.le_refl _) _).alloc (by simp) _⟩
set_option maxHeartbeats 4000000 in
set_option maxRecDepth 100000 in
theorem AA.calls (A0 : Option Addr) (c0 : Nat) (l : List S73) (w : World) (hr : Kd.C k73 w A0 l.length l) (hz : l.length * 120 ≤ 140737488355328) :
    Calls Tryz.prog 35 #[.slice A0 l.length c0, .func (.func 36) #[] #[]] w fun e w' => ∃ v, e = .returned v ∧ ru k84 84 w w' v (l.map ko) ∧ Below w.heap.size w w' := by
  have hui := Tryz.underlying73
  have huo := Tryz.underlying84
  have HR := Aside0.mk hr
  have HZ := Aside0.mk hz
  clear hr hz
  go_enter Tryz.func35, Tryz.ntmps35
  go_wp2
  go_loopg [5, 10] l.length (fun kq v5 v10 w' => ∃ (i : Nat) (u : Value), u = v5 ∧ v10 = .int .i64 (i : Int) ∧ Aside0 (i + kq = l.length) ∧ Aside0 (Own k84 84 w w' u ((l.take i).map ko)) ∧ Aside0 (Below w.heap.size w w'))
  case atStart => exact ⟨0, _, rfl, rfl, ⟨by omega⟩, ⟨Kd.jw _ _ _ _ _⟩, ⟨Below.refl _ _⟩⟩
  case round =>
    obtain ⟨i, u, hu, rfl, hi, HN, HB⟩ := hrel
    subst hu
    cases gk with
    | zero =>
      obtain rfl : i = l.length := by have := hi.out; omega
      have hend : decide (((l.length : Nat) : Int) < (l.length : Int)) = false := decide_eq_false (by omega)
      have HN' := HN.out
      rw [List.take_length] at HN'
      have HNZ := Aside0.mk HN'
      clear HN' HN hi
      go_wp2
      go_ret
      exact ⟨_, rfl, Kd.N_V HNZ.out, HB.out⟩
    | succ k1 =>
      have hlt : i < l.length := by have := hi.out; omega
      have c1 : decide ((i : Int) < (l.length : Int)) = true := decide_eq_true (by omega)
      have p1 : 0 ≤ (i : Int) := by omega
      have q1 : (i : Int) < (l.length : Int) := by omega
      obtain ⟨ad, e, hx0, hx1⟩ := vQ HR.out (i : Int) p1 q1
      cases e
      have htk : (l.take (i + 1)).map ko = (l.take i).map ko ++ [ko (fZ l (i : Int))] := by
        rw [List.take_add_one, List.map_append, List.getElem?_eq_getElem hlt]
        simp [fZ, List.getElem?_eq_getElem hlt]
      have hmem : fZ l (i : Int) ∈ l := by
        have e : fZ l (i : Int) = l[i] := by simp [fZ, List.getElem?_eq_getElem hlt]
        rw [e]; exact List.getElem_mem hlt
      replace hx0 := (HB.out.cell (World.block_lt_of_cell? w _ hx0)).trans hx0
      replace hx1 := (HB.out.cell (World.block_lt_of_cell? w _ hx1)).trans hx1
      simp only [Int.toNat_natCast] at hx0 hx1
      generalize fZ l (i : Int) = x at hx0 hx1 htk hmem
      replace p1 := eq_true p1
      replace q1 := eq_true q1
      have q3 : (i < l.length) = True := eq_true hlt
      have HTK := Aside0.mk htk
      have HMEM := Aside0.mk hmem
      have HAW := Aside0.mk (kY HN.out HB.out.size)
      have hwv : Value.int .i64 (wrap64 ((i : Int) + 1)) = Value.int .i64 ((i + 1 : Nat) : Int) := by have := Kd.jX HR.out; rw [bW (by omega) (by omega)]; rfl
      have HWV := Aside0.mk hwv
      have hnx : Aside0 (i + 1 + k1 = l.length) := ⟨by have := hi.out; omega⟩
      clear htk hmem hwv hi
      go_wp2_with (first
        | (go_at_call 36; refine (cont.calls x _).mono ?_; rintro e w1 ⟨rfl, hb⟩; have hB1 := aN (HB.out.alloc HB.out.size (.cells #[.string x.f0, .string x.f1] 73)) hb; have HB1 := Aside0.mk hB1; have BF := Aside0.mk (Kd.jR (Kd.mG HN.out (.cells #[.string x.f0, .string x.f1] 73)) hb); have hbs := hb.size; have BG := Aside0.mk (show wr.heap.size ≤ w1.heap.size by simp at hbs; omega); clear hb hB1 hbs)
        | ((with_reducible refine bN (N := 18) rfl ?_); refine Kd.lX k84 (w0 := w) w.heap.size 84 rfl rfl (xs := [ko x]) (inner := [.string x.f0, .string x.f1, .slice none 0 0, .slice none 0 0, .int .i64 100, .int .i64 64, .slice none 0 0]) (ok := fun k_ => wr.heap.size ≤ k_) (okp := fun k_ => wr.heap.size ≤ k_) (by first | (go_simp; done) | (go_simp; rfl)) (dQ.c7 (xZ _ _ x) (dQ.none _ _)) (fun k hk => hk) BG.out HB1.out HB1.out.size (by simp) ?_; intro v2 w2 hn hb hg hat; have BH := Aside0.mk (Kd.lI BF.out hg (fun k _ => fun e => by cases e)); obtain ⟨Az, cz, ez⟩ := Kd.iR hn; subst ez; have HL := Aside0.mk hn; have HB2 := Aside0.mk hb; clear hn hb hg hat)
        | (at_builtin; refine Kd.gq k84 (w0 := w) w.heap.size rfl (.tmp 14) (.tmp 18) 75 84 _ 120 rfl Tryz.underlying75 xY rfl (by decide) (by omega) u ((l.take i).map ko) [ko x] Az [ko x].length cz (fun k_ => w.heap.size ≤ k_) (fun k_ => wr.heap.size ≤ k_) rfl rfl BH.out (Kd.N_F HL.out) HAW.out (fun k hk => Nat.le_trans HB2.out.size hk) HB2.out HB2.out.size (by have := HZ.out; have := hnx.out; simp; omega) ?_; intro v3 w3 hn hb hg hat; have BI := Aside0.mk hn; have HB3 := Aside0.mk hb; clear hn hb hg hat))
      go_roundg k1
      case measure => exact Nat.lt_succ_self k1
      case rel => exact ⟨i + 1, _, rfl, by first | exact HWV.out | rfl, hnx, ⟨HTK.out ▸ BI.out⟩, HB3⟩
set_option maxHeartbeats 4000000 in
set_option maxRecDepth 100000 in
theorem AB.calls (A0 : Option Addr) (c0 : Nat) (l : List S67) (w : World) (hr : Kd.C k67 w A0 l.length l) (hz : l.length * 80 ≤ 140737488355328) :
    Calls Tryz.prog 29 #[.slice A0 l.length c0, .func (.func 30) #[] #[]] w fun e w' => ∃ v, e = .returned v ∧ ru k71 71 w w' v (l.map nM) ∧ Below w.heap.size w w' := by
  have hui := Tryz.underlying67
  have huo := Tryz.underlying71
  have HR := Aside0.mk hr
  have HZ := Aside0.mk hz
  clear hr hz
  go_enter Tryz.func29, Tryz.ntmps29
  go_wp2
  go_loopg [5, 10] l.length (fun kq v5 v10 w' => ∃ (i : Nat) (u : Value), u = v5 ∧ v10 = .int .i64 (i : Int) ∧ Aside0 (i + kq = l.length) ∧ Aside0 (Own k71 71 w w' u ((l.take i).map nM)) ∧ Aside0 (Below w.heap.size w w'))
  case atStart => exact ⟨0, _, rfl, rfl, ⟨by omega⟩, ⟨Kd.jw _ _ _ _ _⟩, ⟨Below.refl _ _⟩⟩
  case round =>
    obtain ⟨i, u, hu, rfl, hi, HN, HB⟩ := hrel
    subst hu
    cases gk with
    | zero =>
      obtain rfl : i = l.length := by have := hi.out; omega
      have hend : decide (((l.length : Nat) : Int) < (l.length : Int)) = false := decide_eq_false (by omega)
      have HN' := HN.out
      rw [List.take_length] at HN'
      have HNZ := Aside0.mk HN'
      clear HN' HN hi
      go_wp2
      go_ret
      exact ⟨_, rfl, Kd.N_V HNZ.out, HB.out⟩
    | succ k1 =>
      have hlt : i < l.length := by have := hi.out; omega
      have c1 : decide ((i : Int) < (l.length : Int)) = true := decide_eq_true (by omega)
      have p1 : 0 ≤ (i : Int) := by omega
      have q1 : (i : Int) < (l.length : Int) := by omega
      obtain ⟨ad, e, hx0, hx1, hx2, hx3⟩ := zi HR.out (i : Int) p1 q1
      cases e
      have htk : (l.take (i + 1)).map nM = (l.take i).map nM ++ [nM (jU l (i : Int))] := by
        rw [List.take_add_one, List.map_append, List.getElem?_eq_getElem hlt]
        simp [jU, List.getElem?_eq_getElem hlt]
      have hmem : jU l (i : Int) ∈ l := by
        have e : jU l (i : Int) = l[i] := by simp [jU, List.getElem?_eq_getElem hlt]
        rw [e]; exact List.getElem_mem hlt
      replace hx0 := (HB.out.cell (World.block_lt_of_cell? w _ hx0)).trans hx0
      replace hx1 := (HB.out.cell (World.block_lt_of_cell? w _ hx1)).trans hx1
      replace hx2 := (HB.out.cell (World.block_lt_of_cell? w _ hx2)).trans hx2
      replace hx3 := (HB.out.cell (World.block_lt_of_cell? w _ hx3)).trans hx3
      simp only [Int.toNat_natCast] at hx0 hx1 hx2 hx3
      generalize jU l (i : Int) = x at hx0 hx1 hx2 hx3 htk hmem
      replace p1 := eq_true p1
      replace q1 := eq_true q1
      have q3 : (i < l.length) = True := eq_true hlt
      have HTK := Aside0.mk htk
      have HMEM := Aside0.mk hmem
      have HAW := Aside0.mk (kY HN.out HB.out.size)
      have hwv : Value.int .i64 (wrap64 ((i : Int) + 1)) = Value.int .i64 ((i + 1 : Nat) : Int) := by have := Kd.jX HR.out; rw [bW (by omega) (by omega)]; rfl
      have HWV := Aside0.mk hwv
      have hnx : Aside0 (i + 1 + k1 = l.length) := ⟨by have := hi.out; omega⟩
      clear htk hmem hwv hi
      go_wp2_with (first
        | (go_at_call 30; refine (Bo.calls x _).mono ?_; rintro e w1 ⟨Av, nv, cv, rfl, hV, hb⟩; have hB1 := aN (HB.out.alloc HB.out.size (.cells #[.string x.f0, .string x.f1, .string x.f2, .int .u8 x.f3] 67)) hb; have HB1 := Aside0.mk hB1; have BF := Aside0.mk (Kd.jR (Kd.mG HN.out (.cells #[.string x.f0, .string x.f1, .string x.f2, .int .u8 x.f3] 67)) hb); have hbs := hb.size; have BG := Aside0.mk (show wr.heap.size ≤ w1.heap.size by simp at hbs; omega); have HV := Aside0.mk (Kd.dD (ok' := fun k_ => wr.heap.size ≤ k_) hV (fun k hk => by simp at hk; omega)); clear hV; clear hb hB1 hbs)
        | ((with_reducible refine bN (N := 18) rfl ?_); refine Kd.lX k71 (w0 := w) w.heap.size 71 rfl rfl (xs := [nM x]) (inner := [.string x.f0, .string x.f1, .string (⟨#[100, 101, 102, 97, 117, 108, 116]⟩ : ByteArray), .int .u8 x.f3, .int .u16 30, .slice Av nv cv]) (ok := fun k_ => wr.heap.size ≤ k_) (okp := fun k_ => wr.heap.size ≤ k_) (by first | (go_simp; done) | (go_simp; rfl)) (dQ.c6 (zI HV.out) (dQ.none _ _)) (fun k hk => hk) BG.out HB1.out HB1.out.size (by simp) ?_; intro v2 w2 hn hb hg hat; have BH := Aside0.mk (Kd.lI BF.out hg (fun k _ => fun e => by cases e)); obtain ⟨Az, cz, ez⟩ := Kd.iR hn; subst ez; have HL := Aside0.mk hn; have HB2 := Aside0.mk hb; clear hn hb hg hat)
        | (at_builtin; refine Kd.gq k71 (w0 := w) w.heap.size rfl (.tmp 14) (.tmp 18) 27 71 _ 80 rfl Tryz.underlying27 tN rfl (by decide) (by omega) u ((l.take i).map nM) [nM x] Az [nM x].length cz (fun k_ => w.heap.size ≤ k_) (fun k_ => wr.heap.size ≤ k_) rfl rfl BH.out (Kd.N_F HL.out) HAW.out (fun k hk => Nat.le_trans HB2.out.size hk) HB2.out HB2.out.size (by have := HZ.out; have := hnx.out; simp; omega) ?_; intro v3 w3 hn hb hg hat; have BI := Aside0.mk hn; have HB3 := Aside0.mk hb; clear hn hb hg hat))
      go_roundg k1
      case measure => exact Nat.lt_succ_self k1
      case rel => exact ⟨i + 1, _, rfl, by first | exact HWV.out | rfl, hnx, ⟨HTK.out ▸ BI.out⟩, HB3⟩
def jy.T1 : Bool × List (List Nat × List Nat) := (true, [([], []), ([0], [0]), ([], []), ([2], [2]), ([], []), ([4], [4]), ([], []), ([6], [6]), ([7], [7]), ([], []), ([9], [9]), ([10], [10]), ([], []), ([12], [12]), ([13], [13]), ([3, 5, 8, 11, 14], [3, 5, 8, 11, 14]), ([1, 15], [1, 15]), ([16, 14, 0, 1, 2, 3, 4, 5, 6, 7, 8, 9, 10, 11, 12, 13, 14, 15, 16], [16])])
def jy.B1 : List Nat := [0, 1, 0, 4, 0, 16, 0, 64, 192, 0, 512, 1536, 0, 4096, 12288, 32764, 65535, 131071]
theorem jy.qE : gT .any (opsOf Tryz.f34 1) = jy.T1 := by kernel_rfl
theorem jy.mO : fO jy.T1.2 jy.B1 = true := by kernel_rfl
set_option maxHeartbeats 4000000 in
set_option maxRecDepth 100000 in
theorem zJ.calls (x : S71) (A5 : Option Addr) (c5 : Nat) (w : World) (hr : Kd.C k73 w A5 x.f5.length x.f5) (hz : x.f5.length * 120 ≤ 140737488355328) :
    Calls Tryz.prog 34 #[.agg #[.string x.f0, .string x.f1, .string x.f2, .int .u8 x.f3, .int .u16 x.f4, .slice A5 x.f5.length c5]] w fun e w' => ∃ (Av : Option Addr) (nv cv : Nat), e = .returned (.agg #[.string x.f0, .string x.f1, .string x.f2, .int .i64 (wrap64 x.f3), .int .i64 (wrap64 x.f4), .bool false, .slice Av nv cv]) ∧ ru k84 84 w w' (.slice Av nv cv) (x.f5.map ko) ∧ Below w.heap.size w w' := by
  have BK := Aside0.mk hr
  have Cb := Aside0.mk hz
  clear hr hz
  have hux := Tryz.underlying71
  have huo := Tryz.underlying79
  have HB := Aside0.mk (((Below.refl _ w).alloc (Nat.le_refl _) (.cells #[.string x.f0, .string x.f1, .string x.f2, .int .u8 x.f3, .int .u16 x.f4, .slice A5 x.f5.length c5] 71)).alloc (by simp) (.cells #[.string ⟨#[]⟩, .string ⟨#[]⟩, .string ⟨#[]⟩, .int .i64 0, .int .i64 0, .bool false, .slice none 0 0] 79))
  have HX := Aside0.mk (ak (heap_alloc_new w (.cells #[.string x.f0, .string x.f1, .string x.f2, .int .u8 x.f3, .int .u16 x.f4, .slice A5 x.f5.length c5] 71)) (.cells #[.string ⟨#[]⟩, .string ⟨#[]⟩, .string ⟨#[]⟩, .int .i64 0, .int .i64 0, .bool false, .slice none 0 0] 79))
  have HR := Aside0.mk (kZ w (.cells #[.string x.f0, .string x.f1, .string x.f2, .int .u8 x.f3, .int .u16 x.f4, .slice A5 x.f5.length c5] 71) (.cells #[.string ⟨#[]⟩, .string ⟨#[]⟩, .string ⟨#[]⟩, .int .i64 0, .int .i64 0, .bool false, .slice none 0 0] 79))
  go_enter Tryz.func34, Tryz.ntmps34
  go_upto_region 1 with (fail)
  (try simp only [Act.put, List.setIfInBounds_toArray, List.set_cons_zero, List.set_cons_succ])
  generalize ((w.alloc (.cells #[.string x.f0, .string x.f1, .string x.f2, .int .u8 x.f3, .int .u16 x.f4, .slice A5 x.f5.length c5] 71)).alloc (.cells #[.string ⟨#[]⟩, .string ⟨#[]⟩, .string ⟨#[]⟩, .int .i64 0, .int .i64 0, .bool false, .slice none 0 0] 79)) = wA at HB HX HR ⊢
  refine gZ (n := 18) (S := fun w' => w'.heap[w.heap.size]? = some (.cells #[.string x.f0, .string x.f1, .string x.f2, .int .u8 x.f3, .int .u16 x.f4, .slice A5 x.f5.length c5] 71 (0, 0))) (ds := [17]) #[O,O,O,O,O,O,O,O,O,O,O,O,O,O,O,O,O,O] (by kernel_rfl) rfl rfl (HX.out) (fun hHeld => ?_)
  refine eY jy.qE jy.mO (fun HT_ HW_ => ?_)
  replace HX := Aside0.mk (ay HX.out)
  replace HR := Aside0.mk (ay HR.out)
  replace HB := Aside0.mk (bL HB.out)
  refine pu_ 0 3 #[I,O,O,O,O,O,O,O,O,O,O,O,O,O,O,O,O,O] HT_.out ?_
  refine pu_ 2 5 #[I,O,I,O,O,O,O,O,O,O,O,O,O,O,O,O,O,O] HT_.out ?_
  refine pu_ 4 7 #[I,O,I,O,I,O,O,O,O,O,O,O,O,O,O,O,O,O] HT_.out ?_
  refine pu_ 6 9 #[I,O,I,O,I,O,I,O,O,O,O,O,O,O,O,O,O,O] HT_.out ?_
  refine pu_ 9 12 #[I,O,I,O,I,O,I,O,O,I,O,O,O,O,O,O,O,O] HT_.out ?_
  refine pu_ 12 15 #[I,O,I,O,I,O,I,O,O,I,O,O,I,O,O,O,O,O] HT_.out ?_
  refine gy (i := 1) (N := some 4) (v := ?_) (a' := ?_) #[I,I,I,O,I,O,I,O,O,I,O,O,I,O,O,O,O,O] rfl rfl (dR HT_.out HW_.out (by kernel_rfl)) (fun _ _ _ h => h) (Or.inl ⟨by rfl, ?_⟩) hHeld ?_ ?_
  rotate_left
  · intro w' s0
    have e0 : w'.cell? ⟨w.heap.size, 0, none⟩ = some (.string x.f0) := (ah s0 0).trans rfl
    have e1 : w'.cell? ⟨w.heap.size, 1, none⟩ = some (.string x.f1) := (ah s0 1).trans rfl
    have e2 : w'.cell? ⟨w.heap.size, 2, none⟩ = some (.string x.f2) := (ah s0 2).trans rfl
    have e3 : w'.cell? ⟨w.heap.size, 3, none⟩ = some (.int .u8 x.f3) := (ah s0 3).trans rfl
    have e4 : w'.cell? ⟨w.heap.size, 4, none⟩ = some (.int .u16 x.f4) := (ah s0 4).trans rfl
    have e5 : w'.cell? ⟨w.heap.size, 5, none⟩ = some (.slice A5 x.f5.length c5) := (ah s0 5).trans rfl
    go_simp
    with_reducible rfl
  rotate_left
  · simp only [Act.put, List.setIfInBounds_toArray, List.set_cons_zero, List.set_cons_succ, bO, bR]
    rfl
  refine gy (i := 3) (N := some 6) (v := ?_) (a' := ?_) #[I,I,I,I,I,O,I,O,O,I,O,O,I,O,O,O,O,O] rfl rfl (dR HT_.out HW_.out (by kernel_rfl)) (fun _ _ _ h => h) (Or.inl ⟨by rfl, ?_⟩) hHeld ?_ ?_
  rotate_left
  · intro w' s0
    have e0 : w'.cell? ⟨w.heap.size, 0, none⟩ = some (.string x.f0) := (ah s0 0).trans rfl
    have e1 : w'.cell? ⟨w.heap.size, 1, none⟩ = some (.string x.f1) := (ah s0 1).trans rfl
    have e2 : w'.cell? ⟨w.heap.size, 2, none⟩ = some (.string x.f2) := (ah s0 2).trans rfl
    have e3 : w'.cell? ⟨w.heap.size, 3, none⟩ = some (.int .u8 x.f3) := (ah s0 3).trans rfl
    have e4 : w'.cell? ⟨w.heap.size, 4, none⟩ = some (.int .u16 x.f4) := (ah s0 4).trans rfl
    have e5 : w'.cell? ⟨w.heap.size, 5, none⟩ = some (.slice A5 x.f5.length c5) := (ah s0 5).trans rfl
    go_simp
    with_reducible rfl
  rotate_left
  · simp only [Act.put, List.setIfInBounds_toArray, List.set_cons_zero, List.set_cons_succ, bO, bR]
    rfl
  refine gy (i := 5) (N := some 8) (v := ?_) (a' := ?_) #[I,I,I,I,I,I,I,O,O,I,O,O,I,O,O,O,O,O] rfl rfl (dR HT_.out HW_.out (by kernel_rfl)) (fun _ _ _ h => h) (Or.inl ⟨by rfl, ?_⟩) hHeld ?_ ?_
  rotate_left
  · intro w' s0
    have e0 : w'.cell? ⟨w.heap.size, 0, none⟩ = some (.string x.f0) := (ah s0 0).trans rfl
    have e1 : w'.cell? ⟨w.heap.size, 1, none⟩ = some (.string x.f1) := (ah s0 1).trans rfl
    have e2 : w'.cell? ⟨w.heap.size, 2, none⟩ = some (.string x.f2) := (ah s0 2).trans rfl
    have e3 : w'.cell? ⟨w.heap.size, 3, none⟩ = some (.int .u8 x.f3) := (ah s0 3).trans rfl
    have e4 : w'.cell? ⟨w.heap.size, 4, none⟩ = some (.int .u16 x.f4) := (ah s0 4).trans rfl
    have e5 : w'.cell? ⟨w.heap.size, 5, none⟩ = some (.slice A5 x.f5.length c5) := (ah s0 5).trans rfl
    go_simp
    with_reducible rfl
  rotate_left
  · simp only [Act.put, List.setIfInBounds_toArray, List.set_cons_zero, List.set_cons_succ, bO, bR]
    rfl
  refine gy (i := 7) (N := some 10) (v := ?_) (a' := ?_) #[I,I,I,I,I,I,I,I,O,I,O,O,I,O,O,O,O,O] rfl rfl (dR HT_.out HW_.out (by kernel_rfl)) (fun _ _ _ h => h) (Or.inl ⟨by rfl, ?_⟩) hHeld ?_ ?_
  rotate_left
  · intro w' s0
    have e0 : w'.cell? ⟨w.heap.size, 0, none⟩ = some (.string x.f0) := (ah s0 0).trans rfl
    have e1 : w'.cell? ⟨w.heap.size, 1, none⟩ = some (.string x.f1) := (ah s0 1).trans rfl
    have e2 : w'.cell? ⟨w.heap.size, 2, none⟩ = some (.string x.f2) := (ah s0 2).trans rfl
    have e3 : w'.cell? ⟨w.heap.size, 3, none⟩ = some (.int .u8 x.f3) := (ah s0 3).trans rfl
    have e4 : w'.cell? ⟨w.heap.size, 4, none⟩ = some (.int .u16 x.f4) := (ah s0 4).trans rfl
    have e5 : w'.cell? ⟨w.heap.size, 5, none⟩ = some (.slice A5 x.f5.length c5) := (ah s0 5).trans rfl
    go_simp
    with_reducible rfl
  rotate_left
  · simp only [Act.put, List.setIfInBounds_toArray, List.set_cons_zero, List.set_cons_succ, bO, bR]
    rfl
  refine pu_ 8 11 #[I,I,I,I,I,I,I,I,I,I,O,O,I,O,O,O,O,O] HT_.out ?_
  refine gy (i := 10) (N := some 13) (v := ?_) (a' := ?_) #[I,I,I,I,I,I,I,I,I,I,I,O,I,O,O,O,O,O] rfl rfl (dR HT_.out HW_.out (by kernel_rfl)) (fun _ _ _ h => h) (Or.inl ⟨by rfl, ?_⟩) hHeld ?_ ?_
  rotate_left
  · intro w' s0
    have e0 : w'.cell? ⟨w.heap.size, 0, none⟩ = some (.string x.f0) := (ah s0 0).trans rfl
    have e1 : w'.cell? ⟨w.heap.size, 1, none⟩ = some (.string x.f1) := (ah s0 1).trans rfl
    have e2 : w'.cell? ⟨w.heap.size, 2, none⟩ = some (.string x.f2) := (ah s0 2).trans rfl
    have e3 : w'.cell? ⟨w.heap.size, 3, none⟩ = some (.int .u8 x.f3) := (ah s0 3).trans rfl
    have e4 : w'.cell? ⟨w.heap.size, 4, none⟩ = some (.int .u16 x.f4) := (ah s0 4).trans rfl
    have e5 : w'.cell? ⟨w.heap.size, 5, none⟩ = some (.slice A5 x.f5.length c5) := (ah s0 5).trans rfl
    go_simp
    with_reducible rfl
  rotate_left
  · simp only [Act.put, List.setIfInBounds_toArray, List.set_cons_zero, List.set_cons_succ, bO, bR]
    rfl
  refine pu_ 11 14 #[I,I,I,I,I,I,I,I,I,I,I,I,I,O,O,O,O,O] HT_.out ?_
  refine gy (i := 13) (N := some 16) (v := ?_) (a' := ?_) #[I,I,I,I,I,I,I,I,I,I,I,I,I,I,O,O,O,O] rfl rfl (dR HT_.out HW_.out (by kernel_rfl)) (fun _ _ _ h => h) (Or.inl ⟨by rfl, ?_⟩) hHeld ?_ ?_
  rotate_left
  · intro w' s0
    have e0 : w'.cell? ⟨w.heap.size, 0, none⟩ = some (.string x.f0) := (ah s0 0).trans rfl
    have e1 : w'.cell? ⟨w.heap.size, 1, none⟩ = some (.string x.f1) := (ah s0 1).trans rfl
    have e2 : w'.cell? ⟨w.heap.size, 2, none⟩ = some (.string x.f2) := (ah s0 2).trans rfl
    have e3 : w'.cell? ⟨w.heap.size, 3, none⟩ = some (.int .u8 x.f3) := (ah s0 3).trans rfl
    have e4 : w'.cell? ⟨w.heap.size, 4, none⟩ = some (.int .u16 x.f4) := (ah s0 4).trans rfl
    have e5 : w'.cell? ⟨w.heap.size, 5, none⟩ = some (.slice A5 x.f5.length c5) := (ah s0 5).trans rfl
    go_simp
    with_reducible rfl
  rotate_left
  · simp only [Act.put, List.setIfInBounds_toArray, List.set_cons_zero, List.set_cons_succ, bO, bR]
    rfl
  refine fU (i := 14) (N := some 17) #[I,I,I,I,I,I,I,I,I,I,I,I,I,I,I,O,O,O] rfl rfl (cO HT_.out (by kernel_rfl)) (by decide) (fun K hK => ?_)
  refine eU Tryz.func35 (by kernel_rfl) rfl #[.slice A5 x.f5.length c5, .func (.func 36) #[] #[]] (by rfl) rfl rfl (by (try simp only [List.map_toArray, List.map_cons, List.map_nil]); first | done | rfl) ?_
  refine (AA.calls A5 c5 x.f5 _ (Kd.bJ BK.out HB.out) Cb.out).mono ?_
  rintro e w5 ⟨v, rfl, hV, hb⟩
  obtain ⟨Av, nv, cv, er⟩ : ∃ B n d, v = .slice B n d := (Kd.gI hV).elim fun A h => h.elim fun c e => ⟨A, _, c, e⟩
  subst er
  refine ⟨_, rfl, ?_⟩
  have hsz := aW HR.out
  have HV := Aside0.mk (Kd.dD (ok' := (fun k_ => w.heap.size + 2 ≤ k_)) hV (fun k hk => by omega))
  replace HX := Aside0.mk (aJ HX.out hb)
  replace HR := Aside0.mk (aJ HR.out hb)
  replace HB := Aside0.mk (aN HB.out hb)
  clear hV hb hsz
  refine hK.out _ _ (HX.out) (fun hHeld => ?_)
  clear hK K
  refine dX (a' := ?_) ?_ ?_
  rotate_left
  · show Act.put _ (some 17) _ = _
    simp only [Act.put, List.setIfInBounds_toArray, List.set_cons_zero, List.set_cons_succ, bO, bR]
    rfl
  refine pu_ 15 18 #[I,I,I,I,I,I,I,I,I,I,I,I,I,I,I,I,O,O] HT_.out ?_
  refine pu_ 16 19 #[I,I,I,I,I,I,I,I,I,I,I,I,I,I,I,I,I,O] HT_.out ?_
  refine kJ (i := 17) (N := none) #[I,I,I,I,I,I,I,I,I,I,I,I,I,I,I,I,I,I] rfl rfl (cO HT_.out (by kernel_rfl)) (by decide) (fun K hK => ?_)
  have z0 : w5.cell? ⟨w.heap.size + 1, 0, none⟩ = some (.string ⟨#[]⟩) := (ah HR.out 0).trans rfl
  have z1 : w5.cell? ⟨w.heap.size + 1, 1, none⟩ = some (.string ⟨#[]⟩) := (ah HR.out 1).trans rfl
  have z2 : w5.cell? ⟨w.heap.size + 1, 2, none⟩ = some (.string ⟨#[]⟩) := (ah HR.out 2).trans rfl
  have z3 : w5.cell? ⟨w.heap.size + 1, 3, none⟩ = some (.int .i64 0) := (ah HR.out 3).trans rfl
  have z4 : w5.cell? ⟨w.heap.size + 1, 4, none⟩ = some (.int .i64 0) := (ah HR.out 4).trans rfl
  have z5 : w5.cell? ⟨w.heap.size + 1, 5, none⟩ = some (.bool false) := (ah HR.out 5).trans rfl
  have z6 : w5.cell? ⟨w.heap.size + 1, 6, none⟩ = some (.slice none 0 0) := (ah HR.out 6).trans rfl
  have Bz := av HR.out 0
  have BD := av HR.out 1
  have BN := av HR.out 2
  have BO := av HR.out 3
  have BP := av HR.out 4
  have BQ := av HR.out 5
  have Cc := av HR.out 6
  refine jZ (w1 := ?_) (by rfl) rfl ?_ ?_
  rotate_left
  · go_simp
    rfl
  clear z0 Bz z1 BD z2 BN z3 BO z4 BP z5 BQ z6 Cc
  refine hK.out _ _ ?_
  clear hK K
  refine iZ (gD HT_.out (by kernel_rfl)) ?_
  go_wp2
  refine bodyPost_ret (results_cell_row rfl _ _ (w.heap.size + 1) 79 #[.string x.f0, .string x.f1, .string x.f2, .int .i64 (wrap64 x.f3), .int .i64 (wrap64 x.f4), .bool false, .slice Av nv cv] (0, 0) _ rfl (by refine aQ (cs := #[.string x.f0, .string x.f1, .string x.f2, .int .i64 (wrap64 x.f3), .int .i64 (wrap64 x.f4), .bool false, .slice none 0 0]) ?_ 6 _ rfl; refine aQ (cs := #[.string x.f0, .string x.f1, .string x.f2, .int .i64 (wrap64 x.f3), .int .i64 (wrap64 x.f4), .bool false, .slice none 0 0]) ?_ 5 _ rfl; refine aQ (cs := #[.string x.f0, .string x.f1, .string x.f2, .int .i64 (wrap64 x.f3), .int .i64 0, .bool false, .slice none 0 0]) ?_ 4 _ rfl; refine aQ (cs := #[.string x.f0, .string x.f1, .string x.f2, .int .i64 0, .int .i64 0, .bool false, .slice none 0 0]) ?_ 3 _ rfl; refine aQ (cs := #[.string x.f0, .string x.f1, .string ⟨#[]⟩, .int .i64 0, .int .i64 0, .bool false, .slice none 0 0]) ?_ 2 _ rfl; refine aQ (cs := #[.string x.f0, .string ⟨#[]⟩, .string ⟨#[]⟩, .int .i64 0, .int .i64 0, .bool false, .slice none 0 0]) ?_ 1 _ rfl; refine aQ (cs := #[.string ⟨#[]⟩, .string ⟨#[]⟩, .string ⟨#[]⟩, .int .i64 0, .int .i64 0, .bool false, .slice none 0 0]) ?_ 0 _ rfl; exact HR.out) Tryz.underlying79 rfl (by kernel_rfl)) rfl ?_
  refine ⟨_, _, _, rfl, Kd.iT (base' := w.heap.size) (Kd.dD (ok := (fun k_ => w.heap.size + 2 ≤ k_)) ?_ (fun k hk => by omega)) (Nat.le_refl _), ?_⟩
  · iterate 7 (refine Kd.cK ?_ (fun k hk => by simp; omega) _)
    exact HV.out
  · iterate 7 (refine eu ?_ (by omega))
    exact HB.out
set_option maxHeartbeats 4000000 in
set_option maxRecDepth 100000 in
theorem AJ.calls (A0 : Option Addr) (c0 : Nat) (l : List S71) (w : World) (hr : Kd.C k71 w A0 l.length l) (hz : l.length * 96 ≤ 140737488355328) (hc : ∀ x ∈ l, x.f5.length * 120 ≤ 140737488355328) :
    Calls Tryz.prog 33 #[.slice A0 l.length c0, .func (.func 34) #[] #[]] w fun e w' => ∃ v, e = .returned v ∧ ru k79 79 w w' v (l.map iD) ∧ Below w.heap.size w w' := by
  have hui := Tryz.underlying71
  have huo := Tryz.underlying79
  have HR := Aside0.mk hr
  have HZ := Aside0.mk hz
  have HCO := Aside0.mk hc
  clear hc
  clear hr hz
  go_enter Tryz.func33, Tryz.ntmps33
  go_wp2
  go_loopg [5, 10] l.length (fun kq v5 v10 w' => ∃ (i : Nat) (u : Value), u = v5 ∧ v10 = .int .i64 (i : Int) ∧ Aside0 (i + kq = l.length) ∧ Aside0 (Own k79 79 w w' u ((l.take i).map iD)) ∧ Aside0 (Below w.heap.size w w'))
  case atStart => exact ⟨0, _, rfl, rfl, ⟨by omega⟩, ⟨Kd.jw _ _ _ _ _⟩, ⟨Below.refl _ _⟩⟩
  case round =>
    obtain ⟨i, u, hu, rfl, hi, HN, HB⟩ := hrel
    subst hu
    cases gk with
    | zero =>
      obtain rfl : i = l.length := by have := hi.out; omega
      have hend : decide (((l.length : Nat) : Int) < (l.length : Int)) = false := decide_eq_false (by omega)
      have HN' := HN.out
      rw [List.take_length] at HN'
      have HNZ := Aside0.mk HN'
      clear HN' HN hi
      go_wp2
      go_ret
      exact ⟨_, rfl, Kd.N_V HNZ.out, HB.out⟩
    | succ k1 =>
      have hlt : i < l.length := by have := hi.out; omega
      have c1 : decide ((i : Int) < (l.length : Int)) = true := decide_eq_true (by omega)
      have p1 : 0 ≤ (i : Int) := by omega
      have q1 : (i : Int) < (l.length : Int) := by omega
      obtain ⟨ad, A5, c5, e, hx0, hx1, hx2, hx3, hx4, hx5, BR, BL⟩ := vS HR.out (i : Int) p1 q1
      cases e
      have htk : (l.take (i + 1)).map iD = (l.take i).map iD ++ [iD (aK l (i : Int))] := by
        rw [List.take_add_one, List.map_append, List.getElem?_eq_getElem hlt]
        simp [aK, List.getElem?_eq_getElem hlt]
      have hmem : aK l (i : Int) ∈ l := by
        have e : aK l (i : Int) = l[i] := by simp [aK, List.getElem?_eq_getElem hlt]
        rw [e]; exact List.getElem_mem hlt
      replace hx0 := (HB.out.cell (World.block_lt_of_cell? w _ hx0)).trans hx0
      replace hx1 := (HB.out.cell (World.block_lt_of_cell? w _ hx1)).trans hx1
      replace hx2 := (HB.out.cell (World.block_lt_of_cell? w _ hx2)).trans hx2
      replace hx3 := (HB.out.cell (World.block_lt_of_cell? w _ hx3)).trans hx3
      replace hx4 := (HB.out.cell (World.block_lt_of_cell? w _ hx4)).trans hx4
      replace hx5 := (HB.out.cell (World.block_lt_of_cell? w _ hx5)).trans hx5
      simp only [Int.toNat_natCast] at hx0 hx1 hx2 hx3 hx4 hx5
      generalize aK l (i : Int) = x at hx0 hx1 hx2 hx3 hx4 hx5 BR BL htk hmem
      replace p1 := eq_true p1
      replace q1 := eq_true q1
      have q3 : (i < l.length) = True := eq_true hlt
      have HTK := Aside0.mk htk
      have HMEM := Aside0.mk hmem
      have BK := Aside0.mk BL
      clear BR BL
      have HAW := Aside0.mk (kY HN.out HB.out.size)
      have hwv : Value.int .i64 (wrap64 ((i : Int) + 1)) = Value.int .i64 ((i + 1 : Nat) : Int) := by have := Kd.jX HR.out; rw [bW (by omega) (by omega)]; rfl
      have HWV := Aside0.mk hwv
      have hnx : Aside0 (i + 1 + k1 = l.length) := ⟨by have := hi.out; omega⟩
      clear htk hmem hwv hi
      go_wp2_with (first
        | (go_at_call 34; refine (zJ.calls x A5 c5 _ (Kd.bJ BK.out (HB.out.alloc HB.out.size _)) (HCO.out x HMEM.out)).mono ?_; rintro e w1 ⟨Av, nv, cv, rfl, hV, hb⟩; have hB1 := aN (HB.out.alloc HB.out.size (.cells #[.string x.f0, .string x.f1, .string x.f2, .int .u8 x.f3, .int .u16 x.f4, .slice A5 x.f5.length c5] 71)) hb; have HB1 := Aside0.mk hB1; have BF := Aside0.mk (Kd.jR (Kd.mG HN.out (.cells #[.string x.f0, .string x.f1, .string x.f2, .int .u8 x.f3, .int .u16 x.f4, .slice A5 x.f5.length c5] 71)) hb); have hbs := hb.size; have BG := Aside0.mk (show wr.heap.size ≤ w1.heap.size by simp at hbs; omega); have HV := Aside0.mk (Kd.dD (ok' := fun k_ => wr.heap.size ≤ k_) hV (fun k hk => by simp at hk; omega)); clear hV; clear hb hB1 hbs)
        | ((with_reducible refine bN (N := 18) rfl ?_); refine Kd.lX k79 (w0 := w) w.heap.size 79 rfl rfl (xs := [iD x]) (inner := [.string x.f0, .string x.f1, .string x.f2, .int .i64 (wrap64 x.f3), .int .i64 (wrap64 x.f4), .bool false, .slice Av nv cv]) (ok := fun k_ => wr.heap.size ≤ k_) (okp := fun k_ => wr.heap.size ≤ k_) (by first | (go_simp; done) | (go_simp; rfl)) (dQ.c7 (wN HV.out) (dQ.none _ _)) (fun k hk => hk) BG.out HB1.out HB1.out.size (by simp) ?_; intro v2 w2 hn hb hg hat; have BH := Aside0.mk (Kd.lI BF.out hg (fun k _ => fun e => by cases e)); obtain ⟨Az, cz, ez⟩ := Kd.iR hn; subst ez; have HL := Aside0.mk hn; have HB2 := Aside0.mk hb; clear hn hb hg hat)
        | (at_builtin; refine Kd.gq k79 (w0 := w) w.heap.size rfl (.tmp 14) (.tmp 18) 49 79 _ 96 rfl Tryz.underlying49 xX rfl (by decide) (by omega) u ((l.take i).map iD) [iD x] Az [iD x].length cz (fun k_ => w.heap.size ≤ k_) (fun k_ => wr.heap.size ≤ k_) rfl rfl BH.out (Kd.N_F HL.out) HAW.out (fun k hk => Nat.le_trans HB2.out.size hk) HB2.out HB2.out.size (by have := HZ.out; have := hnx.out; simp; omega) ?_; intro v3 w3 hn hb hg hat; have BI := Aside0.mk hn; have HB3 := Aside0.mk hb; clear hn hb hg hat))
      go_roundg k1
      case measure => exact Nat.lt_succ_self k1
      case rel => exact ⟨i + 1, _, rfl, by first | exact HWV.out | rfl, hnx, ⟨HTK.out ▸ BI.out⟩, HB3⟩
def tO (l : List S67) : Prop := l.length * 80 ≤ 140737488355328
def mP (l : List S71) : Prop := l.length * 96 ≤ 140737488355328 ∧ ∀ x ∈ l, x.f5.length * 120 ≤ 140737488355328
instance (l : List S67) : Decidable (tO l) := by unfold tO; infer_instance
instance (l : List S71) : Decidable (mP l) := by unfold mP; infer_instance
def fu.f (a0 : Int) (l : List S67) : Option (Int × List S71) := if tO l then some (IntKind.u64.wrap a0, l.map nM) else none
def dP.f (a0 : Int) (l : List S71) : Option (Int × List S79) := if mP l then some (a0, l.map iD) else none
def iK.f (a0 : Int) (l : List S67) : Option (Int × List S79) := (fu.f a0 l).bind fun p => dP.f p.1 p.2
def fu.T1 : Bool × List (List Nat × List Nat) := (true, [([], []), ([0], [0]), ([1], [1]), ([], []), ([3], [3]), ([4], [4]), ([2, 5], [2, 5]), ([6, 5, 0, 1, 2, 3, 4, 5, 6], [6])])
def fu.B1 : List Nat := [0, 1, 3, 0, 8, 24, 63, 127]
theorem fu.qE : gT .any (opsOf Tryz.f12 1) = fu.T1 := by kernel_rfl
theorem fu.mO : fO fu.T1.2 fu.B1 = true := by kernel_rfl
set_option maxHeartbeats 4000000 in
set_option maxRecDepth 100000 in
theorem fu.calls (a0 : Int) (A1 : Option Addr) (c1 : Nat) (l : List S67) (r1 : Int) (r2 : List S71) (w : World) (hr : Kd.C k67 w A1 l.length l) (hc : l.length ≤ c1) (h : fu.f a0 l = some (r1, r2)) :
    Calls Tryz.prog 12 #[.agg #[.int .u32 a0, .slice A1 l.length c1]] w fun e w' => ∃ Bw : Value, e = .returned (.agg #[.int .u64 r1, Bw]) ∧ Kd.V k71 71 w' w.heap.size (fun k_ => w.heap.size ≤ k_) Bw r2 ∧ Below w.heap.size w w' := by
  have hok : tO l := Decidable.by_contra fun hn => by rw [fu.f, if_neg hn] at h; cases h
  rw [fu.f, if_pos hok] at h
  simp only [Option.some.injEq, Prod.mk.injEq] at h
  obtain ⟨rfl, rfl⟩ := h
  have HR1 := Aside0.mk hr
  have HOK := Aside0.mk hok
  clear hr hc hok
  have hux := Tryz.underlying25
  have huo := Tryz.underlying29
  have HB := Aside0.mk (((Below.refl _ w).alloc (Nat.le_refl _) (.cells #[.int .u32 a0, .slice A1 l.length c1] 25)).alloc (by simp) (.cells #[.int .u64 0, .slice none 0 0] 29))
  have HX := Aside0.mk (ak (heap_alloc_new w (.cells #[.int .u32 a0, .slice A1 l.length c1] 25)) (.cells #[.int .u64 0, .slice none 0 0] 29))
  have HR := Aside0.mk (kZ w (.cells #[.int .u32 a0, .slice A1 l.length c1] 25) (.cells #[.int .u64 0, .slice none 0 0] 29))
  go_enter Tryz.func12, Tryz.ntmps12
  go_upto_region 1 with (fail)
  (try simp only [Act.put, List.setIfInBounds_toArray, List.set_cons_zero, List.set_cons_succ])
  generalize ((w.alloc (.cells #[.int .u32 a0, .slice A1 l.length c1] 25)).alloc (.cells #[.int .u64 0, .slice none 0 0] 29)) = wA at HB HX HR ⊢
  refine gZ (n := 8) (S := fun w' => w'.heap[w.heap.size]? = some (.cells #[.int .u32 a0, .slice A1 l.length c1] 25 (0, 0))) (ds := [7]) #[O,O,O,O,O,O,O,O] (by kernel_rfl) rfl rfl (HX.out) (fun hHeld => ?_)
  refine eY fu.qE fu.mO (fun HT_ HW_ => ?_)
  replace HX := Aside0.mk (ay HX.out)
  replace HR := Aside0.mk (ay HR.out)
  replace HB := Aside0.mk (bL HB.out)
  refine pu_ 0 3 #[I,O,O,O,O,O,O,O] HT_.out ?_
  refine pu_ 3 6 #[I,O,O,I,O,O,O,O] HT_.out ?_
  refine gy (i := 1) (N := some 4) (v := ?_) (a' := ?_) #[I,I,O,I,O,O,O,O] rfl rfl (dR HT_.out HW_.out (by kernel_rfl)) (fun _ _ _ h => h) (Or.inl ⟨by rfl, ?_⟩) hHeld ?_ ?_
  rotate_left
  · intro w' s0
    have e0 : w'.cell? ⟨w.heap.size, 0, none⟩ = some (.int .u32 a0) := (ah s0 0).trans rfl
    have e1 : w'.cell? ⟨w.heap.size, 1, none⟩ = some (.slice A1 l.length c1) := (ah s0 1).trans rfl
    go_simp
    with_reducible rfl
  rotate_left
  · simp only [Act.put, List.setIfInBounds_toArray, List.set_cons_zero, List.set_cons_succ, bO, bR]
    rfl
  refine pu_ 2 5 #[I,I,I,I,O,O,O,O] HT_.out ?_
  refine gy (i := 4) (N := some 7) (v := ?_) (a' := ?_) #[I,I,I,I,I,O,O,O] rfl rfl (dR HT_.out HW_.out (by kernel_rfl)) (fun _ _ _ h => h) (Or.inl ⟨by rfl, ?_⟩) hHeld ?_ ?_
  rotate_left
  · intro w' s0
    have e0 : w'.cell? ⟨w.heap.size, 0, none⟩ = some (.int .u32 a0) := (ah s0 0).trans rfl
    have e1 : w'.cell? ⟨w.heap.size, 1, none⟩ = some (.slice A1 l.length c1) := (ah s0 1).trans rfl
    go_simp
    with_reducible rfl
  rotate_left
  · simp only [Act.put, List.setIfInBounds_toArray, List.set_cons_zero, List.set_cons_succ, bO, bR]
    rfl
  refine fU (i := 5) (N := some 8) #[I,I,I,I,I,I,O,O] rfl rfl (cO HT_.out (by kernel_rfl)) (by decide) (fun K hK => ?_)
  refine eU Tryz.func29 (by kernel_rfl) rfl #[.slice A1 l.length c1, .func (.func 30) #[] #[]] (by rfl) rfl rfl (by (try simp only [List.map_toArray, List.map_cons, List.map_nil]); first | done | rfl) ?_
  refine (AB.calls A1 c1 l _ (Kd.bJ HR1.out HB.out) HOK.out).mono ?_
  rintro e w5 ⟨v, rfl, hV, hb⟩
  obtain ⟨Av, nv, cv, er⟩ : ∃ B n d, v = .slice B n d := (Kd.gI hV).elim fun A h => h.elim fun c e => ⟨A, _, c, e⟩
  subst er
  refine ⟨_, rfl, ?_⟩
  have hsz := aW HR.out
  have HV := Aside0.mk (Kd.dD (ok' := (fun k_ => w.heap.size + 2 ≤ k_)) hV (fun k hk => by omega))
  replace HX := Aside0.mk (aJ HX.out hb)
  replace HR := Aside0.mk (aJ HR.out hb)
  replace HB := Aside0.mk (aN HB.out hb)
  clear hV hb hsz
  refine hK.out _ _ (HX.out) (fun hHeld => ?_)
  clear hK K
  refine dX (a' := ?_) ?_ ?_
  rotate_left
  · show Act.put _ (some 8) _ = _
    simp only [Act.put, List.setIfInBounds_toArray, List.set_cons_zero, List.set_cons_succ, bO, bR]
    rfl
  refine pu_ 6 9 #[I,I,I,I,I,I,I,O] HT_.out ?_
  refine kJ (i := 7) (N := none) #[I,I,I,I,I,I,I,I] rfl rfl (cO HT_.out (by kernel_rfl)) (by decide) (fun K hK => ?_)
  have z0 : w5.cell? ⟨w.heap.size + 1, 0, none⟩ = some (.int .u64 0) := (ah HR.out 0).trans rfl
  have z1 : w5.cell? ⟨w.heap.size + 1, 1, none⟩ = some (.slice none 0 0) := (ah HR.out 1).trans rfl
  have Bz := av HR.out 0
  have BD := av HR.out 1
  refine jZ (w1 := ?_) (by rfl) rfl ?_ ?_
  rotate_left
  · go_simp
    rfl
  clear z0 Bz z1 BD
  refine hK.out _ _ ?_
  clear hK K
  refine iZ (gD HT_.out (by kernel_rfl)) ?_
  go_wp2
  refine bodyPost_ret (results_cell_row rfl _ _ (w.heap.size + 1) 29 #[.int .u64 (IntKind.u64.wrap a0), .slice Av nv cv] (0, 0) _ rfl (by refine aQ (cs := #[.int .u64 (IntKind.u64.wrap a0), .slice none 0 0]) ?_ 1 _ rfl; refine aQ (cs := #[.int .u64 0, .slice none 0 0]) ?_ 0 _ rfl; exact HR.out) Tryz.underlying29 rfl (by kernel_rfl)) rfl ?_
  refine ⟨_, rfl, Kd.iT (base' := w.heap.size) (Kd.dD (ok := (fun k_ => w.heap.size + 2 ≤ k_)) ?_ (fun k hk => by omega)) (Nat.le_refl _), ?_⟩
  · iterate 2 (refine Kd.cK ?_ (fun k hk => by simp; omega) _)
    exact HV.out
  · iterate 2 (refine eu ?_ (by omega))
    exact HB.out
def dP.T1 : Bool × List (List Nat × List Nat) := (true, [([], []), ([0], [0]), ([], []), ([2], [2]), ([3], [3]), ([1, 4], [1, 4]), ([5, 4, 0, 1, 2, 3, 4, 5], [5])])
def dP.B1 : List Nat := [0, 1, 0, 4, 12, 31, 63]
theorem dP.qE : gT .any (opsOf Tryz.f16 1) = dP.T1 := by kernel_rfl
theorem dP.mO : fO dP.T1.2 dP.B1 = true := by kernel_rfl
set_option maxHeartbeats 4000000 in
set_option maxRecDepth 100000 in
theorem dP.calls (a0 : Int) (A1 : Option Addr) (c1 : Nat) (l : List S71) (r1 : Int) (r2 : List S79) (w : World) (hr : Kd.C k71 w A1 l.length l) (hc : l.length ≤ c1) (h : dP.f a0 l = some (r1, r2)) :
    Calls Tryz.prog 16 #[.agg #[.int .u64 a0, .slice A1 l.length c1]] w fun e w' => ∃ Bw : Value, e = .returned (.agg #[.int .u64 r1, Bw]) ∧ Kd.V k79 79 w' w.heap.size (fun k_ => w.heap.size ≤ k_) Bw r2 ∧ Below w.heap.size w w' := by
  have hok : mP l := Decidable.by_contra fun hn => by rw [dP.f, if_neg hn] at h; cases h
  rw [dP.f, if_pos hok] at h
  simp only [Option.some.injEq, Prod.mk.injEq] at h
  obtain ⟨rfl, rfl⟩ := h
  have HR1 := Aside0.mk hr
  have HOK := Aside0.mk hok
  clear hr hc hok
  have hux := Tryz.underlying29
  have huo := Tryz.underlying51
  have HB := Aside0.mk (((Below.refl _ w).alloc (Nat.le_refl _) (.cells #[.int .u64 a0, .slice A1 l.length c1] 29)).alloc (by simp) (.cells #[.int .u64 0, .slice none 0 0] 51))
  have HX := Aside0.mk (ak (heap_alloc_new w (.cells #[.int .u64 a0, .slice A1 l.length c1] 29)) (.cells #[.int .u64 0, .slice none 0 0] 51))
  have HR := Aside0.mk (kZ w (.cells #[.int .u64 a0, .slice A1 l.length c1] 29) (.cells #[.int .u64 0, .slice none 0 0] 51))
  go_enter Tryz.func16, Tryz.ntmps16
  go_upto_region 1 with (fail)
  (try simp only [Act.put, List.setIfInBounds_toArray, List.set_cons_zero, List.set_cons_succ])
  generalize ((w.alloc (.cells #[.int .u64 a0, .slice A1 l.length c1] 29)).alloc (.cells #[.int .u64 0, .slice none 0 0] 51)) = wA at HB HX HR ⊢
  refine gZ (n := 7) (S := fun w' => w'.heap[w.heap.size]? = some (.cells #[.int .u64 a0, .slice A1 l.length c1] 29 (0, 0))) (ds := [6]) #[O,O,O,O,O,O,O] (by kernel_rfl) rfl rfl (HX.out) (fun hHeld => ?_)
  refine eY dP.qE dP.mO (fun HT_ HW_ => ?_)
  replace HX := Aside0.mk (ay HX.out)
  replace HR := Aside0.mk (ay HR.out)
  replace HB := Aside0.mk (bL HB.out)
  refine pu_ 0 3 #[I,O,O,O,O,O,O] HT_.out ?_
  refine pu_ 2 5 #[I,O,I,O,O,O,O] HT_.out ?_
  refine gy (i := 1) (N := some 4) (v := ?_) (a' := ?_) #[I,I,I,O,O,O,O] rfl rfl (dR HT_.out HW_.out (by kernel_rfl)) (fun _ _ _ h => h) (Or.inl ⟨by rfl, ?_⟩) hHeld ?_ ?_
  rotate_left
  · intro w' s0
    have e0 : w'.cell? ⟨w.heap.size, 0, none⟩ = some (.int .u64 a0) := (ah s0 0).trans rfl
    have e1 : w'.cell? ⟨w.heap.size, 1, none⟩ = some (.slice A1 l.length c1) := (ah s0 1).trans rfl
    go_simp
    with_reducible rfl
  rotate_left
  · simp only [Act.put, List.setIfInBounds_toArray, List.set_cons_zero, List.set_cons_succ, bO, bR]
    rfl
  refine gy (i := 3) (N := some 6) (v := ?_) (a' := ?_) #[I,I,I,I,O,O,O] rfl rfl (dR HT_.out HW_.out (by kernel_rfl)) (fun _ _ _ h => h) (Or.inl ⟨by rfl, ?_⟩) hHeld ?_ ?_
  rotate_left
  · intro w' s0
    have e0 : w'.cell? ⟨w.heap.size, 0, none⟩ = some (.int .u64 a0) := (ah s0 0).trans rfl
    have e1 : w'.cell? ⟨w.heap.size, 1, none⟩ = some (.slice A1 l.length c1) := (ah s0 1).trans rfl
    go_simp
    with_reducible rfl
  rotate_left
  · simp only [Act.put, List.setIfInBounds_toArray, List.set_cons_zero, List.set_cons_succ, bO, bR]
    rfl
  refine fU (i := 4) (N := some 7) #[I,I,I,I,I,O,O] rfl rfl (cO HT_.out (by kernel_rfl)) (by decide) (fun K hK => ?_)
  refine eU Tryz.func33 (by kernel_rfl) rfl #[.slice A1 l.length c1, .func (.func 34) #[] #[]] (by rfl) rfl rfl (by (try simp only [List.map_toArray, List.map_cons, List.map_nil]); first | done | rfl) ?_
  refine (AJ.calls A1 c1 l _ (Kd.bJ HR1.out HB.out) HOK.out.1 HOK.out.2).mono ?_
  rintro e w5 ⟨v, rfl, hV, hb⟩
  obtain ⟨Av, nv, cv, er⟩ : ∃ B n d, v = .slice B n d := (Kd.gI hV).elim fun A h => h.elim fun c e => ⟨A, _, c, e⟩
  subst er
  refine ⟨_, rfl, ?_⟩
  have hsz := aW HR.out
  have HV := Aside0.mk (Kd.dD (ok' := (fun k_ => w.heap.size + 2 ≤ k_)) hV (fun k hk => by omega))
  replace HX := Aside0.mk (aJ HX.out hb)
  replace HR := Aside0.mk (aJ HR.out hb)
  replace HB := Aside0.mk (aN HB.out hb)
  clear hV hb hsz
  refine hK.out _ _ (HX.out) (fun hHeld => ?_)
  clear hK K
  refine dX (a' := ?_) ?_ ?_
  rotate_left
  · show Act.put _ (some 7) _ = _
    simp only [Act.put, List.setIfInBounds_toArray, List.set_cons_zero, List.set_cons_succ, bO, bR]
    rfl
  refine pu_ 5 8 #[I,I,I,I,I,I,O] HT_.out ?_
  refine kJ (i := 6) (N := none) #[I,I,I,I,I,I,I] rfl rfl (cO HT_.out (by kernel_rfl)) (by decide) (fun K hK => ?_)
  have z0 : w5.cell? ⟨w.heap.size + 1, 0, none⟩ = some (.int .u64 0) := (ah HR.out 0).trans rfl
  have z1 : w5.cell? ⟨w.heap.size + 1, 1, none⟩ = some (.slice none 0 0) := (ah HR.out 1).trans rfl
  have Bz := av HR.out 0
  have BD := av HR.out 1
  refine jZ (w1 := ?_) (by rfl) rfl ?_ ?_
  rotate_left
  · go_simp
    rfl
  clear z0 Bz z1 BD
  refine hK.out _ _ ?_
  clear hK K
  refine iZ (gD HT_.out (by kernel_rfl)) ?_
  go_wp2
  refine bodyPost_ret (results_cell_row rfl _ _ (w.heap.size + 1) 51 #[.int .u64 a0, .slice Av nv cv] (0, 0) _ rfl (by refine aQ (cs := #[.int .u64 a0, .slice none 0 0]) ?_ 1 _ rfl; refine aQ (cs := #[.int .u64 0, .slice none 0 0]) ?_ 0 _ rfl; exact HR.out) Tryz.underlying51 rfl (by kernel_rfl)) rfl ?_
  refine ⟨_, rfl, Kd.iT (base' := w.heap.size) (Kd.dD (ok := (fun k_ => w.heap.size + 2 ≤ k_)) ?_ (fun k hk => by omega)) (Nat.le_refl _), ?_⟩
  · iterate 2 (refine Kd.cK ?_ (fun k hk => by simp; omega) _)
    exact HV.out
  · iterate 2 (refine eu ?_ (by omega))
    exact HB.out
set_option maxHeartbeats 4000000 in
set_option maxRecDepth 100000 in
theorem iK.calls (a0 : Int) (A1 : Option Addr) (c1 : Nat) (l : List S67) (r1 : Int) (r2 : List S79) (w : World) (hr : Kd.C k67 w A1 l.length l) (hc : l.length ≤ c1) (h : iK.f a0 l = some (r1, r2)) :
    Calls Tryz.prog 18 #[.agg #[.int .u32 a0, .slice A1 l.length c1]] w fun e w' => ∃ Bw : Value, e = .returned (.agg #[.int .u64 r1, Bw]) ∧ Kd.V k79 79 w' w.heap.size (fun k_ => w.heap.size ≤ k_) Bw r2 ∧ Below w.heap.size w w' := by
  obtain ⟨⟨s1, s2⟩, h1, h2⟩ := Option.bind_eq_some_iff.1 h
  have H1 := Aside0.mk h1
  have H2 := Aside0.mk h2
  have HR1 := Aside0.mk hr
  have Ce := Aside0.mk hc
  clear h h1 h2 hr hc
  have hux := Tryz.underlying25
  have huo := Tryz.underlying51
  have HB := Aside0.mk (((Below.refl _ w).alloc (Nat.le_refl _) (.cells #[.int .u32 a0, .slice A1 l.length c1] 25)).alloc (by simp) (.cells #[.int .u64 0, .slice none 0 0] 51))
  have HR := Aside0.mk (kZ w (.cells #[.int .u32 a0, .slice A1 l.length c1] 25) (.cells #[.int .u64 0, .slice none 0 0] 51))
  go_enter Tryz.func18, Tryz.ntmps18
  go_wp2_with (first
    | (go_at_call 12; refine (fu.calls a0 A1 c1 l s1 s2 _ (Kd.bJ HR1.out HB.out) Ce.out H1.out).mono ?_; rintro e w1 ⟨v1, rfl, hV, hb⟩; obtain ⟨Av, cv, ev⟩ := Kd.gI hV; subst ev; have HB1 := Aside0.mk (aN HB.out hb); have HR2 := Aside0.mk (aJ HR.out hb); have BS := Aside0.mk (Kd.d9 hV); clear hV hb)
    | (go_at_call 16; refine (dP.calls s1 Av cv s2 r1 r2 _ BS.out.2.2 BS.out.2.1 H2.out).mono ?_; rintro e w2 ⟨v2, rfl, hV, hb⟩; obtain ⟨Aw, cw, ew⟩ := Kd.gI hV; subst ew; have HB2 := Aside0.mk (aN HB1.out hb); have HR3 := Aside0.mk (aJ HR2.out hb); have hsz := aW HR2.out; have Cg := Aside0.mk (Kd.dD (ok' := (fun k_ => w.heap.size + 2 ≤ k_)) hV (fun k hk => by omega)); clear hV hb hsz; have z0 : w2.cell? ⟨w.heap.size + 1, 0, none⟩ = some (.int .u64 0) := (ah HR3.out 0).trans rfl; have z1 : w2.cell? ⟨w.heap.size + 1, 1, none⟩ = some (.slice none 0 0) := (ah HR3.out 1).trans rfl; have Bz := av HR3.out 0; have BD := av HR3.out 1))
  refine bodyPost_ret (results_cell_row rfl _ _ (w.heap.size + 1) 51 #[.int .u64 r1, .slice Aw r2.length cw] (0, 0) _ rfl (by refine aQ (cs := #[.int .u64 r1, .slice none 0 0]) ?_ 1 _ rfl; refine aQ (cs := #[.int .u64 0, .slice none 0 0]) ?_ 0 _ rfl; exact HR3.out) Tryz.underlying51 rfl (by kernel_rfl)) rfl ?_
  refine ⟨_, rfl, Kd.iT (base' := w.heap.size) (Kd.dD (ok := (fun k_ => w.heap.size + 2 ≤ k_)) ?_ (fun k hk => by omega)) (Nat.le_refl _), ?_⟩
  · iterate 2 (refine Kd.cK ?_ (fun k hk => by simp; omega) _)
    exact Cg.out
  · iterate 2 (refine eu ?_ (by omega))
    exact HB2.out
end Go.Proofs.YtpncpefppifgdaaGreatDoor.GUt
