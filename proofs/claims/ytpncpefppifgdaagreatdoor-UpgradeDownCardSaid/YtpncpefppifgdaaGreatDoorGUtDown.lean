/- upgrade.Down: the state of version 2 of which one of version 3 was made; are two states of version 3 alike? Contracts. No conditions beside those stated. -/
import Derived.Test.YtpncpefppifgdaaGreatDoorCp
import Derived.Test.YtpncpefppifgdaaGreatDoorGUtUp
import Derived.Test.YtpncpefppifgdaaGreatDoorGUtSame
namespace Go.Proofs.YtpncpefppifgdaaGreatDoor.GUt
open Go.RowKit Go.Proofs.YtpncpefppifgdaaGreatDoorW.PrintWords Go.Proofs.YtpncpefppifgdaaGreatDoorW.PrintLast Go.Proofs.YtpncpefppifgdaaGreatDoorW.PrintMore
set_option linter.unusedVariables false
set_option linter.unusedSimpArgs false
theorem yc : (Tryz.prog.info? 73).map (fun i => (i.zero, i.size, i.bytes)) = some (some (.agg #[.string ⟨#[]⟩, .string ⟨#[]⟩]), 2, 32) := by kernel_rfl
def jM (x : S84) : S73 := ⟨x.f0, x.f1⟩
def iF (x : S79) : S71 := ⟨x.f0, x.f1.f0, x.f1.f1, x.f1.f2 % 256, IntKind.u16.wrap x.f1.f3, x.f1.f5.map jM⟩
theorem yg (W : World) (ok : Nat → Prop) (x : S84) : Kd.FK k73 W ok (jM x) [.string x.f0, .string x.f1] := tu W ok (jM x)
theorem yh {W : World} {base : Nat} {ok : Nat → Prop} {x : S79} {Av : Option Addr} {nv cv : Nat} (h : Kd.V k73 73 W base ok (.slice Av nv cv) (x.f1.f5.map jM)) : Kd.FK k71 W ok (iF x) [.string x.f0, .string x.f1.f0, .string x.f1.f1, .int .u8 (x.f1.f2 % 256), .int .u16 (IntKind.u16.wrap x.f1.f3), .slice Av nv cv] := by
  obtain ⟨e, l, hF⟩ := Kd.qV h
  subst e
  exact tC W ok (iF x) l hF
set_option maxHeartbeats 4000000 in
set_option maxRecDepth 100000 in
theorem AO.calls (x : S84) (A2 A3 A6 : Option Addr) (c2 c3 c6 : Nat) (w : World) :
    Calls Tryz.prog 41 #[.agg #[.string x.f0, .string x.f1, .slice A2 x.f2.length c2, .slice A3 x.f3.length c3, .int .i64 x.f4, .int .i64 x.f5, .slice A6 x.f6.length c6]] w fun e w' => e = .returned (.agg #[.string x.f0, .string x.f1]) ∧ Below w.heap.size w w' := by
  have Cj := Tryz.underlying84
  have Ck := Tryz.underlying73
  have HB := Aside0.mk (((Below.refl _ w).alloc (Nat.le_refl _) (.cells #[.string x.f0, .string x.f1, .slice A2 x.f2.length c2, .slice A3 x.f3.length c3, .int .i64 x.f4, .int .i64 x.f5, .slice A6 x.f6.length c6] 84)).alloc (by simp) (.cells #[.string ⟨#[]⟩, .string ⟨#[]⟩] 73))
  have HBX := Aside0.mk (ak (heap_alloc_new w (.cells #[.string x.f0, .string x.f1, .slice A2 x.f2.length c2, .slice A3 x.f3.length c3, .int .i64 x.f4, .int .i64 x.f5, .slice A6 x.f6.length c6] 84)) (.cells #[.string ⟨#[]⟩, .string ⟨#[]⟩] 73))
  have HBR := Aside0.mk (kZ w (.cells #[.string x.f0, .string x.f1, .slice A2 x.f2.length c2, .slice A3 x.f3.length c3, .int .i64 x.f4, .int .i64 x.f5, .slice A6 x.f6.length c6] 84) (.cells #[.string ⟨#[]⟩, .string ⟨#[]⟩] 73))
  go_enter Tryz.func41, Tryz.ntmps41
  go_wp2
  refine bodyPost_ret (results_cell_row rfl _ _ (w.heap.size + 1) 73 #[.string x.f0, .string x.f1] (0, 0) _ rfl (by exact kZ _ _ _) Tryz.underlying73 rfl (by kernel_rfl)) rfl ?_
  exact ⟨rfl, ((Below.refl _ w).alloc (Nat.le_refl _) _).alloc (by simp) _⟩
set_option maxHeartbeats 4000000 in
set_option maxRecDepth 100000 in
theorem zP.calls (A0 : Option Addr) (c0 : Nat) (l : List S84) (w : World) (hr : Kd.C k84 w A0 l.length l) (hz : l.length * 32 ≤ 140737488355328) :
    Calls Tryz.prog 40 #[.slice A0 l.length c0, .func (.func 41) #[] #[]] w fun e w' => ∃ v, e = .returned v ∧ ru k73 73 w w' v (l.map jM) ∧ Below w.heap.size w w' := by
  have hui := Tryz.underlying84
  have huo := Tryz.underlying73
  have HR := Aside0.mk hr
  have HZ := Aside0.mk hz
  clear hr hz
  go_enter Tryz.func40, Tryz.ntmps40
  go_wp2
  go_loopg [5, 10] l.length (fun kq v5 v10 w' => ∃ (i : Nat) (u : Value), u = v5 ∧ v10 = .int .i64 (i : Int) ∧ Aside0 (i + kq = l.length) ∧ Aside0 (Own k73 73 w w' u ((l.take i).map jM)) ∧ Aside0 (Below w.heap.size w w'))
  case atStart => exact ⟨0, _, rfl, rfl, ⟨by omega⟩, ⟨Kd.jw _ _ _ _ _⟩, ⟨Below.refl _ _⟩⟩
  case round =>
    obtain ⟨i, u, hu, rfl, hi, HN, HB⟩ := hrel
    subst hu
    cases gk with
    | zero =>
      obtain rfl : i = l.length := by have := hi.out; omega
      have hend : decide (((l.length : Nat) : Int) < (l.length : Int)) = false := decide_eq_false (by omega)
      have HN' := HN.out
      rw [List.take_length] at HN'
      have HNZ := Aside0.mk HN'
      clear HN' HN hi
      go_wp2
      go_ret
      exact ⟨_, rfl, Kd.N_V HNZ.out, HB.out⟩
    | succ k1 =>
      have hlt : i < l.length := by have := hi.out; omega
      have c1 : decide ((i : Int) < (l.length : Int)) = true := decide_eq_true (by omega)
      have p1 : 0 ≤ (i : Int) := by omega
      have q1 : (i : Int) < (l.length : Int) := by omega
      obtain ⟨ad, A2, c2, A3, c3, A6, c6, e, hx0, hx1, hx2, hx3, hx4, hx5, hx6, BS, BU, BZ, Ca, Bz, Bw⟩ := kF HR.out (i : Int) p1 q1
      cases e
      have htk : (l.take (i + 1)).map jM = (l.take i).map jM ++ [jM (au l (i : Int))] := by
        rw [List.take_add_one, List.map_append, List.getElem?_eq_getElem hlt]
        simp [au, List.getElem?_eq_getElem hlt]
      have hmem : au l (i : Int) ∈ l := by
        have e : au l (i : Int) = l[i] := by simp [au, List.getElem?_eq_getElem hlt]
        rw [e]; exact List.getElem_mem hlt
      replace hx0 := (HB.out.cell (World.block_lt_of_cell? w _ hx0)).trans hx0
      replace hx1 := (HB.out.cell (World.block_lt_of_cell? w _ hx1)).trans hx1
      replace hx2 := (HB.out.cell (World.block_lt_of_cell? w _ hx2)).trans hx2
      replace hx3 := (HB.out.cell (World.block_lt_of_cell? w _ hx3)).trans hx3
      replace hx4 := (HB.out.cell (World.block_lt_of_cell? w _ hx4)).trans hx4
      replace hx5 := (HB.out.cell (World.block_lt_of_cell? w _ hx5)).trans hx5
      replace hx6 := (HB.out.cell (World.block_lt_of_cell? w _ hx6)).trans hx6
      simp only [Int.toNat_natCast] at hx0 hx1 hx2 hx3 hx4 hx5 hx6
      generalize au l (i : Int) = x at hx0 hx1 hx2 hx3 hx4 hx5 hx6 BS BU BZ Ca Bz Bw htk hmem
      replace p1 := eq_true p1
      replace q1 := eq_true q1
      have q3 : (i < l.length) = True := eq_true hlt
      have HTK := Aside0.mk htk
      have HMEM := Aside0.mk hmem
      clear BS BU BZ Ca Bz Bw
      have HAW := Aside0.mk (kY HN.out HB.out.size)
      have hwv : Value.int .i64 (wrap64 ((i : Int) + 1)) = Value.int .i64 ((i + 1 : Nat) : Int) := by have := Kd.jX HR.out; rw [bW (by omega) (by omega)]; rfl
      have HWV := Aside0.mk hwv
      have hnx : Aside0 (i + 1 + k1 = l.length) := ⟨by have := hi.out; omega⟩
      clear htk hmem hwv hi
      go_wp2_with (first
        | (go_at_call 41; refine (AO.calls x A2 A3 A6 c2 c3 c6 _).mono ?_; rintro e w1 ⟨rfl, hb⟩; have hB1 := aN (HB.out.alloc HB.out.size (.cells #[.string x.f0, .string x.f1, .slice A2 x.f2.length c2, .slice A3 x.f3.length c3, .int .i64 x.f4, .int .i64 x.f5, .slice A6 x.f6.length c6] 84)) hb; have HB1 := Aside0.mk hB1; have BG := Aside0.mk (Kd.jR (Kd.mG HN.out (.cells #[.string x.f0, .string x.f1, .slice A2 x.f2.length c2, .slice A3 x.f3.length c3, .int .i64 x.f4, .int .i64 x.f5, .slice A6 x.f6.length c6] 84)) hb); have hbs := hb.size; have BH := Aside0.mk (show wr.heap.size ≤ w1.heap.size by simp at hbs; omega); clear hb hB1 hbs)
        | ((with_reducible refine bN (N := 18) rfl ?_); refine Kd.lX k73 (w0 := w) w.heap.size 73 rfl rfl (xs := [jM x]) (inner := [.string x.f0, .string x.f1]) (ok := fun k_ => wr.heap.size ≤ k_) (okp := fun k_ => wr.heap.size ≤ k_) (by first | (go_simp; done) | (go_simp; rfl)) (dQ.c2 (yg _ _ x) (dQ.none _ _)) (fun k hk => hk) BH.out HB1.out HB1.out.size (by simp) ?_; intro v2 w2 hn hb hg hat; have BI := Aside0.mk (Kd.lI BG.out hg (fun k _ => fun e => by cases e)); obtain ⟨Az, cz, ez⟩ := Kd.iR hn; subst ez; have HL := Aside0.mk hn; have HB2 := Aside0.mk hb; clear hn hb hg hat)
        | (at_builtin; refine Kd.gq k73 (w0 := w) w.heap.size rfl (.tmp 14) (.tmp 18) 69 73 _ 32 rfl Tryz.underlying69 yc rfl (by decide) (by omega) u ((l.take i).map jM) [jM x] Az [jM x].length cz (fun k_ => w.heap.size ≤ k_) (fun k_ => wr.heap.size ≤ k_) rfl rfl BI.out (Kd.N_F HL.out) HAW.out (fun k hk => Nat.le_trans HB2.out.size hk) HB2.out HB2.out.size (by have := HZ.out; have := hnx.out; simp; omega) ?_; intro v3 w3 hn hb hg hat; have BJ := Aside0.mk hn; have HB3 := Aside0.mk hb; clear hn hb hg hat))
      go_roundg k1
      case measure => exact Nat.lt_succ_self k1
      case rel => exact ⟨i + 1, _, rfl, by first | exact HWV.out | rfl, hnx, ⟨HTK.out ▸ BJ.out⟩, HB3⟩
def pE.T2 : Bool × List (List Nat × List Nat) := (true, [([], []), ([0], [0]), ([], []), ([2], [2]), ([], []), ([4], [4]), ([], []), ([6], [6]), ([7], [7]), ([], []), ([9], [9]), ([10], [10]), ([], []), ([12], [12]), ([13], [13]), ([1, 3, 5, 8, 11, 14], [1, 3, 5, 8, 11, 14]), ([15, 14, 0, 1, 2, 3, 4, 5, 6, 7, 8, 9, 10, 11, 12, 13, 14, 15], [15])])
def pE.B2 : List Nat := [0, 1, 0, 4, 0, 16, 0, 64, 192, 0, 512, 1536, 0, 4096, 12288, 32767, 65535]
theorem pE.zQ : gT .any (opsOf Tryz.f39 2) = pE.T2 := by kernel_rfl
theorem pE.wO : fO pE.T2.2 pE.B2 = true := by kernel_rfl
theorem AP (w : World) (o o' o2 : Obj) : (((w.alloc o).alloc o').alloc o2).heap[w.heap.size + 2]? = some o2 := by have q := heap_alloc_new ((w.alloc o).alloc o') o2; simpa using q
set_option maxHeartbeats 4000000 in
set_option maxRecDepth 100000 in
theorem pE.calls (x : S79) (A6 : Option Addr) (c6 : Nat) (w : World) (hr : Kd.C k84 w A6 x.f1.f5.length x.f1.f5) (hz : x.f1.f5.length * 32 ≤ 140737488355328) :
    Calls Tryz.prog 39 #[.agg #[.string x.f0, .string x.f1.f0, .string x.f1.f1, .int .i64 x.f1.f2, .int .i64 x.f1.f3, .bool x.f1.f4, .slice A6 x.f1.f5.length c6]] w fun e w' => ∃ (Av : Option Addr) (nv cv : Nat), e = .returned (.agg #[.string x.f0, .string x.f1.f0, .string x.f1.f1, .int .u8 (x.f1.f2 % 256), .int .u16 (IntKind.u16.wrap x.f1.f3), .slice Av nv cv]) ∧ ru k73 73 w w' (.slice Av nv cv) (x.f1.f5.map jM) ∧ Below w.heap.size w w' := by
  have BK := Aside0.mk hr
  have Cm := Aside0.mk hz
  clear hr hz
  have hux := Tryz.underlying79
  have huo := Tryz.underlying71
  have hup := Tryz.underlying77
  have HB := Aside0.mk (show Below w.heap.size w (((w.alloc (.cells #[.string x.f0, .string x.f1.f0, .string x.f1.f1, .int .i64 x.f1.f2, .int .i64 x.f1.f3, .bool x.f1.f4, .slice A6 x.f1.f5.length c6] 79)).alloc (.cells #[.string ⟨#[]⟩, .string ⟨#[]⟩, .string ⟨#[]⟩, .int .u8 0, .int .u16 0, .slice none 0 0] 71)).alloc (.cells #[.string x.f1.f0, .string x.f1.f1, .int .i64 x.f1.f2, .int .i64 x.f1.f3, .bool x.f1.f4, .slice A6 x.f1.f5.length c6] 77)) from (((Below.refl _ w).alloc (Nat.le_refl _) _).alloc (by simp) _).alloc (by simp; omega) _)
  have HX := Aside0.mk (show (((w.alloc (.cells #[.string x.f0, .string x.f1.f0, .string x.f1.f1, .int .i64 x.f1.f2, .int .i64 x.f1.f3, .bool x.f1.f4, .slice A6 x.f1.f5.length c6] 79)).alloc (.cells #[.string ⟨#[]⟩, .string ⟨#[]⟩, .string ⟨#[]⟩, .int .u8 0, .int .u16 0, .slice none 0 0] 71)).alloc (.cells #[.string x.f1.f0, .string x.f1.f1, .int .i64 x.f1.f2, .int .i64 x.f1.f3, .bool x.f1.f4, .slice A6 x.f1.f5.length c6] 77)).heap[w.heap.size]? = some (.cells #[.string x.f0, .string x.f1.f0, .string x.f1.f1, .int .i64 x.f1.f2, .int .i64 x.f1.f3, .bool x.f1.f4, .slice A6 x.f1.f5.length c6] 79 (0, 0)) ∧ (((w.alloc (.cells #[.string x.f0, .string x.f1.f0, .string x.f1.f1, .int .i64 x.f1.f2, .int .i64 x.f1.f3, .bool x.f1.f4, .slice A6 x.f1.f5.length c6] 79)).alloc (.cells #[.string ⟨#[]⟩, .string ⟨#[]⟩, .string ⟨#[]⟩, .int .u8 0, .int .u16 0, .slice none 0 0] 71)).alloc (.cells #[.string x.f1.f0, .string x.f1.f1, .int .i64 x.f1.f2, .int .i64 x.f1.f3, .bool x.f1.f4, .slice A6 x.f1.f5.length c6] 77)).heap[w.heap.size + 1 + 1]? = some (.cells #[.string x.f1.f0, .string x.f1.f1, .int .i64 x.f1.f2, .int .i64 x.f1.f3, .bool x.f1.f4, .slice A6 x.f1.f5.length c6] 77 (0, 0)) from ⟨ak (ak (heap_alloc_new w _) _) _, AP w _ _ _⟩)
  have HR := Aside0.mk (show (((w.alloc (.cells #[.string x.f0, .string x.f1.f0, .string x.f1.f1, .int .i64 x.f1.f2, .int .i64 x.f1.f3, .bool x.f1.f4, .slice A6 x.f1.f5.length c6] 79)).alloc (.cells #[.string ⟨#[]⟩, .string ⟨#[]⟩, .string ⟨#[]⟩, .int .u8 0, .int .u16 0, .slice none 0 0] 71)).alloc (.cells #[.string x.f1.f0, .string x.f1.f1, .int .i64 x.f1.f2, .int .i64 x.f1.f3, .bool x.f1.f4, .slice A6 x.f1.f5.length c6] 77)).heap[w.heap.size + 1]? = some (.cells #[.string ⟨#[]⟩, .string ⟨#[]⟩, .string ⟨#[]⟩, .int .u8 0, .int .u16 0, .slice none 0 0] 71 (0, 0)) from ak (kZ w _ _) _)
  go_enter Tryz.func39, Tryz.ntmps39
  go_upto_region 2 with (fail)
  (try simp only [Act.put, List.setIfInBounds_toArray, List.set_cons_zero, List.set_cons_succ])
  generalize (((w.alloc (.cells #[.string x.f0, .string x.f1.f0, .string x.f1.f1, .int .i64 x.f1.f2, .int .i64 x.f1.f3, .bool x.f1.f4, .slice A6 x.f1.f5.length c6] 79)).alloc (.cells #[.string ⟨#[]⟩, .string ⟨#[]⟩, .string ⟨#[]⟩, .int .u8 0, .int .u16 0, .slice none 0 0] 71)).alloc (.cells #[.string x.f1.f0, .string x.f1.f1, .int .i64 x.f1.f2, .int .i64 x.f1.f3, .bool x.f1.f4, .slice A6 x.f1.f5.length c6] 77)) = wA at HB HX HR ⊢
  refine gZ (n := 17) (S := fun w' => w'.heap[w.heap.size]? = some (.cells #[.string x.f0, .string x.f1.f0, .string x.f1.f1, .int .i64 x.f1.f2, .int .i64 x.f1.f3, .bool x.f1.f4, .slice A6 x.f1.f5.length c6] 79 (0, 0)) ∧ w'.heap[w.heap.size + 1 + 1]? = some (.cells #[.string x.f1.f0, .string x.f1.f1, .int .i64 x.f1.f2, .int .i64 x.f1.f3, .bool x.f1.f4, .slice A6 x.f1.f5.length c6] 77 (0, 0))) (ds := [16]) #[O,O,O,O,O,O,O,O,O,O,O,O,O,O,O,O,O] (by kernel_rfl) rfl rfl (HX.out) (fun hHeld => ?_)
  refine eY pE.zQ pE.wO (fun HT_ HW_ => ?_)
  replace HX := Aside0.mk (⟨ay HX.out.1, ay HX.out.2⟩ : _ ∧ _)
  replace HR := Aside0.mk (ay HR.out)
  replace HB := Aside0.mk (bL HB.out)
  refine pu_ 0 6 #[I,O,O,O,O,O,O,O,O,O,O,O,O,O,O,O,O] HT_.out ?_
  refine pu_ 2 8 #[I,O,I,O,O,O,O,O,O,O,O,O,O,O,O,O,O] HT_.out ?_
  refine pu_ 4 10 #[I,O,I,O,I,O,O,O,O,O,O,O,O,O,O,O,O] HT_.out ?_
  refine pu_ 6 12 #[I,O,I,O,I,O,I,O,O,O,O,O,O,O,O,O,O] HT_.out ?_
  refine pu_ 9 15 #[I,O,I,O,I,O,I,O,O,I,O,O,O,O,O,O,O] HT_.out ?_
  refine pu_ 12 18 #[I,O,I,O,I,O,I,O,O,I,O,O,I,O,O,O,O] HT_.out ?_
  refine gy (i := 1) (N := some 7) (v := ?_) (a' := ?_) #[I,I,I,O,I,O,I,O,O,I,O,O,I,O,O,O,O] rfl rfl (dR HT_.out HW_.out (by kernel_rfl)) (fun _ _ _ h => h) (Or.inl ⟨by rfl, ?_⟩) hHeld ?_ ?_
  rotate_left
  · intro w' s0
    have e0 : w'.cell? ⟨w.heap.size, 0, none⟩ = some (.string x.f0) := (ah s0.1 0).trans rfl
    have e1 : w'.cell? ⟨w.heap.size, 1, none⟩ = some (.string x.f1.f0) := (ah s0.1 1).trans rfl
    have e2 : w'.cell? ⟨w.heap.size, 2, none⟩ = some (.string x.f1.f1) := (ah s0.1 2).trans rfl
    have e3 : w'.cell? ⟨w.heap.size, 3, none⟩ = some (.int .i64 x.f1.f2) := (ah s0.1 3).trans rfl
    have e4 : w'.cell? ⟨w.heap.size, 4, none⟩ = some (.int .i64 x.f1.f3) := (ah s0.1 4).trans rfl
    have e5 : w'.cell? ⟨w.heap.size, 5, none⟩ = some (.bool x.f1.f4) := (ah s0.1 5).trans rfl
    have e6 : w'.cell? ⟨w.heap.size, 6, none⟩ = some (.slice A6 x.f1.f5.length c6) := (ah s0.1 6).trans rfl
    have p0 : w'.cell? ⟨w.heap.size + 1 + 1, 0, none⟩ = some (.string x.f1.f0) := (ah s0.2 0).trans rfl
    have p1 : w'.cell? ⟨w.heap.size + 1 + 1, 1, none⟩ = some (.string x.f1.f1) := (ah s0.2 1).trans rfl
    have p2 : w'.cell? ⟨w.heap.size + 1 + 1, 2, none⟩ = some (.int .i64 x.f1.f2) := (ah s0.2 2).trans rfl
    have p3 : w'.cell? ⟨w.heap.size + 1 + 1, 3, none⟩ = some (.int .i64 x.f1.f3) := (ah s0.2 3).trans rfl
    have p4 : w'.cell? ⟨w.heap.size + 1 + 1, 4, none⟩ = some (.bool x.f1.f4) := (ah s0.2 4).trans rfl
    have p5 : w'.cell? ⟨w.heap.size + 1 + 1, 5, none⟩ = some (.slice A6 x.f1.f5.length c6) := (ah s0.2 5).trans rfl
    go_simp
    with_reducible rfl
  rotate_left
  · simp only [Act.put, List.setIfInBounds_toArray, List.set_cons_zero, List.set_cons_succ, bO, bR]
    rfl
  refine gy (i := 3) (N := some 9) (v := ?_) (a' := ?_) #[I,I,I,I,I,O,I,O,O,I,O,O,I,O,O,O,O] rfl rfl (dR HT_.out HW_.out (by kernel_rfl)) (fun _ _ _ h => h) (Or.inl ⟨by rfl, ?_⟩) hHeld ?_ ?_
  rotate_left
  · intro w' s0
    have e0 : w'.cell? ⟨w.heap.size, 0, none⟩ = some (.string x.f0) := (ah s0.1 0).trans rfl
    have e1 : w'.cell? ⟨w.heap.size, 1, none⟩ = some (.string x.f1.f0) := (ah s0.1 1).trans rfl
    have e2 : w'.cell? ⟨w.heap.size, 2, none⟩ = some (.string x.f1.f1) := (ah s0.1 2).trans rfl
    have e3 : w'.cell? ⟨w.heap.size, 3, none⟩ = some (.int .i64 x.f1.f2) := (ah s0.1 3).trans rfl
    have e4 : w'.cell? ⟨w.heap.size, 4, none⟩ = some (.int .i64 x.f1.f3) := (ah s0.1 4).trans rfl
    have e5 : w'.cell? ⟨w.heap.size, 5, none⟩ = some (.bool x.f1.f4) := (ah s0.1 5).trans rfl
    have e6 : w'.cell? ⟨w.heap.size, 6, none⟩ = some (.slice A6 x.f1.f5.length c6) := (ah s0.1 6).trans rfl
    have p0 : w'.cell? ⟨w.heap.size + 1 + 1, 0, none⟩ = some (.string x.f1.f0) := (ah s0.2 0).trans rfl
    have p1 : w'.cell? ⟨w.heap.size + 1 + 1, 1, none⟩ = some (.string x.f1.f1) := (ah s0.2 1).trans rfl
    have p2 : w'.cell? ⟨w.heap.size + 1 + 1, 2, none⟩ = some (.int .i64 x.f1.f2) := (ah s0.2 2).trans rfl
    have p3 : w'.cell? ⟨w.heap.size + 1 + 1, 3, none⟩ = some (.int .i64 x.f1.f3) := (ah s0.2 3).trans rfl
    have p4 : w'.cell? ⟨w.heap.size + 1 + 1, 4, none⟩ = some (.bool x.f1.f4) := (ah s0.2 4).trans rfl
    have p5 : w'.cell? ⟨w.heap.size + 1 + 1, 5, none⟩ = some (.slice A6 x.f1.f5.length c6) := (ah s0.2 5).trans rfl
    go_simp
    with_reducible rfl
  rotate_left
  · simp only [Act.put, List.setIfInBounds_toArray, List.set_cons_zero, List.set_cons_succ, bO, bR]
    rfl
  refine gy (i := 5) (N := some 11) (v := ?_) (a' := ?_) #[I,I,I,I,I,I,I,O,O,I,O,O,I,O,O,O,O] rfl rfl (dR HT_.out HW_.out (by kernel_rfl)) (fun _ _ _ h => h) (Or.inl ⟨by rfl, ?_⟩) hHeld ?_ ?_
  rotate_left
  · intro w' s0
    have e0 : w'.cell? ⟨w.heap.size, 0, none⟩ = some (.string x.f0) := (ah s0.1 0).trans rfl
    have e1 : w'.cell? ⟨w.heap.size, 1, none⟩ = some (.string x.f1.f0) := (ah s0.1 1).trans rfl
    have e2 : w'.cell? ⟨w.heap.size, 2, none⟩ = some (.string x.f1.f1) := (ah s0.1 2).trans rfl
    have e3 : w'.cell? ⟨w.heap.size, 3, none⟩ = some (.int .i64 x.f1.f2) := (ah s0.1 3).trans rfl
    have e4 : w'.cell? ⟨w.heap.size, 4, none⟩ = some (.int .i64 x.f1.f3) := (ah s0.1 4).trans rfl
    have e5 : w'.cell? ⟨w.heap.size, 5, none⟩ = some (.bool x.f1.f4) := (ah s0.1 5).trans rfl
    have e6 : w'.cell? ⟨w.heap.size, 6, none⟩ = some (.slice A6 x.f1.f5.length c6) := (ah s0.1 6).trans rfl
    have p0 : w'.cell? ⟨w.heap.size + 1 + 1, 0, none⟩ = some (.string x.f1.f0) := (ah s0.2 0).trans rfl
    have p1 : w'.cell? ⟨w.heap.size + 1 + 1, 1, none⟩ = some (.string x.f1.f1) := (ah s0.2 1).trans rfl
    have p2 : w'.cell? ⟨w.heap.size + 1 + 1, 2, none⟩ = some (.int .i64 x.f1.f2) := (ah s0.2 2).trans rfl
    have p3 : w'.cell? ⟨w.heap.size + 1 + 1, 3, none⟩ = some (.int .i64 x.f1.f3) := (ah s0.2 3).trans rfl
    have p4 : w'.cell? ⟨w.heap.size + 1 + 1, 4, none⟩ = some (.bool x.f1.f4) := (ah s0.2 4).trans rfl
    have p5 : w'.cell? ⟨w.heap.size + 1 + 1, 5, none⟩ = some (.slice A6 x.f1.f5.length c6) := (ah s0.2 5).trans rfl
    go_simp
    with_reducible rfl
  rotate_left
  · simp only [Act.put, List.setIfInBounds_toArray, List.set_cons_zero, List.set_cons_succ, bO, bR]
    rfl
  refine gy (i := 7) (N := some 13) (v := ?_) (a' := ?_) #[I,I,I,I,I,I,I,I,O,I,O,O,I,O,O,O,O] rfl rfl (dR HT_.out HW_.out (by kernel_rfl)) (fun _ _ _ h => h) (Or.inl ⟨by rfl, ?_⟩) hHeld ?_ ?_
  rotate_left
  · intro w' s0
    have e0 : w'.cell? ⟨w.heap.size, 0, none⟩ = some (.string x.f0) := (ah s0.1 0).trans rfl
    have e1 : w'.cell? ⟨w.heap.size, 1, none⟩ = some (.string x.f1.f0) := (ah s0.1 1).trans rfl
    have e2 : w'.cell? ⟨w.heap.size, 2, none⟩ = some (.string x.f1.f1) := (ah s0.1 2).trans rfl
    have e3 : w'.cell? ⟨w.heap.size, 3, none⟩ = some (.int .i64 x.f1.f2) := (ah s0.1 3).trans rfl
    have e4 : w'.cell? ⟨w.heap.size, 4, none⟩ = some (.int .i64 x.f1.f3) := (ah s0.1 4).trans rfl
    have e5 : w'.cell? ⟨w.heap.size, 5, none⟩ = some (.bool x.f1.f4) := (ah s0.1 5).trans rfl
    have e6 : w'.cell? ⟨w.heap.size, 6, none⟩ = some (.slice A6 x.f1.f5.length c6) := (ah s0.1 6).trans rfl
    have p0 : w'.cell? ⟨w.heap.size + 1 + 1, 0, none⟩ = some (.string x.f1.f0) := (ah s0.2 0).trans rfl
    have p1 : w'.cell? ⟨w.heap.size + 1 + 1, 1, none⟩ = some (.string x.f1.f1) := (ah s0.2 1).trans rfl
    have p2 : w'.cell? ⟨w.heap.size + 1 + 1, 2, none⟩ = some (.int .i64 x.f1.f2) := (ah s0.2 2).trans rfl
    have p3 : w'.cell? ⟨w.heap.size + 1 + 1, 3, none⟩ = some (.int .i64 x.f1.f3) := (ah s0.2 3).trans rfl
    have p4 : w'.cell? ⟨w.heap.size + 1 + 1, 4, none⟩ = some (.bool x.f1.f4) := (ah s0.2 4).trans rfl
    have p5 : w'.cell? ⟨w.heap.size + 1 + 1, 5, none⟩ = some (.slice A6 x.f1.f5.length c6) := (ah s0.2 5).trans rfl
    go_simp
    with_reducible rfl
  rotate_left
  · simp only [Act.put, List.setIfInBounds_toArray, List.set_cons_zero, List.set_cons_succ, bO, bR]
    rfl
  refine pu_ 8 14 #[I,I,I,I,I,I,I,I,I,I,O,O,I,O,O,O,O] HT_.out ?_
  refine gy (i := 10) (N := some 16) (v := ?_) (a' := ?_) #[I,I,I,I,I,I,I,I,I,I,I,O,I,O,O,O,O] rfl rfl (dR HT_.out HW_.out (by kernel_rfl)) (fun _ _ _ h => h) (Or.inl ⟨by rfl, ?_⟩) hHeld ?_ ?_
  rotate_left
  · intro w' s0
    have e0 : w'.cell? ⟨w.heap.size, 0, none⟩ = some (.string x.f0) := (ah s0.1 0).trans rfl
    have e1 : w'.cell? ⟨w.heap.size, 1, none⟩ = some (.string x.f1.f0) := (ah s0.1 1).trans rfl
    have e2 : w'.cell? ⟨w.heap.size, 2, none⟩ = some (.string x.f1.f1) := (ah s0.1 2).trans rfl
    have e3 : w'.cell? ⟨w.heap.size, 3, none⟩ = some (.int .i64 x.f1.f2) := (ah s0.1 3).trans rfl
    have e4 : w'.cell? ⟨w.heap.size, 4, none⟩ = some (.int .i64 x.f1.f3) := (ah s0.1 4).trans rfl
    have e5 : w'.cell? ⟨w.heap.size, 5, none⟩ = some (.bool x.f1.f4) := (ah s0.1 5).trans rfl
    have e6 : w'.cell? ⟨w.heap.size, 6, none⟩ = some (.slice A6 x.f1.f5.length c6) := (ah s0.1 6).trans rfl
    have p0 : w'.cell? ⟨w.heap.size + 1 + 1, 0, none⟩ = some (.string x.f1.f0) := (ah s0.2 0).trans rfl
    have p1 : w'.cell? ⟨w.heap.size + 1 + 1, 1, none⟩ = some (.string x.f1.f1) := (ah s0.2 1).trans rfl
    have p2 : w'.cell? ⟨w.heap.size + 1 + 1, 2, none⟩ = some (.int .i64 x.f1.f2) := (ah s0.2 2).trans rfl
    have p3 : w'.cell? ⟨w.heap.size + 1 + 1, 3, none⟩ = some (.int .i64 x.f1.f3) := (ah s0.2 3).trans rfl
    have p4 : w'.cell? ⟨w.heap.size + 1 + 1, 4, none⟩ = some (.bool x.f1.f4) := (ah s0.2 4).trans rfl
    have p5 : w'.cell? ⟨w.heap.size + 1 + 1, 5, none⟩ = some (.slice A6 x.f1.f5.length c6) := (ah s0.2 5).trans rfl
    go_simp
    with_reducible rfl
  rotate_left
  · simp only [Act.put, List.setIfInBounds_toArray, List.set_cons_zero, List.set_cons_succ, bO, bR]
    rfl
  refine pu_ 11 17 #[I,I,I,I,I,I,I,I,I,I,I,I,I,O,O,O,O] HT_.out ?_
  refine gy (i := 13) (N := some 19) (v := ?_) (a' := ?_) #[I,I,I,I,I,I,I,I,I,I,I,I,I,I,O,O,O] rfl rfl (dR HT_.out HW_.out (by kernel_rfl)) (fun _ _ _ h => h) (Or.inl ⟨by rfl, ?_⟩) hHeld ?_ ?_
  rotate_left
  · intro w' s0
    have e0 : w'.cell? ⟨w.heap.size, 0, none⟩ = some (.string x.f0) := (ah s0.1 0).trans rfl
    have e1 : w'.cell? ⟨w.heap.size, 1, none⟩ = some (.string x.f1.f0) := (ah s0.1 1).trans rfl
    have e2 : w'.cell? ⟨w.heap.size, 2, none⟩ = some (.string x.f1.f1) := (ah s0.1 2).trans rfl
    have e3 : w'.cell? ⟨w.heap.size, 3, none⟩ = some (.int .i64 x.f1.f2) := (ah s0.1 3).trans rfl
    have e4 : w'.cell? ⟨w.heap.size, 4, none⟩ = some (.int .i64 x.f1.f3) := (ah s0.1 4).trans rfl
    have e5 : w'.cell? ⟨w.heap.size, 5, none⟩ = some (.bool x.f1.f4) := (ah s0.1 5).trans rfl
    have e6 : w'.cell? ⟨w.heap.size, 6, none⟩ = some (.slice A6 x.f1.f5.length c6) := (ah s0.1 6).trans rfl
    have p0 : w'.cell? ⟨w.heap.size + 1 + 1, 0, none⟩ = some (.string x.f1.f0) := (ah s0.2 0).trans rfl
    have p1 : w'.cell? ⟨w.heap.size + 1 + 1, 1, none⟩ = some (.string x.f1.f1) := (ah s0.2 1).trans rfl
    have p2 : w'.cell? ⟨w.heap.size + 1 + 1, 2, none⟩ = some (.int .i64 x.f1.f2) := (ah s0.2 2).trans rfl
    have p3 : w'.cell? ⟨w.heap.size + 1 + 1, 3, none⟩ = some (.int .i64 x.f1.f3) := (ah s0.2 3).trans rfl
    have p4 : w'.cell? ⟨w.heap.size + 1 + 1, 4, none⟩ = some (.bool x.f1.f4) := (ah s0.2 4).trans rfl
    have p5 : w'.cell? ⟨w.heap.size + 1 + 1, 5, none⟩ = some (.slice A6 x.f1.f5.length c6) := (ah s0.2 5).trans rfl
    go_simp
    with_reducible rfl
  rotate_left
  · simp only [Act.put, List.setIfInBounds_toArray, List.set_cons_zero, List.set_cons_succ, bO, bR]
    rfl
  refine fU (i := 14) (N := some 20) #[I,I,I,I,I,I,I,I,I,I,I,I,I,I,I,O,O] rfl rfl (cO HT_.out (by kernel_rfl)) (by decide) (fun K hK => ?_)
  refine eU Tryz.func40 (by kernel_rfl) rfl #[.slice A6 x.f1.f5.length c6, .func (.func 41) #[] #[]] (by rfl) rfl rfl (by (try simp only [List.map_toArray, List.map_cons, List.map_nil]); first | done | rfl) ?_
  refine (zP.calls A6 c6 x.f1.f5 _ (Kd.bJ BK.out HB.out) Cm.out).mono ?_
  rintro e w5 ⟨v, rfl, hV, hb⟩
  obtain ⟨Av, nv, cv, er⟩ : ∃ B n d, v = .slice B n d := (Kd.gI hV).elim fun A h => h.elim fun c e => ⟨A, _, c, e⟩
  subst er
  refine ⟨_, rfl, ?_⟩
  have hsz := aW HX.out.2
  have HV := Aside0.mk (Kd.dD (ok' := (fun k_ => w.heap.size + 3 ≤ k_)) hV (fun k hk => by omega))
  replace HX := Aside0.mk (⟨aJ HX.out.1 hb, aJ HX.out.2 hb⟩ : _ ∧ _)
  replace HR := Aside0.mk (aJ HR.out hb)
  replace HB := Aside0.mk (aN HB.out hb)
  clear hV hb hsz
  refine hK.out _ _ (HX.out) (fun hHeld => ?_)
  clear hK K
  refine dX (a' := ?_) ?_ ?_
  rotate_left
  · show Act.put _ (some 20) _ = _
    simp only [Act.put, List.setIfInBounds_toArray, List.set_cons_zero, List.set_cons_succ, bO, bR]
    rfl
  refine pu_ 15 21 #[I,I,I,I,I,I,I,I,I,I,I,I,I,I,I,I,O] HT_.out ?_
  refine kJ (i := 16) (N := none) #[I,I,I,I,I,I,I,I,I,I,I,I,I,I,I,I,I] rfl rfl (cO HT_.out (by kernel_rfl)) (by decide) (fun K hK => ?_)
  have z0 : w5.cell? ⟨w.heap.size + 1, 0, none⟩ = some (.string ⟨#[]⟩) := (ah HR.out 0).trans rfl
  have z1 : w5.cell? ⟨w.heap.size + 1, 1, none⟩ = some (.string ⟨#[]⟩) := (ah HR.out 1).trans rfl
  have z2 : w5.cell? ⟨w.heap.size + 1, 2, none⟩ = some (.string ⟨#[]⟩) := (ah HR.out 2).trans rfl
  have z3 : w5.cell? ⟨w.heap.size + 1, 3, none⟩ = some (.int .u8 0) := (ah HR.out 3).trans rfl
  have z4 : w5.cell? ⟨w.heap.size + 1, 4, none⟩ = some (.int .u16 0) := (ah HR.out 4).trans rfl
  have z5 : w5.cell? ⟨w.heap.size + 1, 5, none⟩ = some (.slice none 0 0) := (ah HR.out 5).trans rfl
  have BL := av HR.out 0
  have BN := av HR.out 1
  have Cn := av HR.out 2
  have Co := av HR.out 3
  have Cq := av HR.out 4
  have Cr := av HR.out 5
  refine jZ (w1 := ?_) (by rfl) rfl ?_ ?_
  rotate_left
  · go_simp
    rfl
  clear z0 BL z1 BN z2 Cn z3 Co z4 Cq z5 Cr
  refine hK.out _ _ ?_
  clear hK K
  refine iZ (gD HT_.out (by kernel_rfl)) ?_
  go_wp2
  refine bodyPost_ret (results_cell_row rfl _ _ (w.heap.size + 1) 71 #[.string x.f0, .string x.f1.f0, .string x.f1.f1, .int .u8 (x.f1.f2 % 256), .int .u16 (IntKind.u16.wrap x.f1.f3), .slice Av nv cv] (0, 0) _ rfl (by refine aQ (cs := #[.string x.f0, .string x.f1.f0, .string x.f1.f1, .int .u8 (x.f1.f2 % 256), .int .u16 (IntKind.u16.wrap x.f1.f3), .slice none 0 0]) ?_ 5 _ rfl; refine aQ (cs := #[.string x.f0, .string x.f1.f0, .string x.f1.f1, .int .u8 (x.f1.f2 % 256), .int .u16 0, .slice none 0 0]) ?_ 4 _ rfl; refine aQ (cs := #[.string x.f0, .string x.f1.f0, .string x.f1.f1, .int .u8 0, .int .u16 0, .slice none 0 0]) ?_ 3 _ rfl; refine aQ (cs := #[.string x.f0, .string x.f1.f0, .string ⟨#[]⟩, .int .u8 0, .int .u16 0, .slice none 0 0]) ?_ 2 _ rfl; refine aQ (cs := #[.string x.f0, .string ⟨#[]⟩, .string ⟨#[]⟩, .int .u8 0, .int .u16 0, .slice none 0 0]) ?_ 1 _ rfl; refine aQ (cs := #[.string ⟨#[]⟩, .string ⟨#[]⟩, .string ⟨#[]⟩, .int .u8 0, .int .u16 0, .slice none 0 0]) ?_ 0 _ rfl; exact HR.out) Tryz.underlying71 rfl (by kernel_rfl)) rfl ?_
  refine ⟨_, _, _, rfl, Kd.iT (base' := w.heap.size) (Kd.dD (ok := (fun k_ => w.heap.size + 3 ≤ k_)) ?_ (fun k hk => by omega)) (Nat.le_refl _), ?_⟩
  · iterate 6 (refine Kd.cK ?_ (fun k hk => by simp; omega) _)
    exact HV.out
  · iterate 6 (refine eu ?_ (by omega))
    exact HB.out
set_option maxHeartbeats 4000000 in
set_option maxRecDepth 100000 in
theorem yI.calls (A0 : Option Addr) (c0 : Nat) (l : List S79) (w : World) (hr : Kd.C k79 w A0 l.length l) (hz : l.length * 80 ≤ 140737488355328) (hc : ∀ x ∈ l, x.f1.f5.length * 32 ≤ 140737488355328) :
    Calls Tryz.prog 38 #[.slice A0 l.length c0, .func (.func 39) #[] #[]] w fun e w' => ∃ v, e = .returned v ∧ ru k71 71 w w' v (l.map iF) ∧ Below w.heap.size w w' := by
  have hui := Tryz.underlying79
  have huo := Tryz.underlying71
  have HR := Aside0.mk hr
  have HZ := Aside0.mk hz
  have HCO := Aside0.mk hc
  clear hc
  clear hr hz
  go_enter Tryz.func38, Tryz.ntmps38
  go_wp2
  go_loopg [5, 10] l.length (fun kq v5 v10 w' => ∃ (i : Nat) (u : Value), u = v5 ∧ v10 = .int .i64 (i : Int) ∧ Aside0 (i + kq = l.length) ∧ Aside0 (Own k71 71 w w' u ((l.take i).map iF)) ∧ Aside0 (Below w.heap.size w w'))
  case atStart => exact ⟨0, _, rfl, rfl, ⟨by omega⟩, ⟨Kd.jw _ _ _ _ _⟩, ⟨Below.refl _ _⟩⟩
  case round =>
    obtain ⟨i, u, hu, rfl, hi, HN, HB⟩ := hrel
    subst hu
    cases gk with
    | zero =>
      obtain rfl : i = l.length := by have := hi.out; omega
      have hend : decide (((l.length : Nat) : Int) < (l.length : Int)) = false := decide_eq_false (by omega)
      have HN' := HN.out
      rw [List.take_length] at HN'
      have HNZ := Aside0.mk HN'
      clear HN' HN hi
      go_wp2
      go_ret
      exact ⟨_, rfl, Kd.N_V HNZ.out, HB.out⟩
    | succ k1 =>
      have hlt : i < l.length := by have := hi.out; omega
      have c1 : decide ((i : Int) < (l.length : Int)) = true := decide_eq_true (by omega)
      have p1 : 0 ≤ (i : Int) := by omega
      have q1 : (i : Int) < (l.length : Int) := by omega
      obtain ⟨ad, A6, c6, e, hx0, hx1, hx2, hx3, hx4, hx5, hx6, Bz, Bw⟩ := kT HR.out (i : Int) p1 q1
      cases e
      have htk : (l.take (i + 1)).map iF = (l.take i).map iF ++ [iF (aG l (i : Int))] := by
        rw [List.take_add_one, List.map_append, List.getElem?_eq_getElem hlt]
        simp [aG, List.getElem?_eq_getElem hlt]
      have hmem : aG l (i : Int) ∈ l := by
        have e : aG l (i : Int) = l[i] := by simp [aG, List.getElem?_eq_getElem hlt]
        rw [e]; exact List.getElem_mem hlt
      replace hx0 := (HB.out.cell (World.block_lt_of_cell? w _ hx0)).trans hx0
      replace hx1 := (HB.out.cell (World.block_lt_of_cell? w _ hx1)).trans hx1
      replace hx2 := (HB.out.cell (World.block_lt_of_cell? w _ hx2)).trans hx2
      replace hx3 := (HB.out.cell (World.block_lt_of_cell? w _ hx3)).trans hx3
      replace hx4 := (HB.out.cell (World.block_lt_of_cell? w _ hx4)).trans hx4
      replace hx5 := (HB.out.cell (World.block_lt_of_cell? w _ hx5)).trans hx5
      replace hx6 := (HB.out.cell (World.block_lt_of_cell? w _ hx6)).trans hx6
      simp only [Int.toNat_natCast] at hx0 hx1 hx2 hx3 hx4 hx5 hx6
      generalize aG l (i : Int) = x at hx0 hx1 hx2 hx3 hx4 hx5 hx6 Bz Bw htk hmem
      replace p1 := eq_true p1
      replace q1 := eq_true q1
      have q3 : (i < l.length) = True := eq_true hlt
      have HTK := Aside0.mk htk
      have HMEM := Aside0.mk hmem
      have BK := Aside0.mk Bw
      clear Bz Bw
      have HAW := Aside0.mk (kY HN.out HB.out.size)
      have hwv : Value.int .i64 (wrap64 ((i : Int) + 1)) = Value.int .i64 ((i + 1 : Nat) : Int) := by have := Kd.jX HR.out; rw [bW (by omega) (by omega)]; rfl
      have HWV := Aside0.mk hwv
      have hnx : Aside0 (i + 1 + k1 = l.length) := ⟨by have := hi.out; omega⟩
      clear htk hmem hwv hi
      go_wp2_with (first
        | (go_at_call 39; refine (pE.calls x A6 c6 _ (Kd.bJ BK.out (HB.out.alloc HB.out.size _)) (HCO.out x HMEM.out)).mono ?_; rintro e w1 ⟨Av, nv, cv, rfl, hV, hb⟩; have hB1 := aN (HB.out.alloc HB.out.size (.cells #[.string x.f0, .string x.f1.f0, .string x.f1.f1, .int .i64 x.f1.f2, .int .i64 x.f1.f3, .bool x.f1.f4, .slice A6 x.f1.f5.length c6] 79)) hb; have HB1 := Aside0.mk hB1; have BG := Aside0.mk (Kd.jR (Kd.mG HN.out (.cells #[.string x.f0, .string x.f1.f0, .string x.f1.f1, .int .i64 x.f1.f2, .int .i64 x.f1.f3, .bool x.f1.f4, .slice A6 x.f1.f5.length c6] 79)) hb); have hbs := hb.size; have BH := Aside0.mk (show wr.heap.size ≤ w1.heap.size by simp at hbs; omega); have HV := Aside0.mk (Kd.dD (ok' := fun k_ => wr.heap.size ≤ k_) hV (fun k hk => by simp at hk; omega)); clear hV; clear hb hB1 hbs)
        | ((with_reducible refine bN (N := 18) rfl ?_); refine Kd.lX k71 (w0 := w) w.heap.size 71 rfl rfl (xs := [iF x]) (inner := [.string x.f0, .string x.f1.f0, .string x.f1.f1, .int .u8 (x.f1.f2 % 256), .int .u16 (IntKind.u16.wrap x.f1.f3), .slice Av nv cv]) (ok := fun k_ => wr.heap.size ≤ k_) (okp := fun k_ => wr.heap.size ≤ k_) (by first | (go_simp; done) | (go_simp; rfl)) (dQ.c6 (yh HV.out) (dQ.none _ _)) (fun k hk => hk) BH.out HB1.out HB1.out.size (by simp) ?_; intro v2 w2 hn hb hg hat; have BI := Aside0.mk (Kd.lI BG.out hg (fun k _ => fun e => by cases e)); obtain ⟨Az, cz, ez⟩ := Kd.iR hn; subst ez; have HL := Aside0.mk hn; have HB2 := Aside0.mk hb; clear hn hb hg hat)
        | (at_builtin; refine Kd.gq k71 (w0 := w) w.heap.size rfl (.tmp 14) (.tmp 18) 27 71 _ 80 rfl Tryz.underlying27 tN rfl (by decide) (by omega) u ((l.take i).map iF) [iF x] Az [iF x].length cz (fun k_ => w.heap.size ≤ k_) (fun k_ => wr.heap.size ≤ k_) rfl rfl BI.out (Kd.N_F HL.out) HAW.out (fun k hk => Nat.le_trans HB2.out.size hk) HB2.out HB2.out.size (by have := HZ.out; have := hnx.out; simp; omega) ?_; intro v3 w3 hn hb hg hat; have BJ := Aside0.mk hn; have HB3 := Aside0.mk hb; clear hn hb hg hat))
      go_roundg k1
      case measure => exact Nat.lt_succ_self k1
      case rel => exact ⟨i + 1, _, rfl, by first | exact HWV.out | rfl, hnx, ⟨HTK.out ▸ BJ.out⟩, HB3⟩
def pF (k : Nat) (x y : S79) : Option Bool := if x.f0.toList = y.f0.toList then fE.f k x.f1.f0 x.f1.f1 x.f1.f2 x.f1.f3 x.f1.f4 x.f1.f5 y.f1.f0 y.f1.f1 y.f1.f2 y.f1.f3 y.f1.f4 y.f1.f5 else some false
theorem pF.mono (x y : S79) (k : Nat) : LeO (pF k x y) (pF (k + 1) x y) := LeO.ite (fE.mono _ _ _ _ _ _ _ _ _ _ _ _ k) (LeO.refl _)
set_option maxHeartbeats 4000000 in
set_option maxRecDepth 100000 in
theorem pF.calls (k : Nat) (x y : S79) (A6 : Option Addr) (c6 : Nat) (B6 : Option Addr) (d6 : Nat) (r : Bool) (w : World) (hx : Kd.C k84 w A6 x.f1.f5.length x.f1.f5) (lx : x.f1.f5.length ≤ c6) (hy : Kd.C k84 w B6 y.f1.f5.length y.f1.f5) (ly : y.f1.f5.length ≤ d6) (h : pF k x y = some r) :
    Calls Tryz.prog 56 #[.agg #[.string x.f0, .string x.f1.f0, .string x.f1.f1, .int .i64 x.f1.f2, .int .i64 x.f1.f3, .bool x.f1.f4, .slice A6 x.f1.f5.length c6], .agg #[.string y.f0, .string y.f1.f0, .string y.f1.f1, .int .i64 y.f1.f2, .int .i64 y.f1.f3, .bool y.f1.f4, .slice B6 y.f1.f5.length d6]] w fun e w' => e = .returned (.bool r) ∧ Below w.heap.size w w' := by
  have Ct := Tryz.underlying79
  have Cu := Tryz.underlying77
  have HB := Aside0.mk (((Below.refl _ w).alloc (Nat.le_refl _) (.cells #[.string x.f0, .string x.f1.f0, .string x.f1.f1, .int .i64 x.f1.f2, .int .i64 x.f1.f3, .bool x.f1.f4, .slice A6 x.f1.f5.length c6] 79)).alloc (by simp) (.cells #[.string y.f0, .string y.f1.f0, .string y.f1.f1, .int .i64 y.f1.f2, .int .i64 y.f1.f3, .bool y.f1.f4, .slice B6 y.f1.f5.length d6] 79))
  have H5 := Aside0.mk hx
  have G5 := Aside0.mk hy
  have L5 := Aside0.mk lx
  have M5 := Aside0.mk ly
  clear hx hy lx ly
  unfold pF at h
  go_enter Tryz.func56, Tryz.ntmps56
  by_cases e0 : x.f0.toList = y.f0.toList
  case neg =>
    rw [if_neg e0] at h
    obtain rfl := Option.some.inj h
    have f0 : (x.f0.toList == y.f0.toList) = false := beq_eq_false_iff_ne.2 e0
    clear e0
    go_wp2; go_ret; exact ⟨rfl, HB.out⟩
  rw [if_pos e0] at h
  have f0 : (x.f0.toList == y.f0.toList) = true := beq_iff_eq.2 e0
  clear e0
  have HH := Aside0.mk h
  clear h
  go_wp2_with (first | (go_at_call 57; refine (fE.calls k x.f1.f0 x.f1.f1 x.f1.f2 x.f1.f3 x.f1.f4 A6 c6 x.f1.f5 y.f1.f0 y.f1.f1 y.f1.f2 y.f1.f3 y.f1.f4 B6 d6 y.f1.f5 r _ (Kd.bJ H5.out HB.out) L5.out (Kd.bJ G5.out HB.out) M5.out HH.out).mono ?_; rintro e w1 ⟨rfl, hb⟩; have HB1 := Aside0.mk (aN HB.out hb); clear hb))
  go_ret
  exact ⟨rfl, HB1.out⟩
def pG (k : Nat) : List S79 → List S79 → Option Bool
  | p :: ps, q :: qs => (pF k p q).bind fun b => if b = true then pG k ps qs else some false
  | _, _ => some true
theorem pY (k : Nat) : ∀ l m, LeO (pG k l m) (pG (k + 1) l m)
  | [], [] => LeO.refl _
  | [], _ :: _ => LeO.refl _
  | _ :: _, [] => LeO.refl _
  | p :: ps, q :: qs => LeO.bind (pF.mono p q k) fun b => LeO.ite (pY k ps qs) (LeO.refl _)
def uI (k : Nat) (l m : List S79) : Option Bool := if l.length = m.length then pG k l m else some false
def dV.f (k : Nat) (a0 : Int) (l0 : List S79) (a1 : Int) (l1 : List S79) : Option Bool := if a0 = a1 then uI k l0 l1 else some false
theorem dV.mono (a0 : Int) (l0 : List S79) (a1 : Int) (l1 : List S79) (k : Nat) : LeO (dV.f k a0 l0 a1 l1) (dV.f (k + 1) a0 l0 a1 l1) := LeO.ite (LeO.ite (pY k _ _) (LeO.refl _)) (LeO.refl _)
set_option maxHeartbeats 4000000 in
set_option maxRecDepth 100000 in
theorem uI.calls (k : Nat) (A0 : Option Addr) (c0 : Nat) (l0 : List S79) (A1 : Option Addr) (c1 : Nat) (l1 : List S79) (r : Bool) (w : World) (hr0 : Kd.C k79 w A0 l0.length l0) (hr1 : Kd.C k79 w A1 l1.length l1) (hR : uI k l0 l1 = some r) :
    Calls Tryz.prog 55 #[.slice A0 l0.length c0, .slice A1 l1.length c1, .func (.func 56) #[] #[]] w fun e w' => e = .returned (.bool r) ∧ Below w.heap.size w w' := by
  unfold uI at hR
  go_enter Tryz.func55, Tryz.ntmps55
  by_cases hlen : l0.length = l1.length
  · rw [if_pos hlen] at hR
    have hne : ((l0.length : Int) != (l1.length : Int)) = false := by rw [hlen]; simp
    have HL := Aside0.mk hlen
    have Cb := Aside0.mk hr0
    have HR1 := Aside0.mk hr1
    have HR := Aside0.mk hR
    clear hlen hr0 hr1 hR
    go_wp2
    go_loopg [17] l0.length (fun kq v17 w' => ∃ (i : Nat), v17 = .int .i64 (i : Int) ∧ Aside0 (i + kq = l0.length) ∧ Aside0 (pG k (l0.drop i) (l1.drop i) = some r) ∧ Aside0 (Below w.heap.size w w'))
    case atStart => exact ⟨0, rfl, ⟨by omega⟩, HR, ⟨Below.refl _ w⟩⟩
    case round =>
      clear HR
      obtain ⟨i, rfl, hi, hE, B⟩ := hrel
      cases gk with
      | zero =>
        have hend : decide ((i : Int) < (l0.length : Int)) = false := decide_eq_false (by have := hi.out; omega)
        have Cc : decide (i < l0.length) = false := decide_eq_false (by have := hi.out; omega)
        have Ce : (i < l0.length) = False := eq_false (by have := hi.out; omega)
        have hE' := hE.out
        rw [List.drop_eq_nil_of_le (by have := hi.out; omega), List.drop_eq_nil_of_le (by have := hi.out; have := HL.out; omega)] at hE'
        have hE2 : (some true : Option Bool) = some r := hE'
        obtain rfl := Option.some.inj hE2
        go_wp2
        go_ret
        exact ⟨rfl, B.out⟩
      | succ k1 =>
        have hlt : i < l0.length := by have := hi.out; omega
        have c1 : decide ((i : Int) < (l0.length : Int)) = true := decide_eq_true (by omega)
        have p1 : 0 ≤ (i : Int) := by omega
        have q1 : (i : Int) < (l0.length : Int) := by omega
        have q2 : (i : Int) < (l1.length : Int) := by have := HL.out; omega
        obtain ⟨ad, A6, c6, e, hx0, hx1, hx2, hx3, hx4, hx5, hx6, Bz, Bw⟩ := kT Cb.out (i : Int) p1 q1
        cases e
        obtain ⟨bd, B6, d6, e, hy0, hy1, hy2, hy3, hy4, BD, BF, BO, BP⟩ := kT HR1.out (i : Int) p1 q2
        cases e
        replace hx0 := (B.out.cell (World.block_lt_of_cell? w _ hx0)).trans hx0
        replace hx1 := (B.out.cell (World.block_lt_of_cell? w _ hx1)).trans hx1
        replace hx2 := (B.out.cell (World.block_lt_of_cell? w _ hx2)).trans hx2
        replace hx3 := (B.out.cell (World.block_lt_of_cell? w _ hx3)).trans hx3
        replace hx4 := (B.out.cell (World.block_lt_of_cell? w _ hx4)).trans hx4
        replace hx5 := (B.out.cell (World.block_lt_of_cell? w _ hx5)).trans hx5
        replace hx6 := (B.out.cell (World.block_lt_of_cell? w _ hx6)).trans hx6
        replace hy0 := (B.out.cell (World.block_lt_of_cell? w _ hy0)).trans hy0
        replace hy1 := (B.out.cell (World.block_lt_of_cell? w _ hy1)).trans hy1
        replace hy2 := (B.out.cell (World.block_lt_of_cell? w _ hy2)).trans hy2
        replace hy3 := (B.out.cell (World.block_lt_of_cell? w _ hy3)).trans hy3
        replace hy4 := (B.out.cell (World.block_lt_of_cell? w _ hy4)).trans hy4
        replace BD := (B.out.cell (World.block_lt_of_cell? w _ BD)).trans BD
        replace BF := (B.out.cell (World.block_lt_of_cell? w _ BF)).trans BF
        simp only [Int.toNat_natCast] at hx0 hx1 hx2 hx3 hx4 hx5 hx6 hy0 hy1 hy2 hy3 hy4 BD BF
        have hE1 := hE.out
        have hlt1 : i < l1.length := by rw [← HL.out]; exact hlt
        rw [List.drop_eq_getElem_cons hlt, List.drop_eq_getElem_cons hlt1, show l0[i] = aG l0 (i : Int) by simp [aG, List.getElem?_eq_getElem hlt], show l1[i] = aG l1 (i : Int) by simp [aG, List.getElem?_eq_getElem hlt1], pG] at hE1
        generalize aG l0 (i : Int) = p at hx0 hx1 hx2 hx3 hx4 hx5 hx6 Bz Bw hE1
        generalize aG l1 (i : Int) = q at hy0 hy1 hy2 hy3 hy4 BD BF BO BP hE1
        replace p1 := eq_true p1
        replace q1 := eq_true q1
        replace q2 := eq_true q2
        have q3 : (i < l0.length) = True := eq_true hlt
        have q4 : (i < l1.length) = True := eq_true hlt1
        obtain ⟨b, hb, hE1⟩ := Option.bind_eq_some_iff.1 hE1
        have HK := Aside0.mk hb
        have HP := Aside0.mk (⟨Bz, Bw⟩ : _ ∧ _)
        have HQ := Aside0.mk (⟨BO, BP⟩ : _ ∧ _)
        have HE := Aside0.mk hE1
        clear hb hE1 hE Bz Bw BO BP
        have hwv : Value.int .i64 (wrap64 ((i : Int) + 1)) = Value.int .i64 ((i + 1 : Nat) : Int) := by have := Kd.jX Cb.out; rw [bW (by omega) (by omega)]; rfl
        have hnx : Aside0 (i + 1 + k1 = l0.length) := ⟨by have := hi.out; omega⟩
        have Ba := (Below.refl wr.heap.size wr).alloc (Nat.le_refl _) (.cells #[.string p.f0, .string p.f1.f0, .string p.f1.f1, .int .i64 p.f1.f2, .int .i64 p.f1.f3, .bool p.f1.f4, .slice A6 p.f1.f5.length c6] 79)
        have hz0 := (Ba.cell (World.block_lt_of_cell? wr _ hy0)).trans hy0
        have hz1 := (Ba.cell (World.block_lt_of_cell? wr _ hy1)).trans hy1
        have hz2 := (Ba.cell (World.block_lt_of_cell? wr _ hy2)).trans hy2
        have hz3 := (Ba.cell (World.block_lt_of_cell? wr _ hy3)).trans hy3
        have CF := (Ba.cell (World.block_lt_of_cell? wr _ hy4)).trans hy4
        have CG := (Ba.cell (World.block_lt_of_cell? wr _ BD)).trans BD
        have CJ := (Ba.cell (World.block_lt_of_cell? wr _ BF)).trans BF
        clear Ba
        have hcl := fun (wz : World) (a6 : Kd.C k84 wz A6 p.f1.f5.length p.f1.f5) (b6 : Kd.C k84 wz B6 q.f1.f5.length q.f1.f5) => pF.calls k p q A6 c6 B6 d6 b wz a6 HP.out.1 b6 HQ.out.1 HK.out
        cases b with
        | false =>
          have hE2 : (some false : Option Bool) = some r := HE.out
          obtain rfl := Option.some.inj hE2
          clear hE2
          go_wp2_with (first | (go_at_call 56; refine (hcl _ (Kd.bH (Kd.bH (Kd.bJ HP.out.2 B.out) _) _) (Kd.bH (Kd.bH (Kd.bJ HQ.out.2 B.out) _) _)).mono ?_; rintro e w4 ⟨rfl, hb4⟩))
          go_ret
          exact ⟨rfl, ((B.out.alloc B.out.size _).alloc (by have := B.out.size; simp; omega) _).trans (hb4.mono (by have := B.out.size; simp; omega))⟩
        | true =>
          have hE2 : pG k (l0.drop (i + 1)) (l1.drop (i + 1)) = some r := HE.out
          have Cv := Aside0.mk hE2
          clear hE2 HE
          go_wp2_with (first | (go_at_call 56; refine (hcl _ (Kd.bH (Kd.bH (Kd.bJ HP.out.2 B.out) _) _) (Kd.bH (Kd.bH (Kd.bJ HQ.out.2 B.out) _) _)).mono ?_; rintro e w4 ⟨rfl, hb4⟩))
          go_roundg k1
          case measure => exact Nat.lt_succ_self k1
          case rel => exact ⟨i + 1, by first | exact hwv | rfl, hnx, Cv, ⟨((B.out.alloc B.out.size _).alloc (by have := B.out.size; simp; omega) _).trans (hb4.mono (by have := B.out.size; simp; omega))⟩⟩
  · rw [if_neg hlen] at hR
    obtain rfl := Option.some.inj hR
    have hne : ((l0.length : Int) != (l1.length : Int)) = true := by simp; omega
    go_wp2
    go_ret
    exact ⟨rfl, Below.refl _ w⟩
set_option maxHeartbeats 4000000 in
set_option maxRecDepth 100000 in
theorem dV.calls (k : Nat) (a0 : Int) (A0 : Option Addr) (c0 : Nat) (l0 : List S79) (a1 : Int) (A1 : Option Addr) (c1 : Nat) (l1 : List S79) (r : Bool) (w : World) (h0 : Kd.C k79 w A0 l0.length l0) (h1 : Kd.C k79 w A1 l1.length l1) (h : dV.f k a0 l0 a1 l1 = some r) :
    Calls Tryz.prog 42 #[.agg #[.int .u64 a0, .slice A0 l0.length c0], .agg #[.int .u64 a1, .slice A1 l1.length c1]] w fun e w' => e = .returned (.bool r) ∧ Below w.heap.size w w' := by
  have Cw := Tryz.underlying51
  have HB := Aside0.mk (((Below.refl _ w).alloc (Nat.le_refl _) (.cells #[.int .u64 a0, .slice A0 l0.length c0] 51)).alloc (by simp) (.cells #[.int .u64 a1, .slice A1 l1.length c1] 51))
  have H5 := Aside0.mk h0
  have G5 := Aside0.mk h1
  clear h0 h1
  unfold dV.f at h
  go_enter Tryz.func42, Tryz.ntmps42
  by_cases e0 : a0 = a1
  case neg =>
    rw [if_neg e0] at h
    obtain rfl := Option.some.inj h
    have f0 : (a0 == a1) = false := beq_eq_false_iff_ne.2 e0
    clear e0
    go_wp2; go_ret; exact ⟨rfl, HB.out⟩
  rw [if_pos e0] at h
  have f0 : (a0 == a1) = true := beq_iff_eq.2 e0
  clear e0
  have HH := Aside0.mk h
  clear h
  go_wp2_with (first | (go_at_call 55; refine (uI.calls k A0 c0 l0 A1 c1 l1 r _ (Kd.bJ H5.out HB.out) (Kd.bJ G5.out HB.out) HH.out).mono ?_; rintro e w1 ⟨rfl, hb⟩; have HB1 := Aside0.mk (aN HB.out hb); clear hb))
  go_ret
  exact ⟨rfl, HB1.out⟩
structure DC (w W : World) (X Z : Obj) (V : Option Value) (G : Option Nat) (xs : List S71) : Prop where
  x : W.heap[w.heap.size]? = some X
  r : W.heap[w.heap.size + 1]? = some Z
  b : Below w.heap.size w W
  g : ∀ g, G = some g → w.heap.size + 2 ≤ g ∧ W.heap[g]? = some Z
  v : ∀ v, V = some v → Kd.V k71 71 W w.heap.size (fun k => w.heap.size + 2 ≤ k ∧ G ≠ some k) v xs
theorem DC.lt {w W : World} {X Z : Obj} {V : Option Value} {G : Option Nat} {xs : List S71} (h : DC w W X Z V G xs) : w.heap.size + 2 ≤ W.heap.size := by have := aW h.r; omega
theorem DC.call {w W W1 : World} {X Z : Obj} {G : Option Nat} {xs : List S71} {v : Value} (h : DC w W X Z none G xs) (hV : Kd.V k71 71 W1 W.heap.size (fun k => W.heap.size ≤ k) v xs) (hb : Below W.heap.size W W1) : DC w W1 X Z (some v) G xs :=
  ⟨aJ h.x hb, aJ h.r hb, aN h.b hb, fun g e => ⟨(h.g g e).1, aJ (h.g g e).2 hb⟩, fun u e => by
    cases e
    refine Kd.iT (base' := w.heap.size) (Kd.dD hV (fun k hk => ⟨Nat.le_trans h.lt hk, fun e => ?_⟩)) h.b.size
    have := aW (h.g k e).2
    omega⟩
theorem DC.box {w W W1 : World} {X Z : Obj} {V : Option Value} {xs : List S71} {g : Nat} (h : DC w W X Z V none xs) (hg : g = W.heap.size) (hbox : W1.heap[g]? = some Z) (hb : Below W.heap.size W W1) : DC w W1 X Z V (some g) xs :=
  ⟨aJ h.x hb, aJ h.r hb, aN h.b hb, fun k e => by cases e; exact ⟨hg ▸ h.lt, hbox⟩, fun u e => Kd.dz (Kd.dD (Kd.xB (h.v u e)) (fun k hk => ⟨hk.1.1, fun e => by cases e; have := hk.2; omega⟩)) hb⟩
theorem DC.drew {w W : World} {X Z : Obj} {V : Option Value} {G : Option Nat} {xs : List S71} (h : DC w W X Z V G xs) : DC w W.drew X Z V G xs := ⟨ay h.x, ay h.r, bL h.b, fun g e => ⟨(h.g g e).1, ay (h.g g e).2⟩, fun u e => Kd.gH (h.v u e)⟩
def ni (l : List S79) : Prop := l.length * 96 ≤ 140737488355328 ∧ ∀ x ∈ l, x.f1.f5.length * 120 ≤ 140737488355328
instance (l : List S79) : Decidable (ni l) := by unfold ni; infer_instance
def dW.f (k : Nat) (a0 : Int) (l : List S79) : Option (Int × List S71 × Bool) := if ni l then (dV.f k a0 ((l.map iF).map iD) a0 l).bind fun b => if b = true then some (a0, l.map iF, true) else some (0, [], false) else none
theorem dW.mono (a0 : Int) (l : List S79) (k : Nat) : LeO (dW.f k a0 l) (dW.f (k + 1) a0 l) := LeO.ite (LeO.bind (dV.mono _ _ _ _ k) fun b => LeO.refl _) (LeO.refl _)
theorem sw (a0 : Int) (l : List S79) (h : ni l) : dP.f a0 (l.map iF) = some (a0, (l.map iF).map iD) := by
  have hk : mP (l.map iF) := ⟨by rw [List.length_map]; exact h.1, fun x hx => by
    obtain ⟨y, hy, rfl⟩ := List.mem_map.1 hx
    have := h.2 y hy
    show (y.f1.f5.map jM).length * 120 ≤ _
    rw [List.length_map]; exact this⟩
  rw [dP.f, if_pos hk]
def iG.T1 : Bool × List (List Nat × List Nat) := (true, [([], []), ([0], [0]), ([], []), ([2], [2]), ([3], [3]), ([1, 4], [1, 4]), ([], []), ([6, 5, 4, 0, 1, 2, 3, 4, 5, 6], [5, 6])])
def iG.B1 : List Nat := [0, 1, 0, 4, 12, 31, 0, 127]
theorem iG.qE : gT .any (opsOf Tryz.f20 1) = iG.T1 := by kernel_rfl
theorem iG.mO : fO iG.T1.2 iG.B1 = true := by kernel_rfl
def iG.T2 : Bool × List (List Nat × List Nat) := (true, [([], []), ([0], [0]), ([], []), ([1, 2, 1], [1, 2]), ([3], [3])])
def iG.B2 : List Nat := [0, 1, 0, 7, 15]
theorem iG.zQ : gT .any (opsOf Tryz.f20 2) = iG.T2 := by kernel_rfl
theorem iG.wO : fO iG.T2.2 iG.B2 = true := by kernel_rfl
set_option maxHeartbeats 4000000 in
set_option maxRecDepth 100000 in
theorem dW.calls (k : Nat) (a0 : Int) (A1 : Option Addr) (c1 : Nat) (l : List S79) (r1 : Int) (r2 : List S71) (r3 : Bool) (w : World) (hr : Kd.C k79 w A1 l.length l) (hc : l.length ≤ c1) (h : dW.f k a0 l = some (r1, r2, r3)) :
    Calls Tryz.prog 20 #[.agg #[.int .u64 a0, .slice A1 l.length c1]] w fun e w' => ∃ Cg : Value, e = .returned (.tuple #[.agg #[.int .u64 r1, Cg], .bool r3]) ∧ Kd.V k71 71 w' w.heap.size (fun k_ => w.heap.size ≤ k_) Cg r2 ∧ Below w.heap.size w w' := by
  have hok : ni l := Decidable.by_contra fun hn => by rw [dW.f, if_neg hn] at h; cases h
  rw [dW.f, if_pos hok] at h
  obtain ⟨b, hs, h⟩ := Option.bind_eq_some_iff.1 h
  have hth := sw a0 l hok
  obtain ⟨m, hm⟩ : ∃ m, m = l.map iF := ⟨_, rfl⟩
  rw [← hm] at hth hs h
  obtain ⟨m3, Ch⟩ : ∃ m3, m3 = m.map iD := ⟨_, rfl⟩
  rw [← Ch] at hth hs
  have HTH := Aside0.mk hth
  have HM := Aside0.mk hm
  have HOK := Aside0.mk (show l.length * 80 ≤ 140737488355328 ∧ ∀ x ∈ l, x.f1.f5.length * 32 ≤ 140737488355328 from ⟨by have := hok.1; omega, fun x hx => by have := hok.2 x hx; omega⟩)
  have HS := Aside0.mk hs
  have HH := Aside0.mk h
  have HR1 := Aside0.mk hr
  clear hr hc h hs hok hth hm Ch
  have hux := Tryz.underlying51
  have huo := Tryz.underlying29
  have HD : Aside0 (DC w ((w.alloc (.cells #[.int .u64 a0, .slice A1 l.length c1] 51)).alloc (.cells #[.int .u64 0, .slice none 0 0] 29)) (.cells #[.int .u64 a0, .slice A1 l.length c1] 51 (0, 0)) (.cells #[.int .u64 0, .slice none 0 0] 29 (0, 0)) none none m) := ⟨⟨ak (heap_alloc_new w _) _, kZ w _ _, ((Below.refl _ w).alloc (Nat.le_refl _) _).alloc (by simp) _, (fun g e => by cases e), (fun v e => by cases e)⟩⟩
  go_enter Tryz.func20, Tryz.ntmps20
  go_upto_region 1 with (fail)
  (try simp only [Act.put, List.setIfInBounds_toArray, List.set_cons_zero, List.set_cons_succ])
  generalize ((w.alloc (.cells #[.int .u64 a0, .slice A1 l.length c1] 51)).alloc (.cells #[.int .u64 0, .slice none 0 0] 29)) = wA at HD ⊢
  refine gZ (n := 8) (S := fun w' => w'.heap[w.heap.size]? = some (.cells #[.int .u64 a0, .slice A1 l.length c1] 51 (0, 0))) (ds := [7]) #[O,O,O,O,O,O,O,O] (by kernel_rfl) rfl rfl (HD.out.x) (fun hHeld => ?_)
  refine eY iG.qE iG.mO (fun HT_ HW_ => ?_)
  replace HD := Aside0.mk HD.out.drew
  refine pu_ 0 5 #[I,O,O,O,O,O,O,O] HT_.out ?_
  refine pu_ 2 7 #[I,O,I,O,O,O,O,O] HT_.out ?_
  refine gy (i := 1) (N := some 6) (v := ?_) (a' := ?_) #[I,I,I,O,O,O,O,O] rfl rfl (dR HT_.out HW_.out (by kernel_rfl)) (fun _ _ _ h => h) (Or.inl ⟨by rfl, ?_⟩) hHeld ?_ ?_
  rotate_left
  · intro w' s0
    have e0 : w'.cell? ⟨w.heap.size, 0, none⟩ = some (.int .u64 a0) := (ah s0 0).trans rfl
    have e1 : w'.cell? ⟨w.heap.size, 1, none⟩ = some (.slice A1 l.length c1) := (ah s0 1).trans rfl
    go_simp
    with_reducible rfl
  rotate_left
  · simp only [Act.put, List.setIfInBounds_toArray, List.set_cons_zero, List.set_cons_succ, bO, bR]
    rfl
  refine gy (i := 3) (N := some 8) (v := ?_) (a' := ?_) #[I,I,I,I,O,O,O,O] rfl rfl (dR HT_.out HW_.out (by kernel_rfl)) (fun _ _ _ h => h) (Or.inl ⟨by rfl, ?_⟩) hHeld ?_ ?_
  rotate_left
  · intro w' s0
    have e0 : w'.cell? ⟨w.heap.size, 0, none⟩ = some (.int .u64 a0) := (ah s0 0).trans rfl
    have e1 : w'.cell? ⟨w.heap.size, 1, none⟩ = some (.slice A1 l.length c1) := (ah s0 1).trans rfl
    go_simp
    with_reducible rfl
  rotate_left
  · simp only [Act.put, List.setIfInBounds_toArray, List.set_cons_zero, List.set_cons_succ, bO, bR]
    rfl
  refine Aa (σ := Option Addr × Nat × Nat) 1 #[I,I,I,I,I,I,I,O] (fun s => [(9, .slice s.1 m.length s.2.1), (10, .agg #[.int .u64 a0, .slice s.1 m.length s.2.1]), (4, .pointer (some ⟨s.2.2, 0, none⟩))]) (fun s w' => Aside0 (DC w w' (.cells #[.int .u64 a0, .slice A1 l.length c1] 51 (0, 0)) (.cells #[.int .u64 0, .slice none 0 0] 29 (0, 0)) (some (.slice s.1 m.length s.2.1)) (some s.2.2) m)) ?_ ?_
  rotate_left
  · intro hCont
    refine A8 (i := 4) (j := 6) (Ni := some 9) (Nj := some 4) #[I,I,I,I,I,O,O,O] #[I,I,I,I,O,O,I,O] rfl rfl rfl rfl (yU HT_.out (by kernel_rfl)) (by decide) (by decide) (fun K hK => ?_) (fun K hK => ?_)
    · skip
      refine eU Tryz.func38 (by kernel_rfl) rfl #[.slice A1 l.length c1, .func (.func 39) #[] #[]] (by rfl) rfl rfl (by (try simp only [List.map_toArray, List.map_cons, List.map_nil]); first | done | rfl) ?_
      refine (yI.calls A1 c1 l _ (Kd.bJ HR1.out HD.out.b) HOK.out.1 HOK.out.2).mono ?_
      rintro e w5 ⟨v, rfl, hV, hb⟩
      rw [← HM.out] at hV
      obtain ⟨Av, cv, ev⟩ := Kd.gI hV
      subst ev
      refine ⟨_, rfl, ?_⟩
      replace HD := Aside0.mk (HD.out.call hV hb)
      clear hV hb
      refine hK.out _ _ (HD.out.x) (fun hHeld => ?_)
      clear hK K
      refine dX (a' := ?_) ?_ ?_
      rotate_left
      · show Act.put _ (some 9) _ = _
        simp only [Act.put, List.setIfInBounds_toArray, List.set_cons_zero, List.set_cons_succ, bO, bR]
        rfl
      refine pu_ 5 10 #[I,I,I,I,I,I,O,O] HT_.out ?_
      refine fU (i := 6) (N := some 4) #[I,I,I,I,I,I,I,O] rfl rfl (cO HT_.out (by kernel_rfl)) (by decide) (fun K hK => ?_)
      refine nY ?hg (N := 4) ?hd (cs := #[.int .u64 0, .slice none 0 0]) (t := 29) ?hr ?_
      (case hd => rfl)
      (case hg => rfl)
      (case hr => first | (go_simp; done) | (go_simp; rfl))
      intro g1 hg w6 hbox hb
      replace HD := Aside0.mk (HD.out.box hg hbox hb)
      clear hg hbox hb
      refine hK.out _ _ (HD.out.x) (fun hHeld => ?_)
      clear hK K
      refine dX (a' := ?_) ?_ ?_
      rotate_left
      · show Act.put _ (some 4) _ = _
        simp only [Act.put, List.setIfInBounds_toArray, List.set_cons_zero, List.set_cons_succ, bO, bR]
        rfl
      exact dX (by first | (simp only [kQ, Act.put, List.setIfInBounds_toArray, List.set_cons_zero, List.set_cons_succ]; done) | (simp only [kQ, Act.put, List.setIfInBounds_toArray, List.set_cons_zero, List.set_cons_succ]; rfl)) (hCont (Av, cv, g1) _ HD)
    · skip
      refine nY ?hg (N := 4) ?hd (cs := #[.int .u64 0, .slice none 0 0]) (t := 29) ?hr ?_
      (case hd => rfl)
      (case hg => rfl)
      (case hr => first | (go_simp; done) | (go_simp; rfl))
      intro g1 hg w6 hbox hb
      replace HD := Aside0.mk (HD.out.box hg hbox hb)
      clear hg hbox hb
      refine hK.out _ _ (HD.out.x) (fun hHeld => ?_)
      clear hK K
      refine dX (a' := ?_) ?_ ?_
      rotate_left
      · show Act.put _ (some 4) _ = _
        simp only [Act.put, List.setIfInBounds_toArray, List.set_cons_zero, List.set_cons_succ, bO, bR]
        rfl
      refine fU (i := 4) (N := some 9) #[I,I,I,I,I,O,I,O] rfl rfl (cO HT_.out (by kernel_rfl)) (by decide) (fun K hK => ?_)
      refine eU Tryz.func38 (by kernel_rfl) rfl #[.slice A1 l.length c1, .func (.func 39) #[] #[]] (by rfl) rfl rfl (by (try simp only [List.map_toArray, List.map_cons, List.map_nil]); first | done | rfl) ?_
      refine (yI.calls A1 c1 l _ (Kd.bJ HR1.out HD.out.b) HOK.out.1 HOK.out.2).mono ?_
      rintro e w5 ⟨v, rfl, hV, hb⟩
      rw [← HM.out] at hV
      obtain ⟨Av, cv, ev⟩ := Kd.gI hV
      subst ev
      refine ⟨_, rfl, ?_⟩
      replace HD := Aside0.mk (HD.out.call hV hb)
      clear hV hb
      refine hK.out _ _ (HD.out.x) (fun hHeld => ?_)
      clear hK K
      refine dX (a' := ?_) ?_ ?_
      rotate_left
      · show Act.put _ (some 9) _ = _
        simp only [Act.put, List.setIfInBounds_toArray, List.set_cons_zero, List.set_cons_succ, bO, bR]
        rfl
      refine pu_ 5 10 #[I,I,I,I,I,I,I,O] HT_.out ?_
      exact dX (by first | (simp only [kQ, Act.put, List.setIfInBounds_toArray, List.set_cons_zero, List.set_cons_succ]; done) | (simp only [kQ, Act.put, List.setIfInBounds_toArray, List.set_cons_zero, List.set_cons_succ]; rfl)) (hCont (Av, cv, g1) _ HD)
  rintro ⟨Av, cv, g1⟩ w7 HD_
  have HD : Aside0 (DC w w7 (.cells #[.int .u64 a0, .slice A1 l.length c1] 51 (0, 0)) (.cells #[.int .u64 0, .slice none 0 0] 29 (0, 0)) (some (.slice Av m.length cv)) (some g1) m) := HD_
  clear HD_
  have hHeld := HD.out.x
  refine dX (a' := ?_) ?_ ?_
  rotate_left
  · simp only [kQ, Act.put, List.setIfInBounds_toArray, List.set_cons_zero, List.set_cons_succ]
    rfl
  refine kJ (i := 7) (N := none) #[I,I,I,I,I,I,I,I] rfl rfl (cO HT_.out (by kernel_rfl)) (by decide) (fun K hK => ?_)
  have z0 : w7.cell? ⟨g1, 0, none⟩ = some (.int .u64 0) := (ah (HD.out.g _ rfl).2 0).trans rfl
  have z1 : w7.cell? ⟨g1, 1, none⟩ = some (.slice none 0 0) := (ah (HD.out.g _ rfl).2 1).trans rfl
  have BL := av (HD.out.g _ rfl).2 0
  have BN := av (HD.out.g _ rfl).2 1
  refine jZ (w1 := ?_) (by rfl) rfl ?_ ?_
  rotate_left
  · go_simp
    rfl
  clear z0 z1 BL BN
  refine hK.out _ _ ?_
  clear hK K
  refine iZ (gD HT_.out (by kernel_rfl)) ?_
  have hg1 := (HD.out.g _ rfl).1
  have q0 := aQ (HD.out.g _ rfl).2 0 (.int .u64 a0) rfl
  have q1 := aQ q0 1 (.slice Av m.length cv) rfl
  have HG := Aside0.mk (show ((w7.setCell ⟨g1, 0, none⟩ (.int .u64 a0)).setCell ⟨g1, 1, none⟩ (.slice Av m.length cv)).heap[g1]? = some (.cells #[.int .u64 a0, .slice Av m.length cv] 29 (0, 0)) from q1)
  have HX := Aside0.mk (show ((w7.setCell ⟨g1, 0, none⟩ (.int .u64 a0)).setCell ⟨g1, 1, none⟩ (.slice Av m.length cv)).heap[w.heap.size]? = some (.cells #[.int .u64 a0, .slice A1 l.length c1] 51 (0, 0)) from aD (aD HD.out.x (by simp; omega) _) (by simp; omega) _)
  have HR := Aside0.mk (show ((w7.setCell ⟨g1, 0, none⟩ (.int .u64 a0)).setCell ⟨g1, 1, none⟩ (.slice Av m.length cv)).heap[w.heap.size + 1]? = some (.cells #[.int .u64 0, .slice none 0 0] 29 (0, 0)) from aD (aD HD.out.r (by simp; omega) _) (by simp; omega) _)
  have HB := Aside0.mk (show Below w.heap.size w ((w7.setCell ⟨g1, 0, none⟩ (.int .u64 a0)).setCell ⟨g1, 1, none⟩ (.slice Av m.length cv)) from eu (eu HD.out.b (by omega)) (by omega))
  have HV := Aside0.mk (show Kd.V k71 71 ((w7.setCell ⟨g1, 0, none⟩ (.int .u64 a0)).setCell ⟨g1, 1, none⟩ (.slice Av m.length cv)) w.heap.size (fun k => w.heap.size + 2 ≤ k ∧ k ≠ g1) (.slice Av m.length cv) m from Kd.cK (Kd.cK (Kd.dD (HD.out.v _ rfl) (fun k hk => ⟨hk.1, fun e => hk.2 (by rw [e])⟩)) (fun k hk => hk.2) _) (fun k hk => hk.2) _)
  clear q0 q1 HD
  go_upto_region 2 with (fail)
  (try simp only [Act.put, List.setIfInBounds_toArray, List.set_cons_zero, List.set_cons_succ])
  generalize ((w7.setCell ⟨g1, 0, none⟩ (.int .u64 a0)).setCell ⟨g1, 1, none⟩ (.slice Av m.length cv)) = wB at HX HG HR HB HV ⊢
  refine gZ (n := 5) (S := fun w' => w'.heap[w.heap.size]? = some (.cells #[.int .u64 a0, .slice A1 l.length c1] 51 (0, 0)) ∧ w'.heap[g1]? = some (.cells #[.int .u64 a0, .slice Av m.length cv] 29 (0, 0))) (ds := []) #[O,O,O,O,O] (by kernel_rfl) rfl rfl ⟨HX.out, HG.out⟩ (fun hHeld => ?_)
  refine eY iG.zQ iG.wO (fun HT_ HW_ => ?_)
  replace HX := Aside0.mk (ay HX.out)
  replace HR := Aside0.mk (ay HR.out)
  replace HG := Aside0.mk (ay HG.out)
  replace HB := Aside0.mk (bL HB.out)
  replace HV := Aside0.mk (Kd.gH HV.out)
  refine gy (i := 0) (N := some 11) (v := ?_) (a' := ?_) #[I,O,O,O,O] rfl rfl (dR HT_.out HW_.out (by kernel_rfl)) (fun _ _ _ h => h) (Or.inl ⟨by rfl, ?_⟩) hHeld ?_ ?_
  rotate_left
  · rintro w' ⟨s0, s1⟩
    have e0 : w'.cell? ⟨w.heap.size, 0, none⟩ = some (.int .u64 a0) := (ah s0 0).trans rfl
    have e1 : w'.cell? ⟨w.heap.size, 1, none⟩ = some (.slice A1 l.length c1) := (ah s0 1).trans rfl
    have p0 : w'.cell? ⟨g1, 0, none⟩ = some (.int .u64 a0) := (ah s1 0).trans rfl
    have p1 : w'.cell? ⟨g1, 1, none⟩ = some (.slice Av m.length cv) := (ah s1 1).trans rfl
    go_simp
    with_reducible rfl
  rotate_left
  · simp only [Act.put, List.setIfInBounds_toArray, List.set_cons_zero, List.set_cons_succ, bO, bR]
    rfl
  refine gy (i := 2) (N := some 13) (v := ?_) (a' := ?_) #[I,O,I,O,O] rfl rfl (dR HT_.out HW_.out (by kernel_rfl)) (fun _ _ _ h => h) (Or.inl ⟨by rfl, ?_⟩) hHeld ?_ ?_
  rotate_left
  · rintro w' ⟨s0, s1⟩
    have e0 : w'.cell? ⟨w.heap.size, 0, none⟩ = some (.int .u64 a0) := (ah s0 0).trans rfl
    have e1 : w'.cell? ⟨w.heap.size, 1, none⟩ = some (.slice A1 l.length c1) := (ah s0 1).trans rfl
    have p0 : w'.cell? ⟨g1, 0, none⟩ = some (.int .u64 a0) := (ah s1 0).trans rfl
    have p1 : w'.cell? ⟨g1, 1, none⟩ = some (.slice Av m.length cv) := (ah s1 1).trans rfl
    go_simp
    with_reducible rfl
  rotate_left
  · simp only [Act.put, List.setIfInBounds_toArray, List.set_cons_zero, List.set_cons_succ, bO, bR]
    rfl
  refine fU (i := 1) (N := some 12) #[I,I,I,O,O] rfl rfl (cO HT_.out (by kernel_rfl)) (by decide) (fun K hK => ?_)
  refine eU Tryz.func16 (by kernel_rfl) rfl #[.agg #[.int .u64 a0, .slice Av m.length cv]] (by rfl) rfl rfl (by (try simp only [List.map_toArray, List.map_cons, List.map_nil]); first | done | rfl) ?_
  refine (dP.calls a0 Av cv m a0 m3 _ (Kd.d9 HV.out).2.2 (Kd.d9 HV.out).2.1 HTH.out).mono ?_
  rintro e w8 ⟨v8, rfl, hV, hb⟩
  obtain ⟨Aw, cw, ew⟩ := Kd.gI hV
  subst ew
  refine ⟨_, rfl, ?_⟩
  have HW := Aside0.mk (Kd.d9 hV).2.2
  clear hV
  have hb1 := hb
  replace HX := Aside0.mk (aJ HX.out hb)
  replace HR := Aside0.mk (aJ HR.out hb)
  replace HG := Aside0.mk (aJ HG.out hb)
  replace HB := Aside0.mk (aN HB.out hb)
  replace HV := Aside0.mk (Kd.dz HV.out hb)
  clear hb hb1
  refine hK.out _ _ ⟨HX.out, HG.out⟩ (fun hHeld => ?_)
  clear hK K
  refine dX (a' := ?_) ?_ ?_
  rotate_left
  · show Act.put _ (some 12) _ = _
    simp only [Act.put, List.setIfInBounds_toArray, List.set_cons_zero, List.set_cons_succ, bO, bR]
    rfl
  refine fU (i := 3) (N := some 14) #[I,I,I,I,O] rfl rfl (cO HT_.out (by kernel_rfl)) (by decide) (fun K hK => ?_)
  refine eU Tryz.func42 (by kernel_rfl) rfl #[.agg #[.int .u64 a0, .slice Aw m3.length cw], .agg #[.int .u64 a0, .slice A1 l.length c1]] (by rfl) rfl rfl (by (try simp only [List.map_toArray, List.map_cons, List.map_nil]); first | done | rfl) ?_
  refine (dV.calls k a0 Aw cw m3 a0 A1 c1 l b _ HW.out (Kd.bJ HR1.out HB.out) HS.out).mono ?_
  rintro e w9 ⟨rfl, hb⟩
  refine ⟨_, rfl, ?_⟩
  have hb1 := hb
  replace HX := Aside0.mk (aJ HX.out hb)
  replace HR := Aside0.mk (aJ HR.out hb)
  replace HG := Aside0.mk (aJ HG.out hb)
  replace HB := Aside0.mk (aN HB.out hb)
  replace HV := Aside0.mk (Kd.dz HV.out hb)
  clear hb hb1
  refine hK.out _ _ ⟨HX.out, HG.out⟩ (fun hHeld => ?_)
  clear hK K
  refine dX (a' := ?_) ?_ ?_
  rotate_left
  · show Act.put _ (some 14) _ = _
    simp only [Act.put, List.setIfInBounds_toArray, List.set_cons_zero, List.set_cons_succ, bO, bR]
    rfl
  refine pu_ 4 15 #[I,I,I,I,I] HT_.out ?_
  refine iZ (gD HT_.out (by kernel_rfl)) ?_
  have Ci := HH.out
  clear HH
  generalize w9 = wC at HX HG HR HB HV ⊢
  cases b with
  | true =>
    obtain ⟨rfl, rfl, rfl⟩ : a0 = r1 ∧ m = r2 ∧ true = r3 := by
      have e : some (a0, m, true) = some (r1, r2, r3) := Ci
      injection e with e
      injection e with e1 e
      injection e with e2 e3
      exact ⟨e1, e2, e3⟩
    have Cx : wC.cell? ⟨w.heap.size + 1, 0, none⟩ = some (.int .u64 0) := (ah HR.out 0).trans rfl
    have Cy : wC.cell? ⟨w.heap.size + 1, 1, none⟩ = some (.slice none 0 0) := (ah HR.out 1).trans rfl
    have BQ := av HR.out 0
    have BR := av HR.out 1
    have Cz : wC.cell? ⟨g1, 0, none⟩ = some (.int .u64 a0) := (ah HG.out 0).trans rfl
    have CB : wC.cell? ⟨g1, 1, none⟩ = some (.slice Av m.length cv) := (ah HG.out 1).trans rfl
    go_wp2
    refine bodyPost_ret (iy rfl _ _ (w.heap.size + 1) 29 #[.int .u64 a0, .slice Av m.length cv] (0, 0) _ rfl (by refine aQ (cs := #[.int .u64 a0, .slice none 0 0]) ?_ 1 _ rfl; refine aQ (cs := #[.int .u64 0, .slice none 0 0]) ?_ 0 _ rfl; exact HR.out) Tryz.underlying29 rfl (by kernel_rfl)) rfl ?_
    refine ⟨_, rfl, Kd.dD (ok := (fun k => w.heap.size + 2 ≤ k ∧ k ≠ g1)) (Kd.cK (Kd.cK HV.out (fun k hk => by simp; omega) _) (fun k hk => by simp; omega) _) (fun k hk => by omega), ?_⟩
    · iterate 2 (refine eu ?_ (by omega))
      exact HB.out
  | false =>
    obtain ⟨rfl, rfl, rfl⟩ : 0 = r1 ∧ [] = r2 ∧ false = r3 := by
      have e : some ((0 : Int), ([] : List S71), false) = some (r1, r2, r3) := Ci
      injection e with e
      injection e with e1 e
      injection e with e2 e3
      exact ⟨e1, e2, e3⟩
    have Cx : wC.cell? ⟨w.heap.size + 1, 0, none⟩ = some (.int .u64 0) := (ah HR.out 0).trans rfl
    have Cy : wC.cell? ⟨w.heap.size + 1, 1, none⟩ = some (.slice none 0 0) := (ah HR.out 1).trans rfl
    have BQ := av HR.out 0
    have BR := av HR.out 1
    have Cz : wC.cell? ⟨g1, 0, none⟩ = some (.int .u64 a0) := (ah HG.out 0).trans rfl
    have CB : wC.cell? ⟨g1, 1, none⟩ = some (.slice Av m.length cv) := (ah HG.out 1).trans rfl
    go_wp2
    refine bodyPost_ret (iy rfl _ _ (w.heap.size + 1) 29 #[.int .u64 0, .slice none 0 0] (0, 0) _ rfl (by refine aQ (cs := #[.int .u64 0, .slice none 0 0]) ?_ 1 _ rfl; refine aQ (cs := #[.int .u64 0, .slice none 0 0]) ?_ 0 _ rfl; exact HR.out) Tryz.underlying29 rfl (by kernel_rfl)) rfl ?_
    refine ⟨_, rfl, Kd.kR _ _ _ _ _, ?_⟩
    · iterate 2 (refine eu ?_ (by omega))
      exact HB.out
end Go.Proofs.YtpncpefppifgdaaGreatDoor.GUt
