/- evict.take: the walk. No conditions beside those stated. -/
import Derived.Test.YthnbkhggbfnpcaaEvTake
namespace Go.Proofs.Ythnbkhggbfnpcaa.Ev
open Go.RowKit Go.Proofs.YthnbkhggbfnpcaaW.PrintWords Go.Proofs.YthnbkhggbfnpcaaW.PrintLast Go.Proofs.YthnbkhggbfnpcaaW.PrintMore Go.Proofs.Ythnbkhggbfnpcaa.GEv
set_option linter.unusedVariables false
set_option linter.unusedSimpArgs false
def take.T5 : Bool × List (List Nat × List Nat) := (true, [([], []), ([], []), ([1], [1]), ([2], [2]), ([], []), ([], []), ([4, 5], [4, 5]), ([6], [6]), ([3, 7], [3, 7]), ([0, 0, 1, 2, 3, 4, 5, 6, 7, 8], [0]), ([9, 8, 8, 0, 1, 2, 3, 4, 5, 6, 7, 8], [8, 9])])
def take.B5 : List Nat := [0, 0, 2, 6, 0, 0, 48, 112, 254, 511, 1023]
theorem take.tab5 : rtab .any (opsOf Try.f16 5) = take.T5 := by kernel_rfl
theorem take.bits5 : waitsOk take.T5.2 take.B5 = true := by kernel_rfl
theorem info55 : (Try.prog.info? 55).map (fun i => (i.zero, i.size, i.bytes)) = some (some (.agg #[.string ⟨#[]⟩, .float .f64 0, .float .f64 0, .int .i64 0]), 4, 40) := by kernel_rfl
theorem pushes (l : List S27) (j : Nat) : row (itemF l) j ++ [(⟨⟨(rd_T27 l (j : Int)).f0, (rd_T27 l (j : Int)).f1, (rd_T27 l (j : Int)).f2⟩, (j : Int)⟩ : S55)] = row (itemF l) (j + 1) := by
  rw [row_succ]; rfl
theorem run_assert (v : Value) (w : World) : (Instr.typeAssert (.iface 55 v) 20 55 false).run Try.prog w = .ok v w := by
  simp [Instr.typeAssert, underlying, Try.underlying55]
def TakePost (w0 : World) (FIN : List ByteArray) (e : Ending) (w' : World) : Prop := ∃ v, e = .returned v ∧ Kd.R Kd.string 9 w' w0.heap.size (fun _ => True) v FIN ∧ Below w0.heap.size w0 w'
set_option maxHeartbeats 16000000 in
set_option maxRecDepth 100000 in
theorem take.calls {σ : Type} (w0 w : World) (A0 : Option Addr) (c0 : Nat) (l : List S27) (fn : Nat) (lb : Array Value) (St : σ → World → Prop) (step : σ → S27 → Bool × σ) (s0 : σ) (hB : Below w0.heap.size w0 w) (hl : Kd.C k27 w0 A0 l.length l) (hc : l.length ≤ c0) (hlen : l.length ≤ 1000)
    (hm : More w.heap.size w0.heap.size fn lb St step) (hst : St s0 w) :
    Calls Try.prog 16 #[.slice A0 l.length c0, .func (.func fn) #[] lb] w (TakePost w0 (takeL step l.length (initF lessI l.length (l.length / 2) (itemF l)) s0)) := by
  have hu27 := Try.underlying27
  have hu55 := Try.underlying55
  have hu53 := Try.underlying53
  have HB := Aside0.mk hB
  have HL := Aside0.mk hl
  have HM := Aside0.mk hm
  have HST := Aside0.mk hst
  have eF := hm.enters
  clear hB hl hm hst
  go_enter Try.func16, Try.ntmps16
  go_wp2_with ((with_reducible refine gate_dst (N:=10) rfl ?_); refine Kd.R_lit k55 (w0 := w0) w0.heap.size 55 ?hg (N:=10) ?hd (xs:=([] : List S55)) (inner:=[]) (ok:=fun _ => True) (okp:=fun _ => True) ?hr ?hp (fun _ hk => hk) trivial HB.out HB.out.size (by simp) ?_; (case hd => rfl); (case hg => rfl); (case hr => first | (go_simp; done) | (go_simp; rfl)); (case hp => exact Reps.none _ _); intro v1 w1 ho hb hg1 hnew; obtain ⟨A1, c1, e1⟩ := Kd.R_slice ho; change v1 = .slice A1 0 c1 at e1; subst e1; have HO := Aside0.mk ho; have HB1 := Aside0.mk hb; have HG1 := Aside0.mk hg1; have HN1 := Aside0.mk hnew; clear ho hb hg1 hnew)
  obtain ⟨g, hg⟩ : ∃ g, g = w1.heap.size := ⟨_, rfl⟩
  obtain ⟨w2, hw2⟩ : ∃ w2, w2 = w1.alloc (.cells #[.slice A1 0 c1] 53) := ⟨_, rfl⟩
  have hstab : Stab w.heap.size (St s0) := fun W W' h hk => HM.out.stab s0 W W' h hk
  have hb12 : Below w1.heap.size w1 w2 := by rw [hw2]; exact below_alloc (Below.refl _ _) _
  have hsz1 := HG1.out.size
  have hTS : TS w0 w.heap.size (St s0) w2 g (.slice A1 0 c1) (row (itemF l) 0) (.slice none 0 0) [] := by
    have hbk : w2.heap[g]? = some (.cells #[.slice A1 0 c1] 53 (0, 0)) := by rw [hw2, hg]; exact heap_alloc_new w1 _
    have hvb : ∀ k, (Value.slice A1 0 c1).ownBlock = some k → w.heap.size ≤ k := fun k hk => by
      obtain ⟨b, e, hb⟩ := HN1.out
      rw [e] at hk; injection hk with hk; omega
    have hlt := Kd.R_lt HO.out
    have hs0 := HB.out.size
    refine ⟨⟨hbk, by omega, fun e => by have := hlt g e; omega, R_any (Kd.R_below HO.out hb12), below_step HB1.out hb12⟩, by omega, hvb, Kd.R_nil _ _ _ _ _, ?_, by have := hb12.size; omega⟩
    exact hstab _ _ HST.out (fun k hk => (hb12.block k (by omega)).trans (HG1.out.block k hk (by simp)))
  have HT := Aside0.mk hTS
  have HS := Aside0.mk hstab
  rw [← hg, ← hw2]
  clear hTS hstab hb12 hsz1 hg hw2 HO HB1 HG1 HN1 HST
  go_loopg [14] l.length (fun kq v14 W => ∃ (j : Nat) (A : Option Addr) (c : Nat), v14 = .int .i64 j ∧ Aside0 (kq + j = l.length) ∧ Aside0 (TS w0 w.heap.size (St s0) W g (.slice A j c) (row (itemF l) j) (.slice none 0 0) []))
  case atStart => exact ⟨0, A1, c1, rfl, ⟨by omega⟩, HT⟩
  case round =>
    obtain ⟨j, A, c, rfl, HJ, HR⟩ := hrel
    have hj := HJ.out
    by_cases hlt : j < l.length
    · obtain ⟨ad, e, x0, x1, x2⟩ := at_T27 (Kd.C_below HL.out HR.out.hs.bel) (j : Int) (by omega) (by omega)
      cases e
      have hj0 : (0 : Int) ≤ j := by omega
      have hjl : (j : Int) < (l.length : Int) := by omega
      rw [Int.toNat_natCast] at x0 x1 x2
      go_wp2_with ((with_reducible refine gate_dst (N:=7) rfl ?_); refine box_event ?hg (N:=7) ?hd (cs:=#[.string (⟨#[]⟩ : ByteArray), .float .f64 0, .float .f64 0]) (t:=27) ?hr ?_; (case hd => rfl); (case hg => rfl); (case hr => first | (go_simp; done) | (go_simp; rfl)); intro gb hgb w6 hbox hb; have BK := Aside0.mk hbox; have HB6 := Aside0.mk hb; have GE := Aside0.mk hgb; clear hbox hb hgb; have hcz7_0 : w6.cell? ⟨gb, 0, none⟩ = some (.string (⟨#[]⟩ : ByteArray)) := (blk_cell BK.out 0).trans rfl; have hcz7_1 : w6.cell? ⟨gb, 1, none⟩ = some (.float .f64 0) := (blk_cell BK.out 1).trans rfl; have hcz7_2 : w6.cell? ⟨gb, 2, none⟩ = some (.float .f64 0) := (blk_cell BK.out 2).trans rfl; have hfz7_0 := blk_frozen BK.out 0; have hfz7_1 := blk_frozen BK.out 1; have hfz7_2 := blk_frozen BK.out 2)
      obtain ⟨W5, hW5⟩ : ∃ W5, W5 = (((w6.setCell ⟨gb, 0, none⟩ (.string (rd_T27 l (j : Int)).f0)).setCell ⟨gb, 1, none⟩ (.float .f64 (rd_T27 l (j : Int)).f1)).setCell ⟨gb, 2, none⟩ (.float .f64 (rd_T27 l (j : Int)).f2)) := ⟨_, rfl⟩
      have hge := GE.out
      have hB5 : Below wr.heap.size wr W5 := by rw [hW5]; exact below_set (below_set (below_set HB6.out (by omega)) (by omega)) (by omega)
      have hblk : W5.heap[gb]? = some (.cells #[.string (rd_T27 l (j : Int)).f0, .float .f64 (rd_T27 l (j : Int)).f1, .float .f64 (rd_T27 l (j : Int)).f2] 27 (0, 0)) := by rw [hW5]; exact blk_put (blk_put (blk_put BK.out 0 _ rfl) 1 _ rfl) 2 _ rfl
      have HT5 := Aside0.mk (HR.out.below HS.out (hB5.drew))
      have hrl := Kd.R_lt HR.out.hs.row
      rw [← hW5]
      have hS : W5.cell? ⟨g, 0, none⟩ = some (.slice A j c) ∧ W5.cell? ⟨gb, 0, none⟩ = some (.string (rd_T27 l (j : Int)).f0) ∧ W5.cell? ⟨gb, 1, none⟩ = some (.float .f64 (rd_T27 l (j : Int)).f1) ∧ W5.cell? ⟨gb, 2, none⟩ = some (.float .f64 (rd_T27 l (j : Int)).f2) := ⟨(blk_cell (HR.out.below HS.out hB5).hs.box 0).trans rfl, (blk_cell hblk 0).trans rfl, (blk_cell hblk 1).trans rfl, (blk_cell hblk 2).trans rfl⟩
      clear hW5 hcz7_0 hcz7_1 hcz7_2 hfz7_0 hfz7_1 hfz7_2 BK HB6 x0 x1 x2 hB5 hblk hge
      refine start_ (n:=11) (S:=fun w' => w'.cell? ⟨g, 0, none⟩ = some (.slice A j c) ∧ w'.cell? ⟨gb, 0, none⟩ = some (.string (rd_T27 l (j : Int)).f0) ∧ w'.cell? ⟨gb, 1, none⟩ = some (.float .f64 (rd_T27 l (j : Int)).f1) ∧ w'.cell? ⟨gb, 2, none⟩ = some (.float .f64 (rd_T27 l (j : Int)).f2)) (ds:=[8, 10]) #[O,O,O,O,O,O,O,O,O,O,O] (by kernel_rfl) rfl rfl hS (fun hHeld => ?_); refine with_tabW take.tab5 take.bits5 (fun HT_ HW_ => ?_)
      clear hS
      generalize W5.drew = W at HT5 hHeld ⊢
      refine pu_ 0 19 #[I,O,O,O,O,O,O,O,O,O,O] HT_.out ?_
      refine pu_ 1 20 #[I,I,O,O,O,O,O,O,O,O,O] HT_.out ?_
      refine pu_ 2 21 #[I,I,I,O,O,O,O,O,O,O,O] HT_.out ?_
      refine ta_ 3 22 #[I,I,I,I,O,O,O,O,O,O,O] HT_.out HW_.out hHeld ?_
      refine ta_ 4 23 #[I,I,I,I,I,O,O,O,O,O,O] HT_.out HW_.out hHeld ?_
      refine pu_ 5 24 #[I,I,I,I,I,I,O,O,O,O,O] HT_.out ?_
      refine pu_ 6 25 #[I,I,I,I,I,I,I,O,O,O,O] HT_.out ?_
      refine one_ (i:=7) (N:=some 26) #[I,I,I,I,I,I,I,I,O,O,O] rfl rfl (one_of HT_.out (by kernel_rfl)) (by decide) (fun K hK => ?_)
      refine value_ (v:=.slice (some ⟨W.heap.size, 0, none⟩) 1 1) (w1:=W.alloc (.cells #[.string (rd_T27 l (j : Int)).f0, .float .f64 (rd_T27 l (j : Int)).f1, .float .f64 (rd_T27 l (j : Int)).f2, .int .i64 j] 55)) (by rfl) rfl (by first | (go_simp; done) | (go_simp; rfl)) (hK.out _ _ ⟨pw_cell_below (below_alloc (Below.refl _ _) _) hHeld.1, pw_cell_below (below_alloc (Below.refl _ _) _) hHeld.2.1, pw_cell_below (below_alloc (Below.refl _ _) _) hHeld.2.2.1, pw_cell_below (below_alloc (Below.refl _ _) _) hHeld.2.2.2⟩ (fun hHeld2 => ?_))
      clear hK K hHeld2
      refine nm_ 26 ?_
      refine last_ (i:=8) (N:=some 27) #[I,I,I,I,I,I,I,I,I,O,O] rfl rfl (one_of HT_.out (by kernel_rfl)) (by decide) (fun K hK => ?_)
      refine Kd.R_append_step k55 (w0:=w0) w0.heap.size (by rfl) (.tmp 22) (.tmp 26) 53 55 (.agg #[.string ⟨#[]⟩, .float .f64 0, .float .f64 0, .int .i64 0]) 40 rfl Try.underlying53 info55 rfl (by decide) (by omega) (.slice A j c) (row (itemF l) j) (⟨⟨(rd_T27 l (j : Int)).f0, (rd_T27 l (j : Int)).f1, (rd_T27 l (j : Int)).f2⟩, (j : Int)⟩ : S55) [.string (rd_T27 l (j : Int)).f0, .float .f64 (rd_T27 l (j : Int)).f1, .float .f64 (rd_T27 l (j : Int)).f2, .int .i64 j] (fun _ => True) (fun _ => False) (by rfl) (by rfl) (k55_mkM _ _ _ (⟨⟨(rd_T27 l (j : Int)).f0, (rd_T27 l (j : Int)).f1, (rd_T27 l (j : Int)).f2⟩, (j : Int)⟩ : S55)) (fun _ hk => hk.elim) (fun _ _ => trivial) (Kd.R_mono HT5.out.hs.row (fun _ _ => trivial)) HT5.out.hs.bel HT5.out.hs.bel.size (by rw [row_len]; omega) ?_
      intro v2 w7 ho hb hg hat
      refine hK.out _ _ ?_
      clear hK K
      rw [pushes] at ho
      obtain ⟨A2, c2, e2⟩ := Kd.R_slice ho
      rw [row_len] at e2
      subst e2
      have HT7 := Aside0.mk (HT5.out.pushed HS.out ho hb hg hat)
      have hc7 : w7.cell? ⟨g, 0, none⟩ = some (.slice A j c) := cell_grown hg hHeld.1 (fun e => HT5.out.hs.ne e.symm)
      have hf7 := blk_frozen (blk_grown HT5.out.hs.box hg (fun e => HT5.out.hs.ne e.symm)) 0
      clear ho hb hg hat
      refine nm_ 27 ?_
      refine pu_ 9 28 #[I,I,I,I,I,I,I,I,I,I,O] HT_.out ?_
      refine last_ (i:=10) (N:=none) #[I,I,I,I,I,I,I,I,I,I,I] rfl rfl (one_of HT_.out (by kernel_rfl)) (by decide) (fun K hK => ?_)
      refine skip_ (w1:=w7.setCell ⟨g, 0, none⟩ (.slice A2 (j + 1) c2)) (by rfl) rfl (by first | (go_simp; done) | (go_simp; rfl)) ?_
      refine hK.out _ _ ?_
      clear hK K
      refine done_ (done_of HT_.out (by kernel_rfl)) ?_
      clear HT_ HW_ hc7 hf7
      cases gk with
      | zero => omega
      | succ k1 =>
        try go_wp2
        go_roundg k1
        case measure => omega
        case rel => exact ⟨j + 1, A2, c2, by go_num, ⟨by omega⟩, HT7⟩
    · have hjl : j = l.length := by omega
      have hjn : ¬ ((j : Int) < (l.length : Int)) := by omega
      have n0 : Aside0 (TS w0 w.heap.size (St s0) wr g (.slice A l.length c) (row (itemF l) l.length) (.slice none 0 0) []) := ⟨by rw [← hjl]; exact HR.out⟩
      clear HR hjl hlt hj HJ HT
      have HR := n0
      clear n0
      go_wp2_with (go_at_call 23; refine (heapInit.calls w0 _ g A c l.length (itemF l) HR.out.hs hlen).mono ?_; rintro e w3 ⟨rfl, hs3, hk3⟩; have n0 := Aside0.mk (HR.out.moved HS.out hs3 rfl (hk3.mono (fun k q => Or.inr q))); clear HR; have HR := n0; clear n0 hs3 hk3)
      clear hjn
      obtain ⟨FIN, hF⟩ : ∃ FIN, FIN = takeL step l.length (initF lessI l.length (l.length / 2) (itemF l)) s0 := ⟨_, rfl⟩
      have HF := Aside0.mk hF.symm
      rw [← hF]
      clear hF HS
      go_loopg [8] l.length (fun kq v8 W => ∃ (s : σ) (A : Option Addr) (c : Nat) (f' : Nat → S55) (out : List ByteArray), Aside0 (out ++ takeL step kq f' s = FIN) ∧ Aside0 (TS w0 w.heap.size (St s) W g (.slice A kq c) (row f' kq) v8 out) ∧ kq ≤ 1000 ∧ out.length + kq ≤ 1000)
      case atStart => exact ⟨s0, A, c, _, [], HF, HR, hlen, by simp; omega⟩
      case round =>
        obtain ⟨s, A2, c2, f', out, HF2, HR2, hk1, hk2⟩ := hrel
        have hcg := HR2.out.hs.cell
        have hta := run_assert
        cases gk with
        | zero =>
          go_wp2_with (go_at_call 24; refine (len_at HR2.out.hs).mono ?_; rintro e w4 ⟨rfl, rfl⟩)
          go_ret
          have hF3 := HF2.out
          rw [takeL, List.append_nil] at hF3
          exact ⟨_, rfl, by (first | rw [HF.out, ← hF3] | rw [← hF3]); exact Kd.R_mono HR2.out.out (fun _ _ => trivial), HR2.out.hs.bel⟩
        | succ k1 =>
          have hpos : (0 : Int) < ((k1 + 1 : Nat) : Int) := by omega
          obtain ⟨f2, hf2⟩ : ∃ f2, f2 = popF lessI k1 f' := ⟨_, rfl⟩
          obtain ⟨x, hx⟩ : ∃ x, x = f2 k1 := ⟨_, rfl⟩
          have hF3 := HF2.out
          rw [takeL, ← hf2, ← hx] at hF3
          have HF3 := Aside0.mk hF3
          have HPop := Aside0.mk (heapPop.calls w0 wr g A2 c2 k1 f' HR2.out.hs hk1)
          rw [← hf2, ← hx] at HPop
          clear hF3 HF2 hf2 hx
          have HS2 : Aside0 (Stab w.heap.size (St s)) := ⟨fun W W' h hk => HM.out.stab s W W' h hk⟩
          obtain ⟨r, hr⟩ : ∃ r, r = step s x.f0 := ⟨_, rfl⟩
          have HX := Aside0.mk hr
          rw [← hr] at HF3
          clear hr
          cases hr1 : r.1 with
          | true =>
            rw [hr1, if_pos rfl] at HF3
            have hr2 : (step s x.f0).1 = true := by rw [← HX.out]; exact hr1
            go_wp2_with (first
              | (go_at_call 24; refine (len_at HR2.out.hs).mono ?_; rintro e w4 ⟨rfl, rfl⟩)
              | (go_at_call 25; refine HPop.out.mono ?_; rintro e w4 ⟨rfl, hs4, hk4⟩; unfold itemV; have n0 := Aside0.mk (HR2.out.moved HS2.out hs4 (own_len _ _ _ _) (hk4.mono (fun k q => q.imp id (fun e => e.trans (own_len _ _ _ _))))); clear HR2 hs4 hk4; have HR2 := n0; clear n0)
              | ((with_reducible refine gate_dst (N:=9) rfl ?_); refine box_event ?hg (N:=9) ?hd (cs:=#[.string (⟨#[]⟩ : ByteArray), .float .f64 0, .float .f64 0, .int .i64 0]) (t:=55) ?hr ?_; (case hd => rfl); (case hg => rfl); (case hr => first | (go_simp; done) | (go_simp; rfl)); intro gb hgb w6 hbox hb; have BK := Aside0.mk hbox; have HB6 := Aside0.mk hb; have GE := Aside0.mk hgb; clear hbox hb hgb; have hcz_0 : w6.cell? ⟨gb, 0, none⟩ = some (.string (⟨#[]⟩ : ByteArray)) := (blk_cell BK.out 0).trans rfl; have hfz_0 := blk_frozen BK.out 0; have hcz_1 : w6.cell? ⟨gb, 1, none⟩ = some (.float .f64 0) := (blk_cell BK.out 1).trans rfl; have hfz_1 := blk_frozen BK.out 1; have hcz_2 : w6.cell? ⟨gb, 2, none⟩ = some (.float .f64 0) := (blk_cell BK.out 2).trans rfl; have hfz_2 := blk_frozen BK.out 2; have hcz_3 : w6.cell? ⟨gb, 3, none⟩ = some (.int .i64 0) := (blk_cell BK.out 3).trans rfl; have hfz_3 := blk_frozen BK.out 3)
              | ((with_reducible refine gate_builtin (b:=.append) (xs:=#[.tmp 42, .tmp 46]) rfl ?_); at_builtin; have hge : _ ≤ gb := Nat.le_of_eq GE.out.symm; have HTW := Aside0.mk (HR2.out.below HS2.out (below_set (j:=3) (v:=.int .i64 x.f1) (below_set (j:=2) (v:=.float .f64 x.f0.f2) (below_set (j:=1) (v:=.float .f64 x.f0.f1) (below_set (j:=0) (v:=.string x.f0.f0) HB6.out hge) hge) hge) hge)); refine Kd.R_append Kd.string (w0:=w0) w0.heap.size rfl (.tmp 42) (.tmp 46) 29 9 (.string ⟨#[]⟩) 16 rfl Try.underlying29 info9 rfl (by decide) (by omega) u8 out x.f0.f0 [.string x.f0.f0] (fun k => w.heap.size ≤ k ∧ k ≠ g ∧ some k ≠ (Value.slice A2 k1 c2).ownBlock) (fun _ => False) rfl (by first | (go_simp; done) | (go_simp; rfl)) rfl (fun _ hk => hk.elim) HTW.out.fresh HTW.out.out HTW.out.hs.bel HTW.out.hs.bel.size (by omega) ?_; intro v7 w7 ho hb hg hat; have n0 := Aside0.mk (HTW.out.outed HS2.out ho hb hg); have n1 : w7.heap[gb]? = some (.cells #[.string x.f0.f0, .float .f64 x.f0.f1, .float .f64 x.f0.f2, .int .i64 x.f1] 55 (0, 0)) := blk_grown (blk_put (blk_put (blk_put (blk_put BK.out 0 _ rfl) 1 _ rfl) 2 _ rfl) 3 _ rfl) hg (fun e => by have h1 := Kd.R_lt HR2.out.out gb e.symm; have h2 := GE.out; omega); have hq0 : w7.cell? ⟨gb, 0, none⟩ = some (.string x.f0.f0) := (blk_cell n1 0).trans rfl; have hq1 : w7.cell? ⟨gb, 1, none⟩ = some (.float .f64 x.f0.f1) := (blk_cell n1 1).trans rfl; have hq2 : w7.cell? ⟨gb, 2, none⟩ = some (.float .f64 x.f0.f2) := (blk_cell n1 2).trans rfl; clear n1 ho hb hg hat hge HTW HR2; have HR3 := n0; clear n0)
              | (go_at_fn fn; refine (HM.out.run s x.f0 _ HR3.out.cl).mono ?_; rintro e w8 ⟨rfl, hq, hk, hsz, hlf⟩; have HR4 := Aside0.mk (HR3.out.more (I' := St r.2) hk hsz hlf (by rw [HX.out]; exact hq hr2)); clear hq hk hsz hlf HR3))
            go_roundg k1
            case measure => omega
            case rel => exact ⟨r.2, A2, c2, f2, out ++ [x.f0.f0], ⟨by rw [List.append_assoc]; exact HF3.out⟩, HR4, by omega, by simp; omega⟩
          | false =>
            rw [hr1, if_neg (by simp)] at HF3
            have hr2 : (step s x.f0).1 = false := by rw [← HX.out]; exact hr1
            go_wp2_with (first
              | (go_at_call 24; refine (len_at HR2.out.hs).mono ?_; rintro e w4 ⟨rfl, rfl⟩)
              | (go_at_call 25; refine HPop.out.mono ?_; rintro e w4 ⟨rfl, hs4, hk4⟩; unfold itemV; have n0 := Aside0.mk (HR2.out.moved HS2.out hs4 (own_len _ _ _ _) (hk4.mono (fun k q => q.imp id (fun e => e.trans (own_len _ _ _ _))))); clear HR2 hs4 hk4; have HR2 := n0; clear n0)
              | ((with_reducible refine gate_dst (N:=9) rfl ?_); refine box_event ?hg (N:=9) ?hd (cs:=#[.string (⟨#[]⟩ : ByteArray), .float .f64 0, .float .f64 0, .int .i64 0]) (t:=55) ?hr ?_; (case hd => rfl); (case hg => rfl); (case hr => first | (go_simp; done) | (go_simp; rfl)); intro gb hgb w6 hbox hb; have BK := Aside0.mk hbox; have HB6 := Aside0.mk hb; have GE := Aside0.mk hgb; clear hbox hb hgb; have hcz_0 : w6.cell? ⟨gb, 0, none⟩ = some (.string (⟨#[]⟩ : ByteArray)) := (blk_cell BK.out 0).trans rfl; have hfz_0 := blk_frozen BK.out 0; have hcz_1 : w6.cell? ⟨gb, 1, none⟩ = some (.float .f64 0) := (blk_cell BK.out 1).trans rfl; have hfz_1 := blk_frozen BK.out 1; have hcz_2 : w6.cell? ⟨gb, 2, none⟩ = some (.float .f64 0) := (blk_cell BK.out 2).trans rfl; have hfz_2 := blk_frozen BK.out 2; have hcz_3 : w6.cell? ⟨gb, 3, none⟩ = some (.int .i64 0) := (blk_cell BK.out 3).trans rfl; have hfz_3 := blk_frozen BK.out 3)
              | ((with_reducible refine gate_builtin (b:=.append) (xs:=#[.tmp 42, .tmp 46]) rfl ?_); at_builtin; have hge : _ ≤ gb := Nat.le_of_eq GE.out.symm; have HTW := Aside0.mk (HR2.out.below HS2.out (below_set (j:=3) (v:=.int .i64 x.f1) (below_set (j:=2) (v:=.float .f64 x.f0.f2) (below_set (j:=1) (v:=.float .f64 x.f0.f1) (below_set (j:=0) (v:=.string x.f0.f0) HB6.out hge) hge) hge) hge)); refine Kd.R_append Kd.string (w0:=w0) w0.heap.size rfl (.tmp 42) (.tmp 46) 29 9 (.string ⟨#[]⟩) 16 rfl Try.underlying29 info9 rfl (by decide) (by omega) u8 out x.f0.f0 [.string x.f0.f0] (fun k => w.heap.size ≤ k ∧ k ≠ g ∧ some k ≠ (Value.slice A2 k1 c2).ownBlock) (fun _ => False) rfl (by first | (go_simp; done) | (go_simp; rfl)) rfl (fun _ hk => hk.elim) HTW.out.fresh HTW.out.out HTW.out.hs.bel HTW.out.hs.bel.size (by omega) ?_; intro v7 w7 ho hb hg hat; have n0 := Aside0.mk (HTW.out.outed HS2.out ho hb hg); have n1 : w7.heap[gb]? = some (.cells #[.string x.f0.f0, .float .f64 x.f0.f1, .float .f64 x.f0.f2, .int .i64 x.f1] 55 (0, 0)) := blk_grown (blk_put (blk_put (blk_put (blk_put BK.out 0 _ rfl) 1 _ rfl) 2 _ rfl) 3 _ rfl) hg (fun e => by have h1 := Kd.R_lt HR2.out.out gb e.symm; have h2 := GE.out; omega); have hq0 : w7.cell? ⟨gb, 0, none⟩ = some (.string x.f0.f0) := (blk_cell n1 0).trans rfl; have hq1 : w7.cell? ⟨gb, 1, none⟩ = some (.float .f64 x.f0.f1) := (blk_cell n1 1).trans rfl; have hq2 : w7.cell? ⟨gb, 2, none⟩ = some (.float .f64 x.f0.f2) := (blk_cell n1 2).trans rfl; clear n1 ho hb hg hat hge HTW HR2; have HR3 := n0; clear n0)
              | (go_at_fn fn; refine (HM.out.run s x.f0 _ HR3.out.cl).mono ?_; rintro e w8 ⟨rfl, hq, hk, hsz, hlf⟩; have n0 := Aside0.mk (HR3.out.more (I' := fun _ => True) hk hsz hlf trivial); clear hq hk hsz hlf HR3; have HR3 := n0; clear n0))
            go_ret
            exact ⟨_, rfl, by (first | rw [HF.out, ← HF3.out] | rw [← HF3.out]); exact Kd.R_mono HR3.out.out (fun _ _ => trivial), HR3.out.hs.bel⟩
end Go.Proofs.Ythnbkhggbfnpcaa.Ev
