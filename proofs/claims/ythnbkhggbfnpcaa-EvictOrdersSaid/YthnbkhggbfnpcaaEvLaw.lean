/- bosunlaw24.EvictOrders: the walk. No conditions beside those stated. -/
import Derived.Test.YthnbkhggbfnpcaaEvAwake
import Derived.Test.YthnbkhggbfnpcaaEvBits
import Derived.Test.YthnbkhggbfnpcaaGEvx1
namespace Go.Proofs.Ythnbkhggbfnpcaa.GEv
open Go.RowKit Go.Proofs.YthnbkhggbfnpcaaW.PrintWords Go.Proofs.YthnbkhggbfnpcaaW.PrintLast Go.Proofs.YthnbkhggbfnpcaaW.PrintMore Go.Proofs.Ythnbkhggbfnpcaa.Ev
set_option linter.unusedVariables false
set_option linter.unusedSimpArgs false
def toR (x : S27) : S39 := ⟨x.f0, x.f1, x.f2⟩
theorem rd_map (l : List S27) (i : Int) (h0 : 0 ≤ i) (h1 : i < l.length) : rd_T39 (l.map toR) i = ⟨(rd_T27 l i).f0, (rd_T27 l i).f1, (rd_T27 l i).f2⟩ := by
  have h : i.toNat < l.length := by omega
  simp [rd_T39, rd_T27, List.getD, h, toR]
def bosunlaw24_EvictOrders.T7 : Bool × List (List Nat × List Nat) := (true, [([], []), ([], []), ([0, 1], [0, 1]), ([2], [2]), ([3], [3]), ([], []), ([], []), ([5, 6], [5, 6]), ([7], [7]), ([8], [8]), ([], []), ([], []), ([10, 11], [10, 11]), ([12], [12]), ([13], [13]), ([9, 14], [9, 14]), ([4, 15, 4], [4, 15]), ([16], [16]), ([17, 16], [17]), ([18], [18]), ([18], [18]), ([19, 20, 18], [18, 19, 20]), ([21, 18], [18, 21]), ([18], [18]), ([23, 18], [18, 23]), ([24, 18], [18, 24]), ([22, 25, 18, 18], [18, 22, 25]), ([18], [18]), ([18], [18]), ([27, 28, 18], [18, 27, 28]), ([29, 18], [18, 29]), ([18], [18]), ([31, 18], [18, 31]), ([32, 18], [18, 32]), ([30, 33, 26, 18], [18, 30, 33]), ([26, 34, 18], [18, 26, 34]), ([18, 35], [18, 35])])
def bosunlaw24_EvictOrders.B7 : List Nat := [0, 0, 3, 7, 15, 0, 0, 96, 224, 480, 0, 0, 3072, 7168, 15360, 32736, 65535, 131071, 262143, 524287, 524287, 2097151, 4194303, 524287, 8912895, 25690111, 67108863, 524287, 524287, 403177471, 940048383, 524287, 2148007935, 6442975231, 17179869183, 34359738367, 68719476735]
theorem bosunlaw24_EvictOrders.tab7 : rtab .any (opsOf Try.f4 7) = bosunlaw24_EvictOrders.T7 := by kernel_rfl
theorem bosunlaw24_EvictOrders.bits7 : waitsOk bosunlaw24_EvictOrders.T7.2 bosunlaw24_EvictOrders.B7 = true := by kernel_rfl
theorem rfirst_at {K : Nat} {Am : Option Addr} {cm b : Nat} {ok : Nat → Prop} {l : List S27} {k : Int} {r : List ByteArray} {W : World} (h : Kd.R k39 39 W b ok (.slice Am l.length cm) (l.map toR)) (h2 : bosunref24_First.f K (l.map toR) k = some r) : Calls Try.prog 13 #[.slice Am l.length cm, .int .i64 k] W (RowPost W r) := by
  have q := Kd.R_reads' h
  have := bosunref24_First.calls K Am cm (l.map toR) k r W q.2.2 (by rw [← q.1]; exact q.2.1) h2
  rw [List.length_map] at this
  exact this
theorem runtil_at {K : Nat} {Am : Option Addr} {cm b : Nat} {ok : Nat → Prop} {l : List S27} {k : Nat} {r : List ByteArray} {W : World} (h : Kd.R k39 39 W b ok (.slice Am l.length cm) (l.map toR)) (h2 : bosunref24_Until.f K (l.map toR) k = some r) : Calls Try.prog 15 #[.slice Am l.length cm, .float .f64 k] W (RowPost W r) := by
  have q := Kd.R_reads' h
  have := bosunref24_Until.calls K Am cm (l.map toR) k r W q.2.2 (by rw [← q.1]; exact q.2.1) h2
  rw [List.length_map] at this
  exact this
def Txt (W : World) (A : Option Addr) (c : Nat) (r : List ByteArray) : Prop := r.length ≤ c ∧ Kd.C Kd.string W A r.length r
theorem Txt.below {W W1 : World} {A : Option Addr} {c : Nat} {r : List ByteArray} (h : Txt W A c r) (hb : Below W.heap.size W W1) : Txt W1 A c r := ⟨h.1, Kd.C_below h.2 hb⟩
theorem texts_at {K : Nat} {A B : Option Addr} {c d : Nat} {r : List ByteArray} {W : World} (h1 : Txt W A c r) (h2 : Txt W B d r) (h : bosunlaw24_texts.f K r r = some true) : Calls Try.prog 7 #[.slice A r.length c, .slice B r.length d] W fun e w' => e = .returned (.bool true) ∧ Below W.heap.size W w' :=
  (bosunlaw24_texts.calls K A c r B d r true W h1.2 h1.1 h2.2 h2.1 h).mono fun _ _ q => ⟨q.1, q.2.below⟩
theorem awake_of (w : World) : Calls Try.prog 5 #[] w fun e w' => e = .returned (.bool true) ∧ Below w.heap.size w w' := bosunlaw24_Awake.calls w
set_option maxHeartbeats 16000000 in
set_option maxRecDepth 100000 in
theorem bosunlaw24_EvictOrders.many (A0 : Option Addr) (c0 : Nat) (l : List S27) (k : Int) (need : Nat) (w : World) (hlen : ¬ l.length ≤ 40) : Calls Try.prog 4 #[.slice A0 l.length c0, .int .i64 k, .float .f64 need] w fun e w' => e = .returned (.bool true) ∧ Below w.heap.size w w' := by
  have h : (40 : Int) < (l.length : Int) := by omega
  go_enter Try.func4, Try.ntmps4
  go_wp2_with (go_at_call 5; refine (awake_of _).mono ?_; rintro e w2 ⟨rfl, hb⟩; have HB := Aside0.mk hb; clear hb)
  go_ret
  exact ⟨rfl, HB.out⟩
set_option maxHeartbeats 16000000 in
set_option maxRecDepth 100000 in
theorem bosunlaw24_EvictOrders.few (K : Nat) (A0 : Option Addr) (c0 : Nat) (l : List S27) (k : Int) (need : Nat) (r1 r2 : List ByteArray) (w : World) (hr0 : Kd.C k27 w A0 l.length l) (hc0 : l.length ≤ c0) (hlen : l.length ≤ 40)
    (h0 : bosunlaw24_of.f K l = some (l.map toR)) (h1 : evict_First.f l k = some r1) (h2 : bosunref24_First.f K (l.map toR) k = some r1) (h3 : evict_Until.f l need = some r2) (h4 : bosunref24_Until.f K (l.map toR) need = some r2) (h5 : bosunlaw24_texts.f K r1 r1 = some true) (h6 : bosunlaw24_texts.f K r2 r2 = some true) :
    Calls Try.prog 4 #[.slice A0 l.length c0, .int .i64 k, .float .f64 need] w fun e w' => e = .returned (.bool true) ∧ Below w.heap.size w w' := by
  have hu27 := Try.underlying27
  have hu39 := Try.underlying39
  have HR0 := Aside0.mk hr0
  have HC0 := Aside0.mk hc0
  have H0 := Aside0.mk h0
  have H1 := Aside0.mk h1
  have H2 := Aside0.mk h2
  have H3 := Aside0.mk h3
  have H4 := Aside0.mk h4
  have H5 := Aside0.mk h5
  have H6 := Aside0.mk h6
  have hn40 : ¬ ((40 : Int) < (l.length : Int)) := by omega
  have HLM : Aside0 ((l.map toR).length = l.length) := ⟨List.length_map ..⟩
  clear hr0 hc0 h0 h1 h2 h3 h4 h5 h6
  go_enter Try.func4, Try.ntmps4
  go_wp2_with (go_at_call 10; refine (bosunlaw24_of.calls K A0 c0 l _ _ HR0.out HC0.out H0.out).mono ?_; rintro e w2 ⟨vm, rfl, hro, hb⟩; obtain ⟨Am, cm, e⟩ := Kd.R_slice hro; rw [HLM.out] at e; subst e; have HM := Aside0.mk hro; have HB := Aside0.mk hb; clear hro hb)
  go_loopg [17] l.length (fun kq v17 W => ∃ j : Nat, v17 = .int .i64 j ∧ Aside0 (kq + j = l.length) ∧ Aside0 (Kd.R k39 39 W w.heap.size (fun _ => True) (.slice Am l.length cm) (l.map toR)) ∧ Aside0 (Below w.heap.size w W))
  case atStart => exact ⟨0, rfl, ⟨rfl⟩, HM, HB⟩
  case round =>
    obtain ⟨j, rfl, HG, HM, HB⟩ := hrel
    have hg := HG.out
    by_cases hlt : j < l.length
    · have hj0 : (0 : Int) ≤ j := by omega
      have hjl : (j : Int) < (l.length : Int) := by omega
      have hl0 : (0 : Int) < (l.length : Int) := by omega
      have hl0n : 0 < l.length := by omega
      have HLS := HM.out
      have hcm := (Kd.R_reads' HM.out).2.2
      rw [HLM.out] at hcm
      obtain ⟨ad, e, x0, x1, x2⟩ := at_T27 (Kd.C_below HR0.out HB.out) (j : Int) hj0 hjl
      cases e
      obtain ⟨_, e, z0, z1, z2⟩ := at_T27 (Kd.C_below HR0.out HB.out) 0 (by omega) hl0
      cases e
      obtain ⟨am, e, y0, y1, y2⟩ := at_T39 hcm (j : Int) hj0 hjl
      cases e
      obtain ⟨_, e, u0, u1, u2⟩ := at_T39 hcm 0 (by omega) hl0
      cases e
      rw [rd_map l _ hj0 hjl] at y0 y1 y2
      rw [rd_map l _ (by omega) hl0] at u0 u1 u2
      rw [Int.toNat_natCast] at x0 x1 x2 y0 y1 y2
      have ea : ad.add ((0 : Int).toNat * 3) = ad := Addr.add_zero' ad
      have em : am.add ((0 : Int).toNat * 3) = am := Addr.add_zero' am
      rw [ea] at z0 z1 z2
      rw [em] at u0 u1 u2
      clear ea em hcm HLS
      try go_wp2
      have hS : wr.cell? (ad.add (j * 3)) = some (.string (rd_T27 l (j : Int)).f0) ∧ wr.cell? ⟨(ad.add (j * 3)).block, (ad.add (j * 3)).off + 1, none⟩ = some (.float .f64 (rd_T27 l (j : Int)).f1) ∧ wr.cell? ⟨(ad.add (j * 3)).block, (ad.add (j * 3)).off + 2, none⟩ = some (.float .f64 (rd_T27 l (j : Int)).f2) ∧ wr.cell? ad = some (.string (rd_T27 l 0).f0) ∧ wr.cell? ⟨ad.block, ad.off + 1, none⟩ = some (.float .f64 (rd_T27 l 0).f1) ∧ wr.cell? ⟨ad.block, ad.off + 2, none⟩ = some (.float .f64 (rd_T27 l 0).f2) ∧ wr.cell? (am.add (j * 3)) = some (.string (rd_T27 l (j : Int)).f0) ∧ wr.cell? ⟨(am.add (j * 3)).block, (am.add (j * 3)).off + 1, none⟩ = some (.float .f64 (rd_T27 l (j : Int)).f1) ∧ wr.cell? ⟨(am.add (j * 3)).block, (am.add (j * 3)).off + 2, none⟩ = some (.float .f64 (rd_T27 l (j : Int)).f2) ∧ wr.cell? am = some (.string (rd_T27 l 0).f0) ∧ wr.cell? ⟨am.block, am.off + 1, none⟩ = some (.float .f64 (rd_T27 l 0).f1) ∧ wr.cell? ⟨am.block, am.off + 2, none⟩ = some (.float .f64 (rd_T27 l 0).f2) := ⟨x0, x1, x2, z0, z1, z2, y0, y1, y2, u0, u1, u2⟩
      have hD : ∀ {A B : World}, Below A.heap.size A B → (A.cell? (ad.add (j * 3)) = some (.string (rd_T27 l (j : Int)).f0) ∧ A.cell? ⟨(ad.add (j * 3)).block, (ad.add (j * 3)).off + 1, none⟩ = some (.float .f64 (rd_T27 l (j : Int)).f1) ∧ A.cell? ⟨(ad.add (j * 3)).block, (ad.add (j * 3)).off + 2, none⟩ = some (.float .f64 (rd_T27 l (j : Int)).f2) ∧ A.cell? ad = some (.string (rd_T27 l 0).f0) ∧ A.cell? ⟨ad.block, ad.off + 1, none⟩ = some (.float .f64 (rd_T27 l 0).f1) ∧ A.cell? ⟨ad.block, ad.off + 2, none⟩ = some (.float .f64 (rd_T27 l 0).f2) ∧ A.cell? (am.add (j * 3)) = some (.string (rd_T27 l (j : Int)).f0) ∧ A.cell? ⟨(am.add (j * 3)).block, (am.add (j * 3)).off + 1, none⟩ = some (.float .f64 (rd_T27 l (j : Int)).f1) ∧ A.cell? ⟨(am.add (j * 3)).block, (am.add (j * 3)).off + 2, none⟩ = some (.float .f64 (rd_T27 l (j : Int)).f2) ∧ A.cell? am = some (.string (rd_T27 l 0).f0) ∧ A.cell? ⟨am.block, am.off + 1, none⟩ = some (.float .f64 (rd_T27 l 0).f1) ∧ A.cell? ⟨am.block, am.off + 2, none⟩ = some (.float .f64 (rd_T27 l 0).f2)) → (B.cell? (ad.add (j * 3)) = some (.string (rd_T27 l (j : Int)).f0) ∧ B.cell? ⟨(ad.add (j * 3)).block, (ad.add (j * 3)).off + 1, none⟩ = some (.float .f64 (rd_T27 l (j : Int)).f1) ∧ B.cell? ⟨(ad.add (j * 3)).block, (ad.add (j * 3)).off + 2, none⟩ = some (.float .f64 (rd_T27 l (j : Int)).f2) ∧ B.cell? ad = some (.string (rd_T27 l 0).f0) ∧ B.cell? ⟨ad.block, ad.off + 1, none⟩ = some (.float .f64 (rd_T27 l 0).f1) ∧ B.cell? ⟨ad.block, ad.off + 2, none⟩ = some (.float .f64 (rd_T27 l 0).f2) ∧ B.cell? (am.add (j * 3)) = some (.string (rd_T27 l (j : Int)).f0) ∧ B.cell? ⟨(am.add (j * 3)).block, (am.add (j * 3)).off + 1, none⟩ = some (.float .f64 (rd_T27 l (j : Int)).f1) ∧ B.cell? ⟨(am.add (j * 3)).block, (am.add (j * 3)).off + 2, none⟩ = some (.float .f64 (rd_T27 l (j : Int)).f2) ∧ B.cell? am = some (.string (rd_T27 l 0).f0) ∧ B.cell? ⟨am.block, am.off + 1, none⟩ = some (.float .f64 (rd_T27 l 0).f1) ∧ B.cell? ⟨am.block, am.off + 2, none⟩ = some (.float .f64 (rd_T27 l 0).f2)) := fun h q => ⟨pw_cell_below h q.1, pw_cell_below h q.2.1, pw_cell_below h q.2.2.1, pw_cell_below h q.2.2.2.1, pw_cell_below h q.2.2.2.2.1, pw_cell_below h q.2.2.2.2.2.1, pw_cell_below h q.2.2.2.2.2.2.1, pw_cell_below h q.2.2.2.2.2.2.2.1, pw_cell_below h q.2.2.2.2.2.2.2.2.1, pw_cell_below h q.2.2.2.2.2.2.2.2.2.1, pw_cell_below h q.2.2.2.2.2.2.2.2.2.2.1, pw_cell_below h q.2.2.2.2.2.2.2.2.2.2.2⟩
      have HD := Aside0.mk @hD
      have HM := Aside0.mk (Kd.R_drew HM.out)
      have HB := Aside0.mk (below_drew1 HB.out)
      clear hD x0 x1 x2 y0 y1 y2 z0 z1 z2 u0 u1 u2
      refine start_ (n:=37) (S:=fun w' => w'.cell? (ad.add (j * 3)) = some (.string (rd_T27 l (j : Int)).f0) ∧ w'.cell? ⟨(ad.add (j * 3)).block, (ad.add (j * 3)).off + 1, none⟩ = some (.float .f64 (rd_T27 l (j : Int)).f1) ∧ w'.cell? ⟨(ad.add (j * 3)).block, (ad.add (j * 3)).off + 2, none⟩ = some (.float .f64 (rd_T27 l (j : Int)).f2) ∧ w'.cell? ad = some (.string (rd_T27 l 0).f0) ∧ w'.cell? ⟨ad.block, ad.off + 1, none⟩ = some (.float .f64 (rd_T27 l 0).f1) ∧ w'.cell? ⟨ad.block, ad.off + 2, none⟩ = some (.float .f64 (rd_T27 l 0).f2) ∧ w'.cell? (am.add (j * 3)) = some (.string (rd_T27 l (j : Int)).f0) ∧ w'.cell? ⟨(am.add (j * 3)).block, (am.add (j * 3)).off + 1, none⟩ = some (.float .f64 (rd_T27 l (j : Int)).f1) ∧ w'.cell? ⟨(am.add (j * 3)).block, (am.add (j * 3)).off + 2, none⟩ = some (.float .f64 (rd_T27 l (j : Int)).f2) ∧ w'.cell? am = some (.string (rd_T27 l 0).f0) ∧ w'.cell? ⟨am.block, am.off + 1, none⟩ = some (.float .f64 (rd_T27 l 0).f1) ∧ w'.cell? ⟨am.block, am.off + 2, none⟩ = some (.float .f64 (rd_T27 l 0).f2)) (ds:=[]) #[O,O,O,O,O,O,O,O,O,O,O,O,O,O,O,O,O,O,O,O,O,O,O,O,O,O,O,O,O,O,O,O,O,O,O,O,O] (by kernel_rfl) rfl rfl hS (fun hHeld => ?_); refine with_tabW bosunlaw24_EvictOrders.tab7 bosunlaw24_EvictOrders.bits7 (fun HT_ HW_ => ?_)
      clear hS
      generalize wr.drew = W at HM HB hHeld ⊢
      refine pu_ 0 20 #[I,O,O,O,O,O,O,O,O,O,O,O,O,O,O,O,O,O,O,O,O,O,O,O,O,O,O,O,O,O,O,O,O,O,O,O,O] HT_.out ?_
      refine pu_ 1 21 #[I,I,O,O,O,O,O,O,O,O,O,O,O,O,O,O,O,O,O,O,O,O,O,O,O,O,O,O,O,O,O,O,O,O,O,O,O] HT_.out ?_
      refine pu_ 2 22 #[I,I,I,O,O,O,O,O,O,O,O,O,O,O,O,O,O,O,O,O,O,O,O,O,O,O,O,O,O,O,O,O,O,O,O,O,O] HT_.out ?_
      refine ta_ 3 23 #[I,I,I,I,O,O,O,O,O,O,O,O,O,O,O,O,O,O,O,O,O,O,O,O,O,O,O,O,O,O,O,O,O,O,O,O,O] HT_.out HW_.out hHeld ?_
      refine pu_ 5 25 #[I,I,I,I,O,I,O,O,O,O,O,O,O,O,O,O,O,O,O,O,O,O,O,O,O,O,O,O,O,O,O,O,O,O,O,O,O] HT_.out ?_
      refine pu_ 6 26 #[I,I,I,I,O,I,I,O,O,O,O,O,O,O,O,O,O,O,O,O,O,O,O,O,O,O,O,O,O,O,O,O,O,O,O,O,O] HT_.out ?_
      refine pu_ 7 27 #[I,I,I,I,O,I,I,I,O,O,O,O,O,O,O,O,O,O,O,O,O,O,O,O,O,O,O,O,O,O,O,O,O,O,O,O,O] HT_.out ?_
      refine pu_ 8 28 #[I,I,I,I,O,I,I,I,I,O,O,O,O,O,O,O,O,O,O,O,O,O,O,O,O,O,O,O,O,O,O,O,O,O,O,O,O] HT_.out ?_
      refine ta_ 9 29 #[I,I,I,I,O,I,I,I,I,I,O,O,O,O,O,O,O,O,O,O,O,O,O,O,O,O,O,O,O,O,O,O,O,O,O,O,O] HT_.out HW_.out hHeld ?_
      refine pu_ 10 30 #[I,I,I,I,O,I,I,I,I,I,I,O,O,O,O,O,O,O,O,O,O,O,O,O,O,O,O,O,O,O,O,O,O,O,O,O,O] HT_.out ?_
      refine pu_ 11 31 #[I,I,I,I,O,I,I,I,I,I,I,I,O,O,O,O,O,O,O,O,O,O,O,O,O,O,O,O,O,O,O,O,O,O,O,O,O] HT_.out ?_
      refine pu_ 12 32 #[I,I,I,I,O,I,I,I,I,I,I,I,I,O,O,O,O,O,O,O,O,O,O,O,O,O,O,O,O,O,O,O,O,O,O,O,O] HT_.out ?_
      refine pu_ 13 33 #[I,I,I,I,O,I,I,I,I,I,I,I,I,I,O,O,O,O,O,O,O,O,O,O,O,O,O,O,O,O,O,O,O,O,O,O,O] HT_.out ?_
      refine ta_ 14 34 #[I,I,I,I,O,I,I,I,I,I,I,I,I,I,I,O,O,O,O,O,O,O,O,O,O,O,O,O,O,O,O,O,O,O,O,O,O] HT_.out HW_.out hHeld ?_
      refine two_ (i:=4) (j:=15) (Ni:=some 24) (Nj:=some 35) #[I,I,I,I,I,I,I,I,I,I,I,I,I,I,I,O,O,O,O,O,O,O,O,O,O,O,O,O,O,O,O,O,O,O,O,O,O] #[I,I,I,I,O,I,I,I,I,I,I,I,I,I,I,I,O,O,O,O,O,O,O,O,O,O,O,O,O,O,O,O,O,O,O,O,O] rfl rfl rfl rfl (by kernel_rfl) (by decide) (by decide) (fun K hK => ?_) (fun K hK => ?_)
      · refine goes_ Try.func11 (by kernel_rfl) rfl #[.agg #[.string (rd_T27 l (j : Int)).f0, .float .f64 (rd_T27 l (j : Int)).f1, .float .f64 (rd_T27 l (j : Int)).f2]] (by rfl) rfl rfl (by (try simp only [List.map_toArray, List.map_cons, List.map_nil]); first | done | rfl) ?_
        refine (Score.calls (rd_T27 l (j : Int)).f0 (rd_T27 l (j : Int)).f1 (rd_T27 l (j : Int)).f2 _).mono ?_
        rintro e w1 ⟨q1, rfl, hq1, hb⟩
        refine ⟨_, rfl, hK.out _ _ (HD.out hb hHeld) (fun hHeld => ?_)⟩
        have HQ1 := Aside0.mk hq1
        have n0_ := Aside0.mk (Kd.R_below HM.out hb)
        have n1_ := Aside0.mk (below_step HB.out hb)
        clear HM HB hK K
        have HM := n0_
        have HB := n1_
        clear n0_ n1_
        clear hb hq1
        refine nm_ 24 ?_
        refine one_ (i:=15) (N:=some 35) #[I,I,I,I,I,I,I,I,I,I,I,I,I,I,I,I,O,O,O,O,O,O,O,O,O,O,O,O,O,O,O,O,O,O,O,O,O] rfl rfl (one_of HT_.out (by kernel_rfl)) (by decide) (fun K hK => ?_)
        refine quo_ (rd_T27 l (j : Int)).f1 (rd_T27 l (j : Int)).f2 (by rfl) rfl rfl (by rfl) (by rfl) (fun q2 w2 hq2 hd => hK.out _ _ (HD.out hd.below hHeld) (fun hHeld => ?_))
        have HQ2 := Aside0.mk hq2
        have n0_ := Aside0.mk (Kd.R_below HM.out hd.below)
        have n1_ := Aside0.mk (below_step HB.out hd.below)
        clear HM HB hK K
        have HM := n0_
        have HB := n1_
        clear n0_ n1_
        clear hd hq2
        refine nm_ 35 ?_
        refine one_ (i:=16) (N:=some 36) #[I,I,I,I,I,I,I,I,I,I,I,I,I,I,I,I,I,O,O,O,O,O,O,O,O,O,O,O,O,O,O,O,O,O,O,O,O] rfl rfl (one_of HT_.out (by kernel_rfl)) (by decide) (fun K hK => ?_)
        refine goes_ Try.func9 (by kernel_rfl) rfl #[.float .f64 q1, .float .f64 q2] (by rfl) rfl rfl (by (try simp only [List.map_toArray, List.map_cons, List.map_nil]); first | done | rfl) ?_
        refine (bosunlaw24_bits.same q1 q2 _).mono ?_
        rintro e w3 ⟨rfl, rfl⟩
        rw [quo_bits HQ1.out HQ2.out]
        refine ⟨_, rfl, hK.out _ _ hHeld (fun hHeld => ?_)⟩
        clear hK K
        refine nm_ 36 ?_
        refine pu_ 17 37 #[I,I,I,I,I,I,I,I,I,I,I,I,I,I,I,I,I,I,O,O,O,O,O,O,O,O,O,O,O,O,O,O,O,O,O,O,O] HT_.out ?_
        refine pu_ 18 38 #[I,I,I,I,I,I,I,I,I,I,I,I,I,I,I,I,I,I,I,O,O,O,O,O,O,O,O,O,O,O,O,O,O,O,O,O,O] HT_.out ?_
        refine pu_ 19 39 #[I,I,I,I,I,I,I,I,I,I,I,I,I,I,I,I,I,I,I,I,O,O,O,O,O,O,O,O,O,O,O,O,O,O,O,O,O] HT_.out ?_
        refine pu_ 20 40 #[I,I,I,I,I,I,I,I,I,I,I,I,I,I,I,I,I,I,I,I,I,O,O,O,O,O,O,O,O,O,O,O,O,O,O,O,O] HT_.out ?_
        refine pu_ 21 41 #[I,I,I,I,I,I,I,I,I,I,I,I,I,I,I,I,I,I,I,I,I,I,O,O,O,O,O,O,O,O,O,O,O,O,O,O,O] HT_.out ?_
        refine ta_ 22 42 #[I,I,I,I,I,I,I,I,I,I,I,I,I,I,I,I,I,I,I,I,I,I,I,O,O,O,O,O,O,O,O,O,O,O,O,O,O] HT_.out HW_.out hHeld ?_
        refine pu_ 23 43 #[I,I,I,I,I,I,I,I,I,I,I,I,I,I,I,I,I,I,I,I,I,I,I,I,O,O,O,O,O,O,O,O,O,O,O,O,O] HT_.out ?_
        refine pu_ 24 44 #[I,I,I,I,I,I,I,I,I,I,I,I,I,I,I,I,I,I,I,I,I,I,I,I,I,O,O,O,O,O,O,O,O,O,O,O,O] HT_.out ?_
        refine ta_ 25 45 #[I,I,I,I,I,I,I,I,I,I,I,I,I,I,I,I,I,I,I,I,I,I,I,I,I,I,O,O,O,O,O,O,O,O,O,O,O] HT_.out HW_.out hHeld ?_
        refine pu_ 27 47 #[I,I,I,I,I,I,I,I,I,I,I,I,I,I,I,I,I,I,I,I,I,I,I,I,I,I,O,I,O,O,O,O,O,O,O,O,O] HT_.out ?_
        refine pu_ 28 48 #[I,I,I,I,I,I,I,I,I,I,I,I,I,I,I,I,I,I,I,I,I,I,I,I,I,I,O,I,I,O,O,O,O,O,O,O,O] HT_.out ?_
        refine pu_ 29 49 #[I,I,I,I,I,I,I,I,I,I,I,I,I,I,I,I,I,I,I,I,I,I,I,I,I,I,O,I,I,I,O,O,O,O,O,O,O] HT_.out ?_
        refine ta_ 30 50 #[I,I,I,I,I,I,I,I,I,I,I,I,I,I,I,I,I,I,I,I,I,I,I,I,I,I,O,I,I,I,I,O,O,O,O,O,O] HT_.out HW_.out hHeld ?_
        refine pu_ 31 51 #[I,I,I,I,I,I,I,I,I,I,I,I,I,I,I,I,I,I,I,I,I,I,I,I,I,I,O,I,I,I,I,I,O,O,O,O,O] HT_.out ?_
        refine pu_ 32 52 #[I,I,I,I,I,I,I,I,I,I,I,I,I,I,I,I,I,I,I,I,I,I,I,I,I,I,O,I,I,I,I,I,I,O,O,O,O] HT_.out ?_
        refine ta_ 33 53 #[I,I,I,I,I,I,I,I,I,I,I,I,I,I,I,I,I,I,I,I,I,I,I,I,I,I,O,I,I,I,I,I,I,I,O,O,O] HT_.out HW_.out hHeld ?_
        refine one_ (i:=26) (N:=some 46) #[I,I,I,I,I,I,I,I,I,I,I,I,I,I,I,I,I,I,I,I,I,I,I,I,I,I,I,I,I,I,I,I,I,I,O,O,O] rfl rfl (one_of HT_.out (by kernel_rfl)) (by decide) (fun K hK => ?_)
        refine goes_ Try.func8 (by kernel_rfl) rfl #[.agg #[.string (rd_T27 l (j : Int)).f0, .float .f64 (rd_T27 l (j : Int)).f1, .float .f64 (rd_T27 l (j : Int)).f2], .agg #[.string (rd_T27 l 0).f0, .float .f64 (rd_T27 l 0).f1, .float .f64 (rd_T27 l 0).f2]] (by rfl) rfl rfl (by (try simp only [List.map_toArray, List.map_cons, List.map_nil]); first | done | rfl) ?_
        refine (evict_Ahead.calls (rd_T27 l (j : Int)).f0 (rd_T27 l (j : Int)).f1 (rd_T27 l (j : Int)).f2 (rd_T27 l 0).f0 (rd_T27 l 0).f1 (rd_T27 l 0).f2 _ _ rfl).mono ?_
        rintro e w4 ⟨rfl, hb⟩
        refine ⟨_, rfl, hK.out _ _ (HD.out hb hHeld) (fun hHeld => ?_)⟩
        have n0_ := Aside0.mk (Kd.R_below HM.out hb)
        have n1_ := Aside0.mk (below_step HB.out hb)
        clear HM HB hK K
        have HM := n0_
        have HB := n1_
        clear n0_ n1_
        clear hb
        refine nm_ 46 ?_
        refine one_ (i:=34) (N:=some 54) #[I,I,I,I,I,I,I,I,I,I,I,I,I,I,I,I,I,I,I,I,I,I,I,I,I,I,I,I,I,I,I,I,I,I,I,O,O] rfl rfl (one_of HT_.out (by kernel_rfl)) (by decide) (fun K hK => ?_)
        refine goes_ Try.func12 (by kernel_rfl) rfl #[.agg #[.string (rd_T27 l (j : Int)).f0, .float .f64 (rd_T27 l (j : Int)).f1, .float .f64 (rd_T27 l (j : Int)).f2], .agg #[.string (rd_T27 l 0).f0, .float .f64 (rd_T27 l 0).f1, .float .f64 (rd_T27 l 0).f2]] (by rfl) rfl rfl (by (try simp only [List.map_toArray, List.map_cons, List.map_nil]); first | done | rfl) ?_
        refine (bosunref24_Ahead.calls (rd_T27 l (j : Int)).f0 (rd_T27 l (j : Int)).f1 (rd_T27 l (j : Int)).f2 (rd_T27 l 0).f0 (rd_T27 l 0).f1 (rd_T27 l 0).f2 _ _ rfl).mono ?_
        rintro e w5 ⟨rfl, hb⟩
        refine ⟨_, rfl, hK.out _ _ (HD.out hb hHeld) (fun hHeld => ?_)⟩
        have n0_ := Aside0.mk (Kd.R_below HM.out hb)
        have n1_ := Aside0.mk (below_step HB.out hb)
        clear HM HB hK K
        have HM := n0_
        have HB := n1_
        clear n0_ n1_
        clear hb
        refine nm_ 54 ?_
        refine pu_ 35 55 #[I,I,I,I,I,I,I,I,I,I,I,I,I,I,I,I,I,I,I,I,I,I,I,I,I,I,I,I,I,I,I,I,I,I,I,I,O] HT_.out ?_
        refine pu_ 36 56 #[I,I,I,I,I,I,I,I,I,I,I,I,I,I,I,I,I,I,I,I,I,I,I,I,I,I,I,I,I,I,I,I,I,I,I,I,I] HT_.out ?_
        refine done_ (done_of HT_.out (by kernel_rfl)) ?_
        clear HT_ HW_ hHeld HD
        cases gk with
        | zero => omega
        | succ k1 =>
          try go_wp2
          go_roundg k1
          case measure => omega
          case rel => exact ⟨j + 1, by go_num, ⟨by omega⟩, HM, HB⟩
      · refine quo_ (rd_T27 l (j : Int)).f1 (rd_T27 l (j : Int)).f2 (by rfl) rfl rfl (by rfl) (by rfl) (fun q2 w1 hq2 hd => hK.out _ _ (HD.out hd.below hHeld) (fun hHeld => ?_))
        have HQ2 := Aside0.mk hq2
        have n0_ := Aside0.mk (Kd.R_below HM.out hd.below)
        have n1_ := Aside0.mk (below_step HB.out hd.below)
        clear HM HB hK K
        have HM := n0_
        have HB := n1_
        clear n0_ n1_
        clear hd hq2
        refine nm_ 35 ?_
        refine one_ (i:=4) (N:=some 24) #[I,I,I,I,I,I,I,I,I,I,I,I,I,I,I,I,O,O,O,O,O,O,O,O,O,O,O,O,O,O,O,O,O,O,O,O,O] rfl rfl (one_of HT_.out (by kernel_rfl)) (by decide) (fun K hK => ?_)
        refine goes_ Try.func11 (by kernel_rfl) rfl #[.agg #[.string (rd_T27 l (j : Int)).f0, .float .f64 (rd_T27 l (j : Int)).f1, .float .f64 (rd_T27 l (j : Int)).f2]] (by rfl) rfl rfl (by (try simp only [List.map_toArray, List.map_cons, List.map_nil]); first | done | rfl) ?_
        refine (Score.calls (rd_T27 l (j : Int)).f0 (rd_T27 l (j : Int)).f1 (rd_T27 l (j : Int)).f2 _).mono ?_
        rintro e w2 ⟨q1, rfl, hq1, hb⟩
        refine ⟨_, rfl, hK.out _ _ (HD.out hb hHeld) (fun hHeld => ?_)⟩
        have HQ1 := Aside0.mk hq1
        have n0_ := Aside0.mk (Kd.R_below HM.out hb)
        have n1_ := Aside0.mk (below_step HB.out hb)
        clear HM HB hK K
        have HM := n0_
        have HB := n1_
        clear n0_ n1_
        clear hb hq1
        refine nm_ 24 ?_
        refine one_ (i:=16) (N:=some 36) #[I,I,I,I,I,I,I,I,I,I,I,I,I,I,I,I,I,O,O,O,O,O,O,O,O,O,O,O,O,O,O,O,O,O,O,O,O] rfl rfl (one_of HT_.out (by kernel_rfl)) (by decide) (fun K hK => ?_)
        refine goes_ Try.func9 (by kernel_rfl) rfl #[.float .f64 q1, .float .f64 q2] (by rfl) rfl rfl (by (try simp only [List.map_toArray, List.map_cons, List.map_nil]); first | done | rfl) ?_
        refine (bosunlaw24_bits.same q1 q2 _).mono ?_
        rintro e w3 ⟨rfl, rfl⟩
        rw [quo_bits HQ1.out HQ2.out]
        refine ⟨_, rfl, hK.out _ _ hHeld (fun hHeld => ?_)⟩
        clear hK K
        refine nm_ 36 ?_
        refine pu_ 17 37 #[I,I,I,I,I,I,I,I,I,I,I,I,I,I,I,I,I,I,O,O,O,O,O,O,O,O,O,O,O,O,O,O,O,O,O,O,O] HT_.out ?_
        refine pu_ 18 38 #[I,I,I,I,I,I,I,I,I,I,I,I,I,I,I,I,I,I,I,O,O,O,O,O,O,O,O,O,O,O,O,O,O,O,O,O,O] HT_.out ?_
        refine pu_ 19 39 #[I,I,I,I,I,I,I,I,I,I,I,I,I,I,I,I,I,I,I,I,O,O,O,O,O,O,O,O,O,O,O,O,O,O,O,O,O] HT_.out ?_
        refine pu_ 20 40 #[I,I,I,I,I,I,I,I,I,I,I,I,I,I,I,I,I,I,I,I,I,O,O,O,O,O,O,O,O,O,O,O,O,O,O,O,O] HT_.out ?_
        refine pu_ 21 41 #[I,I,I,I,I,I,I,I,I,I,I,I,I,I,I,I,I,I,I,I,I,I,O,O,O,O,O,O,O,O,O,O,O,O,O,O,O] HT_.out ?_
        refine ta_ 22 42 #[I,I,I,I,I,I,I,I,I,I,I,I,I,I,I,I,I,I,I,I,I,I,I,O,O,O,O,O,O,O,O,O,O,O,O,O,O] HT_.out HW_.out hHeld ?_
        refine pu_ 23 43 #[I,I,I,I,I,I,I,I,I,I,I,I,I,I,I,I,I,I,I,I,I,I,I,I,O,O,O,O,O,O,O,O,O,O,O,O,O] HT_.out ?_
        refine pu_ 24 44 #[I,I,I,I,I,I,I,I,I,I,I,I,I,I,I,I,I,I,I,I,I,I,I,I,I,O,O,O,O,O,O,O,O,O,O,O,O] HT_.out ?_
        refine ta_ 25 45 #[I,I,I,I,I,I,I,I,I,I,I,I,I,I,I,I,I,I,I,I,I,I,I,I,I,I,O,O,O,O,O,O,O,O,O,O,O] HT_.out HW_.out hHeld ?_
        refine pu_ 27 47 #[I,I,I,I,I,I,I,I,I,I,I,I,I,I,I,I,I,I,I,I,I,I,I,I,I,I,O,I,O,O,O,O,O,O,O,O,O] HT_.out ?_
        refine pu_ 28 48 #[I,I,I,I,I,I,I,I,I,I,I,I,I,I,I,I,I,I,I,I,I,I,I,I,I,I,O,I,I,O,O,O,O,O,O,O,O] HT_.out ?_
        refine pu_ 29 49 #[I,I,I,I,I,I,I,I,I,I,I,I,I,I,I,I,I,I,I,I,I,I,I,I,I,I,O,I,I,I,O,O,O,O,O,O,O] HT_.out ?_
        refine ta_ 30 50 #[I,I,I,I,I,I,I,I,I,I,I,I,I,I,I,I,I,I,I,I,I,I,I,I,I,I,O,I,I,I,I,O,O,O,O,O,O] HT_.out HW_.out hHeld ?_
        refine pu_ 31 51 #[I,I,I,I,I,I,I,I,I,I,I,I,I,I,I,I,I,I,I,I,I,I,I,I,I,I,O,I,I,I,I,I,O,O,O,O,O] HT_.out ?_
        refine pu_ 32 52 #[I,I,I,I,I,I,I,I,I,I,I,I,I,I,I,I,I,I,I,I,I,I,I,I,I,I,O,I,I,I,I,I,I,O,O,O,O] HT_.out ?_
        refine ta_ 33 53 #[I,I,I,I,I,I,I,I,I,I,I,I,I,I,I,I,I,I,I,I,I,I,I,I,I,I,O,I,I,I,I,I,I,I,O,O,O] HT_.out HW_.out hHeld ?_
        refine one_ (i:=26) (N:=some 46) #[I,I,I,I,I,I,I,I,I,I,I,I,I,I,I,I,I,I,I,I,I,I,I,I,I,I,I,I,I,I,I,I,I,I,O,O,O] rfl rfl (one_of HT_.out (by kernel_rfl)) (by decide) (fun K hK => ?_)
        refine goes_ Try.func8 (by kernel_rfl) rfl #[.agg #[.string (rd_T27 l (j : Int)).f0, .float .f64 (rd_T27 l (j : Int)).f1, .float .f64 (rd_T27 l (j : Int)).f2], .agg #[.string (rd_T27 l 0).f0, .float .f64 (rd_T27 l 0).f1, .float .f64 (rd_T27 l 0).f2]] (by rfl) rfl rfl (by (try simp only [List.map_toArray, List.map_cons, List.map_nil]); first | done | rfl) ?_
        refine (evict_Ahead.calls (rd_T27 l (j : Int)).f0 (rd_T27 l (j : Int)).f1 (rd_T27 l (j : Int)).f2 (rd_T27 l 0).f0 (rd_T27 l 0).f1 (rd_T27 l 0).f2 _ _ rfl).mono ?_
        rintro e w4 ⟨rfl, hb⟩
        refine ⟨_, rfl, hK.out _ _ (HD.out hb hHeld) (fun hHeld => ?_)⟩
        have n0_ := Aside0.mk (Kd.R_below HM.out hb)
        have n1_ := Aside0.mk (below_step HB.out hb)
        clear HM HB hK K
        have HM := n0_
        have HB := n1_
        clear n0_ n1_
        clear hb
        refine nm_ 46 ?_
        refine one_ (i:=34) (N:=some 54) #[I,I,I,I,I,I,I,I,I,I,I,I,I,I,I,I,I,I,I,I,I,I,I,I,I,I,I,I,I,I,I,I,I,I,I,O,O] rfl rfl (one_of HT_.out (by kernel_rfl)) (by decide) (fun K hK => ?_)
        refine goes_ Try.func12 (by kernel_rfl) rfl #[.agg #[.string (rd_T27 l (j : Int)).f0, .float .f64 (rd_T27 l (j : Int)).f1, .float .f64 (rd_T27 l (j : Int)).f2], .agg #[.string (rd_T27 l 0).f0, .float .f64 (rd_T27 l 0).f1, .float .f64 (rd_T27 l 0).f2]] (by rfl) rfl rfl (by (try simp only [List.map_toArray, List.map_cons, List.map_nil]); first | done | rfl) ?_
        refine (bosunref24_Ahead.calls (rd_T27 l (j : Int)).f0 (rd_T27 l (j : Int)).f1 (rd_T27 l (j : Int)).f2 (rd_T27 l 0).f0 (rd_T27 l 0).f1 (rd_T27 l 0).f2 _ _ rfl).mono ?_
        rintro e w5 ⟨rfl, hb⟩
        refine ⟨_, rfl, hK.out _ _ (HD.out hb hHeld) (fun hHeld => ?_)⟩
        have n0_ := Aside0.mk (Kd.R_below HM.out hb)
        have n1_ := Aside0.mk (below_step HB.out hb)
        clear HM HB hK K
        have HM := n0_
        have HB := n1_
        clear n0_ n1_
        clear hb
        refine nm_ 54 ?_
        refine pu_ 35 55 #[I,I,I,I,I,I,I,I,I,I,I,I,I,I,I,I,I,I,I,I,I,I,I,I,I,I,I,I,I,I,I,I,I,I,I,I,O] HT_.out ?_
        refine pu_ 36 56 #[I,I,I,I,I,I,I,I,I,I,I,I,I,I,I,I,I,I,I,I,I,I,I,I,I,I,I,I,I,I,I,I,I,I,I,I,I] HT_.out ?_
        refine done_ (done_of HT_.out (by kernel_rfl)) ?_
        clear HT_ HW_ hHeld HD
        cases gk with
        | zero => omega
        | succ k1 =>
          try go_wp2
          go_roundg k1
          case measure => omega
          case rel => exact ⟨j + 1, by go_num, ⟨by omega⟩, HM, HB⟩
    · have hjn : ¬ ((j : Int) < (l.length : Int)) := by omega
      go_wp2_with (first
        | (go_at_call 5; refine (awake_of _).mono ?_; rintro e w6 ⟨rfl, hb⟩; have n0_ := Aside0.mk (Kd.R_below HM.out hb); have n1_ := Aside0.mk (below_step HB.out hb); clear HM HB; have HM := n0_; have HB := n1_; clear n0_ n1_; clear hb)
        | (go_at_call 6; refine (evict_First.calls A0 c0 l k r1 _ (Kd.C_below HR0.out HB.out) HC0.out (by omega) H1.out).mono ?_; rintro e w7 ⟨v, rfl, hr, hb⟩; obtain ⟨A1_, c1_, e⟩ := Kd.R_slice hr; subst e; have X1 : Aside0 (Txt _ A1_ c1_ _) := ⟨(Kd.R_reads' hr).2⟩; have n0_ := Aside0.mk (Kd.R_below HM.out hb); have n1_ := Aside0.mk (below_step HB.out hb); clear HM HB; have HM := n0_; have HB := n1_; clear n0_ n1_; clear hb hr)
        | (go_at_call 13; refine (rfirst_at HM.out H2.out).mono ?_; rintro e w7 ⟨v, rfl, hr, hb⟩; obtain ⟨A1_, c1_, e⟩ := Kd.R_slice hr; subst e; have X2 : Aside0 (Txt _ A1_ c1_ _) := ⟨(Kd.R_reads' hr).2⟩; have n2_ := Aside0.mk (X1.out.below hb); clear X1; have X1 := n2_; clear n2_; have n0_ := Aside0.mk (Kd.R_below HM.out hb); have n1_ := Aside0.mk (below_step HB.out hb); clear HM HB; have HM := n0_; have HB := n1_; clear n0_ n1_; clear hb hr)
        | (go_at_call 7; refine (texts_at X1.out X2.out H5.out).mono ?_; rintro e w8 ⟨rfl, hb⟩; have n0_ := Aside0.mk (Kd.R_below HM.out hb); have n1_ := Aside0.mk (below_step HB.out hb); clear HM HB; have HM := n0_; have HB := n1_; clear n0_ n1_; clear hb X1 X2)
        | (go_at_call 14; refine (evict_Until.calls A0 c0 l need r2 _ (Kd.C_below HR0.out HB.out) HC0.out (by omega) H3.out).mono ?_; rintro e w7 ⟨v, rfl, hr, hb⟩; obtain ⟨A1_, c1_, e⟩ := Kd.R_slice hr; subst e; have X3 : Aside0 (Txt _ A1_ c1_ _) := ⟨(Kd.R_reads' hr).2⟩; have n0_ := Aside0.mk (Kd.R_below HM.out hb); have n1_ := Aside0.mk (below_step HB.out hb); clear HM HB; have HM := n0_; have HB := n1_; clear n0_ n1_; clear hb hr)
        | (go_at_call 15; refine (runtil_at HM.out H4.out).mono ?_; rintro e w7 ⟨v, rfl, hr, hb⟩; obtain ⟨A1_, c1_, e⟩ := Kd.R_slice hr; subst e; have X4 : Aside0 (Txt _ A1_ c1_ _) := ⟨(Kd.R_reads' hr).2⟩; have n2_ := Aside0.mk (X3.out.below hb); clear X3; have X3 := n2_; clear n2_; have n0_ := Aside0.mk (Kd.R_below HM.out hb); have n1_ := Aside0.mk (below_step HB.out hb); clear HM HB; have HM := n0_; have HB := n1_; clear n0_ n1_; clear hb hr)
        | (go_at_call 7; refine (texts_at X3.out X4.out H6.out).mono ?_; rintro e w8 ⟨rfl, hb⟩; have n0_ := Aside0.mk (Kd.R_below HM.out hb); have n1_ := Aside0.mk (below_step HB.out hb); clear HM HB; have HM := n0_; have HB := n1_; clear n0_ n1_; clear hb X3 X4))
      go_ret
      exact ⟨rfl, HB.out⟩
end Go.Proofs.Ythnbkhggbfnpcaa.GEv
