/- bosunlaw24.EvictStands: the walk. No conditions beside those stated. -/
import Derived.Test.YthnbkhggbfnpcaaEvAwake
import Derived.Test.YthnbkhggbfnpcaaEvBits
import Derived.Test.YthnbkhggbfnpcaaGEvx1
import Derived.Test.YthnbkhggbfnpcaaEvMp
namespace Go.Proofs.Ythnbkhggbfnpcaa.GEv
open Go.RowKit Go.Maps Go.WideMaps Go.Proofs.YthnbkhggbfnpcaaW.PrintWords Go.Proofs.YthnbkhggbfnpcaaW.PrintLast Go.Proofs.YthnbkhggbfnpcaaW.PrintMore Go.Proofs.Ythnbkhggbfnpcaa.Ev
set_option linter.unusedVariables false
set_option linter.unusedSimpArgs false
attribute [local go_sem] max2_int min2_int max_two min_two   -- for this text's walks alone
def bosunlaw24_EvictStands.T23 : Bool × List (List Nat × List Nat) := (true, [([], []), ([0], [0]), ([1], [1]), ([2], [2]), ([2], [2]), ([3, 4, 2], [2, 3, 4]), ([5, 2], [2, 5]), ([2, 6], [2, 6]), ([7, 2], [7]), ([8], [8]), ([9, 8], [8, 9]), ([10, 8, 8], [8, 10]), ([11], [11]), ([11], [11]), ([11], [11]), ([11], [11]), ([15, 11], [11, 15]), ([14, 16, 11], [11, 14, 16]), ([17, 11], [11, 17]), ([13, 18, 11], [11, 13, 18]), ([12, 19, 11, 11], [11, 12, 19]), ([11, 20, 8], [8, 11, 20]), ([8, 21], [8, 21])])
def bosunlaw24_EvictStands.B23 : List Nat := [0, 1, 3, 7, 7, 31, 63, 127, 255, 511, 1023, 2047, 4095, 4095, 4095, 4095, 36863, 118783, 249855, 520191, 1048575, 2097151, 4194303]
theorem bosunlaw24_EvictStands.tab23 : rtab .any (opsOf Try.f3 23) = bosunlaw24_EvictStands.T23 := by kernel_rfl
theorem bosunlaw24_EvictStands.bits23 : waitsOk bosunlaw24_EvictStands.T23.2 bosunlaw24_EvictStands.B23 = true := by kernel_rfl
def bosunlaw24_EvictStands.T29 : Bool × List (List Nat × List Nat) := (true, [([], []), ([], []), ([0, 1], [0, 1]), ([2], [2]), ([3], [3]), ([], []), ([], []), ([5, 6], [5, 6]), ([7], [7]), ([8], [8]), ([4, 9], [4, 9]), ([10], [10]), ([11], [11]), ([11], [11]), ([12, 13, 11], [11, 12, 13]), ([14, 11], [11, 14]), ([15, 11], [11, 15]), ([11], [11]), ([11], [11]), ([17, 18, 11], [11, 17, 18]), ([19, 11], [11, 19]), ([20, 11], [11, 20]), ([16, 21, 11, 11], [11, 16, 21]), ([22, 11], [11, 22]), ([11, 23], [11, 23]), ([24, 22], [24]), ([25], [25]), ([25], [25]), ([26, 27, 25], [25, 26, 27]), ([28, 25], [25, 28]), ([29, 25], [25, 29]), ([25], [25]), ([25], [25]), ([31, 32, 25], [25, 31, 32]), ([33, 25], [25, 33]), ([34, 25], [25, 34]), ([30, 35, 25, 25], [25, 30, 35]), ([36, 25], [25, 36]), ([25, 37], [25, 37])])
def bosunlaw24_EvictStands.B29 : List Nat := [0, 0, 3, 7, 15, 0, 0, 96, 224, 480, 1023, 2047, 4095, 4095, 16383, 32767, 65535, 4095, 4095, 397311, 921599, 1970175, 4194303, 8388607, 16777215, 33554431, 67108863, 67108863, 268435455, 536870911, 1073741823, 67108863, 67108863, 6509559807, 15099494399, 32279363583, 68719476735, 137438953471, 274877906943]
theorem bosunlaw24_EvictStands.tab29 : rtab .any (opsOf Try.f3 29) = bosunlaw24_EvictStands.T29 := by kernel_rfl
theorem bosunlaw24_EvictStands.bits29 : waitsOk bosunlaw24_EvictStands.T29.2 bosunlaw24_EvictStands.B29 = true := by kernel_rfl
theorem info27 : (Try.prog.info? 27).map (fun i => (i.zero, i.size, i.bytes)) = some (some (.agg #[.string ⟨#[]⟩, .float .f64 0, .float .f64 0]), 3, 32) := by kernel_rfl
theorem R_map {α : Type} {d : Kd α} {e base b : Nat} {W W' : World} {v : Value} {xs : List α} (h : Kd.R d e W base (fun _ => True) v xs) (hm : ∃ es c, W.heap[b]? = some (.map es c)) (hg : W.grownBy W' (some b)) : Kd.R d e W' base (fun _ => True) v xs :=
  Kd.R_mono (Kd.R_move (Kd.R_bound h) (fun k hk => hg.block k hk.2.2.1 (fun q => by
    obtain ⟨es, c, hm⟩ := hm
    obtain ⟨_, _, _, q', _, cells, hc⟩ := hk
    injection q with q
    subst q
    rw [hm] at hc
    cases hc))) (fun _ _ => trivial)
def Txt (W : World) (A : Option Addr) (c : Nat) (r : List ByteArray) : Prop := r.length ≤ c ∧ Kd.C Kd.string W A r.length r
theorem Txt.below {W W1 : World} {A : Option Addr} {c : Nat} {r : List ByteArray} (h : Txt W A c r) (hb : Below W.heap.size W W1) : Txt W1 A c r := ⟨h.1, Kd.C_below h.2 hb⟩
theorem texts_at {K : Nat} {A B : Option Addr} {c d : Nat} {r : List ByteArray} {W : World} (h1 : Txt W A c r) (h2 : Txt W B d r) (h : bosunlaw24_texts.f K r r = some true) : Calls Try.prog 7 #[.slice A r.length c, .slice B r.length d] W fun e w' => e = .returned (.bool true) ∧ Below W.heap.size W w' :=
  (bosunlaw24_texts.calls K A c r B d r true W h1.2 h1.1 h2.2 h2.1 h).mono fun _ _ q => ⟨q.1, q.2.below⟩
theorem awake_at (w : World) : Calls Try.prog 5 #[] w fun e w' => e = .returned (.bool true) ∧ Below w.heap.size w w' := bosunlaw24_Awake.calls w
theorem take_snoc_ (l : List S27) (j : Nat) (h : j < l.length) : l.take (j + 1) = l.take j ++ [rd_T27 l (j : Int)] := by
  rw [List.take_succ_eq_append_getElem h]
  simp [rd_T27, List.getD, h]
theorem rd_mem (l : List S27) (j : Nat) (h : j < l.length) : rd_T27 l (j : Int) ∈ l := by
  simp [rd_T27, List.getD, h]
theorem load_eta (x : S27) : (.agg #[.string x.f0, .float .f64 x.f1, .float .f64 x.f2] : Value) = loadV x := rfl
set_option maxHeartbeats 16000000 in
set_option maxRecDepth 100000 in
theorem bosunlaw24_EvictStands.many (A0 : Option Addr) (c0 : Nat) (l : List S27) (k : Int) (w : World) (hlen : ¬ l.length ≤ 40) : Calls Try.prog 3 #[.slice A0 l.length c0, .int .u8 k] w fun e w' => e = .returned (.bool true) ∧ Below w.heap.size w w' := by
  have h : (40 : Int) < (l.length : Int) := by omega
  go_enter Try.func3, Try.ntmps3
  go_wp2_with (go_at_call 5; refine (awake_at _).mono ?_; rintro e w2 ⟨rfl, hb⟩; have HB := Aside0.mk hb; clear hb)
  go_ret
  exact ⟨rfl, HB.out⟩
set_option maxHeartbeats 16000000 in
set_option maxRecDepth 100000 in
theorem bosunlaw24_EvictStands.few (K : Nat) (A0 : Option Addr) (c0 : Nat) (l : List S27) (k : Int) (all : List ByteArray) (w : World) (hr0 : Kd.C k27 w A0 l.length l) (hc0 : l.length ≤ c0) (hlen : l.length ≤ 40) (hk0 : 0 ≤ k) (hk1 : k ≤ 255) (hsz : ∀ x ∈ l, x.f0.size ≤ 140737488351232)
    (hall : evict_First.f l (l.length : Int) = some all) (sm : List ByteArray) (hsm : sm = all.take k.toNat) (hsome : evict_First.f l k = some sm) (hal : all.length = l.length) (htx : bosunlaw24_texts.f K sm sm = some true)
    (hnd : (l.map (·.f0)).Nodup → all.Nodup ∧ ∀ i : Nat, i < all.length → ∃ x ∈ l, rdOf ByteArray.empty all (i : Int) = x.f0 ∧ ∀ y ∈ l, (0 < i → rdOf ByteArray.empty all ((i : Int) - 1) = y.f0 → aheadB x.f0 x.f1 x.f2 y.f0 y.f1 y.f2 = false)) :
    Calls Try.prog 3 #[.slice A0 l.length c0, .int .u8 k] w fun e w' => e = .returned (.bool true) ∧ Below w.heap.size w w' := by
  have hu27 := Try.underlying27
  have hmm := @run_makeMap Try.prog
  have HR0 := Aside0.mk hr0
  have HC0 := Aside0.mk hc0
  have HSZ := Aside0.mk hsz
  have HALL := Aside0.mk hall
  have HSOME := Aside0.mk hsome
  have HAL := Aside0.mk hal
  have HSM := Aside0.mk hsm
  have HTX := Aside0.mk htx
  have HND := Aside0.mk hnd
  have hn40 : ¬ ((40 : Int) < (l.length : Int)) := by omega
  clear hr0 hc0 hsz hall hsome hal htx hnd hsm
  go_enter Try.func3, Try.ntmps3
  go_wp2
  go_loopg [26] l.length (fun kq v26 W => ∃ (j : Nat) (N : ByteArray → Option S27), v26 = .int .i64 j ∧ Aside0 (kq + j = l.length) ∧ Aside0 (NM W w.heap.size j N) ∧ Aside0 (Named N (l.take j)) ∧ Aside0 (Below w.heap.size w W))
  case atStart => exact ⟨0, _, rfl, ⟨rfl⟩, ⟨NM.made w⟩, ⟨Named.nil⟩, ⟨below_alloc (Below.refl _ _) _⟩⟩
  case round =>
    obtain ⟨j, N, rfl, HG, HN, HNA, HB⟩ := hrel
    have hg := HG.out
    by_cases hlt : j < l.length
    · have hj0 : (0 : Int) ≤ j := by omega
      have hjl : (j : Int) < (l.length : Int) := by omega
      obtain ⟨ad, e, x0, x1, x2⟩ := at_T27 (Kd.C_below HR0.out HB.out) (j : Int) hj0 hjl
      cases e
      rw [Int.toNat_natCast] at x0 x1 x2
      have HXS := Aside0.mk (HSZ.out _ (rd_mem l j hlt))
      by_cases hm : ∃ x ∈ l.take j, x.f0 = (rd_T27 l (j : Int)).f0
      · obtain ⟨y, hy, hyx⟩ := hm
        have HY := Aside0.mk (HNA.out.hit y hy)
        rw [hyx] at HY
        have HYX := Aside0.mk hyx
        clear hy hyx
        go_wp2_with (first
          | ((with_reducible refine gate_dst (N:=7) rfl ?_); refine box_event ?hg (N:=7) ?hd (cs:=#[.string (⟨#[]⟩ : ByteArray), .float .f64 0, .float .f64 0]) (t:=27) ?hr ?_; (case hd => rfl); (case hg => rfl); (case hr => first | (go_simp; done) | (go_simp; rfl)); intro gb hgb w6 hbox hb; have BK7 := Aside0.mk hbox; have HB6 := Aside0.mk hb; have GE7 := Aside0.mk hgb; clear hbox hb hgb; have hcz7_0 : w6.cell? ⟨gb, 0, none⟩ = some (.string (⟨#[]⟩ : ByteArray)) := (blk_cell BK7.out 0).trans rfl; have hfz7_0 := blk_frozen BK7.out 0; have hcz7_1 : w6.cell? ⟨gb, 1, none⟩ = some (.float .f64 0) := (blk_cell BK7.out 1).trans rfl; have hfz7_1 := blk_frozen BK7.out 1; have hcz7_2 : w6.cell? ⟨gb, 2, none⟩ = some (.float .f64 0) := (blk_cell BK7.out 2).trans rfl; have hfz7_2 := blk_frozen BK7.out 2)
          | (at_lookup; have hge : _ ≤ gb := Nat.le_of_eq GE7.out.symm; refine look_ rfl _ _ 24 true rfl w.heap.size rfl _ _ rfl (NM.hit (HN.out.below (below_set (j:=2) (v:=.float .f64 (rd_T27 l (j : Int)).f2) (below_set (j:=1) (v:=.float .f64 (rd_T27 l (j : Int)).f1) (below_set (j:=0) (v:=.string (rd_T27 l (j : Int)).f0) HB6.out hge) hge) hge)) HXS.out HY.out) ?_; unfold loadV)
          | ((with_reducible refine gate_dst (N:=8) rfl ?_); refine box_event ?hg (N:=8) ?hd (cs:=#[.string (⟨#[]⟩ : ByteArray), .float .f64 0, .float .f64 0]) (t:=27) ?hr ?_; (case hd => rfl); (case hg => rfl); (case hr => first | (go_simp; done) | (go_simp; rfl)); intro g8 hgb w8 hbox hb; have BK8 := Aside0.mk hbox; have HB8 := Aside0.mk hb; have GE8 := Aside0.mk hgb; clear hbox hb hgb; have hcz8_0 : w8.cell? ⟨g8, 0, none⟩ = some (.string (⟨#[]⟩ : ByteArray)) := (blk_cell BK8.out 0).trans rfl; have hfz8_0 := blk_frozen BK8.out 0; have hcz8_1 : w8.cell? ⟨g8, 1, none⟩ = some (.float .f64 0) := (blk_cell BK8.out 1).trans rfl; have hfz8_1 := blk_frozen BK8.out 1; have hcz8_2 : w8.cell? ⟨g8, 2, none⟩ = some (.float .f64 0) := (blk_cell BK8.out 2).trans rfl; have hfz8_2 := blk_frozen BK8.out 2)
          | (go_at_call 5; have hge : _ ≤ gb := Nat.le_of_eq GE7.out.symm; have hge8 : _ ≤ g8 := Nat.le_of_eq GE8.out.symm; refine (awake_at _).mono ?_; rintro e w9 ⟨rfl, hb⟩; have HB9 := Aside0.mk (below_step (below_step (below_step HB.out (below_set (j:=2) (v:=.float .f64 (rd_T27 l (j : Int)).f2) (below_set (j:=1) (v:=.float .f64 (rd_T27 l (j : Int)).f1) (below_set (j:=0) (v:=.string (rd_T27 l (j : Int)).f0) HB6.out hge) hge) hge)) (below_set (j:=2) (v:=.float .f64 y.f2) (below_set (j:=1) (v:=.float .f64 y.f1) (below_set (j:=0) (v:=.string y.f0) HB8.out hge8) hge8) hge8)) hb); clear hb))
        go_ret
        exact ⟨rfl, HB9.out⟩
      · have HNO := Aside0.mk (HNA.out.miss (rd_T27 l (j : Int)).f0 (fun x hx e => hm ⟨x, hx, e⟩))
        have HNX := Aside0.mk (HNA.out.snoc (rd_T27 l (j : Int)) (fun x hx e => hm ⟨x, hx, e⟩))
        rw [← take_snoc_ l j hlt] at HNX
        have hj40 : j ≤ 1000 := by omega
        have hs0 := HB.out.size
        clear hm
        go_wp2_with (first
          | ((with_reducible refine gate_dst (N:=7) rfl ?_); refine box_event ?hg (N:=7) ?hd (cs:=#[.string (⟨#[]⟩ : ByteArray), .float .f64 0, .float .f64 0]) (t:=27) ?hr ?_; (case hd => rfl); (case hg => rfl); (case hr => first | (go_simp; done) | (go_simp; rfl)); intro gb hgb w6 hbox hb; have BK7 := Aside0.mk hbox; have HB6 := Aside0.mk hb; have GE7 := Aside0.mk hgb; clear hbox hb hgb; have hcz7_0 : w6.cell? ⟨gb, 0, none⟩ = some (.string (⟨#[]⟩ : ByteArray)) := (blk_cell BK7.out 0).trans rfl; have hfz7_0 := blk_frozen BK7.out 0; have hcz7_1 : w6.cell? ⟨gb, 1, none⟩ = some (.float .f64 0) := (blk_cell BK7.out 1).trans rfl; have hfz7_1 := blk_frozen BK7.out 1; have hcz7_2 : w6.cell? ⟨gb, 2, none⟩ = some (.float .f64 0) := (blk_cell BK7.out 2).trans rfl; have hfz7_2 := blk_frozen BK7.out 2)
          | (at_lookup; have hge : _ ≤ gb := Nat.le_of_eq GE7.out.symm; refine look_ rfl _ _ 24 true rfl w.heap.size rfl _ _ rfl (NM.miss (HN.out.below (below_set (j:=2) (v:=.float .f64 (rd_T27 l (j : Int)).f2) (below_set (j:=1) (v:=.float .f64 (rd_T27 l (j : Int)).f1) (below_set (j:=0) (v:=.string (rd_T27 l (j : Int)).f0) HB6.out hge) hge) hge)) HXS.out HNO.out) ?_; unfold loadV)
          | ((with_reducible refine gate_dst (N:=8) rfl ?_); refine box_event ?hg (N:=8) ?hd (cs:=#[.string (⟨#[]⟩ : ByteArray), .float .f64 0, .float .f64 0]) (t:=27) ?hr ?_; (case hd => rfl); (case hg => rfl); (case hr => first | (go_simp; done) | (go_simp; rfl)); intro g8 hgb w8 hbox hb; have BK8 := Aside0.mk hbox; have HB8 := Aside0.mk hb; have GE8 := Aside0.mk hgb; clear hbox hb hgb; have hcz8_0 : w8.cell? ⟨g8, 0, none⟩ = some (.string (⟨#[]⟩ : ByteArray)) := (blk_cell BK8.out 0).trans rfl; have hfz8_0 := blk_frozen BK8.out 0; have hcz8_1 : w8.cell? ⟨g8, 1, none⟩ = some (.float .f64 0) := (blk_cell BK8.out 1).trans rfl; have hfz8_1 := blk_frozen BK8.out 1; have hcz8_2 : w8.cell? ⟨g8, 2, none⟩ = some (.float .f64 0) := (blk_cell BK8.out 2).trans rfl; have hfz8_2 := blk_frozen BK8.out 2; have hge : _ ≤ gb := Nat.le_of_eq GE7.out.symm; have hb8 : w8.heap[gb]? = some (.cells #[.string (rd_T27 l (j : Int)).f0, .float .f64 (rd_T27 l (j : Int)).f1, .float .f64 (rd_T27 l (j : Int)).f2] 27 (0, 0)) := blk_below (blk_put (blk_put (blk_put BK7.out 0 (.string (rd_T27 l (j : Int)).f0) rfl) 1 (.float .f64 (rd_T27 l (j : Int)).f1) rfl) 2 (.float .f64 (rd_T27 l (j : Int)).f2) rfl) HB8.out; have q0 : w8.cell? ⟨gb, 0, none⟩ = some (.string (rd_T27 l (j : Int)).f0) := (blk_cell hb8 0).trans rfl; have q1 : w8.cell? ⟨gb, 1, none⟩ = some (.float .f64 (rd_T27 l (j : Int)).f1) := (blk_cell hb8 1).trans rfl; have q2 : w8.cell? ⟨gb, 2, none⟩ = some (.float .f64 (rd_T27 l (j : Int)).f2) := (blk_cell hb8 2).trans rfl; have hlt8 : gb < g8 := Nat.lt_of_lt_of_eq (blk_lt (blk_put (blk_put (blk_put BK7.out 0 (.string (rd_T27 l (j : Int)).f0) rfl) 1 (.float .f64 (rd_T27 l (j : Int)).f1) rfl) 2 (.float .f64 (rd_T27 l (j : Int)).f2) rfl)) GE8.out.symm; have hne7 : ¬ gb = g8 := Nat.ne_of_lt hlt8; have hne8 : ¬ g8 = gb := fun e => hne7 e.symm; clear hlt8 hb8 hge)
          | (at_mapUpdate; have hge : _ ≤ gb := Nat.le_of_eq GE7.out.symm; have hge8 : _ ≤ g8 := Nat.le_of_eq GE8.out.symm; have hch := below_step (below_set (j:=2) (v:=.float .f64 (rd_T27 l (j : Int)).f2) (below_set (j:=1) (v:=.float .f64 (rd_T27 l (j : Int)).f1) (below_set (j:=0) (v:=.string (rd_T27 l (j : Int)).f0) HB6.out hge) hge) hge) (below_set (j:=2) (v:=.float .f64 z27.f2) (below_set (j:=1) (v:=.float .f64 z27.f1) (below_set (j:=0) (v:=.string z27.f0) HB8.out hge8) hge8) hge8); refine putM_ rfl _ _ _ rfl w.heap.size j N rfl (HN.out.below hch) (rd_T27 l (j : Int)) rfl rfl hj40 HXS.out ?_; intro w9 hNM hgr; have HN9 := Aside0.mk hNM; have HB9 := Aside0.mk (pw_below_grown (below_step HB.out hch) (some w.heap.size) (Nat.le_trans hs0 hch.size) hgr (fun k e => Nat.le_of_eq (Option.some.inj e))); clear hNM hgr hch hge hge8))
        cases gk with
        | zero => omega
        | succ k1 =>
          try go_wp2
          go_roundg k1
          case measure => omega
          case rel => exact ⟨j + 1, _, by go_num, ⟨by omega⟩, HN9, HNX, HB9⟩
    · have hjl : j = l.length := by omega
      have hjn : ¬ ((j : Int) < (l.length : Int)) := by omega
      have n0 : Aside0 (Named N l) := ⟨by have h := HNA.out; rw [hjl, List.take_length] at h; exact h⟩
      have HN2 := Aside0.mk HN.out
      have hJ40 : j ≤ 40 := by omega
      have HLT := Aside0.mk HN.out.lt
      clear HNA hjl hlt hg HN HG
      have HNA := n0
      have HN := HN2
      clear n0 HN2
      obtain ⟨m, hm⟩ : ∃ m : Int, (if k < (l.length : Int) then k else (l.length : Int)) = m := ⟨_, rfl⟩
      have hm0 : 0 ≤ m := by rw [← hm]; split <;> omega
      have hmn : m ≤ (l.length : Int) := by rw [← hm]; split <;> omega
      have HMT : Aside0 (all.take m.toNat = sm) := ⟨by
        rw [HSM.out, ← hm]
        split
        · rfl
        · rw [List.take_of_length_le (by have := HAL.out; omega), List.take_of_length_le (by have := HAL.out; omega)]⟩
      have HML : Aside0 (sm.length = m.toNat) := ⟨by rw [← HMT.out, List.length_take]; have := HAL.out; omega⟩
      go_wp2_with (first
        | ((with_reducible refine gate_dst (N:=44) rfl ?_); refine Kd.R_lit k27 (w0 := w) w.heap.size 27 ?hg (N:=44) ?hd (xs:=([] : List S27)) (inner:=[]) (ok:=fun _ => True) (okp:=fun _ => True) ?hr ?hp (fun _ hk => hk) trivial HB.out HB.out.size (by simp) ?_; (case hd => rfl); (case hg => rfl); (case hr => first | (go_simp; done) | (go_simp; rfl)); (case hp => exact Reps.none _ _); intro v1 w4 ho hb hg1 hnew; have HLIT := Aside0.mk ho; have HNW := Aside0.mk hnew; have n0_ := Aside0.mk (HN.out.kept hg1 (by simp)); clear HN HB; have HN := n0_; have HB := Aside0.mk hb; clear n0_ ho hb hg1 hnew)
        | ((with_reducible refine gate_builtin (b:=.append) (xs:=#[.tmp 44, .tmp 45]) rfl ?_); at_builtin; refine Kd.R_append_rows k27 (w0:=w) w.heap.size rfl (.tmp 44) (.tmp 45) 22 27 (.agg #[.string ⟨#[]⟩, .float .f64 0, .float .f64 0]) 32 rfl Try.underlying22 info27 rfl (by decide) (by omega) v1 [] l _ _ _ (fun _ => True) (fun _ => False) rfl rfl HLIT.out (Kd.C_below HR0.out HB.out) (fun x cs h => by obtain rfl := k27_open h; exact k27_mkM _ _ _ x) (fun _ h => h.elim) (fun _ _ => trivial) HB.out HB.out.size (by simp; omega) ?_; intro vk w5 ho hb hg1 hat; rw [List.nil_append] at ho; have n0_ := Aside0.mk (HN.out.kept hg1 (fun e => by obtain ⟨b, e2, hb2⟩ := HNW.out; rw [e2] at e; injection e with e; have := HLT.out; omega)); obtain ⟨Ak, ck, ek⟩ := Kd.R_slice ho; subst ek; have HKP := Aside0.mk ho; clear HN HB HLIT HNW; have HN := n0_; have HB := Aside0.mk hb; clear n0_ ho hb hg1 hat)
        | (go_at_call 6; (with_reducible refine (evict_First.calls A0 c0 l _ all _ (Kd.C_below HR0.out HB.out) HC0.out (by omega) HALL.out).mono ?_); rintro e w7 ⟨v, rfl, hr, hb⟩; obtain ⟨A1, c1, e⟩ := Kd.R_slice hr; rw [HAL.out] at e; subst e; have HA1 := Aside0.mk (Kd.R_lower hr HB.out.size); have n0_ := Aside0.mk (HN.out.below hb); have n1_ := Aside0.mk (Kd.R_below HKP.out hb); have n2_ := Aside0.mk (below_step HB.out hb); clear HN HKP HB; have HN := n0_; have HKP := n1_; clear n0_ n1_; have HB := n2_; clear n2_ hb hr)
        | (go_at_call 6; (with_reducible refine (evict_First.calls A0 c0 l _ sm _ (Kd.C_below HR0.out HB.out) HC0.out (by omega) HSOME.out).mono ?_); rintro e w7 ⟨v, rfl, hr, hb⟩; obtain ⟨A2, c2, e⟩ := Kd.R_slice hr; subst e; have HA2 : Aside0 (Txt _ A2 c2 _) := ⟨(Kd.R_reads' hr).2⟩; have n3_ := Aside0.mk (Kd.R_below HA1.out hb); clear HA1; have HA1 := n3_; clear n3_; have n0_ := Aside0.mk (HN.out.below hb); have n1_ := Aside0.mk (Kd.R_below HKP.out hb); have n2_ := Aside0.mk (below_step HB.out hb); clear HN HKP HB; have HN := n0_; have HKP := n1_; clear n0_ n1_; have HB := n2_; clear n2_; obtain ⟨i09, hi09, _, _, _⟩ := info_parts info9; have hra := Kd.R_reads' HA1.out; have hcut := cut_to (P:=Try.prog) 29 9 .i64 Try.underlying29 hi09 A1 l.length c1 m hm0 hmn hra.2.1; rw [← HML.out] at hcut; have HT1 : Aside0 (Txt _ A1 c1 sm) := ⟨⟨by rw [HML.out]; have := hra.2.1; omega, HMT.out ▸ Kd.C_take hra.2.2 (by rw [HAL.out]; omega)⟩⟩; clear hb hr hra hi09)
        | (go_at_call 7; refine (texts_at HA2.out HT1.out HTX.out).mono ?_; rintro e w8 ⟨rfl, hb⟩; have n3_ := Aside0.mk (Kd.R_below HA1.out hb); clear HA1 HA2 HT1; have HA1 := n3_; clear n3_; have n0_ := Aside0.mk (HN.out.below hb); have n1_ := Aside0.mk (Kd.R_below HKP.out hb); have n2_ := Aside0.mk (below_step HB.out hb); clear HN HKP HB; have HN := n0_; have HKP := n1_; clear n0_ n1_; have HB := n2_; clear n2_ hb))
      have HB2 : Aside0 (w.heap.size < w8.heap.size) := ⟨HN.out.lt⟩
      have hbm : Below w8.heap.size w8 (w8.alloc (.map #[] 0)) := below_alloc (Below.refl _ _) _
      have HNI := Aside0.mk (NI.made w8)
      have n0_ := Aside0.mk (HN.out.below hbm)
      have n1_ := Aside0.mk (Kd.R_below HA1.out hbm)
      have n2_ := Aside0.mk (Kd.R_below HKP.out hbm)
      have n3_ := Aside0.mk (below_step HB.out hbm)
      clear HN HA1 HKP HB hbm hcut hm HMT HML
      have HN := n0_
      have HA1 := n1_
      have HKP := n2_
      have HB := n3_
      clear n0_ n1_ n2_ n3_
      obtain ⟨W8, hW8⟩ : ∃ W8, W8 = w8.alloc (.map #[] 0) := ⟨_, rfl⟩
      rw [← hW8] at HNI HN HA1 HKP HB ⊢
      clear hW8
      obtain ⟨b2, hb2⟩ : ∃ b2, b2 = w8.heap.size := ⟨_, rfl⟩
      rw [← hb2] at HNI HB2 ⊢
      clear hb2
      have HB12 : Aside0 (w.heap.size ≠ b2) := ⟨by have := HB2.out; omega⟩
      go_loopg [75] l.length (fun kq v75 W => ∃ (i : Nat) (C : ByteArray → Int), v75 = .int .i64 i ∧ Aside0 (kq + i = l.length) ∧ Aside0 (NI W b2 i C) ∧ Aside0 (∀ s, s ∉ all.take i → C s = 0) ∧ Aside0 (NM W w.heap.size j N) ∧ Aside0 (Kd.R Kd.string 9 W w.heap.size (fun _ => True) (.slice A1 l.length c1) all) ∧ Aside0 (Kd.R k27 27 W w.heap.size (fun _ => True) (.slice Ak l.length ck) l) ∧ Aside0 (Below w.heap.size w W))
      case atStart => exact ⟨0, _, rfl, ⟨rfl⟩, HNI, ⟨fun _ _ => rfl⟩, HN, HA1, HKP, HB⟩
      case round =>
        clear HNI HN HA1 HKP HB
        obtain ⟨i, C, rfl, HG, HNI, HC, HN, HA1, HKP, HB⟩ := hrel
        have hg := HG.out
        by_cases hlt : i < l.length
        · have hi0 : (0 : Int) ≤ i := by omega
          have hil : (i : Int) < (l.length : Int) := by omega
          have hi1000 : i ≤ 1000 := by omega
          obtain ⟨hnd2, hord⟩ := HND.out HNA.out.nodup
          obtain ⟨x, hx, hsx, hox⟩ := hord i (by rw [HAL.out]; exact hlt)
          have HOX := Aside0.mk hox
          have HORD := Aside0.mk hord
          have HXS := Aside0.mk (HSZ.out x hx)
          have HXN := Aside0.mk (HNA.out.hit x hx)
          have hra := Kd.R_reads' HA1.out
          obtain ⟨ad, e, q0⟩ := Kd.at_string hra.2.2 (i : Int) hi0 (by rw [HAL.out]; exact hil)
          cases e
          rw [hsx, Int.toNat_natCast] at q0
          have hget : all[i]'(by rw [HAL.out]; exact hlt) = x.f0 := by
            have h1 : i < all.length := by rw [HAL.out]; exact hlt
            rw [← hsx]; simp [rdOf, List.getD, h1]
          have HC0x : Aside0 (C x.f0 = 0) := ⟨HC.out x.f0 (fun hm => by
            obtain ⟨a, ha, e⟩ := List.mem_take_iff_getElem.1 hm
            have := (List.getElem_inj hnd2).1 (e.trans hget.symm)
            omega)⟩
          have HCN : Aside0 (∀ s, s ∉ all.take (i + 1) → (fun t => if t = x.f0 then (1 : Int) else C t) s = 0) := ⟨fun s hs => by
            have h1 : i < all.length := by rw [HAL.out]; exact hlt
            rw [List.take_succ_eq_append_getElem h1, List.mem_append, List.mem_singleton, hget] at hs
            show (if s = x.f0 then (1 : Int) else C s) = 0
            rw [if_neg (fun e => hs (Or.inr e)), HC.out s (fun h => hs (Or.inl h))]⟩
          clear hsx hget hox hord hnd2 hra
          by_cases hi : i = 0
          · have hpos : ¬ ((0 : Int) < (i : Int)) := by omega
            have hpd0 : decide ((0 : Int) < (i : Int)) = false := decide_eq_false hpos
            have hpn0 : ¬ (0 < i) := by omega
            have hpd1 : decide (0 < i) = false := decide_eq_false hpn0
            clear hi
            go_wp2_with (first
              | (at_lookup; refine look_ rfl _ _ 24 true rfl w.heap.size rfl _ _ rfl (NM.hit HN.out HXS.out HXN.out) ?_; unfold loadV)
              | ((with_reducible refine gate_dst (N:=16) rfl ?_); refine box_event ?hg (N:=16) ?hd (cs:=#[.string (⟨#[]⟩ : ByteArray), .float .f64 0, .float .f64 0]) (t:=27) ?hr ?_; (case hd => rfl); (case hg => rfl); (case hr => first | (go_simp; done) | (go_simp; rfl)); intro gb hgb w6 hbox hb; have BK16 := Aside0.mk hbox; have HB6 := Aside0.mk hb; have GE16 := Aside0.mk hgb; clear hbox hb hgb; have hcz16_0 : w6.cell? ⟨gb, 0, none⟩ = some (.string (⟨#[]⟩ : ByteArray)) := (blk_cell BK16.out 0).trans rfl; have hfz16_0 := blk_frozen BK16.out 0; have hcz16_1 : w6.cell? ⟨gb, 1, none⟩ = some (.float .f64 0) := (blk_cell BK16.out 1).trans rfl; have hfz16_1 := blk_frozen BK16.out 1; have hcz16_2 : w6.cell? ⟨gb, 2, none⟩ = some (.float .f64 0) := (blk_cell BK16.out 2).trans rfl; have hfz16_2 := blk_frozen BK16.out 2)
              | (at_lookup; have hge : _ ≤ gb := Nat.le_of_eq GE16.out.symm; refine look_ rfl _ _ 32 false rfl b2 rfl _ _ rfl (NI.zero (HNI.out.below (below_set (j:=2) (v:=.float .f64 x.f2) (below_set (j:=1) (v:=.float .f64 x.f1) (below_set (j:=0) (v:=.string x.f0) HB6.out hge) hge) hge)) HXS.out HC0x.out) ?_)
              | (at_mapUpdate; have hge : _ ≤ gb := Nat.le_of_eq GE16.out.symm; have hch := below_set (j:=2) (v:=.float .f64 x.f2) (below_set (j:=1) (v:=.float .f64 x.f1) (below_set (j:=0) (v:=.string x.f0) HB6.out hge) hge) hge; have HIM := (HNI.out.below hch).isMap; refine putI_ rfl _ _ _ rfl b2 i C rfl (HNI.out.below hch) x.f0 1 rfl rfl (by decide) hi1000 HXS.out ?_; intro w9 hNI hgr; have HNI9 := Aside0.mk hNI; have HN9 := Aside0.mk ((HN.out.below hch).kept hgr (fun e => HB12.out (Option.some.inj e))); have HA9 := Aside0.mk (R_map (Kd.R_below HA1.out hch) HIM hgr); have HK9 := Aside0.mk (R_map (Kd.R_below HKP.out hch) HIM hgr); have HB9 := Aside0.mk (pw_below_grown (below_step HB.out hch) (some b2) (Nat.le_trans HB.out.size hch.size) hgr (fun k e => by have e2 := Option.some.inj e; have := HB2.out; omega)); have hbg : w9.heap[gb]? = some (.cells #[.string x.f0, .float .f64 x.f1, .float .f64 x.f2] 27 (0, 0)) := blk_grown (blk_put (blk_put (blk_put BK16.out 0 _ rfl) 1 _ rfl) 2 _ rfl) hgr (fun e => by have e2 := Option.some.inj e; have h1 := HNI.out.lt; have h2 := GE16.out; omega); have HG9 := Aside0.mk hbg; clear hNI hgr hch hge HIM hbg))
            have hdr : Below w9.heap.size w9 w9.drew := Drawn0.below ⟨⟨1, rfl⟩⟩
            have hb := hdr
            have n0_ := Aside0.mk (HNI9.out.below hb); have n1_ := Aside0.mk (HN9.out.below hb); have n2_ := Aside0.mk (Kd.R_below HA9.out hb); have n3_ := Aside0.mk (Kd.R_below HK9.out hb); have n4_ := Aside0.mk (below_step HB9.out hb); clear HNI9 HN9 HA9 HK9 HB9 hb; have HNI9 := n0_; have HN9 := n1_; have HA9 := n2_; have HK9 := n3_; have HB9 := n4_; clear n0_ n1_ n2_ n3_ n4_
            have hG := blk_below HG9.out hdr
            have hS : w9.drew.cell? ⟨gb, 0, none⟩ = some (.string x.f0) ∧ w9.drew.cell? ⟨gb, 1, none⟩ = some (.float .f64 x.f1) ∧ w9.drew.cell? ⟨gb, 2, none⟩ = some (.float .f64 x.f2) ∧ (Instr.lookup 32 (.map (some b2)) (.string x.f0) false).run Try.prog w9.drew = .ok (.int .i64 1) w9.drew := ⟨(blk_cell hG 0).trans rfl, (blk_cell hG 1).trans rfl, (blk_cell hG 2).trans rfl, HNI9.out.zero HXS.out (if_pos rfl)⟩
            clear hG
            refine start_ (n:=23) (S:=fun w' => w'.cell? ⟨gb, 0, none⟩ = some (.string x.f0) ∧ w'.cell? ⟨gb, 1, none⟩ = some (.float .f64 x.f1) ∧ w'.cell? ⟨gb, 2, none⟩ = some (.float .f64 x.f2) ∧ (Instr.lookup 32 (.map (some b2)) (.string x.f0) false).run Try.prog w' = .ok (.int .i64 1) w') (ds:=[20]) #[O,O,O,O,O,O,O,O,O,O,O,O,O,O,O,O,O,O,O,O,O,O,O] (by kernel_rfl) rfl rfl hS (fun hHeld => ?_); refine with_tabW bosunlaw24_EvictStands.tab23 bosunlaw24_EvictStands.bits23 (fun HT_ HW_ => ?_)
            clear hS hdr HG9
            generalize w9.drew = W at HNI9 HN9 HA9 HK9 HB9 hHeld ⊢
            refine pu_ 0 90 #[I,O,O,O,O,O,O,O,O,O,O,O,O,O,O,O,O,O,O,O,O,O,O] HT_.out ?_
            refine pu_ 1 91 #[I,I,O,O,O,O,O,O,O,O,O,O,O,O,O,O,O,O,O,O,O,O,O] HT_.out ?_
            refine pu_ 2 92 #[I,I,I,O,O,O,O,O,O,O,O,O,O,O,O,O,O,O,O,O,O,O,O] HT_.out ?_
            refine pu_ 3 93 #[I,I,I,I,O,O,O,O,O,O,O,O,O,O,O,O,O,O,O,O,O,O,O] HT_.out ?_
            refine pu_ 4 94 #[I,I,I,I,I,O,O,O,O,O,O,O,O,O,O,O,O,O,O,O,O,O,O] HT_.out ?_
            refine ta_ 5 95 #[I,I,I,I,I,I,O,O,O,O,O,O,O,O,O,O,O,O,O,O,O,O,O] HT_.out HW_.out hHeld ?_
            refine pu_ 6 96 #[I,I,I,I,I,I,I,O,O,O,O,O,O,O,O,O,O,O,O,O,O,O,O] HT_.out ?_
            refine pu_ 7 97 #[I,I,I,I,I,I,I,I,O,O,O,O,O,O,O,O,O,O,O,O,O,O,O] HT_.out ?_
            refine pu_ 8 98 #[I,I,I,I,I,I,I,I,I,O,O,O,O,O,O,O,O,O,O,O,O,O,O] HT_.out ?_
            refine pu_ 9 99 #[I,I,I,I,I,I,I,I,I,I,O,O,O,O,O,O,O,O,O,O,O,O,O] HT_.out ?_
            refine pu_ 10 100 #[I,I,I,I,I,I,I,I,I,I,I,O,O,O,O,O,O,O,O,O,O,O,O] HT_.out ?_
            refine pu_ 11 101 #[I,I,I,I,I,I,I,I,I,I,I,I,O,O,O,O,O,O,O,O,O,O,O] HT_.out ?_
            refine pz_ 12 102 #[I,I,I,I,I,I,I,I,I,I,I,I,I,O,O,O,O,O,O,O,O,O,O] HT_.out ?_
            refine pz_ 13 103 #[I,I,I,I,I,I,I,I,I,I,I,I,I,I,O,O,O,O,O,O,O,O,O] HT_.out ?_
            refine pz_ 14 104 #[I,I,I,I,I,I,I,I,I,I,I,I,I,I,I,O,O,O,O,O,O,O,O] HT_.out ?_
            refine pz_ 15 105 #[I,I,I,I,I,I,I,I,I,I,I,I,I,I,I,I,O,O,O,O,O,O,O] HT_.out ?_
            refine pz_ 16 106 #[I,I,I,I,I,I,I,I,I,I,I,I,I,I,I,I,I,O,O,O,O,O,O] HT_.out ?_
            refine pz_ 17 107 #[I,I,I,I,I,I,I,I,I,I,I,I,I,I,I,I,I,I,O,O,O,O,O] HT_.out ?_
            refine pz_ 18 108 #[I,I,I,I,I,I,I,I,I,I,I,I,I,I,I,I,I,I,I,O,O,O,O] HT_.out ?_
            refine pz_ 19 109 #[I,I,I,I,I,I,I,I,I,I,I,I,I,I,I,I,I,I,I,I,O,O,O] HT_.out ?_
            refine pz_ 20 110 #[I,I,I,I,I,I,I,I,I,I,I,I,I,I,I,I,I,I,I,I,I,O,O] HT_.out ?_
            refine pu_ 21 111 #[I,I,I,I,I,I,I,I,I,I,I,I,I,I,I,I,I,I,I,I,I,I,O] HT_.out ?_
            refine pu_ 22 112 #[I,I,I,I,I,I,I,I,I,I,I,I,I,I,I,I,I,I,I,I,I,I,I] HT_.out ?_
            refine done_ (done_of HT_.out (by kernel_rfl)) ?_
            clear HT_ HW_ hHeld
            cases gk with
            | zero => omega
            | succ k1 =>
              try go_wp2
              go_roundg k1
              case measure => omega
              case rel => exact ⟨i + 1, _, by go_num, ⟨by omega⟩, HNI9, HCN, HN9, HA9, HK9, HB9⟩
          · have hpos : ((0 : Int) < (i : Int)) := by omega
            have hpn : 0 < i := by omega
            have hw1 : IntKind.i64.wrap ((i : Int) - 1) = (i : Int) - 1 := (i64_w _).trans (i64_id (by omega) (by omega))
            have hp0 : (0 : Int) ≤ (i : Int) - 1 := by omega
            have hp1 : (i : Int) - 1 < (l.length : Int) := by omega
            obtain ⟨y, hy, hsy, _⟩ := HORD.out (i - 1) (by rw [HAL.out]; omega)
            have hci : ((i - 1 : Nat) : Int) = (i : Int) - 1 := by omega
            rw [hci] at hsy
            have HAH := Aside0.mk (HOX.out y hy hpn hsy)
            have HYS := Aside0.mk (HSZ.out y hy)
            have HYN := Aside0.mk (HNA.out.hit y hy)
            have HSY := Aside0.mk hsy
            clear hsy hci hi
            go_wp2_with (first
              | (at_lookup; refine look_ rfl _ _ 24 true rfl w.heap.size rfl _ _ rfl (NM.hit HN.out HXS.out HXN.out) ?_; unfold loadV)
              | ((with_reducible refine gate_dst (N:=16) rfl ?_); refine box_event ?hg (N:=16) ?hd (cs:=#[.string (⟨#[]⟩ : ByteArray), .float .f64 0, .float .f64 0]) (t:=27) ?hr ?_; (case hd => rfl); (case hg => rfl); (case hr => first | (go_simp; done) | (go_simp; rfl)); intro gb hgb w6 hbox hb; have BK16 := Aside0.mk hbox; have HB6 := Aside0.mk hb; have GE16 := Aside0.mk hgb; clear hbox hb hgb; have hcz16_0 : w6.cell? ⟨gb, 0, none⟩ = some (.string (⟨#[]⟩ : ByteArray)) := (blk_cell BK16.out 0).trans rfl; have hfz16_0 := blk_frozen BK16.out 0; have hcz16_1 : w6.cell? ⟨gb, 1, none⟩ = some (.float .f64 0) := (blk_cell BK16.out 1).trans rfl; have hfz16_1 := blk_frozen BK16.out 1; have hcz16_2 : w6.cell? ⟨gb, 2, none⟩ = some (.float .f64 0) := (blk_cell BK16.out 2).trans rfl; have hfz16_2 := blk_frozen BK16.out 2)
              | (at_lookup; have hge : _ ≤ gb := Nat.le_of_eq GE16.out.symm; refine look_ rfl _ _ 32 false rfl b2 rfl _ _ rfl (NI.zero (HNI.out.below (below_set (j:=2) (v:=.float .f64 x.f2) (below_set (j:=1) (v:=.float .f64 x.f1) (below_set (j:=0) (v:=.string x.f0) HB6.out hge) hge) hge)) HXS.out HC0x.out) ?_)
              | (at_mapUpdate; have hge : _ ≤ gb := Nat.le_of_eq GE16.out.symm; have hch := below_set (j:=2) (v:=.float .f64 x.f2) (below_set (j:=1) (v:=.float .f64 x.f1) (below_set (j:=0) (v:=.string x.f0) HB6.out hge) hge) hge; have HIM := (HNI.out.below hch).isMap; refine putI_ rfl _ _ _ rfl b2 i C rfl (HNI.out.below hch) x.f0 1 rfl rfl (by decide) hi1000 HXS.out ?_; intro w9 hNI hgr; have HNI9 := Aside0.mk hNI; have HN9 := Aside0.mk ((HN.out.below hch).kept hgr (fun e => HB12.out (Option.some.inj e))); have HA9 := Aside0.mk (R_map (Kd.R_below HA1.out hch) HIM hgr); have HK9 := Aside0.mk (R_map (Kd.R_below HKP.out hch) HIM hgr); have HB9 := Aside0.mk (pw_below_grown (below_step HB.out hch) (some b2) (Nat.le_trans HB.out.size hch.size) hgr (fun k e => by have e2 := Option.some.inj e; have := HB2.out; omega)); have hbg : w9.heap[gb]? = some (.cells #[.string x.f0, .float .f64 x.f1, .float .f64 x.f2] 27 (0, 0)) := blk_grown (blk_put (blk_put (blk_put BK16.out 0 _ rfl) 1 _ rfl) 2 _ rfl) hgr (fun e => by have e2 := Option.some.inj e; have h1 := HNI.out.lt; have h2 := GE16.out; omega); have HG9 := Aside0.mk hbg; clear hNI hgr hch hge HIM hbg))
            have hdr : Below w9.heap.size w9 w9.drew := Drawn0.below ⟨⟨1, rfl⟩⟩
            have hb := hdr
            have n0_ := Aside0.mk (HNI9.out.below hb); have n1_ := Aside0.mk (HN9.out.below hb); have n2_ := Aside0.mk (Kd.R_below HA9.out hb); have n3_ := Aside0.mk (Kd.R_below HK9.out hb); have n4_ := Aside0.mk (below_step HB9.out hb); clear HNI9 HN9 HA9 HK9 HB9 hb; have HNI9 := n0_; have HN9 := n1_; have HA9 := n2_; have HK9 := n3_; have HB9 := n4_; clear n0_ n1_ n2_ n3_ n4_
            have hG := blk_below HG9.out hdr
            have hra := Kd.R_reads' HA9.out
            obtain ⟨_, e, q1⟩ := Kd.at_string hra.2.2 ((i : Int) - 1) hp0 (by rw [HAL.out]; exact hp1)
            cases e
            rw [HSY.out, show ((i : Int) - 1).toNat = i - 1 by omega] at q1
            have h1i : (1 : Int) ≤ (i : Int) := by omega
            have hS : w9.drew.cell? ⟨gb, 0, none⟩ = some (.string x.f0) ∧ w9.drew.cell? ⟨gb, 1, none⟩ = some (.float .f64 x.f1) ∧ w9.drew.cell? ⟨gb, 2, none⟩ = some (.float .f64 x.f2) ∧ (Instr.lookup 32 (.map (some b2)) (.string x.f0) false).run Try.prog w9.drew = .ok (.int .i64 1) w9.drew ∧ w9.drew.cell? (ad.add (i - 1)) = some (.string y.f0) ∧ (Instr.lookup 24 (.map (some w.heap.size)) (.string y.f0) false).run Try.prog w9.drew = .ok (.agg #[.string y.f0, .float .f64 y.f1, .float .f64 y.f2]) w9.drew := ⟨(blk_cell hG 0).trans rfl, (blk_cell hG 1).trans rfl, (blk_cell hG 2).trans rfl, HNI9.out.zero HXS.out (if_pos rfl), q1, HN9.out.hit1 HYS.out HYN.out⟩
            clear hG hra q1 q0
            refine start_ (n:=23) (S:=fun w' => w'.cell? ⟨gb, 0, none⟩ = some (.string x.f0) ∧ w'.cell? ⟨gb, 1, none⟩ = some (.float .f64 x.f1) ∧ w'.cell? ⟨gb, 2, none⟩ = some (.float .f64 x.f2) ∧ (Instr.lookup 32 (.map (some b2)) (.string x.f0) false).run Try.prog w' = .ok (.int .i64 1) w' ∧ w'.cell? (ad.add (i - 1)) = some (.string y.f0) ∧ (Instr.lookup 24 (.map (some w.heap.size)) (.string y.f0) false).run Try.prog w' = .ok (.agg #[.string y.f0, .float .f64 y.f1, .float .f64 y.f2]) w') (ds:=[20]) #[O,O,O,O,O,O,O,O,O,O,O,O,O,O,O,O,O,O,O,O,O,O,O] (by kernel_rfl) rfl rfl hS (fun hHeld => ?_); refine with_tabW bosunlaw24_EvictStands.tab23 bosunlaw24_EvictStands.bits23 (fun HT_ HW_ => ?_)
            clear hS hdr HG9
            generalize w9.drew = W at HNI9 HN9 HA9 HK9 HB9 hHeld ⊢
            refine pu_ 0 90 #[I,O,O,O,O,O,O,O,O,O,O,O,O,O,O,O,O,O,O,O,O,O,O] HT_.out ?_
            refine pu_ 1 91 #[I,I,O,O,O,O,O,O,O,O,O,O,O,O,O,O,O,O,O,O,O,O,O] HT_.out ?_
            refine pu_ 2 92 #[I,I,I,O,O,O,O,O,O,O,O,O,O,O,O,O,O,O,O,O,O,O,O] HT_.out ?_
            refine pu_ 3 93 #[I,I,I,I,O,O,O,O,O,O,O,O,O,O,O,O,O,O,O,O,O,O,O] HT_.out ?_
            refine pu_ 4 94 #[I,I,I,I,I,O,O,O,O,O,O,O,O,O,O,O,O,O,O,O,O,O,O] HT_.out ?_
            refine ta_ 5 95 #[I,I,I,I,I,I,O,O,O,O,O,O,O,O,O,O,O,O,O,O,O,O,O] HT_.out HW_.out hHeld ?_
            refine pu_ 6 96 #[I,I,I,I,I,I,I,O,O,O,O,O,O,O,O,O,O,O,O,O,O,O,O] HT_.out ?_
            refine pu_ 7 97 #[I,I,I,I,I,I,I,I,O,O,O,O,O,O,O,O,O,O,O,O,O,O,O] HT_.out ?_
            refine pu_ 8 98 #[I,I,I,I,I,I,I,I,I,O,O,O,O,O,O,O,O,O,O,O,O,O,O] HT_.out ?_
            refine pu_ 9 99 #[I,I,I,I,I,I,I,I,I,I,O,O,O,O,O,O,O,O,O,O,O,O,O] HT_.out ?_
            refine pu_ 10 100 #[I,I,I,I,I,I,I,I,I,I,I,O,O,O,O,O,O,O,O,O,O,O,O] HT_.out ?_
            refine pu_ 11 101 #[I,I,I,I,I,I,I,I,I,I,I,I,O,O,O,O,O,O,O,O,O,O,O] HT_.out ?_
            refine ta_ 12 102 #[I,I,I,I,I,I,I,I,I,I,I,I,I,O,O,O,O,O,O,O,O,O,O] HT_.out HW_.out hHeld ?_
            refine pu_ 13 103 #[I,I,I,I,I,I,I,I,I,I,I,I,I,I,O,O,O,O,O,O,O,O,O] HT_.out ?_
            refine pu_ 14 104 #[I,I,I,I,I,I,I,I,I,I,I,I,I,I,I,O,O,O,O,O,O,O,O] HT_.out ?_
            refine pu_ 15 105 #[I,I,I,I,I,I,I,I,I,I,I,I,I,I,I,I,O,O,O,O,O,O,O] HT_.out ?_
            refine pu_ 16 106 #[I,I,I,I,I,I,I,I,I,I,I,I,I,I,I,I,I,O,O,O,O,O,O] HT_.out ?_
            refine pu_ 17 107 #[I,I,I,I,I,I,I,I,I,I,I,I,I,I,I,I,I,I,O,O,O,O,O] HT_.out ?_
            refine ta_ 18 108 #[I,I,I,I,I,I,I,I,I,I,I,I,I,I,I,I,I,I,I,O,O,O,O] HT_.out HW_.out hHeld ?_
            refine ta_ 19 109 #[I,I,I,I,I,I,I,I,I,I,I,I,I,I,I,I,I,I,I,I,O,O,O] HT_.out HW_.out hHeld ?_
            refine last_ (i:=20) (N:=some 110) #[I,I,I,I,I,I,I,I,I,I,I,I,I,I,I,I,I,I,I,I,I,O,O] rfl rfl (one_of HT_.out (by kernel_rfl)) (by decide) (fun K_ hK => ?_)
            refine goes_ Try.func8 (by kernel_rfl) rfl #[.agg #[.string x.f0, .float .f64 x.f1, .float .f64 x.f2], .agg #[.string y.f0, .float .f64 y.f1, .float .f64 y.f2]] (by rfl) rfl rfl (by (try simp only [List.map_toArray, List.map_cons, List.map_nil]); first | done | rfl) ?_
            refine (evict_Ahead.calls x.f0 x.f1 x.f2 y.f0 y.f1 y.f2 _ _ rfl).mono ?_
            rintro e w10 ⟨rfl, hb⟩
            rw [HAH.out]
            refine ⟨_, rfl, hK.out _ _ ?_⟩
            have n0_ := Aside0.mk (HNI9.out.below hb); have n1_ := Aside0.mk (HN9.out.below hb); have n2_ := Aside0.mk (Kd.R_below HA9.out hb); have n3_ := Aside0.mk (Kd.R_below HK9.out hb); have n4_ := Aside0.mk (below_step HB9.out hb); clear HNI9 HN9 HA9 HK9 HB9 hb; have HNI9 := n0_; have HN9 := n1_; have HA9 := n2_; have HK9 := n3_; have HB9 := n4_; clear n0_ n1_ n2_ n3_ n4_
            clear hK K_ hHeld
            refine nm_ 110 ?_
            refine pu_ 21 111 #[I,I,I,I,I,I,I,I,I,I,I,I,I,I,I,I,I,I,I,I,I,I,O] HT_.out ?_
            refine pu_ 22 112 #[I,I,I,I,I,I,I,I,I,I,I,I,I,I,I,I,I,I,I,I,I,I,I] HT_.out ?_
            refine done_ (done_of HT_.out (by kernel_rfl)) ?_
            clear HT_ HW_
            cases gk with
            | zero => omega
            | succ k1 =>
              try go_wp2
              go_roundg k1
              case measure => omega
              case rel => exact ⟨i + 1, _, by go_num, ⟨by omega⟩, HNI9, HCN, HN9, HA9, HK9, HB9⟩
        · have hin : ¬ ((i : Int) < (l.length : Int)) := by omega
          clear HNI HC HN HA1
          try go_wp2
          go_loopg [116] l.length (fun kq v116 W => ∃ p : Nat, v116 = .int .i64 p ∧ Aside0 (kq + p = l.length) ∧ Aside0 (Kd.R k27 27 W w.heap.size (fun _ => True) (.slice Ak l.length ck) l) ∧ Aside0 (Below w.heap.size w W))
          case atStart => exact ⟨0, rfl, ⟨rfl⟩, HKP, HB⟩
          case round =>
            clear HKP HB
            obtain ⟨p, rfl, HG, HKP, HB⟩ := hrel
            have hg := HG.out
            by_cases hlt : p < l.length
            · have hp0 : (0 : Int) ≤ p := by omega
              have hpl : (p : Int) < (l.length : Int) := by omega
              obtain ⟨ad, e, x0, x1, x2⟩ := at_T27 (Kd.C_below HR0.out HB.out) (p : Int) hp0 hpl
              cases e
              obtain ⟨ak, e, y0, y1, y2⟩ := at_T27 (Kd.R_reads' HKP.out).2.2 (p : Int) hp0 hpl
              cases e
              rw [Int.toNat_natCast] at x0 x1 x2 y0 y1 y2
              try go_wp2
              have hS : wr.cell? (ad.add (p * 3)) = some (.string (rd_T27 l (p : Int)).f0) ∧ wr.cell? ⟨(ad.add (p * 3)).block, (ad.add (p * 3)).off + 1, none⟩ = some (.float .f64 (rd_T27 l (p : Int)).f1) ∧ wr.cell? ⟨(ad.add (p * 3)).block, (ad.add (p * 3)).off + 2, none⟩ = some (.float .f64 (rd_T27 l (p : Int)).f2) ∧ wr.cell? (ak.add (p * 3)) = some (.string (rd_T27 l (p : Int)).f0) ∧ wr.cell? ⟨(ak.add (p * 3)).block, (ak.add (p * 3)).off + 1, none⟩ = some (.float .f64 (rd_T27 l (p : Int)).f1) ∧ wr.cell? ⟨(ak.add (p * 3)).block, (ak.add (p * 3)).off + 2, none⟩ = some (.float .f64 (rd_T27 l (p : Int)).f2) := ⟨x0, x1, x2, y0, y1, y2⟩
              have n0_ := Aside0.mk (Kd.R_drew HKP.out)
              have n1_ := Aside0.mk (below_drew1 HB.out)
              clear HKP HB x0 x1 x2 y0 y1 y2
              have HKP := n0_
              have HB := n1_
              clear n0_ n1_
              refine start_ (n:=39) (S:=fun w' => w'.cell? (ad.add (p * 3)) = some (.string (rd_T27 l (p : Int)).f0) ∧ w'.cell? ⟨(ad.add (p * 3)).block, (ad.add (p * 3)).off + 1, none⟩ = some (.float .f64 (rd_T27 l (p : Int)).f1) ∧ w'.cell? ⟨(ad.add (p * 3)).block, (ad.add (p * 3)).off + 2, none⟩ = some (.float .f64 (rd_T27 l (p : Int)).f2) ∧ w'.cell? (ak.add (p * 3)) = some (.string (rd_T27 l (p : Int)).f0) ∧ w'.cell? ⟨(ak.add (p * 3)).block, (ak.add (p * 3)).off + 1, none⟩ = some (.float .f64 (rd_T27 l (p : Int)).f1) ∧ w'.cell? ⟨(ak.add (p * 3)).block, (ak.add (p * 3)).off + 2, none⟩ = some (.float .f64 (rd_T27 l (p : Int)).f2)) (ds:=[]) #[O,O,O,O,O,O,O,O,O,O,O,O,O,O,O,O,O,O,O,O,O,O,O,O,O,O,O,O,O,O,O,O,O,O,O,O,O,O,O] (by kernel_rfl) rfl rfl hS (fun hHeld => ?_); refine with_tabW bosunlaw24_EvictStands.tab29 bosunlaw24_EvictStands.bits29 (fun HT_ HW_ => ?_)
              clear hS
              generalize wr.drew = W at HKP HB hHeld ⊢
              refine pu_ 0 119 #[I,O,O,O,O,O,O,O,O,O,O,O,O,O,O,O,O,O,O,O,O,O,O,O,O,O,O,O,O,O,O,O,O,O,O,O,O,O,O] HT_.out ?_
              refine pu_ 1 120 #[I,I,O,O,O,O,O,O,O,O,O,O,O,O,O,O,O,O,O,O,O,O,O,O,O,O,O,O,O,O,O,O,O,O,O,O,O,O,O] HT_.out ?_
              refine pu_ 2 121 #[I,I,I,O,O,O,O,O,O,O,O,O,O,O,O,O,O,O,O,O,O,O,O,O,O,O,O,O,O,O,O,O,O,O,O,O,O,O,O] HT_.out ?_
              refine pu_ 3 122 #[I,I,I,I,O,O,O,O,O,O,O,O,O,O,O,O,O,O,O,O,O,O,O,O,O,O,O,O,O,O,O,O,O,O,O,O,O,O,O] HT_.out ?_
              refine ta_ 4 123 #[I,I,I,I,I,O,O,O,O,O,O,O,O,O,O,O,O,O,O,O,O,O,O,O,O,O,O,O,O,O,O,O,O,O,O,O,O,O,O] HT_.out HW_.out hHeld ?_
              refine pu_ 5 124 #[I,I,I,I,I,I,O,O,O,O,O,O,O,O,O,O,O,O,O,O,O,O,O,O,O,O,O,O,O,O,O,O,O,O,O,O,O,O,O] HT_.out ?_
              refine pu_ 6 125 #[I,I,I,I,I,I,I,O,O,O,O,O,O,O,O,O,O,O,O,O,O,O,O,O,O,O,O,O,O,O,O,O,O,O,O,O,O,O,O] HT_.out ?_
              refine pu_ 7 126 #[I,I,I,I,I,I,I,I,O,O,O,O,O,O,O,O,O,O,O,O,O,O,O,O,O,O,O,O,O,O,O,O,O,O,O,O,O,O,O] HT_.out ?_
              refine pu_ 8 127 #[I,I,I,I,I,I,I,I,I,O,O,O,O,O,O,O,O,O,O,O,O,O,O,O,O,O,O,O,O,O,O,O,O,O,O,O,O,O,O] HT_.out ?_
              refine ta_ 9 128 #[I,I,I,I,I,I,I,I,I,I,O,O,O,O,O,O,O,O,O,O,O,O,O,O,O,O,O,O,O,O,O,O,O,O,O,O,O,O,O] HT_.out HW_.out hHeld ?_
              refine pu_ 10 129 #[I,I,I,I,I,I,I,I,I,I,I,O,O,O,O,O,O,O,O,O,O,O,O,O,O,O,O,O,O,O,O,O,O,O,O,O,O,O,O] HT_.out ?_
              refine pu_ 11 130 #[I,I,I,I,I,I,I,I,I,I,I,I,O,O,O,O,O,O,O,O,O,O,O,O,O,O,O,O,O,O,O,O,O,O,O,O,O,O,O] HT_.out ?_
              refine pu_ 12 131 #[I,I,I,I,I,I,I,I,I,I,I,I,I,O,O,O,O,O,O,O,O,O,O,O,O,O,O,O,O,O,O,O,O,O,O,O,O,O,O] HT_.out ?_
              refine pu_ 13 132 #[I,I,I,I,I,I,I,I,I,I,I,I,I,I,O,O,O,O,O,O,O,O,O,O,O,O,O,O,O,O,O,O,O,O,O,O,O,O,O] HT_.out ?_
              refine pu_ 14 133 #[I,I,I,I,I,I,I,I,I,I,I,I,I,I,I,O,O,O,O,O,O,O,O,O,O,O,O,O,O,O,O,O,O,O,O,O,O,O,O] HT_.out ?_
              refine pu_ 15 134 #[I,I,I,I,I,I,I,I,I,I,I,I,I,I,I,I,O,O,O,O,O,O,O,O,O,O,O,O,O,O,O,O,O,O,O,O,O,O,O] HT_.out ?_
              refine ta_ 16 135 #[I,I,I,I,I,I,I,I,I,I,I,I,I,I,I,I,I,O,O,O,O,O,O,O,O,O,O,O,O,O,O,O,O,O,O,O,O,O,O] HT_.out HW_.out hHeld ?_
              refine pu_ 17 136 #[I,I,I,I,I,I,I,I,I,I,I,I,I,I,I,I,I,I,O,O,O,O,O,O,O,O,O,O,O,O,O,O,O,O,O,O,O,O,O] HT_.out ?_
              refine pu_ 18 137 #[I,I,I,I,I,I,I,I,I,I,I,I,I,I,I,I,I,I,I,O,O,O,O,O,O,O,O,O,O,O,O,O,O,O,O,O,O,O,O] HT_.out ?_
              refine pu_ 19 138 #[I,I,I,I,I,I,I,I,I,I,I,I,I,I,I,I,I,I,I,I,O,O,O,O,O,O,O,O,O,O,O,O,O,O,O,O,O,O,O] HT_.out ?_
              refine pu_ 20 139 #[I,I,I,I,I,I,I,I,I,I,I,I,I,I,I,I,I,I,I,I,I,O,O,O,O,O,O,O,O,O,O,O,O,O,O,O,O,O,O] HT_.out ?_
              refine ta_ 21 140 #[I,I,I,I,I,I,I,I,I,I,I,I,I,I,I,I,I,I,I,I,I,I,O,O,O,O,O,O,O,O,O,O,O,O,O,O,O,O,O] HT_.out HW_.out hHeld ?_
              refine one_ (i:=22) (N:=some 141) #[I,I,I,I,I,I,I,I,I,I,I,I,I,I,I,I,I,I,I,I,I,I,I,O,O,O,O,O,O,O,O,O,O,O,O,O,O,O,O] rfl rfl (one_of HT_.out (by kernel_rfl)) (by decide) (fun K_ hK => ?_)
              refine goes_ Try.func9 (by kernel_rfl) rfl #[.float .f64 (rd_T27 l (p : Int)).f1, .float .f64 (rd_T27 l (p : Int)).f1] (by rfl) rfl rfl (by (try simp only [List.map_toArray, List.map_cons, List.map_nil]); first | done | rfl) ?_
              refine (bosunlaw24_bits.same (rd_T27 l (p : Int)).f1 (rd_T27 l (p : Int)).f1 _).mono ?_
              rintro e w11 ⟨rfl, rfl⟩
              rw [bits_same]
              refine ⟨_, rfl, hK.out _ _ hHeld (fun hHeld => ?_)⟩
              clear hK K_
              refine nm_ 141 ?_
              refine pu_ 23 142 #[I,I,I,I,I,I,I,I,I,I,I,I,I,I,I,I,I,I,I,I,I,I,I,I,O,O,O,O,O,O,O,O,O,O,O,O,O,O,O] HT_.out ?_
              refine pu_ 24 143 #[I,I,I,I,I,I,I,I,I,I,I,I,I,I,I,I,I,I,I,I,I,I,I,I,I,O,O,O,O,O,O,O,O,O,O,O,O,O,O] HT_.out ?_
              refine pu_ 25 144 #[I,I,I,I,I,I,I,I,I,I,I,I,I,I,I,I,I,I,I,I,I,I,I,I,I,I,O,O,O,O,O,O,O,O,O,O,O,O,O] HT_.out ?_
              refine pu_ 26 145 #[I,I,I,I,I,I,I,I,I,I,I,I,I,I,I,I,I,I,I,I,I,I,I,I,I,I,I,O,O,O,O,O,O,O,O,O,O,O,O] HT_.out ?_
              refine pu_ 27 146 #[I,I,I,I,I,I,I,I,I,I,I,I,I,I,I,I,I,I,I,I,I,I,I,I,I,I,I,I,O,O,O,O,O,O,O,O,O,O,O] HT_.out ?_
              refine pu_ 28 147 #[I,I,I,I,I,I,I,I,I,I,I,I,I,I,I,I,I,I,I,I,I,I,I,I,I,I,I,I,I,O,O,O,O,O,O,O,O,O,O] HT_.out ?_
              refine pu_ 29 148 #[I,I,I,I,I,I,I,I,I,I,I,I,I,I,I,I,I,I,I,I,I,I,I,I,I,I,I,I,I,I,O,O,O,O,O,O,O,O,O] HT_.out ?_
              refine ta_ 30 149 #[I,I,I,I,I,I,I,I,I,I,I,I,I,I,I,I,I,I,I,I,I,I,I,I,I,I,I,I,I,I,I,O,O,O,O,O,O,O,O] HT_.out HW_.out hHeld ?_
              refine pu_ 31 150 #[I,I,I,I,I,I,I,I,I,I,I,I,I,I,I,I,I,I,I,I,I,I,I,I,I,I,I,I,I,I,I,I,O,O,O,O,O,O,O] HT_.out ?_
              refine pu_ 32 151 #[I,I,I,I,I,I,I,I,I,I,I,I,I,I,I,I,I,I,I,I,I,I,I,I,I,I,I,I,I,I,I,I,I,O,O,O,O,O,O] HT_.out ?_
              refine pu_ 33 152 #[I,I,I,I,I,I,I,I,I,I,I,I,I,I,I,I,I,I,I,I,I,I,I,I,I,I,I,I,I,I,I,I,I,I,O,O,O,O,O] HT_.out ?_
              refine pu_ 34 153 #[I,I,I,I,I,I,I,I,I,I,I,I,I,I,I,I,I,I,I,I,I,I,I,I,I,I,I,I,I,I,I,I,I,I,I,O,O,O,O] HT_.out ?_
              refine ta_ 35 154 #[I,I,I,I,I,I,I,I,I,I,I,I,I,I,I,I,I,I,I,I,I,I,I,I,I,I,I,I,I,I,I,I,I,I,I,I,O,O,O] HT_.out HW_.out hHeld ?_
              refine one_ (i:=36) (N:=some 155) #[I,I,I,I,I,I,I,I,I,I,I,I,I,I,I,I,I,I,I,I,I,I,I,I,I,I,I,I,I,I,I,I,I,I,I,I,I,O,O] rfl rfl (one_of HT_.out (by kernel_rfl)) (by decide) (fun K_ hK => ?_)
              refine goes_ Try.func9 (by kernel_rfl) rfl #[.float .f64 (rd_T27 l (p : Int)).f2, .float .f64 (rd_T27 l (p : Int)).f2] (by rfl) rfl rfl (by (try simp only [List.map_toArray, List.map_cons, List.map_nil]); first | done | rfl) ?_
              refine (bosunlaw24_bits.same (rd_T27 l (p : Int)).f2 (rd_T27 l (p : Int)).f2 _).mono ?_
              rintro e w11 ⟨rfl, rfl⟩
              rw [bits_same]
              refine ⟨_, rfl, hK.out _ _ hHeld (fun hHeld => ?_)⟩
              clear hK K_
              refine nm_ 155 ?_
              refine pu_ 37 156 #[I,I,I,I,I,I,I,I,I,I,I,I,I,I,I,I,I,I,I,I,I,I,I,I,I,I,I,I,I,I,I,I,I,I,I,I,I,I,O] HT_.out ?_
              refine pu_ 38 157 #[I,I,I,I,I,I,I,I,I,I,I,I,I,I,I,I,I,I,I,I,I,I,I,I,I,I,I,I,I,I,I,I,I,I,I,I,I,I,I] HT_.out ?_
              refine done_ (done_of HT_.out (by kernel_rfl)) ?_
              clear HT_ HW_ hHeld
              cases gk with
              | zero => omega
              | succ k1 =>
                try go_wp2
                go_roundg k1
                case measure => omega
                case rel => exact ⟨p + 1, by go_num, ⟨by omega⟩, HKP, HB⟩
            · have hpn : ¬ ((p : Int) < (l.length : Int)) := by omega
              go_wp2_with (go_at_call 5; refine (awake_at _).mono ?_; rintro e w12 ⟨rfl, hb⟩; have HB12 := Aside0.mk (below_step HB.out hb); clear hb)
              go_ret
              exact ⟨rfl, HB12.out⟩
end Go.Proofs.Ythnbkhggbfnpcaa.GEv
