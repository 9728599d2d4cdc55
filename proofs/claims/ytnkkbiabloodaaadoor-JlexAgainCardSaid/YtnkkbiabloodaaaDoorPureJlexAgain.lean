/- JlexAgain, the pure statement: words rise by their places; written one behind the other, parted by blanks, they are the same words; for every input. -/
import Derived.Test.YtnkkbiabloodaaaDoorJlM
import Derived.Test.YtnkkbiabloodaaaDoorGUtJlexAgainS
namespace Go.Proofs.YtnkkbiabloodaaaDoor.Pure
open Go.RowKit Go.Proofs.YtnkkbiabloodaaaDoor.GUt Go.Proofs.YtnkkbiabloodaaaDoorW.PrintWords Go.Proofs.YtnkkbiabloodaaaDoorW.PrintLast Go.Proofs.YtnkkbiabloodaaaDoorW.PrintMore
set_option linter.unusedVariables false

theorem awake07a : Ev (fun k => bosunlaw07_Awake.f k) true := by
  have h : bosunlaw07_Awake.f 40 = some true := by decide +kernel
  exact Ev.of (fun k => bosunlaw07_Awake.mono k) h
def key (x : Tk) : Int × ByteArray × Int := (x.f0, x.f1, x.f2)
def textT : List Tk → ByteArray
  | [] => ⟨#[]⟩
  | x :: r => (showT x.f0 x.f1 x.f2 ++ sp) ++ textT r
theorem show_size (a : Int) (t : ByteArray) (v : Int) (n : Nat) (h : TokOk a t v) (ht : t.size ≤ n) (hn : 1 ≤ n) : (showT a t v).size + 1 ≤ 22 * n := by
  unfold showT
  by_cases h6 : a = 6
  · have := quote_size t t.size 0
    rw [if_pos h6, ByteArray.size_append, nums_len]
    simp only [List.length_cons, List.length_nil]
    omega
  rw [if_neg h6]
  by_cases h10 : a = 10
  · have := dec_size v
    rw [if_pos h10]
    omega
  rw [if_neg h10]
  have c : a = 0 ∨ a = 1 ∨ a = 2 ∨ a = 3 ∨ a = 4 ∨ a = 5 ∨ a = 7 ∨ a = 8 ∨ a = 9 := by
    rcases h with h | h | h | h <;> omega
  have z : ∀ x : ByteArray, x.size ≤ 5 → x.size + 1 ≤ 22 * n := fun x hx => by omega
  rcases c with rfl | rfl | rfl | rfl | rfl | rfl | rfl | rfl | rfl <;> exact z _ (by decide)
theorem text_end (s : ByteArray) : textT [endT s] = sp := by
  show (showT 11 ⟨#[]⟩ 0 ++ sp) ++ ⟨#[]⟩ = sp
  have e : showT 11 ⟨#[]⟩ 0 = ⟨#[]⟩ := by unfold showT; rw [if_neg (by decide), if_neg (by decide), if_pos rfl]
  rw [e, app_nil, nil_app]
theorem text_size (s : ByteArray) : ∀ (M : List Tk) (lo : Nat), Good s.size M lo → (textT (M ++ [endT s])).size ≤ 22 * (s.size - lo) + 1
  | [], lo, h => by
    rw [List.nil_append, text_end]
    show 1 ≤ _
    omega
  | x :: M, lo, h => by
    obtain ⟨h1, at_, n, h2, h3, h4, h5, h6, h7⟩ := h
    have ih := text_size s M (at_ + n) h7
    have hs := show_size x.f0 x.f1 x.f2 n h1 h5 h4
    have e1 : sp.size = 1 := rfl
    rw [List.cons_append, textT, ByteArray.size_append, ByteArray.size_append, e1]
    omega
theorem skip_one (s : ByteArray) (i : Nat) (hi : i < s.size) (h : blank (bt s (i : Int))) : skipB s (s.size - i) i = skipB s (s.size - (i + 1)) (i + 1) := by
  obtain ⟨m, hm⟩ : ∃ m, s.size - i = m + 1 := ⟨s.size - i - 1, by omega⟩
  have e : s.size - (i + 1) = m := by omega
  rw [hm, e, skipB, if_pos h]
theorem skip_stop (s : ByteArray) (m i : Nat) (h : ¬ blank (bt s (i : Int))) : skipB s m i = i := by
  cases m with
  | zero => rfl
  | succ m => rw [skipB, if_neg h]
theorem skip_end (s : ByteArray) : skipB s (s.size - s.size) s.size = s.size := by
  rw [Nat.sub_self, skipB]
/-- Where the next word begins, behind what is there. -/
def startT (t : ByteArray) (pre : ByteArray) (M : List Tk) : Nat := match M with
  | [] => t.size
  | _ :: _ => pre.size
theorem skip_to (s pre t : ByteArray) (M : List Tk) (hM : ∀ x ∈ M, TokOk x.f0 x.f1 x.f2) (ht : t = pre ++ textT (M ++ [endT s])) : skipB t (t.size - pre.size) pre.size = startT t pre M := by
  cases M with
  | nil =>
    rw [List.nil_append, text_end] at ht
    have hz : t.size = pre.size + 1 := by rw [ht, ByteArray.size_append]; rfl
    have hb : bt t (pre.size : Int) = 32 := by
      have := bt_right pre sp 0
      rw [Nat.add_zero] at this
      rw [ht, this]
      rfl
    rw [skip_one t pre.size (by omega) (.inl hb), ← hz, skip_end]
    rfl
  | cons x M =>
    have hx := show_first x.f0 x.f1 x.f2 (hM x List.mem_cons_self)
    rw [List.cons_append, textT, ByteArray.append_assoc] at ht
    have hb : bt t (pre.size : Int) = bt (showT x.f0 x.f1 x.f2) 0 := by
      have := bt_right pre (showT x.f0 x.f1 x.f2 ++ (sp ++ textT (M ++ [endT s]))) 0
      rw [Nat.add_zero] at this
      rw [ht, this]
      exact bt_mid _ _ 0 hx.1
    exact skip_stop _ _ _ (by rw [hb]; exact hx.2)
theorem relex (s t : ByteArray) (ht5 : t.size ≤ 400000) : ∀ (M : List Tk) (pre : ByteArray) (out : List Tk), (∀ x ∈ M, TokOk x.f0 x.f1 x.f2) → t = pre ++ textT (M ++ [endT s]) → out.length ≤ pre.size →
    ∃ R : List Tk, Ev (fun k => jlex_Lex.l0 k t out ((startT t pre M : Nat) : Int)) (out ++ R, 0, 0) ∧ R.map key = (M ++ [endT s]).map key
  | [], pre, out, hM, ht, ho => by
    have hz : pre.size ≤ t.size := by rw [ht, ByteArray.size_append]; omega
    exact ⟨[endT t], Ev.step (fun k => by rw [startT, jlex_Lex.l0, if_neg (by omega), if_pos (by omega)]; rfl) (Ev.now _), rfl⟩
  | x :: M, pre, out, hM, ht, ho => by
    have hx := hM x List.mem_cons_self
    have hf := show_first x.f0 x.f1 x.f2 hx
    have hM' : ∀ y ∈ M, TokOk y.f0 y.f1 y.f2 := fun y hy => hM y (List.mem_cons_of_mem _ hy)
    rw [List.cons_append, textT] at ht
    obtain ⟨S, hS⟩ : ∃ S, showT x.f0 x.f1 x.f2 = S := ⟨_, rfl⟩
    obtain ⟨rest, hR⟩ : ∃ r, textT (M ++ [endT s]) = r := ⟨_, rfl⟩
    have e1 : sp.size = 1 := rfl
    rw [hS, hR] at ht
    rw [hS] at hf
    have hz : t.size = pre.size + (S.size + 1 + rest.size) := by rw [ht, ByteArray.size_append, ByteArray.size_append, ByteArray.size_append, e1]
    have hu : t.extract pre.size t.size = S ++ (sp ++ rest) := by
      rw [ht, ext_suf, ByteArray.append_assoc]
    have hw := word_show x.f0 x.f1 x.f2 hx rest (by omega)
    rw [hS, ← hu] at hw
    have hpre : t = (pre ++ (S ++ sp)) ++ textT (M ++ [endT s]) := by
      rw [hR, ht]
      simp only [ByteArray.append_assoc]
    have hpz : (pre ++ (S ++ sp)).size = pre.size + S.size + 1 := by rw [ByteArray.size_append, ByteArray.size_append, e1]; omega
    have hb : bt t ((pre.size + S.size : Nat) : Int) = 32 := by
      have h1 := bt_right pre ((S ++ sp) ++ rest) S.size
      rw [ByteArray.append_assoc, bt_sp] at h1
      rw [ht, ByteArray.append_assoc (a := S)]
      exact h1
    have hsk := skip_f t (by omega) (pre.size + S.size) (by omega)
    rw [skip_one t (pre.size + S.size) (by omega) (.inl hb), ← hpz, skip_to s (pre ++ (S ++ sp)) t M hM' hpre] at hsk
    obtain ⟨R, hE, hK⟩ := relex s t ht5 M (pre ++ (S ++ sp)) (out ++ [(⟨x.f0, x.f1, x.f2, (pre.size : Int)⟩ : Tk)]) hM' hpre (by rw [List.length_append, hpz]; simp; omega)
    refine ⟨(⟨x.f0, x.f1, x.f2, (pre.size : Int)⟩ : Tk) :: R, ?_, by rw [List.map_cons, hK, List.cons_append, List.map_cons]; rfl⟩
    have hwr : wrap64 ((pre.size : Int) + (S.size : Int)) = ((pre.size + S.size : Nat) : Int) := by rw [i64_id (by omega) (by omega)]; omega
    rw [List.append_assoc, List.singleton_append] at hE
    refine Ev.step (fun k => by rw [startT, jlex_Lex.l0, if_pos (by omega), if_pos (by omega), if_pos (by omega), Int.toNat_natCast]) (Ev.bind hw ?_)
    refine Ev.congr (f := fun k => (jlex_skip.f k t ((pre.size + S.size : Nat) : Int)).bind fun t118 => jlex_Lex.l0 k t (out ++ [(⟨x.f0, x.f1, x.f2, (pre.size : Int)⟩ : Tk)]) t118) (fun k => by
      simp only []
      rw [if_pos True.intro, if_pos (by omega), hwr]) (Ev.bind hsk hE)
theorem rd_at (L pre : List Tk) (x : Tk) (rest : List Tk) (h : L = pre ++ x :: rest) : rd_T69 L ((pre.length : Nat) : Int) = x := by
  rw [rd_T69, Int.toNat_natCast, h]
  simp
theorem again_l1 (L R : List Tk) (hL : L.length ≤ 1000000) (hR : R.length = L.length) (hk : R.map key = L.map key) : ∀ (m i : Nat), i + m = L.length → Ev (fun k => bosunlaw07_JlexAgain.l1 k L R (L.length : Int) (i : Int)) true
  | 0, i, h => Ev.step (fun k => by rw [bosunlaw07_JlexAgain.l1, if_neg (by omega)]) (Ev.bind awake07a (Ev.now _))
  | m + 1, i, h => by
    have e1 : rd_T69 L (i : Int) = L[i]'(by omega) := by rw [rd_T69, Int.toNat_natCast]; simp [show i < L.length by omega]
    have e2 : rd_T69 R (i : Int) = R[i]'(by omega) := by rw [rd_T69, Int.toNat_natCast]; simp [show i < R.length by omega]
    have e3 : key (R[i]'(by omega)) = key (L[i]'(by omega)) := by
      have : (R.map key)[i]'(by rw [List.length_map]; omega) = (L.map key)[i]'(by rw [List.length_map]; omega) := by simp only [hk]
      rw [List.getElem_map, List.getElem_map] at this
      exact this
    unfold key at e3
    injection e3 with k0 e3
    injection e3 with k1 k2
    exact Ev.step (fun k => by
      rw [bosunlaw07_JlexAgain.l1, if_pos (by omega), if_pos (by omega), if_pos (by omega), if_pos (by omega), e1, e2, if_pos k0.symm, if_pos (by rw [k1]), if_pos k2.symm, wi (by omega)]) (again_l1 L R hL hR hk m (i + 1) (by omega))
theorem again_l0 (s : ByteArray) (hs : s.size ≤ 3000) (L : List Tk) (hL : L.length ≤ 100000) : ∀ (M pre : List Tk) (acc : ByteArray) (lo : Nat), L = pre ++ (M ++ [endT s]) → Good s.size M lo → (∀ y ∈ pre.getLast?, y.f3 < (lo : Int)) → acc.size + 22 * (s.size - lo) ≤ 66100 →
    Ev (fun k => bosunlaw07_JlexAgain.l0 k s L (acc ++ textT (M ++ [endT s])) L (L.length : Int) (L.length : Int)) true → Ev (fun k => bosunlaw07_JlexAgain.l0 k s L acc L (L.length : Int) ((pre.length : Nat) : Int)) true := by
  -- one word
  have one : ∀ (x : Tk) (rest pre : List Tk) (acc : ByteArray) (lo : Nat), L = pre ++ x :: rest → (TokOk x.f0 x.f1 x.f2 ∨ x.f0 = 11) → (x.f0 ≤ 11 ∧ 0 ≤ x.f0) → 0 ≤ x.f3 ∧ x.f3 ≤ (s.size : Int) → (lo : Int) ≤ x.f3 → (∀ y ∈ pre.getLast?, y.f3 < (lo : Int)) → acc.size ≤ 200000 → (showT x.f0 x.f1 x.f2).size ≤ 200000 →
      Ev (fun k => bosunlaw07_JlexAgain.l0 k s L (acc ++ (showT x.f0 x.f1 x.f2 ++ sp)) L (L.length : Int) ((pre.length + 1 : Nat) : Int)) true → Ev (fun k => bosunlaw07_JlexAgain.l0 k s L acc L (L.length : Int) ((pre.length : Nat) : Int)) true := by
    intro x rest pre acc lo hx hok hk hp hlo hpre ha hsz hnext
    have hrd := rd_at L pre x rest hx
    have hlen : L.length = pre.length + (rest.length + 1) := by rw [hx, List.length_append, List.length_cons]
    have e1 : sp.size = 1 := rfl
    have j1 : Ev (fun k => bosunlaw07_JlexAgain.j1 k s L acc L (L.length : Int) ((pre.length : Nat) : Int) false x.f0 x.f1 x.f2 x.f3) true := by
      refine Ev.step (f := fun k => (bosunlaw07_show.f k x.f0 x.f1 x.f2 x.f3).bind fun t221 => if t221.size + 1 ≤ 9223372036854775807 then (if acc.size + (t221 ++ (⟨#[32]⟩ : ByteArray)).size ≤ 9223372036854775807 then (bosunlaw07_JlexAgain.l0 k s L (acc ++ (t221 ++ (⟨#[32]⟩ : ByteArray))) L (L.length : Int) (wrap64 (((pre.length : Nat) : Int) + 1))) else none) else none) (fun k => by rw [bosunlaw07_JlexAgain.j1, if_neg Bool.false_ne_true, bosunlaw07_of.f, Option.bind_some]) (Ev.bind (show_ev x.f0 x.f1 x.f2 x.f3 hok) ?_)
      have e2 : (showT x.f0 x.f1 x.f2 ++ (⟨#[32]⟩ : ByteArray)).size = (showT x.f0 x.f1 x.f2).size + 1 := ByteArray.size_append
      exact Ev.congr (fun k => by rw [if_pos (by omega), if_pos (by omega), wi (by omega)]; rfl) hnext
    by_cases h0 : pre.length = 0
    · exact Ev.step (fun k => by rw [bosunlaw07_JlexAgain.l0, if_pos (by omega), if_pos (by omega), if_pos (by omega), hrd, if_neg (by omega), if_neg (by omega), if_neg (by omega), if_neg (by omega), if_neg (by omega)]) j1
    · obtain ⟨pre', y, hy⟩ : ∃ pre' y, pre = pre' ++ [y] := ⟨pre.dropLast, pre.getLast (fun q => h0 (by rw [q]; rfl)), (List.dropLast_concat_getLast _).symm⟩
      have hly : y.f3 < (lo : Int) := hpre y (by rw [hy]; simp)
      have hl1 : pre.length = pre'.length + 1 := by rw [hy, List.length_append, List.length_singleton]
      have hw : wrap64 (((pre.length : Nat) : Int) - 1) = ((pre'.length : Nat) : Int) := by rw [i64_id (by omega) (by omega)]; omega
      have hrd2 := rd_at L pre' y (x :: rest) (by rw [hx, hy, List.append_assoc]; rfl)
      exact Ev.step (fun k => by rw [bosunlaw07_JlexAgain.l0, if_pos (by omega), if_pos (by omega), if_pos (by omega), hrd, if_neg (by omega), if_neg (by omega), if_neg (by omega), if_neg (by omega), if_pos (by omega), hw, if_pos (by omega), if_pos (by omega), hrd2, decide_eq_false (by omega)]) j1
  intro M
  induction M with
  | nil =>
    intro pre acc lo hx hg hpre ha hend
    have hlo : lo ≤ s.size := hg
    rw [List.nil_append] at hx hend
    have hlen : L.length = pre.length + 1 := by rw [hx, List.length_append, List.length_singleton]
    have e : showT (endT s).f0 (endT s).f1 (endT s).f2 = ⟨#[]⟩ := by
      show showT 11 ⟨#[]⟩ 0 = _
      unfold showT
      rw [if_neg (by decide), if_neg (by decide), if_pos rfl]
    refine one (endT s) [] pre acc lo hx (.inr rfl) ⟨by show (11 : Int) ≤ 11; decide, by show (0 : Int) ≤ 11; decide⟩ ⟨by show 0 ≤ (s.size : Int); omega, by show (s.size : Int) ≤ _; omega⟩ (by show (lo : Int) ≤ (s.size : Int); omega) hpre (by omega) (by rw [e]; exact Nat.zero_le _) ?_
    rw [e, nil_app, ← hlen]
    rw [text_end] at hend
    exact hend
  | cons x M ih =>
    intro pre acc lo hx hg hpre ha hend
    have htz := text_size s (x :: M) lo hg
    obtain ⟨h1, at_, n, h2, h3, h4, h5, h6, h7⟩ := hg
    have hsz := show_size x.f0 x.f1 x.f2 n h1 h5 h4
    have hk : x.f0 ≤ 11 ∧ 0 ≤ x.f0 := by rcases h1 with q | q | q | q <;> omega
    have e1 : sp.size = 1 := rfl
    refine one x (M ++ [endT s]) pre acc lo hx (.inl h1) hk (by omega) (by omega) hpre (by omega) (by omega) ?_
    have hx' : L = (pre ++ [x]) ++ (M ++ [endT s]) := by rw [hx, List.append_assoc]; rfl
    have r := ih (pre ++ [x]) (acc ++ (showT x.f0 x.f1 x.f2 ++ sp)) (at_ + n) hx' h7 (fun y hy => by
      rw [List.getLast?_append] at hy
      simp at hy
      rw [← hy]
      omega) (by rw [ByteArray.size_append, ByteArray.size_append, e1]; omega) (by
      rw [List.cons_append, textT] at hend
      rw [ByteArray.append_assoc]
      exact hend)
    rw [List.length_append, List.length_singleton] at r
    exact r
theorem good_ok (sz : Nat) : ∀ (M : List Tk) (lo : Nat), Good sz M lo → ∀ x ∈ M, TokOk x.f0 x.f1 x.f2
  | [], _, _, x, hx => absurd hx (by simp)
  | y :: M, lo, h, x, hx => by
    obtain ⟨h1, at_, n, h2, h3, h4, h5, h6, h7⟩ := h
    rcases List.mem_cons.1 hx with rfl | hx
    · exact h1
    · exact good_ok sz M _ h7 x hx
theorem good_len (sz : Nat) : ∀ (M : List Tk) (lo : Nat), Good sz M lo → lo ≤ sz ∧ M.length ≤ sz - lo
  | [], lo, h => ⟨h, Nat.zero_le _⟩
  | y :: M, lo, h => by
    obtain ⟨h1, at_, n, h2, h3, h4, h5, h6, h7⟩ := h
    have ih := good_len sz M _ h7
    exact ⟨by omega, by rw [List.length_cons]; omega⟩
theorem JlexAgain : bosunlaw07_JlexAgain.Pure := by
  intro s hs
  apply Ev.rounds
  by_cases h : (s.size : Int) > 3000
  · exact Ev.congr (fun k => by rw [bosunlaw07_JlexAgain.f, if_pos h]) (Ev.bind awake07a (Ev.now _))
  have hsz : s.size ≤ 3000 := by omega
  have hsk := skip_f s (by omega) 0 (Nat.zero_le _)
  have hsg := skipB_ge s (s.size - 0) 0
  obtain ⟨q, hq⟩ : ∃ q, skipB s (s.size - 0) 0 = q := ⟨_, rfl⟩
  rw [hq] at hsk hsg
  obtain ⟨L, p, e, hL, hL1, hL2⟩ := lex_any s (by omega) (s.size - q) q [] (Nat.le_refl _) (by omega) (Nat.zero_le _)
  have hlex : Ev (fun k => jlex_Lex.f k s) (L, p, e) := Ev.congr (f := fun k => (jlex_skip.f k s ((0 : Nat) : Int)).bind fun t104 => jlex_Lex.l0 k s [] t104) (fun k => by rw [jlex_Lex.f, if_neg (by omega)]; rfl) (Ev.bind hsk hL)
  refine Ev.congr (fun k => by rw [bosunlaw07_JlexAgain.f, if_neg h]) (Ev.bind hlex ?_)
  by_cases he : e = 0
  · obtain ⟨M, hM, hg⟩ := hL2 he
    rw [List.nil_append] at hM
    have hgl := good_len s.size M q hg
    have hll : L.length ≤ 100000 := by rw [hM, List.length_append]; simp; omega
    have htz := text_size s M q hg
    have hok := good_ok s.size M q hg
    refine Ev.congr (f := fun k => bosunlaw07_JlexAgain.l0 k s L ⟨#[]⟩ L (L.length : Int) (([] : List Tk).length : Int)) (fun k => if_pos he) ?_
    refine again_l0 s hsz L hll M [] ⟨#[]⟩ q hM hg (fun y hy => by cases hy) (by show 0 + _ ≤ _; omega) ?_
    rw [nil_app]
    obtain ⟨t, ht⟩ : ∃ t, textT (M ++ [endT s]) = t := ⟨_, rfl⟩
    rw [ht] at htz ⊢
    have ht' : t = (⟨#[]⟩ : ByteArray) ++ textT (M ++ [endT s]) := by rw [nil_app, ht]
    have hst := skip_to s ⟨#[]⟩ t M hok ht'
    have e0 : (⟨#[]⟩ : ByteArray).size = 0 := rfl
    rw [e0] at hst
    have hsk2 := skip_f t (by omega) 0 (Nat.zero_le _)
    rw [hst] at hsk2
    obtain ⟨R, hR, hK⟩ := relex s t (by omega) M ⟨#[]⟩ [] hok ht' (Nat.zero_le _)
    rw [List.nil_append] at hR
    have hlex2 : Ev (fun k => jlex_Lex.f k t) (R, 0, 0) := Ev.congr (f := fun k => (jlex_skip.f k t ((0 : Nat) : Int)).bind fun t104 => jlex_Lex.l0 k t [] t104) (fun k => by rw [jlex_Lex.f, if_neg (by omega)]; rfl) (Ev.bind hsk2 hR)
    have hRL : R.length = L.length := by
      have := congrArg List.length hK
      rw [List.length_map, List.length_map] at this
      rw [this, hM]
    have hj2 : Ev (fun k => bosunlaw07_JlexAgain.j2 k L R false) true := Ev.step (fun k => by rw [bosunlaw07_JlexAgain.j2, if_neg Bool.false_ne_true]; rfl) (again_l1 L R (by omega) hRL (by rw [hK, hM]) L.length 0 (by omega))
    refine Ev.step (fun k => by rw [bosunlaw07_JlexAgain.l0, if_neg (by omega)]) (Ev.bind hlex2 ?_)
    exact Ev.congr (fun k => by
      simp only []
      rw [if_pos True.intro, show ((R.length : Int) != (L.length : Int)) = false by rw [hRL]; simp]) hj2
  · have hn := hL1 he
    subst hn
    refine Ev.congr (fun k => if_neg he) (Ev.bind awake07a ?_)
    exact Ev.congr (f := fun _ => some true) (fun k => by rw [if_pos rfl]; rfl) (Ev.now _)
end Go.Proofs.YtnkkbiabloodaaaDoor.Pure
