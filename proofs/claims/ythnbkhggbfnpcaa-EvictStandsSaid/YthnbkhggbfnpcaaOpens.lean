/- Plain lemmas: what is read as data of a type lies in memory as a kind of the print's words, and each part is of its type's range and reach. No conditions beside those stated. -/
import Derived.Test.YthnbkhggbfnpcaaWWords
import Derived.Deep.Slices
import Derived.SizedLaws
import Derived.WalkKit
import Derived.ProofKit
namespace Go.Proofs.Ythnbkhggbfnpcaa.Opens
open Go.RowKit Go.ChangeShapes Go.WideShapes Go.Deep Go.Proofs.YthnbkhggbfnpcaaW.PrintWords

theorem mem_weightsAll {H : Type} {P : Program} {e : TypeId} {d : DataW H} : ∀ {l : List (DataW H)}, d ∈ l → ∀ n ∈ d.weights P e, n ∈ DataW.weightsAll P e l
  | [], h, _, _ => by cases h
  | x :: l, h, n, hn => by
    unfold DataW.weightsAll
    rw [List.mem_append]
    rcases List.mem_cons.1 h with rfl | h
    · exact .inl hn
    · exact .inr (mem_weightsAll h n hn)
theorem mem_weightsEach {H : Type} {P : Program} : ∀ {ts : List TypeId} {ds : List (DataW H)} {j : Nat} {t : TypeId} {d : DataW H}, ts[j]? = some t → ds[j]? = some d → ∀ n ∈ d.weights P t, n ∈ DataW.weightsEach P ts ds :=
  fun h1 h2 => DataW.weights_mem_each h1 h2

/-- What reads as data of type t, its sizes within reach, is of kind d, and good. -/
def Opens {α : Type} (P : Program) (t : TypeId) (d : Kd α) (G : α → Prop) : Prop :=
  ∀ {H : Type} (enc : TypeId × Value → H) (w : World) (base : Nat) (spare : Nat → Bool) (held : Bool) (fuel : Nat) (cs : List Value) (x : DataW H × List MemPlace),
    DataW.trod enc P w base spare held fuel t cs = some x → (∀ n ∈ x.1.weights P t, n ≤ reachBytes) → ∃ a : α, d.K w a cs ∧ G a
section
variable {P : Program} {t : TypeId}
theorem opens_int {k : IntKind} (ht : P.underlying t = some (.int k)) : Opens P t (Kd.int k) (fun a => (Lit.int k a).wf = true) := by
  intro H enc w base spare held fuel cs x h _
  obtain ⟨n, rfl, _, hw⟩ := DataW.trod_int ht h
  exact ⟨n, rfl, hw⟩
theorem opens_bool (ht : P.underlying t = some .bool) : Opens P t Kd.bool (fun _ => True) := by
  intro H enc w base spare held fuel cs x h _
  obtain ⟨n, rfl, _⟩ := DataW.trod_bool ht h
  exact ⟨n, rfl, trivial⟩
theorem opens_string (ht : P.underlying t = some .string) : Opens P t Kd.string (fun s => s.size ≤ 140737488351232) := by
  intro H enc w base spare held fuel cs x h hs
  obtain ⟨s, rfl, rfl, _⟩ := DataW.trod_string ht h
  refine ⟨s, rfl, ?_⟩
  have := hs s.data.toList.length (by simp [DataW.weights])
  rw [Array.length_toList] at this
  exact this
theorem opens_slice {α : Type} {d : Kd α} {G : α → Prop} {e : TypeId} {B : Nat} (ht : P.underlying t = some (.slice e)) (hc : P.cellsOf e = d.sz) (hB : P.bytesOf e = B) (he : Opens P e d G) :
    Opens P t (Kd.slice e d) (fun xs => xs.length * B ≤ 140737488351232 ∧ xs.length ≤ 9223372036854775807 ∧ ∀ x ∈ xs, G x) := by
  intro H enc w base spare held fuel cs x h hs
  rcases open_slice ht h with ⟨rfl, rfl⟩ | ⟨a, len, cap, m, n, D, Pl, rfl, hb, hl, hm, hmm, rfl, hx⟩
  · exact ⟨[], ⟨none, 0, rfl, Nat.le_refl _, rfl, Nat.zero_le _, fun h0 => absurd h0 (by simp)⟩, by simp, by simp, fun x hx => by cases hx⟩
  · have hlm : len ≤ m := by rw [hmm]; split <;> omega
    simp only [DataW.weights, ht] at hs
    have hsz : ∀ i, i < len → ∃ y : α, (∃ c, c.length = d.sz ∧ d.K w y c ∧ ∀ j u, c[j]? = some u → w.cell? (a.add (i * d.sz + j)) = some u) ∧ G y := by
      intro i hi
      obtain ⟨cs', h1, h2⟩ := hx i (by omega)
      obtain ⟨y, hK, hG⟩ := he enc w base spare held n cs' (D i, Pl i) h2 (fun q hq => hs q (List.mem_cons_of_mem _ (List.mem_append_left _ (mem_weightsAll (d := D i) (List.mem_map.2 ⟨i, List.mem_range.2 hi, rfl⟩) q hq))))
      obtain ⟨_, h3, h4⟩ := World.cells?_some h1
      refine ⟨y, ⟨cs', by rw [h3, hc], hK, fun j u hj => ?_⟩, hG⟩
      have hjl : j < P.cellsOf e := by rw [← h3]; exact (List.getElem?_eq_some_iff.1 hj).1
      have := h4 j hjl
      rw [Deep.add_add, hc] at this
      rw [this, hj]
    let f : Fin len → α := fun i => Classical.choose (hsz i.1 i.2)
    have hf : ∀ i : Fin len, (∃ c, c.length = d.sz ∧ d.K w (f i) c ∧ ∀ j u, c[j]? = some u → w.cell? (a.add (i.1 * d.sz + j)) = some u) ∧ G (f i) := fun i => Classical.choose_spec (hsz i.1 i.2)
    have hlen : (List.ofFn f).length = len := by simp
    have hreach := hs _ List.mem_cons_self
    rw [List.length_map, List.length_range, hB] at hreach
    refine ⟨List.ofFn f, ⟨some a, cap, by rw [hlen], by rw [hlen]; exact hl, hlen.symm ▸ rfl, ?_, fun _ => ⟨a, rfl, fun j p hj => ?_⟩⟩, ?_, ?_, ?_⟩
    · rw [hlen]
      have := hm
      unfold maxLen at this
      omega
    · obtain ⟨hj1, rfl⟩ := List.getElem?_eq_some_iff.1 hj
      rw [List.getElem_ofFn]
      exact (hf ⟨j, by rwa [hlen] at hj1⟩).1
    · rw [hlen]
      refine Nat.le_trans (Nat.mul_le_mul_right B (Nat.le_add_right len _)) (Nat.le_trans hreach (Nat.le_of_eq rfl))
    · rw [hlen]
      have := hm
      unfold maxLen at this
      omega
    · intro y hy
      obtain ⟨i, rfl⟩ := List.mem_ofFn.1 hy
      exact (hf i).2
theorem opens_iso {α β : Type} {d : Kd α} {G : α → Prop} (f : β → α) (g : α → β) (hfg : ∀ a, f (g a) = a) (h : Opens P t d G) : Opens P t (Kd.iso d f) (fun b => G (f b)) := by
  intro H enc w base spare held fuel cs x h1 h2
  obtain ⟨a, hK, hG⟩ := h enc w base spare held fuel cs x h1 h2
  exact ⟨g a, by show d.K w (f (g a)) cs; rw [hfg]; exact hK, by show G (f (g a)); rw [hfg]; exact hG⟩
/-- Fields from one on, which begins at cell o. -/
def OpensF {α : Type} (P : Program) (fs : List Field) (o : Nat) (d : Kd α) (G : α → Prop) : Prop :=
  ∀ {H : Type} (enc : TypeId × Value → H) (w : World) (base : Nat) (spare : Nat → Bool) (held : Bool) (n : Nat) (cs : List Value) (xs : List (DataW H × List MemPlace)),
    xs.length = fs.length → (∀ (i : Nat) (f : Field), fs[i]? = some f → DataW.trod enc P w base spare held n f.type ((cs.drop f.offset).take (P.cellsOf f.type)) = xs[i]?) →
    (∀ m ∈ DataW.weightsEach P (fs.map (·.type)) (xs.map (·.1)), m ≤ reachBytes) → ∃ a : α, d.K w a ((cs.drop o).take d.sz) ∧ G a
theorem opensF_one {α : Type} {d : Kd α} {G : α → Prop} {f : Field} {o : Nat} (ho : f.offset = o) (hc : P.cellsOf f.type = d.sz) (h : Opens P f.type d G) : OpensF P [f] o d G := by
  intro H enc w base spare held n cs xs hl hx hs
  match xs, hl with
  | [x], _ =>
    have h1 := hx 0 f rfl
    rw [ho, hc] at h1
    exact h enc w base spare held n _ x h1 (fun m hm => hs m (by simp [DataW.weightsEach, hm]))
theorem opensF_cons {α β : Type} {d : Kd α} {G : α → Prop} {d' : Kd β} {G' : β → Prop} {f : Field} {fs : List Field} {o : Nat} (ho : f.offset = o) (hc : P.cellsOf f.type = d.sz) (h : Opens P f.type d G) (h' : OpensF P fs (o + d.sz) d' G') :
    OpensF P (f :: fs) o (Kd.pair d d') (fun p => G p.1 ∧ G' p.2) := by
  intro H enc w base spare held n cs xs hl hx hs
  match xs, hl with
  | x :: xs, hl =>
    have h1 := hx 0 f rfl
    rw [ho, hc] at h1
    obtain ⟨a, hK, hG⟩ := h enc w base spare held n _ x h1 (fun m hm => hs m (by simp [DataW.weightsEach, hm]))
    obtain ⟨b, hK', hG'⟩ := h' enc w base spare held n cs xs (by simpa using hl) (fun i g hg => hx (i + 1) g hg) (fun m hm => hs m (by simp only [List.map_cons, DataW.weightsEach, List.mem_append]; exact .inr hm))
    refine ⟨(a, b), ⟨_, _, ?_, hK, hK'⟩, hG, hG'⟩
    show (cs.drop o).take (d.sz + d'.sz) = _
    rw [List.take_add, List.drop_drop]
theorem opens_struct {α : Type} {d : Kd α} {G : α → Prop} {fs : Array Field} (ht : P.underlying t = some (.struct fs)) (hc : P.cellsOf t = d.sz) (h : OpensF P fs.toList 0 d G) : Opens P t d G := by
  intro H enc w base spare held fuel cs x hx hs
  obtain ⟨xs, n, _, rfl, hlen, hxl, hf⟩ := DataW.trod_struct ht hx
  simp only [DataW.weights, ht] at hs
  obtain ⟨a, hK, hG⟩ := h enc w base spare held n cs xs (by simpa using hxl) (fun i f hi => hf i f (by simpa using hi)) hs
  refine ⟨a, ?_, hG⟩
  rw [List.drop_zero, List.take_of_length_le (by rw [hlen, hc]; exact Nat.le_refl _)] at hK
  exact hK
end
/-- An argument of the call, opened. -/
theorem arg {H : Type} {enc : TypeId × Value → H} {P : Program} {w : World} {base : Nat} {spare : Nat → Bool} {held : Bool} {t : TypeId} {v : Value} {dt : DataW H} {p : List MemPlace} {α : Type} {d : Kd α} {G : α → Prop}
    (ho : Opens P t d G) (h : DataW.Trod enc P w base spare held t v dt p) {ts : List TypeId} {ds : List (DataW H)} {j : Nat} (hs : (DataW.weightsEach P ts ds).all (· ≤ reachBytes) = true) (h1 : ts[j]? = some t) (h2 : ds[j]? = some dt) : ∃ a : α, d.K w a v.cells.toList ∧ G a := by
  obtain ⟨fuel, hf⟩ := h
  exact ho enc w base spare held fuel _ _ hf (fun n hn => by simpa using List.all_eq_true.1 hs n (mem_weightsEach h1 h2 n hn))
end Go.Proofs.Ythnbkhggbfnpcaa.Opens
