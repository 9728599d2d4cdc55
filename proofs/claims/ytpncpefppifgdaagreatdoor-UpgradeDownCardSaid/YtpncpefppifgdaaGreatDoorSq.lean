/- A range over an iterator that writes a variable of its own between two rounds (strings.SplitSeq): what the iterator owes, and the law for the loop. Turned from the library's law for iterators that write nothing. strings.SplitSeq at a text and a sign of one byte: the pieces one behind the other, to the end or till a round says no more. Conditions: the text within the reach of the statements (2^47 bytes). No conditions beside those stated. -/
import Derived.RangeFuncFrom
import Derived.RangeFuncNested
import Derived.RangeFuncBound
import Derived.RangeFuncCalls
import Derived.RangeFuncLeaves
import Derived.Test.YtpncpefppifgdaaGreatDoorProg
import Derived.Test.YtpncpefppifgdaaGreatDoorShelf
import Derived.WalkKit
import Derived.OwnWalkIn
import Derived.TacticsInMore
import Derived.LoopNIn
import Derived.LoopIn
import Derived.Lib.IndexLaws
namespace Go.Proofs.YtpncpefppifgdaaGreatDoor.SeqC
open Go.RowKit
variable {F : Fence} {n : Nat} {P : Program}
def tJ {β : Type} (b : Nat) (J : β → World → Prop) : Prop :=
  ∀ s W W' row, J s W → W.grownBy W' row → (∀ r, row = some r → r = b) → J s W'
def pV {α : Type} (F : Fence) (n : Nat) (P : Program) (g : Nat) (lb : Array Value) (encs : α → Array Value) (b : Nat) (Kp : World → World → Prop) (S Sp : List α → Prop) (Nx : List α → α → Prop) (w : World) : Prop :=
  ∀ (l : Nat) (J Jx : List α → World → Prop) (W : World), Below w.heap.size w W → tJ b J → tJ b Jx →
    (∀ pre x W1, J pre W1 → Nx pre x → YieldAt F (n - 1) P l (encs x) W1 fun e W' =>
      (e = .returned (.bool true) ∧ J (pre ++ [x]) W' ∧ Kp W1 W') ∨ (e = .returned (.bool false) ∧ Jx (pre ++ [x]) W')) →
    J [] W →
    CallsIn F n P g (#[.func (.yield l) #[] #[]] ++ lb) W fun e W' => (∃ v, e = .returned v) ∧ ((∃ xs, S xs ∧ J xs W') ∨ (∃ pre, Sp pre ∧ Jx pre W'))
def xJ {β : Type} (B b : Nat) (I : β → World → Prop) : Prop :=
  ∀ s W W' row, I s W → W.grownBy W' row → (∀ r, row = some r → r = b ∨ (B ≤ r ∧ ∃ o : Obj, W.heap[r]? = some o ∧ o.isCells = false)) → I s W'
theorem xJ.from_ {β : Type} {B b : Nat} {I : β → World → Prop} (h : xJ B b I) : OwnFrom B I := fun s W W' row hs hg hr => h s W W' row hs hg (fun r e => .inr (hr r e))
theorem lQ {α : Type} {g : Operand} {ps : Array Tmp} {assign body : Code} {Q : Exit → Act → World → Prop} {a : Act} {w : World} {b : Nat} (hb : b < w.heap.size)
    (hro : F.round = none) (h1 : 1 ≤ n) {gf : Nat} {lb : Array Value} (hg : a.eval g = .func (.func gf) #[] lb) (hFg : F.fn gf) (eg : ∀ args w, (callFunc gf args).run P w = .ok (.enter gf args) w)
    {encs : α → Array Value} {Kp : World → World → Prop} {S Sp : List α → Prop} {Nx : List α → α → Prop} {w0 : World} (hseq : pV F (n - 1) P gf lb encs b Kp S Sp Nx w0)
    (hKt : ∀ {A B C : World}, Kp A B → Kp B C → Kp A C) (hKb : ∀ (W : World) (l : Nat) (o o' : Obj), w.heap.size ≤ l → W.heap[l]? = some o → o.isCells = false → o.isWalk = false → Kp W (W.putObj l o')) (hb0 : Below w0.heap.size w0 w) (hps : ∀ x, (encs x).size = ps.size)
    (I : List α → World → Prop) (Ix : Code → List α → World → Prop) (hIC : xJ w.heap.size b I) (hIxC : ∀ c, xJ w.heap.size b (Ix c)) (h0 : I [] w) (a₁ : α → Act)
    (hassign : ∀ (l : Nat) (x : α) (W : World) (K : Act → World → Prop), K (a₁ x) W →
      assign.wpIn (F.inRound l) (n - 1 - 1) P (Exit.then K (fun _ _ _ => False)) { tmps := (ps.zip (encs x)).foldl (fun t (p, v) => t.setIfInBounds p v) a.tmps, defers := [] } W)
    (hbody : ∀ (l : Nat) (pre : List α) (x : α) (W : World), I pre W → Nx pre x → body.wpIn (F.inRound l) (n - 1 - 1) P (ownPostK Kp I Ix (pre ++ [x]) W) (a₁ x) W)
    (hdone : ∀ (D : Nat) (xs : List α) (W : World), w.heap.size ≤ D → S xs → I xs W → W.heap[D]? = some (.deferred (some [])) → Q .normal { a with defers := { target := .collected D, args := #[] } :: a.defers } W)
    (hstop : ∀ (D : Nat) (c : Code) (pre : List α) (W : World), w.heap.size ≤ D → Sp pre → Ix c pre W → W.heap[D]? = some (.deferred (some [])) → c.wpIn F n P Q { a with defers := { target := .collected D, args := #[] } :: a.defers } W) :
    (Code.rangeFunc g ps assign body).wpIn F n P Q a w := by
  have hI := hIC.from_
  have hIx := fun c => (hIxC c).from_
  refine wpIn_rangeFunc ?_
  intro fn hfn
  rw [hro]
  obtain ⟨rec, hrec⟩ : ∃ rec : LoopState → Option Code → Loop, rec = fun st pe => { state := st, pending := pe, fn, tmps := a.tmps, params := ps, assign, body, defers := w.heap.size } := ⟨_, rfl⟩
  obtain ⟨W1, hW1⟩ : ∃ W1, (w.alloc (.deferred (some []))).alloc (.loop (rec .ready none)) = W1 := ⟨_, rfl⟩
  have hL1 : W1.heap[w.heap.size + 1]? = some (.loop (rec .ready none)) := by
    rw [← hW1]; have := World.alloc_heap_new (w.alloc (.deferred (some []))) (.loop (rec .ready none)); rwa [World.size_alloc] at this
  have hK1 : W1.heap[w.heap.size]? = some (.deferred (some [])) := by
    rw [← hW1]; exact (Below.heap_alloc _ _ _ (by simp)).trans (World.alloc_heap_new w _)
  have hI1 : I [] W1 := by rw [← hW1]; exact hI.alloc _ (hI.alloc _ h0)
  have hb1 : Below w0.heap.size w0 W1 := by
    rw [← hW1]; exact hb0.trans ((((Below.refl _ w).alloc (Nat.le_refl _) _).alloc (by simp) _).mono hb0.size)
  have keepB : ∀ {A B : World} {row : Option Nat} {k : Nat} {o : Obj}, A.grownBy B row → (∀ r, row = some r → r = b) → w.heap.size ≤ k → A.heap[k]? = some o → B.heap[k]? = some o := by
    intro A B row k o hg' hr hk ho
    rw [hg'.block k (Array.getElem?_eq_some_iff.1 ho).1 (fun e => by have := hr k e.symm; omega)]
    exact ho
  refine ⟨w.heap.size + 1, [{ target := .collected w.heap.size, args := #[] }], W1, { target := .fn (.func gf) lb, args := #[.func (.yield (w.heap.size + 1)) #[] #[]] }, W1, gf,
    #[.func (.yield (w.heap.size + 1)) #[] #[]] ++ lb, W1, ?_, ?_, ?_, ?_, fun _ => h1, ?_⟩
  · rw [← hW1, hrec]; exact run_enterLoop_outer _ _ _ _ _
  · simp only [resolve, hg]
    simp [go_sem]
  · intro f' hf'; simp [Target.leads] at hf'; subst hf'; exact hFg
  · simp [invoke, go_sem, eg]
  · refine (hseq (w.heap.size + 1)
      (fun pre W => I pre W ∧ W.heap[w.heap.size + 1]? = some (.loop (rec .ready none)) ∧ W.heap[w.heap.size]? = some (.deferred (some [])))
      (fun pre W => ∃ c, Ix c pre W ∧ W.heap[w.heap.size + 1]? = some (.loop (rec .done (some c))) ∧ W.heap[w.heap.size]? = some (.deferred (some [])))
      W1 hb1
      (fun s A B row hs hg' hr => ⟨hIC s A B row hs.1 hg' (fun r e => .inl (hr r e)), keepB hg' hr (by omega) hs.2.1, keepB hg' hr (by omega) hs.2.2⟩)
      (fun s A B row hs hg' hr => by
        obtain ⟨c, hc, hl, hk⟩ := hs
        exact ⟨c, hIxC c s A B row hc hg' (fun r e => .inl (hr r e)), keepB hg' hr (by omega) hl, keepB hg' hr (by omega) hk⟩)
      ?_ ⟨hI1, hL1, hK1⟩).mono ?_
    · rintro pre x W ⟨hi, hl, hk⟩ hlen
      have hlt : w.heap.size + 1 < W.heap.size := (Array.getElem?_eq_some_iff.1 hl).1
      have hy := run_yield (P := P) (args := encs x) hl (by rw [hrec]; exact hps x)
      rw [hrec] at hy
      refine ⟨fn, _, assign, body, hy, roundIn_of_wpIn hfn (hassign _ x W _ ⟨_, run_beginRound hl (by rw [hrec]), ?_⟩)⟩
      have hl2 : (W.putObj (w.heap.size + 1) (.loop { rec .ready none with state := .busy })).heap[w.heap.size + 1]? = some (.loop { rec .ready none with state := .busy }) := World.putObj_heap_same hlt
      have hk2 : (W.putObj (w.heap.size + 1) (.loop { rec .ready none with state := .busy })).heap[w.heap.size]? = some (.deferred (some [])) := (World.putObj_heap_other (by omega)).trans hk
      have hw2 : Kp W (W.putObj (w.heap.size + 1) (.loop { rec .ready none with state := .busy })) := hKb _ _ _ _ (by omega) hl rfl rfl
      refine wpIn_mono (hbody _ pre x _ (hI.putObj _ hi (by omega) hl rfl) hlen) ?_
      have fin : ∀ (jump : Option Code) (W3 : World), KeepsOthers (W.putObj (w.heap.size + 1) (.loop { rec .ready none with state := .busy })) W3 →
          (Instr.endRound (w.heap.size + 1) jump).run P W3 = .ok (.bool jump.isNone) (W3.putObj (w.heap.size + 1) (.loop (rec (if jump.isNone then .ready else .done) jump))) ∧
          W3.heap[w.heap.size + 1]? = some (.loop { rec .ready none with state := .busy }) ∧
          (W3.putObj (w.heap.size + 1) (.loop (rec (if jump.isNone then .ready else .done) jump))).heap[w.heap.size + 1]? = some (.loop (rec (if jump.isNone then .ready else .done) jump)) ∧
          (W3.putObj (w.heap.size + 1) (.loop (rec (if jump.isNone then .ready else .done) jump))).heap[w.heap.size]? = some (.deferred (some [])) := fun jump W3 hk3 => by
        have hl3 := hk3.same _ _ hl2 rfl
        have := run_endRound (P := P) jump hl3
        rw [hrec] at this ⊢
        exact ⟨this, by rw [hrec] at hl3; exact hl3, World.putObj_heap_same (Array.getElem?_eq_some_iff.1 hl3).1, (World.putObj_heap_other (by omega)).trans (hk3.same _ _ hk2 rfl)⟩
      rintro e a3 W3 hp
      cases e with
      | normal =>
        obtain ⟨hk3, hkp3, hi3⟩ := hp
        obtain ⟨hr, hl3, hl4, hk4⟩ := fin none W3 hk3
        exact ⟨_, _, hr, .inl ⟨rfl, ⟨hI.putObj _ hi3 (by omega) hl3 rfl, hl4, hk4⟩, hKt (hKt hw2 hkp3) (hKb _ _ _ _ (by omega) hl3 rfl rfl)⟩⟩
      | ret =>
        obtain ⟨hk3, hi3⟩ := hp
        obtain ⟨hr, hl3, hl4, hk4⟩ := fin (some .ret) W3 hk3
        exact ⟨_, _, hr, .inr ⟨rfl, .ret, (hIx _).putObj _ hi3 (by omega) hl3 rfl, hl4, hk4⟩⟩
      | exit id =>
        obtain ⟨hk3, hi3⟩ := hp
        obtain ⟨hr, hl3, hl4, hk4⟩ := fin (some (.exit id)) W3 hk3
        exact ⟨_, _, hr, .inr ⟨rfl, .exit id, (hIx _).putObj _ hi3 (by omega) hl3 rfl, hl4, hk4⟩⟩
      | goto t =>
        obtain ⟨hk3, hi3⟩ := hp
        obtain ⟨hr, hl3, hl4, hk4⟩ := fin (some (.goto t)) W3 hk3
        exact ⟨_, _, hr, .inr ⟨rfl, .goto t, (hIx _).putObj _ hi3 (by omega) hl3 rfl, hl4, hk4⟩⟩
      | panic ch => exact hp.elim
      | outgrown => exact hp.elim
    · rintro e W2 ⟨⟨v, rfl⟩, (⟨xs, hS, hi, hl, hk⟩ | ⟨pre, hSp, c, hi, hl, hk⟩)⟩
      · exact ⟨none, _, by have := run_endLoop (P := P) hl (by rw [hrec]; simp); rw [hrec] at this; exact this, hdone _ xs _ (Nat.le_refl _) hS (hI.putObj _ hi (by omega) hl rfl) ((World.putObj_heap_other (by omega)).trans hk)⟩
      · exact ⟨some c, _, by have := run_endLoop (P := P) hl (by rw [hrec]; simp); rw [hrec] at this; exact this, hstop _ c pre _ (Nat.le_refl _) hSp ((hIx c).putObj _ hi (by omega) hl rfl) ((World.putObj_heap_other (by omega)).trans hk)⟩
end Go.Proofs.YtpncpefppifgdaaGreatDoor.SeqC
namespace Go.Proofs.YtpncpefppifgdaaGreatDoor.Split
open Go.RowKit Go.Shelf Go.Proofs.YtpncpefppifgdaaGreatDoor.SeqC
attribute [local go_sem] Oper.semAt_some
def pieces (c : UInt8) : List UInt8 → List (List UInt8)
  | [] => [[]]
  | x :: l => if x = c then [] :: pieces c l else match pieces c l with
    | [] => [[x]]
    | p :: ps => (x :: p) :: ps
theorem nC (c : UInt8) : ∀ l : List UInt8, (∀ k : Nat, l[k]? ≠ some c) → pieces c l = [l]
  | [], _ => rfl
  | x :: l, h => by
    have hx : x ≠ c := fun e => h 0 (by rw [e]; rfl)
    rw [pieces, if_neg hx, nC c l (fun k => h (k + 1))]
theorem nD (c : UInt8) : ∀ (l : List UInt8) (i : Nat), l[i]? = some c → (∀ k : Nat, k < i → l[k]? ≠ some c) → pieces c l = l.take i :: pieces c (l.drop (i + 1))
  | [], i, h, _ => by simp at h
  | x :: l, 0, h, _ => by
    have hx : x = c := by simpa using h
    rw [pieces, if_pos hx]
    rfl
  | x :: l, i + 1, h, hn => by
    have hx : x ≠ c := fun e => hn 0 (by omega) (by rw [e]; rfl)
    rw [pieces, if_neg hx, nD c l i (by simpa using h) (fun k hk => hn (k + 1) (by omega))]
    rfl
def texts (c : UInt8) (s : ByteArray) : List ByteArray := (pieces c s.data.toList).map fun l => ⟨l.toArray⟩
theorem rV (c : UInt8) (s : ByteArray) (h : Lib.indexByte s.data.toList c = -1) : texts c s = [s] := by
  unfold texts
  rw [nC c _ (Lib.indexByte_none h)]
  rfl
theorem rW (c : UInt8) (s : ByteArray) (i : Nat) (h : Lib.indexByte s.data.toList c = i) : i < s.size ∧ texts c s = s.extract 0 i :: texts c (s.extract (i + 1) s.size) := by
  obtain ⟨h1, h2⟩ := Lib.indexByte_some h
  have hi : i < s.data.toList.length := (List.getElem?_eq_some_iff.1 h1).1
  rw [Array.length_toList] at hi
  refine ⟨hi, ?_⟩
  unfold texts
  rw [nD c _ i h1 h2]
  have e1 : (⟨(s.data.toList.take i).toArray⟩ : ByteArray) = s.extract 0 i := by
    apply ByteArray.ext
    rw [ByteArray.data_extract]
    apply Array.ext'
    rw [Array.toList_extract]
    simp [List.extract]
  have e2 : s.data.toList.drop (i + 1) = (s.extract (i + 1) s.size).data.toList := by
    rw [ByteArray.data_extract, Array.toList_extract]
    show _ = (s.data.toList.drop (i + 1)).take (s.data.size - (i + 1))
    rw [List.take_of_length_le (by rw [List.length_drop, Array.length_toList]; exact Nat.le_refl _)]
  rw [List.map_cons, e1, e2]
theorem uG (w : World) (b : Nat) (v : Value) : w.grownBy (w.setCell ⟨b, 0, none⟩ v) (some b) :=
  ⟨rfl, rfl, rfl, by simp [World.setCell], fun k _ hk => Below.heap_setCell w ⟨b, 0, none⟩ v k (fun e => hk (by rw [e]))⟩
def At (bs bp bn : Nat) (c : UInt8) (s : ByteArray) (w : World) : Prop :=
  w.heap[bs]? = some (.cells #[.string s] 9 (0, 0)) ∧ w.heap[bp]? = some (.cells #[.string ⟨#[c]⟩] 9 (0, 0)) ∧ w.heap[bn]? = some (.cells #[.int .i64 0] 3 (0, 0))
def Kp (bs bp bn : Nat) (W W' : World) : Prop := W'.heap[bs]? = W.heap[bs]? ∧ W'.heap[bp]? = W.heap[bp]? ∧ W'.heap[bn]? = W.heap[bn]?
theorem Kp.at_ {bs bp bn : Nat} {c : UInt8} {s : ByteArray} {W W' : World} (h : Kp bs bp bn W W') (ha : At bs bp bn c s W) : At bs bp bn c s W' := ⟨h.1.trans ha.1, h.2.1.trans ha.2.1, h.2.2.trans ha.2.2⟩
theorem cellOf {w : World} {b : Nat} {v : Value} {t : TypeId} (h : w.heap[b]? = some (.cells #[v] t (0, 0))) : w.cell? ⟨b, 0, none⟩ = some v := by simp [World.cell?, h]
theorem oF {w : World} {b : Nat} {v : Value} {t : TypeId} (h : w.heap[b]? = some (.cells #[v] t (0, 0))) : w.frozen? ⟨b, 0, none⟩ = false := by simp [World.frozen?, h]
def left (bs : Nat) (w : World) : Nat := match w.cell? ⟨bs, 0, none⟩ with | some (.string s) => s.size + 1 | _ => 0
set_option maxRecDepth 100000 in
set_option maxHeartbeats 4000000 in
theorem iter (n : Nat) (hn : 1 ≤ n) (bs bp bn : Nat) (c : UInt8) (s : ByteArray) (hs : s.size ≤ 140737488351232) (w : World) (hd1 : bs ≠ bp) (hd2 : bs ≠ bn) (hb1 : bs < w.heap.size) (hb2 : bp < w.heap.size) (hb3 : bn < w.heap.size) (hat : At bs bp bn c s w) :
    pV Fence.wide n Tryz.prog 122 #[.pointer (some ⟨bp, 0, none⟩), .pointer (some ⟨bs, 0, none⟩), .pointer (some ⟨bn, 0, none⟩)] (fun x : ByteArray => #[Value.string x]) bs (Kp bs bp bn) (fun xs => xs = texts c s) (fun pre => pre <+: texts c s) (fun pre x => pre ++ [x] <+: texts c s) w := fun l J Jx W hW hJ hJx hY h0 => by
  have Bw : At bs bp bn c s W := ⟨(hW.block _ hb1).trans hat.1, (hW.block _ hb2).trans hat.2.1, (hW.block _ hb3).trans hat.2.2⟩
  refine callsIn_of_wp Tryz.func122 rfl trivial ?_ rfl
  simp only [Tryz.ntmps122, List.size_toArray, List.length_cons, List.length_nil, Nat.reduceAdd, Nat.reduceSub, Array.replicate_succ, Array.replicate_zero, List.push_toArray, List.append_toArray, List.nil_append, List.cons_append]
  have cp := cellOf Bw.2.1
  gi_wp2
  clear cp
  gi_loopw [7, 8] (fun u7 u8 wr => ∃ (pre : List ByteArray) (r : ByteArray), r.size ≤ s.size ∧ texts c s = pre ++ texts c r ∧ At bs bp bn c r wr ∧ J pre wr) (fun _ _ wr => left bs wr)
  case atStart => exact ⟨[], s, Nat.le_refl _, rfl, Bw, h0⟩
  case round =>
    obtain ⟨pre, r, hr, hpre, hatr, hJr⟩ := hrel
    have c1 := cellOf hatr.1
    have c2 := cellOf hatr.2.1
    have c3 := cellOf hatr.2.2
    have f1 := oF hatr.1
    have hI : CallsIn Fence.wide (n - 1) Tryz.prog 123 #[.string r, .string ⟨#[c]⟩] wr _ := callsIn_wide.2 (Tryz.strings_Index_one r c wr)
    have hge := Lib.indexByte_ge r.data.toList c
    rcases Int.lt_or_eq_of_le hge with hlt | hneg
    · obtain ⟨i, hi⟩ := Int.eq_ofNat_of_zero_le (show 0 ≤ Lib.indexByte r.data.toList c by omega)
      obtain ⟨hir, htx⟩ := rW c r i hi
      rw [hi] at hI
      have HP : Hid _ := hpre
      have HT : Hid _ := htx
      have hlen : pre ++ [r.extract 0 i] <+: texts c s := ⟨texts c (r.extract (i + 1) r.size), by rw [hpre, htx, List.append_assoc]; rfl⟩
      obtain ⟨BD, BF, BG, BH, hy1, Bz⟩ := hY pre (r.extract 0 i) wr hJr hlen
      clear hi hge hlt hpre htx
      have hle1 : (i : Int) ≤ (r.size : Int) := by omega
      have hle2 : (i : Int) + 1 ≤ (r.size : Int) := by omega
      gi_wp2_with (refine ⟨trivial, ?_⟩; gi_at_call 123; refine hI.mono ?_; rintro e w' ⟨rfl, hw⟩; obtain rfl := hw.symm)
      refine Bz.mono ?_
      rintro e W3 (⟨rfl, hJ3, hk3⟩ | ⟨rfl, hJx3⟩)
      · have at3 := hk3.at_ hatr
        have d1 := cellOf at3.1
        have d2 := cellOf at3.2.1
        have d3 := cellOf at3.2.2
        have g1 := oF at3.1
        gi_wp2
        have h1 : texts c s = pre ++ texts c r := HP
        have h2 : texts c r = r.extract 0 i :: texts c (r.extract (i + 1) r.size) := HT
        have hsz : (r.extract (i + 1) r.size).size = r.size - (i + 1) := by rw [ByteArray.size_extract]; omega
        have hlt3 : bs < W3.heap.size := (Array.getElem?_eq_some_iff.1 at3.1).1
        have hset : (W3.setCell ⟨bs, 0, none⟩ (Value.string (r.extract (i + 1) r.size))).heap[bs]? = some (.cells #[.string (r.extract (i + 1) r.size)] 9 (0, 0)) := by
          show (W3.heap.modify bs _)[bs]? = _
          rw [Array.getElem?_modify, if_pos rfl, at3.1]
          rfl
        refine ⟨⟨pre ++ [r.extract 0 i], r.extract (i + 1) r.size, by rw [hsz]; omega, by rw [h1, h2, List.append_assoc]; rfl, ⟨hset, (Below.heap_setCell W3 ⟨bs, 0, none⟩ _ bp (fun e => hd1 e.symm)).trans at3.2.1, (Below.heap_setCell W3 ⟨bs, 0, none⟩ _ bn (fun e => hd2 e.symm)).trans at3.2.2⟩, hJ _ _ _ _ hJ3 (uG W3 bs _) (fun k e => (Option.some.inj e).symm)⟩, ?_⟩
        unfold left
        rw [c1, cellOf hset]
        show (r.extract (i + 1) r.size).size + 1 < r.size + 1
        omega
      · gi_wp2
        refine bodyPost_ret (results_none rfl _ _ _) rfl ?_
        refine ⟨⟨_, rfl⟩, .inr ⟨pre ++ [r.extract 0 i], ?_, hJx3⟩⟩
        have h1 : texts c s = pre ++ texts c r := HP
        have h2 : texts c r = r.extract 0 i :: texts c (r.extract (i + 1) r.size) := HT
        exact ⟨texts c (r.extract (i + 1) r.size), by rw [h1, h2, List.append_assoc]; rfl⟩
    · have hno : Lib.indexByte r.data.toList c = -1 := hneg.symm
      rw [hno] at hI
      have hone := rV c r hno
      have HP : Hid _ := hpre
      have HO : Hid _ := hone
      have hlen : pre ++ [r] <+: texts c s := by rw [hpre, hone]; exact List.prefix_refl _
      obtain ⟨BD, BF, BG, BH, hy1, Bz⟩ := hY pre r wr hJr hlen
      clear hge hneg hpre hone hno
      gi_wp2_with (refine ⟨trivial, ?_⟩; gi_at_call 123; refine hI.mono ?_; rintro e w' ⟨rfl, hw⟩; obtain rfl := hw.symm)
      refine Bz.mono ?_
      rintro e W3 (⟨rfl, hJ3, hk3⟩ | ⟨rfl, hJx3⟩)
      · gi_wp2
        have h1 : texts c s = pre ++ texts c r := HP
        have h2 : texts c r = [r] := HO
        refine bodyPost_end (results_none rfl _ _ _) rfl ?_
        exact ⟨⟨_, rfl⟩, .inl ⟨pre ++ [r], by rw [h1, h2], hJ3⟩⟩
      · gi_wp2
        have h1 : texts c s = pre ++ texts c r := HP
        have h2 : texts c r = [r] := HO
        refine bodyPost_end (results_none rfl _ _ _) rfl ?_
        exact ⟨⟨_, rfl⟩, .inr ⟨pre ++ [r], by rw [h1, h2]; exact List.prefix_refl _, hJx3⟩⟩
set_option maxRecDepth 100000 in
theorem zw (n : Nat) (c : UInt8) (s : ByteArray) (w : World) : CallsIn Fence.wide n Tryz.prog 94 #[.string s, .string ⟨#[c]⟩] w fun e w' =>
    e = .returned (.func (.func 122) #[] #[.pointer (some ⟨w.heap.size + 1, 0, none⟩), .pointer (some ⟨w.heap.size, 0, none⟩), .pointer (some ⟨w.heap.size + 1 + 1, 0, none⟩)]) ∧
      w' = ((w.alloc (.cells #[.string s] 9)).alloc (.cells #[.string ⟨#[c]⟩] 9)).alloc (.cells #[.int .i64 0] 3) := by
  have inner : ∀ W : World, Calls Tryz.prog 115 #[.string s, .string ⟨#[c]⟩, .int .i64 0] W fun e w' =>
    e = .returned (.func (.func 122) #[] #[.pointer (some ⟨W.heap.size + 1, 0, none⟩), .pointer (some ⟨W.heap.size, 0, none⟩), .pointer (some ⟨W.heap.size + 1 + 1, 0, none⟩)]) ∧
      w' = ((W.alloc (.cells #[.string s] 9)).alloc (.cells #[.string ⟨#[c]⟩] 9)).alloc (.cells #[.int .i64 0] 3) := by
    intro W
    go_enter Tryz.func115, Tryz.ntmps115
    go_wp2
    first | go_ret | go_ret2 | go_end0
    exact ⟨by first | rfl | simp, rfl⟩
  refine callsIn_wide.2 ?_
  go_enter Tryz.func94, Tryz.ntmps94
  go_wp2_with (go_at_call 115; refine (inner _).mono ?_; rintro e w' ⟨rfl, rfl⟩)
  first | go_ret | go_ret2 | go_end0
  exact ⟨rfl, rfl⟩
end Go.Proofs.YtpncpefppifgdaaGreatDoor.Split
