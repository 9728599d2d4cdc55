/- strings.SplitSeq at a text and a sign of one byte: the pieces one behind the other, to the end or till a round says no more. Conditions: the text within the reach of the statements (2^47 bytes). -/
import Derived.Test.YtpflenjhmeaeoaaDoorSeqC
import Derived.Test.YtpflenjhmeaeoaaDoorProg
import Derived.Test.YtpflenjhmeaeoaaDoorShelf
import Derived.WalkKit
import Derived.OwnWalkIn
import Derived.TacticsInMore
import Derived.LoopNIn
import Derived.LoopIn
import Derived.Lib.IndexLaws
namespace Go.Proofs.YtpflenjhmeaeoaaDoor.Split
open Go.RowKit Go.Shelf Go.Proofs.YtpflenjhmeaeoaaDoor.SeqC
attribute [local go_sem] Oper.semAt_some
def pieces (c : UInt8) : List UInt8 → List (List UInt8)
  | [] => [[]]
  | x :: l => if x = c then [] :: pieces c l else match pieces c l with
    | [] => [[x]]
    | p :: ps => (x :: p) :: ps
theorem qK (c : UInt8) : ∀ l, pieces c l ≠ []
  | [] => by simp [pieces]
  | x :: l => by
    unfold pieces
    split
    · simp
    · split <;> simp
theorem jg (c : UInt8) : ∀ l : List UInt8, (∀ k : Nat, l[k]? ≠ some c) → pieces c l = [l]
  | [], _ => rfl
  | x :: l, h => by
    have hx : x ≠ c := fun e => h 0 (by rw [e]; rfl)
    rw [pieces, if_neg hx, jg c l (fun k => h (k + 1))]
theorem jh (c : UInt8) : ∀ (l : List UInt8) (i : Nat), l[i]? = some c → (∀ k : Nat, k < i → l[k]? ≠ some c) → pieces c l = l.take i :: pieces c (l.drop (i + 1))
  | [], i, h, _ => by simp at h
  | x :: l, 0, h, _ => by
    have hx : x = c := by simpa using h
    rw [pieces, if_pos hx]
    rfl
  | x :: l, i + 1, h, hn => by
    have hx : x ≠ c := fun e => hn 0 (by omega) (by rw [e]; rfl)
    rw [pieces, if_neg hx, jh c l i (by simpa using h) (fun k hk => hn (k + 1) (by omega))]
    rfl
def texts (c : UInt8) (s : ByteArray) : List ByteArray := (pieces c s.data.toList).map fun l => ⟨l.toArray⟩
theorem l7 (c : UInt8) (s : ByteArray) (h : Lib.indexByte s.data.toList c = -1) : texts c s = [s] := by
  unfold texts
  rw [jg c _ (Lib.indexByte_none h)]
  rfl
theorem l8 (c : UInt8) (s : ByteArray) (i : Nat) (h : Lib.indexByte s.data.toList c = i) : i < s.size ∧ texts c s = s.extract 0 i :: texts c (s.extract (i + 1) s.size) := by
  obtain ⟨h1, h2⟩ := Lib.indexByte_some h
  have hi : i < s.data.toList.length := (List.getElem?_eq_some_iff.1 h1).1
  rw [Array.length_toList] at hi
  refine ⟨hi, ?_⟩
  unfold texts
  rw [jh c _ i h1 h2]
  have e1 : (⟨(s.data.toList.take i).toArray⟩ : ByteArray) = s.extract 0 i := by
    apply ByteArray.ext
    rw [ByteArray.data_extract]
    apply Array.ext'
    rw [Array.toList_extract]
    simp [List.extract]
  have e2 : s.data.toList.drop (i + 1) = (s.extract (i + 1) s.size).data.toList := by
    rw [ByteArray.data_extract, Array.toList_extract]
    show _ = (s.data.toList.drop (i + 1)).take (s.data.size - (i + 1))
    rw [List.take_of_length_le (by rw [List.length_drop, Array.length_toList]; exact Nat.le_refl _)]
  rw [List.map_cons, e1, e2]
theorem ng (w : World) (b : Nat) (v : Value) : w.grownBy (w.setCell ⟨b, 0, none⟩ v) (some b) :=
  ⟨rfl, rfl, rfl, by simp [World.setCell], fun k _ hk => Below.heap_setCell w ⟨b, 0, none⟩ v k (fun e => hk (by rw [e]))⟩
def At (bs bp bn : Nat) (c : UInt8) (s : ByteArray) (w : World) : Prop :=
  w.heap[bs]? = some (.cells #[.string s] 9 (0, 0)) ∧ w.heap[bp]? = some (.cells #[.string ⟨#[c]⟩] 9 (0, 0)) ∧ w.heap[bn]? = some (.cells #[.int .i64 0] 3 (0, 0))
def Kp (bs bp bn : Nat) (W W' : World) : Prop := W'.heap[bs]? = W.heap[bs]? ∧ W'.heap[bp]? = W.heap[bp]? ∧ W'.heap[bn]? = W.heap[bn]?
theorem Kp.at_ {bs bp bn : Nat} {c : UInt8} {s : ByteArray} {W W' : World} (h : Kp bs bp bn W W') (ha : At bs bp bn c s W) : At bs bp bn c s W' := ⟨h.1.trans ha.1, h.2.1.trans ha.2.1, h.2.2.trans ha.2.2⟩
theorem cellOf {w : World} {b : Nat} {v : Value} {t : TypeId} (h : w.heap[b]? = some (.cells #[v] t (0, 0))) : w.cell? ⟨b, 0, none⟩ = some v := by simp [World.cell?, h]
theorem jO {w : World} {b : Nat} {v : Value} {t : TypeId} (h : w.heap[b]? = some (.cells #[v] t (0, 0))) : w.frozen? ⟨b, 0, none⟩ = false := by simp [World.frozen?, h]
def left (bs : Nat) (w : World) : Nat := match w.cell? ⟨bs, 0, none⟩ with | some (.string s) => s.size + 1 | _ => 0
set_option maxRecDepth 100000 in
set_option maxHeartbeats 4000000 in
theorem iter (n : Nat) (hn : 1 ≤ n) (bs bp bn : Nat) (c : UInt8) (s : ByteArray) (hs : s.size ≤ 140737488351232) (w : World) (hd1 : bs ≠ bp) (hd2 : bs ≠ bn) (hb1 : bs < w.heap.size) (hb2 : bp < w.heap.size) (hb3 : bn < w.heap.size) (hat : At bs bp bn c s w) :
    ku Fence.wide n Tryd.prog 103 #[.pointer (some ⟨bp, 0, none⟩), .pointer (some ⟨bs, 0, none⟩), .pointer (some ⟨bn, 0, none⟩)] (fun x : ByteArray => #[Value.string x]) bs (Kp bs bp bn) (fun xs => xs = texts c s) (fun pre => pre <+: texts c s) (fun pre x => pre ++ [x] <+: texts c s) w := fun l J Jx W hW hJ hJx hY h0 => by
  have sD : At bs bp bn c s W := ⟨(hW.block _ hb1).trans hat.1, (hW.block _ hb2).trans hat.2.1, (hW.block _ hb3).trans hat.2.2⟩
  refine callsIn_of_wp Tryd.func103 rfl trivial ?_ rfl
  simp only [Tryd.ntmps103, List.size_toArray, List.length_cons, List.length_nil, Nat.reduceAdd, Nat.reduceSub, Array.replicate_succ, Array.replicate_zero, List.push_toArray, List.append_toArray, List.nil_append, List.cons_append]
  have cp := cellOf sD.2.1
  gi_wp2
  clear cp
  gi_loopw [7, 8] (fun u7 u8 wr => ∃ (pre : List ByteArray) (r : ByteArray), r.size ≤ s.size ∧ texts c s = pre ++ texts c r ∧ At bs bp bn c r wr ∧ J pre wr) (fun _ _ wr => left bs wr)
  case atStart => exact ⟨[], s, Nat.le_refl _, rfl, sD, h0⟩
  case round =>
    obtain ⟨pre, r, hr, hpre, hatr, hJr⟩ := hrel
    have c1 := cellOf hatr.1
    have c2 := cellOf hatr.2.1
    have c3 := cellOf hatr.2.2
    have f1 := jO hatr.1
    have hI : CallsIn Fence.wide (n - 1) Tryd.prog 104 #[.string r, .string ⟨#[c]⟩] wr _ := callsIn_wide.2 (Tryd.strings_Index_one r c wr)
    have hge := Lib.indexByte_ge r.data.toList c
    rcases Int.lt_or_eq_of_le hge with hlt | hneg
    · obtain ⟨i, hi⟩ := Int.eq_ofNat_of_zero_le (show 0 ≤ Lib.indexByte r.data.toList c by omega)
      obtain ⟨hir, htx⟩ := l8 c r i hi
      rw [hi] at hI
      have HP : Hid _ := hpre
      have HT : Hid _ := htx
      have hlen : pre ++ [r.extract 0 i] <+: texts c s := ⟨texts c (r.extract (i + 1) r.size), by rw [hpre, htx, List.append_assoc]; rfl⟩
      obtain ⟨sG, sH, sI, sJ, hy1, sF⟩ := hY pre (r.extract 0 i) wr hJr hlen
      clear hi hge hlt hpre htx
      have hle1 : (i : Int) ≤ (r.size : Int) := by omega
      have hle2 : (i : Int) + 1 ≤ (r.size : Int) := by omega
      gi_wp2_with (refine ⟨trivial, ?_⟩; gi_at_call 104; refine hI.mono ?_; rintro e w' ⟨rfl, hw⟩; obtain rfl := hw.symm)
      refine sF.mono ?_
      rintro e W3 (⟨rfl, hJ3, hk3⟩ | ⟨rfl, hJx3⟩)
      · have at3 := hk3.at_ hatr
        have d1 := cellOf at3.1
        have d2 := cellOf at3.2.1
        have d3 := cellOf at3.2.2
        have g1 := jO at3.1
        gi_wp2
        have h1 : texts c s = pre ++ texts c r := HP
        have h2 : texts c r = r.extract 0 i :: texts c (r.extract (i + 1) r.size) := HT
        have hsz : (r.extract (i + 1) r.size).size = r.size - (i + 1) := by rw [ByteArray.size_extract]; omega
        have hlt3 : bs < W3.heap.size := (Array.getElem?_eq_some_iff.1 at3.1).1
        have hset : (W3.setCell ⟨bs, 0, none⟩ (Value.string (r.extract (i + 1) r.size))).heap[bs]? = some (.cells #[.string (r.extract (i + 1) r.size)] 9 (0, 0)) := by
          show (W3.heap.modify bs _)[bs]? = _
          rw [Array.getElem?_modify, if_pos rfl, at3.1]
          rfl
        refine ⟨⟨pre ++ [r.extract 0 i], r.extract (i + 1) r.size, by rw [hsz]; omega, by rw [h1, h2, List.append_assoc]; rfl, ⟨hset, (Below.heap_setCell W3 ⟨bs, 0, none⟩ _ bp (fun e => hd1 e.symm)).trans at3.2.1, (Below.heap_setCell W3 ⟨bs, 0, none⟩ _ bn (fun e => hd2 e.symm)).trans at3.2.2⟩, hJ _ _ _ _ hJ3 (ng W3 bs _) (fun k e => (Option.some.inj e).symm)⟩, ?_⟩
        unfold left
        rw [c1, cellOf hset]
        show (r.extract (i + 1) r.size).size + 1 < r.size + 1
        omega
      · gi_wp2
        refine bodyPost_ret (results_none rfl _ _ _) rfl ?_
        refine ⟨⟨_, rfl⟩, .inr ⟨pre ++ [r.extract 0 i], ?_, hJx3⟩⟩
        have h1 : texts c s = pre ++ texts c r := HP
        have h2 : texts c r = r.extract 0 i :: texts c (r.extract (i + 1) r.size) := HT
        exact ⟨texts c (r.extract (i + 1) r.size), by rw [h1, h2, List.append_assoc]; rfl⟩
    · have hno : Lib.indexByte r.data.toList c = -1 := hneg.symm
      rw [hno] at hI
      have hone := l7 c r hno
      have HP : Hid _ := hpre
      have HO : Hid _ := hone
      have hlen : pre ++ [r] <+: texts c s := by rw [hpre, hone]; exact List.prefix_refl _
      obtain ⟨sG, sH, sI, sJ, hy1, sF⟩ := hY pre r wr hJr hlen
      clear hge hneg hpre hone hno
      gi_wp2_with (refine ⟨trivial, ?_⟩; gi_at_call 104; refine hI.mono ?_; rintro e w' ⟨rfl, hw⟩; obtain rfl := hw.symm)
      refine sF.mono ?_
      rintro e W3 (⟨rfl, hJ3, hk3⟩ | ⟨rfl, hJx3⟩)
      · gi_wp2
        have h1 : texts c s = pre ++ texts c r := HP
        have h2 : texts c r = [r] := HO
        refine bodyPost_end (results_none rfl _ _ _) rfl ?_
        exact ⟨⟨_, rfl⟩, .inl ⟨pre ++ [r], by rw [h1, h2], hJ3⟩⟩
      · gi_wp2
        have h1 : texts c s = pre ++ texts c r := HP
        have h2 : texts c r = [r] := HO
        refine bodyPost_end (results_none rfl _ _ _) rfl ?_
        exact ⟨⟨_, rfl⟩, .inr ⟨pre ++ [r], by rw [h1, h2]; exact List.prefix_refl _, hJx3⟩⟩
set_option maxRecDepth 100000 in
theorem qo (n : Nat) (c : UInt8) (s : ByteArray) (w : World) : CallsIn Fence.wide n Tryd.prog 62 #[.string s, .string ⟨#[c]⟩] w fun e w' =>
    e = .returned (.func (.func 103) #[] #[.pointer (some ⟨w.heap.size + 1, 0, none⟩), .pointer (some ⟨w.heap.size, 0, none⟩), .pointer (some ⟨w.heap.size + 1 + 1, 0, none⟩)]) ∧
      w' = ((w.alloc (.cells #[.string s] 9)).alloc (.cells #[.string ⟨#[c]⟩] 9)).alloc (.cells #[.int .i64 0] 3) := by
  have inner : ∀ W : World, Calls Tryd.prog 87 #[.string s, .string ⟨#[c]⟩, .int .i64 0] W fun e w' =>
    e = .returned (.func (.func 103) #[] #[.pointer (some ⟨W.heap.size + 1, 0, none⟩), .pointer (some ⟨W.heap.size, 0, none⟩), .pointer (some ⟨W.heap.size + 1 + 1, 0, none⟩)]) ∧
      w' = ((W.alloc (.cells #[.string s] 9)).alloc (.cells #[.string ⟨#[c]⟩] 9)).alloc (.cells #[.int .i64 0] 3) := by
    intro W
    go_enter Tryd.func87, Tryd.ntmps87
    go_wp2
    first | go_ret | go_ret2 | go_end0
    exact ⟨by first | rfl | simp, rfl⟩
  refine callsIn_wide.2 ?_
  go_enter Tryd.func62, Tryd.ntmps62
  go_wp2_with (go_at_call 87; refine (inner _).mono ?_; rintro e w' ⟨rfl, rfl⟩)
  first | go_ret | go_ret2 | go_end0
  exact ⟨rfl, rfl⟩
end Go.Proofs.YtpflenjhmeaeoaaDoor.Split
