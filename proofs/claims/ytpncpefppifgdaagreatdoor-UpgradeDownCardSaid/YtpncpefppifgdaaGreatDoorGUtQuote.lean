/- utf.Quote: its contract, in terms of plain functions. No conditions beside those stated. -/
import Derived.Test.YtpncpefppifgdaaGreatDoorBld
import Derived.Test.YtpncpefppifgdaaGreatDoorGUtx0
import Derived.RangeFuncRecord
namespace Go.Proofs.YtpncpefppifgdaaGreatDoor.GUt
open Go.RowKit Go.Shelf Go.Proofs.YtpncpefppifgdaaGreatDoorW.PrintWords Go.Proofs.YtpncpefppifgdaaGreatDoorW.PrintLast Go.Proofs.YtpncpefppifgdaaGreatDoorW.PrintMore
set_option linter.unusedVariables false
def jD (b : Int) : Int := if b = 34 then b else if b = 92 then b else if b = 10 then 110 else if b = 13 then 114 else if b = 9 then 116 else if b = 8 then 98 else if b = 12 then 102 else 0
def oH : ByteArray := ⟨#[48, 49, 50, 51, 52, 53, 54, 55, 56, 57, 97, 98, 99, 100, 101, 102]⟩
def rX (b : Int) : List Int := if jD b ≠ 0 then [92, jD b] else if b < 32 then [92, 117, 48, 48, bt oH (b / 16), bt oH (b % 16)] else [b]
def qC (s : ByteArray) : Nat → Nat → ByteArray
  | 0, _ => strOfNums [34]
  | n + 1, i => strOfNums (rX (bt s i)) ++ qC s n (i + 1)
def jc.f (s : ByteArray) : Option ByteArray := if s.size ≤ 1000000000 then some (strOfNums [34] ++ qC s s.size 0) else none
theorem oI (xs ys : List Int) : strOfNums xs ++ strOfNums ys = strOfNums (xs ++ ys) := by
  apply ByteArray.ext
  simp [strOfNums]
theorem iQ (xs : List Int) : (strOfNums xs).size = xs.length := by
  show (strOfNums xs).data.size = _
  simp [strOfNums]
theorem oJ (xs : List Int) (h : ∀ x ∈ xs, 0 ≤ x ∧ x < 256) : Lib.strCells (strOfNums xs) = xs.map (Value.int .u8) := by
  simp only [Lib.strCells, strOfNums, List.map_map]
  apply List.map_congr_left
  intro x hx
  obtain ⟨h0, h1⟩ := h x hx
  simp only [Function.comp_apply, Value.int.injEq, true_and]
  simp
  omega
theorem lM (a b : ByteArray) : Lib.strCells a ++ Lib.strCells b = Lib.strCells (a ++ b) := by
  simp [Lib.strCells]
theorem iY (a : ByteArray) (x : Int) (h0 : 0 ≤ x) (h1 : x < 256) : Lib.strCells a ++ [.int .u8 x] = Lib.strCells (a ++ strOfNums [x]) := by
  rw [← lM, oJ [x] (fun y hy => by rw [List.mem_singleton.1 hy]; exact ⟨h0, h1⟩)]
  rfl
theorem qX (a : ByteArray) : Lib.strCells a = Lib.byteCells a.data.toList := rfl
theorem xL (w : World) (B : Nat) (hB : B ≤ w.heap.size) : Lib.IsBuilderF 140 5 B w.heap.size (Lib.strCells ⟨#[]⟩) (w.alloc (.cells #[.pointer none, .slice none 0 0] 140)) :=
  .inl ⟨hB, .slice none 0 0, World.alloc_heap_new w _, ⟨rfl, .inl ⟨rfl, rfl⟩⟩, by simp [Value.ownBlock]⟩
theorem qY (b : Int) (h : 0 ≤ b ∧ b ≤ 255) : 0 ≤ jD b ∧ jD b < 256 := by
  unfold jD
  repeat' split
  all_goals omega
set_option maxRecDepth 100000 in
theorem Al : ∀ X : Fin 256, Go.bits .and .u8 ((X.val : Nat) : Int) 15 = ((X.val % 16 : Nat) : Int) := by decide
theorem zy (b : Int) (h : 0 ≤ b ∧ b < 256) : Go.bits .and .u8 b 15 = b % 16 := by
  obtain ⟨n, rfl⟩ := Int.eq_ofNat_of_zero_le h.1
  have hn : n < 256 := by omega
  exact (Al ⟨n, hn⟩).trans rfl
theorem pX (i : Int) : 0 ≤ bt oH i ∧ bt oH i < 256 := by have := qI oH i; omega
set_option maxHeartbeats 1000000 in
theorem mZ.hand (b : Int) (w : World) : Calls Tryz.prog 119 #[.int .u8 b] w fun e w' => e = .returned (.int .u8 (jD b)) ∧ w' = w := by
  go_enter Tryz.func119, Tryz.ntmps119
  unfold jD
  by_cases h1 : b = 34
  · subst h1; go_wp2; go_ret; exact ⟨rfl, rfl⟩
  have d1 : (b == 34) = false := beq_eq_false_iff_ne.2 h1
  by_cases h2 : b = 92
  · subst h2; go_wp2; go_ret; exact ⟨rfl, rfl⟩
  have d2 : (b == 92) = false := beq_eq_false_iff_ne.2 h2
  by_cases h3 : b = 10
  · subst h3; go_wp2; go_ret; exact ⟨rfl, rfl⟩
  have d3 : (b == 10) = false := beq_eq_false_iff_ne.2 h3
  by_cases h4 : b = 13
  · subst h4; go_wp2; go_ret; exact ⟨rfl, rfl⟩
  have d4 : (b == 13) = false := beq_eq_false_iff_ne.2 h4
  by_cases h5 : b = 9
  · subst h5; go_wp2; go_ret; exact ⟨rfl, rfl⟩
  have d5 : (b == 9) = false := beq_eq_false_iff_ne.2 h5
  by_cases h6 : b = 8
  · subst h6; go_wp2; go_ret; exact ⟨rfl, rfl⟩
  have d6 : (b == 8) = false := beq_eq_false_iff_ne.2 h6
  by_cases h7 : b = 12
  · subst h7; go_wp2; go_ret; exact ⟨rfl, rfl⟩
  have d7 : (b == 12) = false := beq_eq_false_iff_ne.2 h7
  rw [if_neg h1, if_neg h2, if_neg h3, if_neg h4, if_neg h5, if_neg h6, if_neg h7]
  go_wp2
  go_ret
  exact ⟨rfl, rfl⟩
set_option maxHeartbeats 4000000 in
set_option maxRecDepth 100000 in
theorem jc.calls (s r : ByteArray) (w : World) (h : jc.f s = some r) :
    Calls Tryz.prog 103 #[.string s] w fun e w' => e = .returned (.string r) ∧ Below w.heap.size w w' := by
  have hs : s.size ≤ 1000000000 := Decidable.by_contra fun hn => by rw [jc.f, if_neg hn] at h; cases h
  rw [jc.f, if_pos hs] at h
  have h := Option.some.inj h
  have BF := xL w w.heap.size (Nat.le_refl _)
  have B0 : Below w.heap.size w (w.alloc (.cells #[.pointer none, .slice none 0 0] 140)) := (Below.refl _ w).alloc (Nat.le_refl _) _
  go_enter Tryz.func103, Tryz.ntmps103
  go_wp2_with (first | (go_at_call 118; refine (Bld.ji w.heap.size w.heap.size (Lib.strCells ⟨#[]⟩) 34 _ BF (by decide) B0.size).mono ?_; rintro e w1 ⟨rfl, hat, hbB, _⟩))
  have BG : Lib.IsBuilderF 140 5 w.heap.size w.heap.size (Lib.strCells (strOfNums [34])) w1 := .inr hat
  have B1 := B0.trans hbB
  clear hat hbB BF B0
  try go_wp2
  go_loopg [9] s.size (fun kq v9 w' => ∃ (i : Nat) (acc : ByteArray), v9 = .int .i64 (i : Int) ∧ Aside0 (i + kq = s.size) ∧ Aside0 (acc.size ≤ 1 + 6 * i) ∧ Aside0 (acc ++ qC s kq i = r) ∧ Aside0 (Lib.IsBuilderF 140 5 w.heap.size w.heap.size (Lib.strCells acc) w') ∧ Aside0 (Below w.heap.size w w'))
  case atStart => exact ⟨0, strOfNums [34], rfl, ⟨by omega⟩, ⟨by rw [iQ]; decide⟩, ⟨h⟩, ⟨BG⟩, ⟨B1⟩⟩
  case round =>
    clear h BG B1
    obtain ⟨i, acc, rfl, hi, hz, hE, bd, B⟩ := hrel
    cases gk with
    | zero =>
      have hend : decide ((i : Int) < (s.size : Int)) = false := decide_eq_false (by have := hi.out; omega)
      have BH : decide (i < s.size) = false := decide_eq_false (by have := hi.out; omega)
      have BI : (i < s.size) = False := eq_false (by have := hi.out; omega)
      have hE' : acc ++ strOfNums [34] = r := hE.out
      have hlen : (Lib.strCells acc).length + 1 ≤ 140737488355328 := by rw [Lib.strCells_length]; have := hz.out; have := hi.out; omega
      have HL := Aside0.mk hlen
      clear hlen
      go_wp2_with (first | (go_at_call 118; refine (Bld.ji w.heap.size w.heap.size (Lib.strCells acc) 34 _ bd.out HL.out B.out.size).mono ?_; rintro e w2 ⟨rfl, hat, hbB, _⟩))
      rw [iY _ _ (by decide) (by decide), hE', qX] at hat
      have B2 := B.out.trans hbB
      have hS := Tryz.Builder_String_any_k w.heap.size w.heap.size r.data.toList _ (.inr hat) B2.size
      go_wp2_with (first | (go_at_call 69; refine hS.mono ?_; rintro e w3 ⟨rfl, _, hb3, _⟩))
      go_ret
      exact ⟨rfl, B2.trans hb3⟩
    | succ k1 =>
      have hlt : i < s.size := by have := hi.out; omega
      have c1 : decide ((i : Int) < (s.size : Int)) = true := decide_eq_true (by omega)
      have c2 : decide (i < s.size) = true := decide_eq_true hlt
      have p1 : (0 ≤ (i : Int)) = True := eq_true (by omega)
      have q1 : ((i : Int) < (s.size : Int)) = True := eq_true (by omega)
      have q2 : (i < s.size) = True := eq_true hlt
      have hx : ∀ h : i < s.size, ((s[i]'h).toNat : Int) = bt s i := by have := eP s (i : Int); simpa only [Int.toNat_natCast] using this
      have hr := qI s i
      have hr2 : 0 ≤ bt s i ∧ bt s i < 256 := by omega
      have hE1 : acc ++ (strOfNums (rX (bt s i)) ++ qC s k1 (i + 1)) = r := hE.out
      have hw : wrap64 ((i : Int) + 1) = ((i + 1 : Nat) : Int) := by rw [bW (by omega) (by omega)]; omega
      have hwv := congrArg (Value.int .i64) hw
      have hnx : Aside0 (i + 1 + k1 = s.size) := ⟨by have := hi.out; omega⟩
      have hz1 : (Lib.strCells acc).length + 10 ≤ 140737488355328 := by rw [Lib.strCells_length]; have := hz.out; omega
      have HZ := Aside0.mk hz1
      have hsh := qY (bt s i) hr
      have HR := Aside0.mk hr2
      have HS := Aside0.mk hsh
      rw [← ByteArray.append_assoc] at hE1
      unfold rX at hE1
      clear hw hz1 hr hr2 hsh
      by_cases h0 : jD (bt s i) = 0
      · have cne : (jD (bt s i) != 0) = false := by rw [h0]; rfl
        rw [if_neg (fun q => q h0)] at hE1
        by_cases h32 : bt s i < 32
        · rw [if_pos h32] at hE1
          have c32 : decide (bt s i < 32) = true := decide_eq_true h32
          have HE := Aside0.mk hE1
          clear hE1 hE
          generalize bt s i = b at hx HR HS HE cne h0 h32 c32
          have j1 : (0 ≤ b / 16) = True := eq_true (by have := HR.out; omega)
          have j2 : (b / 16 < 16) = True := eq_true (by have := HR.out; omega)
          have j3 : Go.bits .and .u8 b 15 = b % 16 := zy b HR.out
          have j4 : (0 ≤ b % 16) = True := eq_true (by omega)
          have j5 : (b % 16 < 16) = True := eq_true (by omega)
          have hd1 := eP oH (b / 16)
          have hd2 := eP oH (b % 16)
          unfold oH at hd1 hd2
          have r1 := Aside0.mk (pX (b / 16))
          have r2 := Aside0.mk (pX (b % 16))
          unfold oH at HE r1 r2
          generalize bt ⟨#[48, 49, 50, 51, 52, 53, 54, 55, 56, 57, 97, 98, 99, 100, 101, 102]⟩ (b / 16) = x1 at hd1 r1 HE
          generalize bt ⟨#[48, 49, 50, 51, 52, 53, 54, 55, 56, 57, 97, 98, 99, 100, 101, 102]⟩ (b % 16) = x2 at hd2 r2 HE
          have hcl := fun w2 h => Bld.writeString w.heap.size w.heap.size (Lib.strCells acc) ⟨#[92, 117, 48, 48]⟩ w2 h (by have := HZ.out; show _ + 4 ≤ _; omega)
          have hz2 : (Lib.strCells (acc ++ ⟨#[92, 117, 48, 48]⟩)).length + 1 ≤ 140737488355328 := by
            rw [Lib.strCells_length, ByteArray.size_append]; have := HZ.out; rw [Lib.strCells_length] at this; show _ + 4 + 1 ≤ _; omega
          have hz3 : (Lib.strCells (acc ++ ⟨#[92, 117, 48, 48]⟩ ++ strOfNums [x1])).length + 1 ≤ 140737488355328 := by
            rw [Lib.strCells_length, ByteArray.size_append, ByteArray.size_append, iQ]; have := HZ.out; rw [Lib.strCells_length] at this; show _ + 4 + 1 + 1 ≤ _; omega
          have HZ2 := Aside0.mk hz2
          have HZ3 := Aside0.mk hz3
          clear hz2 hz3
          go_wp2_with (first | (go_at_call 119; refine (mZ.hand b _).mono ?_; rintro e w2 ⟨rfl, rfl⟩) | (go_at_call 66; refine (hcl _ bd.out B.out.size).mono ?_; rintro e w3 ⟨rfl, hat, hbB, _⟩; rw [lM] at hat; have Bz := Aside0.mk (show Lib.IsBuilderF 140 5 w.heap.size w.heap.size (Lib.strCells (acc ++ ⟨#[92, 117, 48, 48]⟩)) w3 from .inr hat); have B3 := Aside0.mk (B.out.trans hbB); clear bd B hat hbB hcl))
          refine (Bld.ji w.heap.size w.heap.size _ x1 _ Bz.out HZ2.out B3.out.size).mono ?_
          rintro e w4 ⟨rfl, hat, hbB, _⟩
          rw [iY _ _ r1.out.1 r1.out.2] at hat
          have B4 := B3.out.trans hbB
          go_wp2_with (first | (go_at_call 118; refine (Bld.ji w.heap.size w.heap.size _ x2 _ (.inr hat) HZ3.out B4.size).mono ?_; rintro e w5 ⟨rfl, Bw, BD, _⟩))
          rw [iY _ _ r2.out.1 r2.out.2] at Bw
          go_roundg k1
          case measure => exact Nat.lt_succ_self k1
          case rel => exact ⟨i + 1, acc ++ ⟨#[92, 117, 48, 48]⟩ ++ strOfNums [x1] ++ strOfNums [x2], by first | exact hwv | rfl, hnx, ⟨by rw [ByteArray.size_append, ByteArray.size_append, ByteArray.size_append, iQ, iQ]; have := hz.out; show _ + 4 + 1 + 1 ≤ _; omega⟩, ⟨by
            have e4 : (⟨#[92, 117, 48, 48]⟩ : ByteArray) = strOfNums [92, 117, 48, 48] := rfl
            rw [e4, ByteArray.append_assoc (a := acc), oI, ByteArray.append_assoc (a := acc), oI]
            exact HE.out⟩, ⟨.inr Bw⟩, ⟨B4.trans BD⟩⟩
        · rw [if_neg h32] at hE1
          have c32 : decide (bt s i < 32) = false := decide_eq_false h32
          have HE := Aside0.mk hE1
          clear hE1 hE
          go_wp2_with (first | (go_at_call 119; refine (mZ.hand (bt s i) _).mono ?_; rintro e w2 ⟨rfl, rfl⟩) | (go_at_call 118; refine (Bld.ji w.heap.size w.heap.size (Lib.strCells acc) (bt s i) _ bd.out (by have := HZ.out; omega) B.out.size).mono ?_; rintro e w3 ⟨rfl, hat, hbB, _⟩))
          rw [iY _ _ HR.out.1 HR.out.2] at hat
          go_roundg k1
          case measure => exact Nat.lt_succ_self k1
          case rel => exact ⟨i + 1, acc ++ strOfNums [bt s i], by first | exact hwv | rfl, hnx, ⟨by rw [ByteArray.size_append, iQ]; have := hz.out; simp; omega⟩, HE, ⟨.inr hat⟩, ⟨B.out.trans hbB⟩⟩
      · have cne : (jD (bt s i) != 0) = true := bne_iff_ne.2 h0
        rw [if_pos h0] at hE1
        have HE := Aside0.mk hE1
        clear hE1 hE
        generalize bt s i = b at hx HR HS HE cne h0
        have hcl := fun w2 h => Bld.ji w.heap.size w.heap.size (Lib.strCells acc) 92 w2 h (by have := HZ.out; omega)
        go_wp2_with (first | (go_at_call 119; refine (mZ.hand b _).mono ?_; rintro e w2 ⟨rfl, rfl⟩) | (go_at_call 118; refine (hcl _ bd.out B.out.size).mono ?_; rintro e w3 ⟨rfl, hat, hbB, _⟩; rw [iY _ _ (by decide) (by decide)] at hat; have Bz := Aside0.mk (show Lib.IsBuilderF 140 5 w.heap.size w.heap.size (Lib.strCells (acc ++ strOfNums [92])) w3 from .inr hat); have B3 := Aside0.mk (B.out.trans hbB); clear bd B hat hbB hcl))
        refine (Bld.ji w.heap.size w.heap.size (Lib.strCells (acc ++ strOfNums [92])) (jD b) _ Bz.out (by rw [Lib.strCells_length, ByteArray.size_append, iQ]; have := HZ.out; rw [Lib.strCells_length] at this; simp; omega) B3.out.size).mono ?_
        rintro e w4 ⟨rfl, hat, hbB, _⟩
        rw [iY _ _ HS.out.1 HS.out.2] at hat
        go_wp2
        go_roundg k1
        case measure => exact Nat.lt_succ_self k1
        case rel => exact ⟨i + 1, acc ++ strOfNums [92] ++ strOfNums [jD b], by first | exact hwv | rfl, hnx, ⟨by rw [ByteArray.size_append, ByteArray.size_append, iQ, iQ]; have := hz.out; simp; omega⟩, ⟨by rw [ByteArray.append_assoc (a := acc), oI]; exact HE.out⟩, ⟨.inr hat⟩, ⟨B3.out.trans hbB⟩⟩
end Go.Proofs.YtpncpefppifgdaaGreatDoor.GUt
