/- File names of ckone: the program's test and the document's are one. Plain lemmas. Names of dns: the program's test and the document's are one. Plain lemmas. cktwo's Check: what it comes to. Plain lemmas. No conditions beside those stated. -/
import Derived.Test.YtpmbdcljphpcnaaDoorGC2x5
import Derived.Test.YtpmbdcljphpcnaaDoorGC2x9
import Derived.Test.YtpmbdcljphpcnaaDoorGC2x10
import Derived.Test.YtpmbdcljphpcnaaDoorGC2Name
import Derived.Laws.Strings
import Derived.Test.YtpmbdcljphpcnaaDoorGC2x6
namespace Go.Proofs.YtpmbdcljphpcnaaDoor.Pure
open Go.RowKit Go.Proofs.YtpmbdcljphpcnaaDoor.GC2 Go.Proofs.YtpmbdcljphpcnaaDoorW.PrintWords Go.Proofs.YtpmbdcljphpcnaaDoorW.PrintLast Go.Proofs.YtpmbdcljphpcnaaDoorW.PrintMore
theorem gZ (n : Nat) (f : Nat → Int → Option Bool) (ok : Nat → Bool) (e : Bool) (hstep : ∀ k (i : Nat),i < n → f (k + 1) (i : Int) = if ok i = true then f k ((i + 1 : Nat) : Int) else some false) (hend : ∀ k,f (k + 1) (n : Int) = some e) :
  ∀ (m i k : Nat),i + m = n → m < k → f k (i : Int) = some ((List.range' i m).all ok && e)
 | 0,i,k,h,hk=>by
  obtain ⟨k,rfl⟩ : ∃ k',k = k' + 1:=⟨k - 1,by omega⟩
  obtain rfl : i = n:=h
  rw [hend]
  simp
 | m + 1,i,k,h,hk=>by
  obtain ⟨k,rfl⟩ : ∃ k',k = k' + 1:=⟨k - 1,by omega⟩
  rw [hstep k i (by omega),gZ n f ok e hstep hend m (i + 1) k (by omega) (by omega),List.range'_succ,List.all_cons]
  cases ok i <;> simp
def chF (b : Int) : Bool:=(decide (97 ≤ b) && decide (b ≤ 122)) || (decide (48 ≤ b) && decide (b ≤ 57)) || decide (b = 46) || decide (b = 95) || decide (b = 45) || decide (b = 47)
theorem xB (b : Int) (h : 0 ≤ b ∧ b ≤ 255) : Lib.indexByte [46,95,45,47] b.toNat.toUInt8 < 0 ↔ ¬ (b = 46 ∨ b = 95 ∨ b = 45 ∨ b = 47):=by
 have hall : (List.range 256).all (fun n=>decide (Lib.indexByte [46,95,45,47] n.toUInt8 < 0) == decide (¬ (n = 46 ∨ n = 95 ∨ n = 45 ∨ n = 47))) = true:=by decide +kernel
 obtain ⟨n,rfl⟩:=Int.eq_ofNat_of_zero_le h.1
 have:=List.all_eq_true.1 hall n (List.mem_range.2 (by omega))
 rw [beq_iff_eq,decide_eq_decide] at this
 rw [Int.toNat_natCast,this]
 omega
theorem qz (k : Nat) (s : ByteArray) (i : Nat) (hi : i < s.size) (hs : s.size ≤ 140737488351232) : bQ.l0 (k + 1) s (s.size : Int) (i : Int) = if chF (bt s i) = true then bQ.l0 k s (s.size : Int) ((i + 1 : Nat) : Int) else some false:=by
 rw [bQ.l0,if_pos (by omega),if_pos (by omega),if_pos (by omega),bY (by omega) (by omega)]
 have hb:=iV s i
 have hx:=xB (bt s i) hb
 generalize bt s i = b at hb hx ⊢
 simp only [strings_IndexByte.f,Option.bind_some]
 generalize Lib.indexByte [46,95,45,47] b.toNat.toUInt8 = t at hx ⊢
 have hn : ((i : Int) + 1) = ((i + 1 : Nat) : Int):=rfl
 rw [hn]
 generalize bQ.l0 k s (s.size : Int) ((i + 1 : Nat) : Int) = X
 have hc : chF b = true ↔ ((97 ≤ b ∧ b ≤ 122) ∨ (48 ≤ b ∧ b ≤ 57) ∨ b = 46 ∨ b = 95 ∨ b = 45 ∨ b = 47):=by simp [chF,or_assoc]
 clear hn hs hi
 by_cases h : chF b = true
 ·rw [if_pos h]
  have h':=hc.1 h
  repeat' split
  all_goals first | rfl | (exfalso;omega)
 ·rw [if_neg h]
  have h' : ¬ ((97 ≤ b ∧ b ≤ 122) ∨ (48 ≤ b ∧ b ≤ 57) ∨ b = 46 ∨ b = 95 ∨ b = 45 ∨ b = 47):=fun q=>h (hc.2 q)
  repeat' split
  all_goals first | rfl | (exfalso;omega)
theorem mg (k : Nat) (s : ByteArray) (i : Nat) (hi : i < s.size) (hs : s.size ≤ 140737488351232) : aR.l0 (k + 1) s (i : Int) = if chF (bt s i) = true then aR.l0 k s ((i + 1 : Nat) : Int) else some false:=by
 rw [aR.l0,if_pos (by omega),if_pos (by omega),bY (by omega) (by omega)]
 have hn : ((i : Int) + 1) = ((i + 1 : Nat) : Int):=rfl
 rw [hn]
 generalize bt s i = b
 generalize aR.l0 k s ((i + 1 : Nat) : Int) = X
 have hc : chF b = true ↔ ((97 ≤ b ∧ b ≤ 122) ∨ (48 ≤ b ∧ b ≤ 57) ∨ b = 46 ∨ b = 95 ∨ b = 45 ∨ b = 47):=by simp [chF,or_assoc]
 clear hn hs hi
 by_cases h : chF b = true
 ·rw [if_pos h]
  have h':=hc.1 h
  repeat' split
  all_goals first | rfl | (exfalso;omega)
 ·rw [if_neg h]
  have h' : ¬ ((97 ≤ b ∧ b ≤ 122) ∨ (48 ≤ b ∧ b ≤ 57) ∨ b = 46 ∨ b = 95 ∨ b = 45 ∨ b = 47):=fun q=>h (hc.2 q)
  repeat' split
  all_goals first | rfl | (exfalso;omega)
def lQ (s : ByteArray) : Bool:=(List.range' 0 s.size).all (fun j=>chF (bt s j)) && (decide (1 ≤ s.size) && decide (s.size ≤ 64))
theorem tu (k : Nat) (s : ByteArray) (hs : s.size ≤ 140737488351232) (hk : s.size < k) : bQ.f k s = some (lQ s):=by
 refine gZ s.size (fun k i=>bQ.l0 k s (s.size : Int) i) (fun j=>chF (bt s j)) (decide (1 ≤ s.size) && decide (s.size ≤ 64)) (fun k i hi=>qz k s i hi hs) (fun k=>?_) s.size 0 k (by omega) hk
 show bQ.l0 (k + 1) s (s.size : Int) (s.size : Int) = _
 rw [bQ.l0,if_neg (by omega)]
 by_cases h0 : s.toList = ([] : List UInt8)
 ·rw [if_pos h0]
  have : s.size = 0:=by
   rw [ByteArray.toList_eq] at h0
   have:=congrArg List.length h0
   rw [Array.length_toList] at this
   exact this
  simp [this]
 ·rw [if_neg h0]
  have : 1 ≤ s.size:=Nat.one_le_iff_ne_zero.2 fun h=>h0 (by rw [ByteArray.toList_eq];exact List.eq_nil_of_length_eq_zero (by rw [Array.length_toList];exact h))
  simp [this]
  omega
theorem nQ (k : Nat) (s : ByteArray) (hs : s.size ≤ 140737488351232) (hk : s.size + 1 < k) : aR.f k s = some (lQ s):=by
 have hj : ∀ x : Bool,aR.j0 k s x = some ((List.range' 0 s.size).all (fun j=>chF (bt s j)) && !x):=by
  intro x
  obtain ⟨k,rfl⟩ : ∃ k',k = k' + 1:=⟨k - 1,by omega⟩
  cases x with
  | true=>rw [aR.j0,if_pos rfl];simp
  | false =>
   rw [aR.j0,if_neg (by decide)]
   refine (gZ s.size (fun k i=>aR.l0 k s i) (fun j=>chF (bt s j)) true (fun k i hi=>mg k s i hi hs) (fun k=>?_) s.size 0 k (by omega) (by omega)).trans (by simp)
   show aR.l0 (k + 1) s (s.size : Int) = _
   rw [aR.l0,if_neg (by omega)]
 rw [aR.f,lQ]
 by_cases h1 : (s.size : Int) < 1
 ·rw [if_pos h1,hj]
  have : s.size = 0:=by omega
  simp [this]
 ·rw [if_neg h1,hj]
  have h2 : 1 ≤ s.size:=by omega
  by_cases h64 : s.size ≤ 64
  ·have : decide ((s.size : Int) > 64) = false:=decide_eq_false (by omega)
   simp [this,h2,h64]
  ·have : decide ((s.size : Int) > 64) = true:=decide_eq_true (by omega)
   simp [this,h64]
def chL (b : Int) : Bool:=(decide (97 ≤ b) && decide (b ≤ 122)) || (decide (48 ≤ b) && decide (b ≤ 57)) || decide (b = 45)
theorem oO (k : Nat) (s : ByteArray) (i : Nat) (hi : i < s.size) (hs : s.size ≤ 140737488351232) : aX.l0 (k + 1) s (s.size : Int) (i : Int) = if chL (bt s i) = true then aX.l0 k s (s.size : Int) ((i + 1 : Nat) : Int) else some false:=by
 rw [aX.l0,if_pos (by omega),if_pos (by omega),if_pos (by omega),bY (by omega) (by omega)]
 have hn : ((i : Int) + 1) = ((i + 1 : Nat) : Int):=rfl
 rw [hn]
 generalize bt s i = b
 generalize aX.l0 k s (s.size : Int) ((i + 1 : Nat) : Int) = X
 have h1 : dP.f b = some (decide (97 ≤ b) && decide (b ≤ 122)):=by
  unfold dP.f
  by_cases h : 97 ≤ b <;> simp [h]
 have h2 : dA.f b = some (decide (48 ≤ b) && decide (b ≤ 57)):=by
  unfold dA.f
  by_cases h : 48 ≤ b <;> simp [h]
 rw [h1,h2,chL]
 simp only [Option.bind_some]
 cases (decide (97 ≤ b) && decide (b ≤ 122)) <;> cases (decide (48 ≤ b) && decide (b ≤ 57)) <;> by_cases h : b = 45 <;> simp [h]
theorem rP (k : Nat) (b : Int) (h : 0 ≤ b ∧ b ≤ 255) (hk : 60 ≤ k) : bH.f k b (⟨#[97,98,99,100,101,102,103,104,105,106,107,108,109,110,111,112,113,114,115,116,117,118,119,120,121,122,48,49,50,51,52,53,54,55,56,57,45]⟩ : ByteArray) = some (chL b):=by
 have hall : (List.range 256).all (fun n=>bH.f 60 (n : Int) (⟨#[97,98,99,100,101,102,103,104,105,106,107,108,109,110,111,112,113,114,115,116,117,118,119,120,121,122,48,49,50,51,52,53,54,55,56,57,45]⟩ : ByteArray) == some (chL n)) = true:=by decide +kernel
 obtain ⟨n,rfl⟩:=Int.eq_ofNat_of_zero_le h.1
 have xJ:=beq_iff_eq.1 (List.all_eq_true.1 hall n (List.mem_range.2 (by omega)))
 clear hall
 obtain ⟨d,rfl⟩ : ∃ d,k = 60 + d:=⟨k - 60,by omega⟩
 clear hk
 induction d with
 | zero=>exact xJ
 | succ d ih=>exact bH.mono _ _ _ _ ih
theorem uU (k : Nat) (s t : ByteArray) (ok : Int → Bool) (hin : ∀ k b,60 ≤ k → (0 ≤ b ∧ b ≤ 255) → bH.f k b t = some (ok b)) (hs : s.size ≤ 140737488351232) (hk : s.size + 100 < k) : bA.f k s t = some ((List.range' 0 s.size).all fun j=>ok (bt s j)):=by
 obtain ⟨k,rfl⟩ : ∃ k',k = k' + 60:=⟨k - 60,by omega⟩
 refine (gZ s.size (fun k i=>bA.l0 (k + 60) s t i) (fun j=>ok (bt s j)) true (fun k i hi=>?_) (fun k=>?_) s.size 0 k (by omega) (by omega)).trans (by simp)
 ·show bA.l0 (k + 60 + 1) s t (i : Int) = _
  rw [bA.l0,if_pos (by omega),if_pos (by omega),hin _ _ (by omega) (iV s i),bY (by omega) (by omega)]
  rfl
 ·show bA.l0 (k + 60 + 1) s t (s.size : Int) = _
  rw [bA.l0,if_neg (by omega)]
def iR (s : ByteArray) : Bool:=decide (1 ≤ s.size) && (decide (s.size ≤ 63) && ((List.range' 0 s.size).all (fun j=>chL (bt s j)) && (decide (bt s 0 ≠ 45) && decide (bt s ((s.size : Int) - 1) ≠ 45))))
theorem lS (k : Nat) (s : ByteArray) (hs : s.size ≤ 140737488351232) (hk : s.size + 1 < k) : aX.f k s = some (iR s):=by
 have hj : ∀ x : Bool,aX.j0 k s x = some ((List.range' 0 s.size).all (fun j=>chL (bt s j)) && !x):=by
  intro x
  obtain ⟨k,rfl⟩ : ∃ k',k = k' + 1:=⟨k - 1,by omega⟩
  cases x with
  | true=>rw [aX.j0,if_pos rfl];simp
  | false =>
   rw [aX.j0,if_neg (by decide)]
   refine (gZ s.size (fun k i=>aX.l0 k s (s.size : Int) i) (fun j=>chL (bt s j)) true (fun k i hi=>oO k s i hi hs) (fun k=>?_) s.size 0 k (by omega) (by omega)).trans (by simp)
   show aX.l0 (k + 1) s (s.size : Int) (s.size : Int) = _
   rw [aX.l0,if_neg (by omega)]
 rw [aX.f,iR]
 by_cases h0 : s.toList = ([] : List UInt8)
 ·rw [if_pos h0,hj]
  have : s.size = 0:=by
   rw [ByteArray.toList_eq] at h0
   have:=congrArg List.length h0
   rw [Array.length_toList] at this
   exact this
  simp [this]
 have h1 : 1 ≤ s.size:=Nat.one_le_iff_ne_zero.2 fun h=>h0 (by rw [ByteArray.toList_eq];exact List.eq_nil_of_length_eq_zero (by rw [Array.length_toList];exact h))
 rw [if_neg h0]
 by_cases h63 : (s.size : Int) > 63
 ·rw [if_pos h63,hj]
  have : ¬ s.size ≤ 63:=by omega
  simp [this]
 have h63' : s.size ≤ 63:=by omega
 rw [if_neg h63,if_pos (by omega)]
 by_cases hf : bt s 0 = 45
 ·rw [if_pos hf,hj]
  simp [hf]
 rw [if_neg hf,bY (by omega) (by omega),if_pos (by omega),if_pos (by omega),hj]
 by_cases hl : bt s ((s.size : Int) - 1) = 45
 ·simp [hl]
 ·have : (bt s ((s.size : Int) - 1) == 45) = false:=beq_eq_false_iff_ne.2 hl
  rw [this]
  simp [h1,h63',hf,hl]
theorem iT (k : Nat) (s : ByteArray) (hs : s.size ≤ 140737488351232) (hk : s.size + 100 < k) : bC.f k s = some (iR s):=by
 rw [bC.f,iR]
 by_cases h1 : (s.size : Int) ≥ 1
 ·rw [if_pos h1]
  by_cases h63 : (s.size : Int) ≤ 63
  ·have e1 : 1 ≤ s.size:=by omega
   have e2 : s.size ≤ 63:=by omega
   rw [if_pos h63]
   simp only [cu.f,bO.f,Option.bind_some]
   rw [if_pos (by decide),if_pos (by decide)]
   have ha:=uU k s _ chL (fun k b hk hb=>rP k b hb hk) hs hk
   refine (congrArg (fun z=>Option.bind z _) ha).trans ?_
   simp only [Option.bind_some]
   cases hA : (List.range' 0 s.size).all (fun j=>chL (bt s j)) with
   | false=>simp
   | true =>
    rw [if_pos rfl,if_pos (by omega)]
    by_cases hf : bt s 0 = 45
    ·rw [if_pos hf]
     simp [hf]
    ·rw [if_neg hf,bY (by omega) (by omega),if_pos (by omega),if_pos (by omega)]
     by_cases hl : bt s ((s.size : Int) - 1) = 45
     ·simp [hl]
     ·simp [e1,e2,hf,hl]
  ·rw [if_neg h63]
   have : ¬ s.size ≤ 63:=by omega
   simp [this]
 ·rw [if_neg h1]
  have : ¬ 1 ≤ s.size:=by omega
  simp [this]
def chI (b : Int) : Bool:=(decide (97 ≤ b) && decide (b ≤ 122)) || (decide (65 ≤ b) && decide (b ≤ 90)) || (decide (48 ≤ b) && decide (b ≤ 57)) || decide (b = 46) || decide (b = 95) || decide (b = 45) || decide (b = 47) || decide (b = 58) || decide (b = 64)
def chH (b : Int) : Bool:=(decide (97 ≤ b) && decide (b ≤ 122)) || (decide (48 ≤ b) && decide (b ≤ 57))
theorem xC (b : Int) (h : 0 ≤ b ∧ b ≤ 255) : Lib.indexByte [46,95,45,47,58,64] b.toNat.toUInt8 < 0 ↔ ¬ (b = 46 ∨ b = 95 ∨ b = 45 ∨ b = 47 ∨ b = 58 ∨ b = 64):=by
 have hall : (List.range 256).all (fun n=>decide (Lib.indexByte [46,95,45,47,58,64] n.toUInt8 < 0) == decide (¬ (n = 46 ∨ n = 95 ∨ n = 45 ∨ n = 47 ∨ n = 58 ∨ n = 64))) = true:=by decide +kernel
 obtain ⟨n,rfl⟩:=Int.eq_ofNat_of_zero_le h.1
 have:=List.all_eq_true.1 hall n (List.mem_range.2 (by omega))
 rw [beq_iff_eq,decide_eq_decide] at this
 rw [Int.toNat_natCast,this]
 omega
theorem nR (b : Int) : dP.f b = some (decide (97 ≤ b) && decide (b ≤ 122)):=by
 unfold dP.f
 by_cases h : 97 ≤ b <;> simp [h]
theorem rQ (b : Int) : eG.f b = some (decide (65 ≤ b) && decide (b ≤ 90)):=by
 unfold eG.f
 by_cases h : 65 ≤ b <;> simp [h]
theorem nS (b : Int) : dA.f b = some (decide (48 ≤ b) && decide (b ≤ 57)):=by
 unfold dA.f
 by_cases h : 48 ≤ b <;> simp [h]
theorem oP (k : Nat) (s : ByteArray) (i : Nat) (hi : i < s.size) (hs : s.size ≤ 140737488351232) : bI.l0 (k + 1) s (s.size : Int) (i : Int) = if chI (bt s i) = true then bI.l0 k s (s.size : Int) ((i + 1 : Nat) : Int) else some false:=by
 rw [bI.l0,if_pos (by omega),if_pos (by omega),if_pos (by omega),bY (by omega) (by omega)]
 have hb:=iV s i
 have hx:=xC (bt s i) hb
 generalize bt s i = b at hb hx ⊢
 simp only [strings_IndexByte.f,nR,rQ,nS,Option.bind_some]
 generalize Lib.indexByte [46,95,45,47,58,64] b.toNat.toUInt8 = t at hx ⊢
 have hn : ((i : Int) + 1) = ((i + 1 : Nat) : Int):=rfl
 rw [hn]
 generalize bI.l0 k s (s.size : Int) ((i + 1 : Nat) : Int) = X
 have hc : chI b = true ↔ ((97 ≤ b ∧ b ≤ 122) ∨ (65 ≤ b ∧ b ≤ 90) ∨ (48 ≤ b ∧ b ≤ 57) ∨ b = 46 ∨ b = 95 ∨ b = 45 ∨ b = 47 ∨ b = 58 ∨ b = 64):=by simp [chI,or_assoc]
 clear hn hs hi
 simp only [Bool.and_eq_true,decide_eq_true_eq]
 by_cases h : chI b = true
 ·rw [if_pos h]
  have h':=hc.1 h
  repeat' split
  all_goals first | rfl | (exfalso;omega)
 ·rw [if_neg h]
  have h' : ¬ ((97 ≤ b ∧ b ≤ 122) ∨ (65 ≤ b ∧ b ≤ 90) ∨ (48 ≤ b ∧ b ≤ 57) ∨ b = 46 ∨ b = 95 ∨ b = 45 ∨ b = 47 ∨ b = 58 ∨ b = 64):=fun q=>h (hc.2 q)
  repeat' split
  all_goals first | rfl | (exfalso;omega)
def uV : ByteArray:=⟨#[97,98,99,100,101,102,103,104,105,106,107,108,109,110,111,112,113,114,115,116,117,118,119,120,121,122,65,66,67,68,69,70,71,72,73,74,75,76,77,78,79,80,81,82,83,84,85,86,87,88,89,90,48,49,50,51,52,53,54,55,56,57,46,95,45,47,58,64]⟩
def hdT : ByteArray:=⟨#[97,98,99,100,101,102,103,104,105,106,107,108,109,110,111,112,113,114,115,116,117,118,119,120,121,122,48,49,50,51,52,53,54,55,56,57]⟩
theorem tX (k0 : Nat) (t : ByteArray) (ok : Int → Bool) (hall : (List.range 256).all (fun n=>bH.f k0 (n : Int) t == some (ok n)) = true) (k : Nat) (b : Int) (h : 0 ≤ b ∧ b ≤ 255) (hk : k0 ≤ k) : bH.f k b t = some (ok b):=by
 obtain ⟨n,rfl⟩:=Int.eq_ofNat_of_zero_le h.1
 have xJ:=beq_iff_eq.1 (List.all_eq_true.1 hall n (List.mem_range.2 (by omega)))
 clear hall
 obtain ⟨d,rfl⟩ : ∃ d,k = k0 + d:=⟨k - k0,by omega⟩
 clear hk
 induction d with
 | zero=>exact xJ
 | succ d ih=>exact bH.mono _ _ _ _ ih
theorem uW (k : Nat) (b : Int) (h : 0 ≤ b ∧ b ≤ 255) (hk : 80 ≤ k) : bH.f k b uV = some (chI b):=tX 80 uV chI (by decide +kernel) k b h hk
theorem vV (k : Nat) (b : Int) (h : 0 ≤ b ∧ b ≤ 255) (hk : 80 ≤ k) : bH.f k b hdT = some (chH b):=tX 80 hdT chH (by decide +kernel) k b h hk
theorem rR (k : Nat) (s t : ByteArray) (ok : Int → Bool) (hin : ∀ k b,80 ≤ k → (0 ≤ b ∧ b ≤ 255) → bH.f k b t = some (ok b)) (hs : s.size ≤ 140737488351232) (hk : s.size + 100 < k) : bA.f k s t = some ((List.range' 0 s.size).all fun j=>ok (bt s j)):=by
 obtain ⟨k,rfl⟩ : ∃ k',k = k' + 80:=⟨k - 80,by omega⟩
 refine (gZ s.size (fun k i=>bA.l0 (k + 80) s t i) (fun j=>ok (bt s j)) true (fun k i hi=>?_) (fun k=>?_) s.size 0 k (by omega) (by omega)).trans (by simp)
 ·show bA.l0 (k + 80 + 1) s t (i : Int) = _
  rw [bA.l0,if_pos (by omega),if_pos (by omega),hin _ _ (by omega) (iV s i),bY (by omega) (by omega)]
  rfl
 ·show bA.l0 (k + 80 + 1) s t (s.size : Int) = _
  rw [bA.l0,if_neg (by omega)]
def kQ (s : ByteArray) : Bool:=decide (1 ≤ s.size) && (decide (s.size ≤ 255) && ((List.range' 0 s.size).all (fun j=>chI (bt s j)) && chH (bt s 0)))
theorem rT (k : Nat) (s : ByteArray) (hs : s.size ≤ 140737488351232) (hk : s.size + 1 < k) : bI.f k s = some (kQ s):=by
 have hj : ∀ x : Bool,bI.j0 k s x = some ((List.range' 0 s.size).all (fun j=>chI (bt s j)) && !x):=by
  intro x
  obtain ⟨k,rfl⟩ : ∃ k',k = k' + 1:=⟨k - 1,by omega⟩
  cases x with
  | true=>rw [bI.j0,if_pos rfl];simp
  | false =>
   rw [bI.j0,if_neg (by decide)]
   refine (gZ s.size (fun k i=>bI.l0 k s (s.size : Int) i) (fun j=>chI (bt s j)) true (fun k i hi=>oP k s i hi hs) (fun k=>?_) s.size 0 k (by omega) (by omega)).trans (by simp)
   show bI.l0 (k + 1) s (s.size : Int) (s.size : Int) = _
   rw [bI.l0,if_neg (by omega)]
 rw [bI.f,kQ]
 by_cases h0 : s.toList = ([] : List UInt8)
 ·rw [if_pos h0,hj]
  have : s.size = 0:=by
   rw [ByteArray.toList_eq] at h0
   have:=congrArg List.length h0
   rw [Array.length_toList] at this
   exact this
  simp [this]
 have h1 : 1 ≤ s.size:=Nat.one_le_iff_ne_zero.2 fun h=>h0 (by rw [ByteArray.toList_eq];exact List.eq_nil_of_length_eq_zero (by rw [Array.length_toList];exact h))
 rw [if_neg h0]
 by_cases xI : (s.size : Int) > 255
 ·rw [if_pos xI,hj]
  have : ¬ s.size ≤ 255:=by omega
  simp [this]
 have h255' : s.size ≤ 255:=by omega
 rw [if_neg xI,if_pos (by omega),nR,nS]
 simp only [Option.bind_some,hj,chH]
 cases (decide (97 ≤ bt s 0) && decide (bt s 0 ≤ 122)) <;> cases (decide (48 ≤ bt s 0) && decide (bt s 0 ≤ 57)) <;> simp [h1,h255']
theorem ny (k : Nat) (s : ByteArray) (hs : s.size ≤ 140737488351232) (hk : s.size + 100 < k) : bR.f k s = some (kQ s):=by
 rw [bR.f,kQ]
 by_cases h1 : (s.size : Int) ≥ 1
 ·rw [if_pos h1]
  by_cases xI : (s.size : Int) ≤ 255
  ·have e1 : 1 ≤ s.size:=by omega
   have e2 : s.size ≤ 255:=by omega
   rw [if_pos xI]
   simp only [cu.f,dV.f,bO.f,Option.bind_some]
   rw [if_pos (by decide),if_pos (by decide),if_pos (by decide)]
   have ha:=rR k s uV chI (fun k b hk hb=>uW k b hb hk) hs hk
   refine (congrArg (fun z=>Option.bind z _) ha).trans ?_
   simp only [Option.bind_some]
   cases hA : (List.range' 0 s.size).all (fun j=>chI (bt s j)) with
   | false=>simp
   | true =>
    rw [if_pos rfl,if_pos (by omega),if_pos (by decide)]
    have hh:=vV k (bt s 0) (iV s 0) (by omega)
    refine (congrArg (fun z=>Option.bind z _) hh).trans ?_
    simp [e1,e2]
  ·rw [if_neg xI]
   have : ¬ s.size ≤ 255:=by omega
   simp [this]
 ·rw [if_neg h1]
  have : ¬ 1 ≤ s.size:=by omega
  simp [this]
end Go.Proofs.YtpmbdcljphpcnaaDoor.Pure
namespace Go.Proofs.YtpmbdcljphpcnaaDoor.Pure
open Go.RowKit Go.Proofs.YtpmbdcljphpcnaaDoor.GC2 Go.Proofs.YtpmbdcljphpcnaaDoor.Split Go.Proofs.YtpmbdcljphpcnaaDoorW.PrintWords Go.Proofs.YtpmbdcljphpcnaaDoorW.PrintLast Go.Proofs.YtpmbdcljphpcnaaDoorW.PrintMore
theorem rU (s : ByteArray) (j : Nat) (hj : j < s.size) : bt s j = 46 ↔ s.data.toList[j]? = some 46:=by
 have hl : j < s.data.toList.length:=by rw [Array.length_toList];exact hj
 rw [List.getElem?_eq_getElem hl,Array.getElem_toList]
 simp only [bt,Int.toNat_natCast]
 rw [dif_pos hj]
 constructor
 ·intro h
  have h1 : (s[j]).toNat = 46:=by omega
  have h2 : s[j] = 46:=UInt8.toNat_inj.1 h1
  exact congrArg some h2
 ·intro h
  have h2 : s[j] = 46:=Option.some.inj h
  rw [h2]
  rfl
theorem j5 (s : ByteArray) (a : Nat) : (s.extract a s.size).data.toList = s.data.toList.drop a:=by
 rw [ByteArray.data_extract,Array.toList_extract]
 show (s.data.toList.drop a).take (s.data.size - a) = _
 rw [List.take_of_length_le (by rw [List.length_drop,Array.length_toList];exact Nat.le_refl _)]
theorem oQ (s : ByteArray) (a : Nat) (hn : ∀ j : Nat,a ≤ j → j < s.size → bt s j ≠ 46) : texts 46 (s.extract a s.size) = [s.extract a s.size]:=by
 unfold texts
 rw [iY 46 _ (fun k hk=>?_)]
 ·rfl
 ·rw [j5,List.getElem?_drop] at hk
  have hlt : a + k < s.size:=by
   have:=(List.getElem?_eq_some_iff.1 hk).1
   rw [Array.length_toList] at this
   exact this
  exact hn (a + k) (by omega) hlt ((rU s _ hlt).2 hk)
theorem oU (s : ByteArray) (a i : Nat) (hai : a ≤ i) (hi : i < s.size) (hd : bt s i = 46) (hn : ∀ j : Nat,a ≤ j → j < i → bt s j ≠ 46) : texts 46 (s.extract a s.size) = s.extract a i :: texts 46 (s.extract (i + 1) s.size):=by
 unfold texts
 have hp:=iZ 46 (s.data.toList.drop a) (i - a) (by rw [List.getElem?_drop,show a + (i - a) = i by omega];exact (rU s i hi).1 hd)
  (fun k hk e=>by
   rw [List.getElem?_drop] at e
   exact hn (a + k) (by omega) (by omega) ((rU s _ (by omega)).2 e))
 rw [j5,hp,j5,List.map_cons,List.drop_drop,show a + (i - a + 1) = i + 1 by omega]
 refine congrArg (· :: _) ?_
 apply ByteArray.ext
 rw [ByteArray.data_extract]
 apply Array.ext'
 rw [Array.toList_extract]
theorem oV (s : ByteArray) (hs : s.size ≤ 1000000000) : ∀ (m i a k : Nat) (acc : List ByteArray),i + m = s.size → a ≤ i → (∀ j : Nat,a ≤ j → j < i → bt s j ≠ 46) → acc.length + m ≤ 1000000000 → m + 1 < k →
  bU.l0 k s acc (a : Int) (i : Int) = some (acc ++ texts 46 (s.extract a s.size))
 | 0,i,a,k,acc,h,ha,hn,hl,hk=>by
  obtain ⟨k,rfl⟩ : ∃ k',k = k' + 1:=⟨k - 1,by omega⟩
  obtain ⟨k,rfl⟩ : ∃ k',k = k' + 1:=⟨k - 1,by omega⟩
  obtain rfl : i = s.size:=h
  rw [bU.l0,if_pos (by omega),if_pos rfl,if_pos (by omega),if_pos (by omega),if_pos (by omega),bY (by omega) (by omega),bU.l0,if_neg (by omega),oQ s a (fun j h1 h2=>hn j h1 h2)]
  rfl
 | m + 1,i,a,k,acc,h,ha,hn,hl,hk=>by
  obtain ⟨k,rfl⟩ : ∃ k',k = k' + 1:=⟨k - 1,by omega⟩
  have hi : i < s.size:=by omega
  rw [bU.l0,if_pos (by omega),if_neg (by omega),if_pos (by omega),if_pos (by omega)]
  by_cases hd : bt s i = 46
  ·rw [if_pos hd,if_pos (by omega),if_pos (by omega),if_pos (by omega),bY (by omega) (by omega)]
   have:=oV s hs m (i + 1) (i + 1) k (acc ++ [s.extract a i]) (by omega) (Nat.le_refl _) (fun j h1 h2=>by omega) (by simp;omega) (by omega)
   refine Eq.trans ?_ (this.trans ?_)
   ·rfl
   ·rw [oU s a i ha hi hd hn]
    simp
  ·rw [if_neg hd,bY (by omega) (by omega)]
   exact oV s hs m (i + 1) a k acc (by omega) (by omega) (fun j h1 h2=>by
    rcases Nat.lt_or_ge j i with h3 | h3
    ·exact hn j h1 h3
    ·obtain rfl : j = i:=by omega
     exact hd) (by omega) (by omega)
theorem rV (s : ByteArray) : s.extract 0 s.size = s:=by
 apply ByteArray.ext
 rw [ByteArray.data_extract]
 apply Array.ext'
 rw [Array.toList_extract]
 show (s.data.toList.drop 0).take (s.data.size - 0) = _
 rw [List.drop_zero,Nat.sub_zero,List.take_of_length_le (by rw [Array.length_toList];exact Nat.le_refl _)]
theorem nT (c : UInt8) : ∀ l : List UInt8,((pieces c l).map List.length).sum + (pieces c l).length = l.length + 1
 | []=>rfl
 | x :: l=>by
  have ih:=nT c l
  cases h : pieces c l with
  | nil=>exact absurd h (qw c l)
  | cons p ps =>
   rw [h] at ih
   rw [pieces,h]
   split
   ·simp at ih ⊢;omega
   ·simp at ih ⊢;omega
theorem nA : ∀ (l : List Nat) (x : Nat),x ∈ l → x ≤ l.sum
 | [],_,h=>by cases h
 | y :: l,x,h=>by
  rw [List.sum_cons]
  rcases List.mem_cons.1 h with rfl | h
  ·omega
  ·have:=nA l x h
   omega
theorem kI (c : UInt8) (s : ByteArray) : (texts c s).length ≤ s.size + 1 ∧ ∀ p ∈ texts c s,p.size ≤ s.size:=by
 have h:=nT c s.data.toList
 have hs : s.data.toList.length = s.size:=Array.length_toList
 constructor
 ·simp only [texts,List.length_map];omega
 ·intro p hp
  obtain ⟨l,hl,rfl⟩:=List.mem_map.1 hp
  have h1 : l.length ≤ ((pieces c s.data.toList).map List.length).sum:=nA _ _ (List.mem_map.2 ⟨l,hl,rfl⟩)
  have h2 : 1 ≤ (pieces c s.data.toList).length:=List.length_pos_of_mem hl
  show l.toArray.size ≤ s.size
  rw [List.size_toArray]
  omega
def kJ (s : ByteArray) : Bool:=(texts 46 s).all iR && decide ((s.size : Int) ≤ 253)
theorem mI (k : Nat) : ∀ l : List ByteArray,(∀ p ∈ l,p.size ≤ 140737488351232 ∧ p.size + 1 < k) → labels k l = some (l.all iR)
 | [],_=>rfl
 | p :: l,h=>by
  rw [labels,lS k p (h p (by simp)).1 (h p (by simp)).2,Option.bind_some,mI k l (fun q hq=>h q (List.mem_cons_of_mem _ hq)),List.all_cons]
  cases iR p <;> rfl
theorem tC (k : Nat) (s : ByteArray) (hs : s.size ≤ 140737488351232) (hk : s.size + 1 < k) : dG.f k s = some (kJ s):=by
 rw [dG.f,if_pos hs,mI k _ (fun p hp=>by have:=(kI 46 s).2 p hp;omega),Option.bind_some,kJ]
 cases (texts 46 s).all iR <;> rfl
theorem nU (k : Nat) (s : ByteArray) (hs : s.size ≤ 100000000) (hk : 2 * s.size + 200 < k) : aY.f k s = some (kJ s):=by
 have hts:=kI 46 s
 have hc : bU.f k s = some (texts 46 s):=by
  have:=oV s (by omega) s.size 0 0 k [] (by omega) (Nat.le_refl _) (fun j h1 h2=>by omega) (by simp;omega) (by omega)
  rw [rV,List.nil_append] at this
  exact this
 rw [aY.f,hc,Option.bind_some,kJ]
 obtain ⟨c,hc0⟩ : ∃ c,c = s.size + 150:=⟨_,rfl⟩
 obtain ⟨k,rfl⟩ : ∃ k',k = k' + c:=⟨k - c,by omega⟩
 refine (gZ (texts 46 s).length (fun k i=>aY.l0 (k + c) s (texts 46 s) i) (fun j=>iR ((texts 46 s).getD j ByteArray.empty)) (decide ((s.size : Int) ≤ 253)) (fun k i hi=>?_) (fun k=>?_) (texts 46 s).length 0 k (by omega) (by omega)).trans ?_
 ·show aY.l0 (k + 1 + c) s (texts 46 s) (i : Int) = _
  rw [show k + 1 + c = (k + c) + 1 by omega]
  have hp : (texts 46 s).getD i ByteArray.empty ∈ texts 46 s:=by
   rw [List.getD_eq_getElem?_getD,List.getElem?_eq_getElem hi]
   exact List.getElem_mem hi
  have hz:=hts.2 _ hp
  rw [aY.l0,if_pos (by omega),if_pos (by omega),show kX ByteArray.empty (texts 46 s) (i : Int) = (texts 46 s).getD i ByteArray.empty from rfl,iT _ _ (by omega) (by omega),Option.bind_some,bY (by omega) (by omega)]
  rfl
 ·show aY.l0 (k + 1 + c) s (texts 46 s) ((texts 46 s).length : Int) = _
  rw [show k + 1 + c = (k + c) + 1 by omega]
  rw [aY.l0,if_neg (by omega)]
 ·refine congrArg some (congrArg (· && _) ?_)
  rw [Bool.eq_iff_iff,List.all_eq_true,List.all_eq_true]
  constructor
  ·intro h p hp
   obtain ⟨j,hj,rfl⟩:=List.mem_iff_getElem.1 hp
   have:=h j (List.mem_range'_1.2 ⟨by omega,by omega⟩)
   rw [List.getD_eq_getElem?_getD,List.getElem?_eq_getElem hj] at this
   exact this
  ·intro h j hj
   have hj' : j < (texts 46 s).length:=by have:=(List.mem_range'_1.1 hj).2;omega
   rw [List.getD_eq_getElem?_getD,List.getElem?_eq_getElem hj']
   exact h _ (List.getElem_mem hj')
end Go.Proofs.YtpmbdcljphpcnaaDoor.Pure
namespace Go.Proofs.YtpmbdcljphpcnaaDoor.Pure
open Go.RowKit Go.Proofs.YtpmbdcljphpcnaaDoor.GC2 Go.Proofs.YtpmbdcljphpcnaaDoor.Split Go.Proofs.YtpmbdcljphpcnaaDoorW.PrintWords Go.Proofs.YtpmbdcljphpcnaaDoorW.PrintLast Go.Proofs.YtpmbdcljphpcnaaDoorW.PrintMore
abbrev Con:=S100
abbrev Pod:=S98
theorem rdP (l : List Pod) (i : Nat) (h : i < l.length) : aD l (i : Int) = l[i]:=by
 simp [aD,List.getElem?_eq_getElem h]
theorem rdC (l : List Con) (i : Nat) (h : i < l.length) : dS l (i : Int) = l[i]:=by
 simp [dS,List.getElem?_eq_getElem h]
def iK (seen : List (List UInt8)) : List Con → Int
 | []=>0
 | c :: cs=>if iR c.f0 = true then (if c.f0.data.toList ∈ seen then 8 else if kQ c.f1 = true then iK (c.f0.data.toList :: seen) cs else 6) else 13
def eH (l : List Con) : Int:=if l.length = 0 then 16 else if l.length > 16 then 18 else iK [] l
theorem pQ : ∀ (l : List Con) (seen : List (List UInt8)),(∀ c ∈ l,c.f0.size ≤ 1000000000 ∧ c.f1.size ≤ 140737488351232) → Ev (fun k=>jN k seen l) (iK seen l)
 | [],_,_=>⟨0,fun _ _=>rfl⟩
 | c :: cs,seen,h=>by
  obtain ⟨h0,h1⟩:=h c List.mem_cons_self
  obtain ⟨K,hK⟩:=pQ cs (c.f0.data.toList :: seen) (fun q hq=>h q (List.mem_cons_of_mem _ hq))
  refine ⟨K + c.f0.size + c.f1.size + 2,fun k hk=>?_⟩
  show jN k seen (c :: cs) = _
  have hK:=hK k (by omega)
  rw [jN,if_pos h0,lS k _ (by omega) (by omega),Option.bind_some,iK]
  cases iR c.f0 with
  | false=>rw [if_neg (show ¬ (false = true) by decide),if_neg (show ¬ (false = true) by decide)]
  | true =>
   rw [if_pos rfl,if_pos rfl]
   by_cases hm : c.f0.data.toList ∈ seen
   ·rw [if_pos hm,if_pos hm]
   ·rw [if_neg hm,if_neg hm,rT k _ (by omega) (by omega),Option.bind_some]
    cases kQ c.f1 with
    | false=>rw [if_neg (show ¬ (false = true) by decide),if_neg (show ¬ (false = true) by decide)]
    | true=>rw [if_pos rfl,if_pos rfl];exact hK
def uX : Option ByteArray → ByteArray → Bool
 | none,_=>false
 | some q,f=>!(Op.bytesLess q.toList f.toList)
def lT (prev : Option ByteArray) : List Pod → Int
 | []=>0
 | p :: ps=>if (lQ p.f0 && (kJ p.f1 && iR p.f2)) = true then (if uX prev p.f0 = true then 6 else if p.f3 > 2 ∨ p.f4 < 1 ∨ p.f4 > 3600 then 7 else if eH p.f5 = 0 then lT (some p.f0) ps else eH p.f5) else 13
def iF (l : List Pod) : Int:=if l.length > 1024 then 18 else lT none l
def nV : List Pod → Prop
 | []=>True
 | p :: ps=>(p.f0.size ≤ 140737488351232 ∧ p.f1.size ≤ 140737488351232 ∧ p.f2.size ≤ 140737488351232) ∧ (p.f5.length ≤ 16 → (∀ c ∈ p.f5,c.f0.size ≤ 1000000000 ∧ c.f1.size ≤ 140737488351232) ∧ nV ps)
def j6 (l : List Pod) : Nat → Option ByteArray
 | 0=>none
 | j + 1=>some (aD l (j : Int)).f0
theorem kg (l : List Pod) (i : Nat) (h : i < l.length) : j6 l (i + 1) = some l[i].f0:=by rw [j6,rdP l i h]
theorem rW (l : List Pod) (a : Int) (hl : l.length ≤ 9223372036854775806) : ∀ (m i : Nat),i + m = l.length → nV (l.drop i) → Ev (fun k=>aM.l0 k l (l.length : Int) (i : Int) a l) (lT (j6 l i) (l.drop i))
 | 0,i,h,_=>⟨1,fun k hk=>by
   obtain ⟨k,rfl⟩ : ∃ k',k = k' + 1:=⟨k - 1,by omega⟩
   show aM.l0 (k + 1) l (l.length : Int) (i : Int) a l = _
   rw [aM.l0,if_neg (by omega),List.drop_eq_nil_of_le (by omega)];rfl⟩
 | m + 1,i,h,hs=>by
  have hi : i < l.length:=by omega
  have ih:=rW l a hl m (i + 1) (by omega)
  rw [kg l i hi] at ih
  rw [List.drop_eq_getElem_cons hi] at hs ⊢
  have e1:=rdP l i hi
  generalize l[i] = p at hs e1 ih ⊢
  obtain ⟨⟨s0,s1,s2⟩,hs⟩:=hs
  have hw : wrap64 ((i : Int) + 1) = ((i + 1 : Nat) : Int):=by rw [bY (by omega) (by omega)];omega
  obtain ⟨R,hR⟩ : ∃ R,(if eH p.f5 = 0 then lT (some p.f0) (l.drop (i + 1)) else eH p.f5) = R:=⟨_,rfl⟩
  have hC : ∃ K,∀ k,K ≤ k → ((bX.f k p.f5).bind fun t=>if t = 0 then aM.l0 k l (l.length : Int) ((i + 1 : Nat) : Int) a l else some t) = some R:=by
   by_cases h16 : p.f5.length > 16
   ·refine ⟨0,fun k _=>?_⟩
    have hc : eH p.f5 = 18:=by rw [eH,if_neg (by omega),if_pos h16]
    rw [bX.f,if_neg (by omega),if_pos h16,Option.bind_some,if_neg (by decide),← hR,hc,if_neg (by decide)]
   ·obtain ⟨hq,hs'⟩:=hs (by omega)
    obtain ⟨K1,h1⟩:=pQ p.f5 [] hq
    obtain ⟨K2,h2⟩:=ih hs'
    refine ⟨K1 + K2,fun k hk=>?_⟩
    have hc : bX.f k p.f5 = some (eH p.f5):=by
     rw [bX.f,eH]
     by_cases h0 : p.f5.length = 0
     ·rw [if_pos h0,if_pos h0]
     ·rw [if_neg h0,if_neg h0,if_neg h16,if_neg h16]
      exact h1 k (by omega)
    rw [hc,Option.bind_some,← hR]
    by_cases h0 : eH p.f5 = 0
    ·rw [if_pos h0,if_pos h0]
     exact h2 k (by omega)
    ·rw [if_neg h0,if_neg h0]
  obtain ⟨K,hK⟩:=hC
  refine ⟨K + p.f0.size + p.f1.size + p.f2.size + 10,fun k hk=>?_⟩
  obtain ⟨k,rfl⟩ : ∃ j,k = j + 4:=⟨k - 4,by omega⟩
  have hK:=hK k (by omega)
  have hf:=tu (k + 3) p.f0 s0 (by omega)
  have hn:=tC (k + 3) p.f1 s1 (by omega)
  have hb:=lS (k + 3) p.f2 s2 (by omega)
  have j3 : ∀ x : Bool,aM.j3 (k + 1) l (l.length : Int) (i : Int) x a l p.f0 p.f1 p.f2 p.f3 p.f4 p.f5 = some (if x = true then 7 else R):=by
   intro x
   rw [aM.j3,hw]
   cases x with
   | true=>rfl
   | false=>rw [if_neg (show ¬ (false = true) by decide),if_neg (show ¬ (false = true) by decide)];exact hK
  have j2 : ∀ x : Bool,aM.j2 (k + 2) l (l.length : Int) (i : Int) x a l p.f0 p.f1 p.f2 p.f3 p.f4 p.f5 = some (if x = true then 6 else if p.f3 > 2 ∨ p.f4 < 1 ∨ p.f4 > 3600 then 7 else R):=by
   intro x
   rw [aM.j2]
   cases x with
   | true=>rfl
   | false =>
    rw [if_neg (show ¬ (false = true) by decide),if_neg (show ¬ (false = true) by decide)]
    by_cases c1 : p.f3 > 2
    ·rw [if_pos c1,j3,if_pos rfl,if_pos (.inl c1)]
    ·rw [if_neg c1]
     by_cases c2 : p.f4 < 1
     ·rw [if_pos c2,j3,if_pos rfl,if_pos (.inr (.inl c2))]
     ·rw [if_neg c2,j3]
      by_cases c3 : p.f4 > 3600
      ·rw [decide_eq_true c3,if_pos rfl,if_pos (.inr (.inr c3))]
      ·rw [decide_eq_false c3,if_neg (by decide),if_neg (by omega)]
  have j1 : ∀ x : Bool,aM.j1 (k + 3) (i : Int) l (l.length : Int) (i : Int) x a l p.f0 p.f1 p.f2 p.f3 p.f4 p.f5 = some (if x = true then 13 else if uX (j6 l i) p.f0 = true then 6 else if p.f3 > 2 ∨ p.f4 < 1 ∨ p.f4 > 3600 then 7 else R):=by
   intro x
   rw [aM.j1]
   cases x with
   | true=>rfl
   | false =>
    rw [if_neg (show ¬ (false = true) by decide),if_neg (show ¬ (false = true) by decide)]
    cases i with
    | zero=>rw [if_neg (show ¬ (((0 : Nat) : Int) > 0) by decide),j2];rfl
    | succ i =>
     have hpw : wrap64 (((i + 1 : Nat) : Int) - 1) = (i : Int):=by rw [bY (by omega) (by omega)];omega
     rw [if_pos (by omega),hpw,if_pos (by omega),if_pos (by omega),j2]
     rfl
  show aM.l0 (k + 3 + 1) l (l.length : Int) (i : Int) a l = _
  rw [aM.l0,if_pos (by omega),if_pos (by omega),if_pos (by omega),e1,hf,Option.bind_some,lT,hR]
  cases lQ p.f0 with
  | false=>rw [if_neg (show ¬ (false = true) by decide),j1];rfl
  | true =>
   rw [if_pos rfl,hn,Option.bind_some]
   cases kJ p.f1 with
   | false=>rw [if_neg (show ¬ (false = true) by decide),j1];rfl
   | true =>
    rw [if_pos rfl,hb,Option.bind_some,j1]
    cases iR p.f2 <;> rfl
theorem nW (l : List Pod) (a : Int) (hl : l.length ≤ 9223372036854775806) (hs : nV l) : Ev (fun k=>aM.f k a l) (iF l):=by
 obtain ⟨K,hK⟩:=rW l a hl l.length 0 (by omega) hs
 refine ⟨K,fun k hk=>?_⟩
 show aM.f k a l = _
 rw [aM.f,iF]
 by_cases h : l.length > 1024
 ·rw [if_pos (by omega),if_pos h]
 ·rw [if_neg (by omega),if_neg h]
  exact hK k hk
def nX (c : Con) : Prop:=c.f0.size ≤ 4096 ∧ c.f1.size ≤ 4096
def lU (p : Pod) : Prop:=(p.f0.size ≤ 4096 ∧ p.f1.size ≤ 4096 ∧ p.f2.size ≤ 4096) ∧ p.f5.length ≤ 16 ∧ ∀ c ∈ p.f5,nX c
theorem mJ : ∀ (l : List Con) (seen : List (List UInt8)),iK seen l = 0 → ∀ c ∈ l,nX c
 | [],_,_=>fun _ h=>by cases h
 | c :: cs,seen,h=>by
  rw [iK] at h
  split at h
  ·split at h
   ·cases h
   ·split at h
    ·rename_i h1 h2 h3
     intro q hq
     rcases List.mem_cons.1 hq with rfl | hq
     ·simp only [iR,kQ,Bool.and_eq_true,decide_eq_true_eq] at h1 h3
      exact ⟨by omega,by omega⟩
     ·exact mJ cs _ h q hq
    ·cases h
  ·cases h
theorem nY : ∀ (l : List Pod) (prev : Option ByteArray),lT prev l = 0 → ∀ p ∈ l,lU p
 | [],_,_=>fun _ h=>by cases h
 | p :: ps,prev,h=>by
  rw [lT] at h
  split at h
  ·rename_i h1
   split at h
   ·cases h
   ·split at h
    ·cases h
    ·split at h
     ·rename_i h4
      intro q hq
      rcases List.mem_cons.1 hq with rfl | hq
      ·simp only [lQ,kJ,iR,Bool.and_eq_true,decide_eq_true_eq] at h1
       rw [eH] at h4
       split at h4
       ·cases h4
       ·split at h4
        ·cases h4
        ·exact ⟨⟨by omega,by omega,by omega⟩,by omega,mJ _ _ h4⟩
      ·exact nY ps _ h q hq
     ·exact absurd h (by assumption)
  ·cases h
theorem lV {l : List Pod} (h : iF l = 0) : l.length ≤ 1024 ∧ ∀ p ∈ l,lU p:=by
 rw [iF] at h
 split at h
 ·cases h
 ·exact ⟨by omega,nY _ _ h⟩
theorem tF : ∀ (l : List Pod),(∀ p ∈ l,lU p) → nV l
 | [],_=>trivial
 | p :: ps,h=>by
  obtain ⟨⟨h0,h1,h2⟩,_,h3⟩:=h p List.mem_cons_self
  refine ⟨⟨by omega,by omega,by omega⟩,fun _=>⟨fun c hc=>?_,tF ps (fun q hq=>h q (List.mem_cons_of_mem _ hq))⟩⟩
  have:=h3 c hc
  exact ⟨by have:=this.1;omega,by have:=this.2;omega⟩
end Go.Proofs.YtpmbdcljphpcnaaDoor.Pure
