/- File names of ckone: the program's test and the document's are one. Plain lemmas. Names of dns: the program's test and the document's are one. Plain lemmas. cktwo's Check: what it comes to. Plain lemmas. No conditions beside those stated. -/
import Derived.Test.YtpmbdcljphpcnaaDoorGC2x2
import Derived.Test.YtpmbdcljphpcnaaDoorGC2x4
import Derived.Test.YtpmbdcljphpcnaaDoorGC2Name
import Derived.Laws.Strings
import Derived.Test.YtpmbdcljphpcnaaDoorGC2x9
namespace Go.Proofs.YtpmbdcljphpcnaaDoor.Pure
open Go.RowKit Go.Proofs.YtpmbdcljphpcnaaDoor.GC2 Go.Proofs.YtpmbdcljphpcnaaDoorW.PrintWords Go.Proofs.YtpmbdcljphpcnaaDoorW.PrintLast Go.Proofs.YtpmbdcljphpcnaaDoorW.PrintMore

/-- A loop over places that goes on while a test holds. -/
theorem all_loop (n : Nat) (f : Nat → Int → Option Bool) (ok : Nat → Bool) (e : Bool) (hstep : ∀ k (i : Nat),i < n → f (k + 1) (i : Int) = if ok i = true then f k ((i + 1 : Nat) : Int) else some false) (hend : ∀ k,f (k + 1) (n : Int) = some e) :
  ∀ (m i k : Nat),i + m = n → m < k → f k (i : Int) = some ((List.range' i m).all ok && e)
 | 0,i,k,h,hk=>by
  obtain ⟨k,rfl⟩ : ∃ k',k = k' + 1:=⟨k - 1,by omega⟩
  obtain rfl : i = n:=h
  rw [hend]
  simp
 | m + 1,i,k,h,hk=>by
  obtain ⟨k,rfl⟩ : ∃ k',k = k' + 1:=⟨k - 1,by omega⟩
  rw [hstep k i (by omega),all_loop n f ok e hstep hend m (i + 1) k (by omega) (by omega),List.range'_succ,List.all_cons]
  cases ok i <;> simp

/-- The signs of a file's name. -/
def chF (b : Int) : Bool:=(decide (97 ≤ b) && decide (b ≤ 122)) || (decide (48 ≤ b) && decide (b ≤ 57)) || decide (b = 46) || decide (b = 95) || decide (b = 45) || decide (b = 47)
theorem idx4 (b : Int) (h : 0 ≤ b ∧ b ≤ 255) : Lib.indexByte [46,95,45,47] b.toNat.toUInt8 < 0 ↔ ¬ (b = 46 ∨ b = 95 ∨ b = 45 ∨ b = 47):=by
 have hall : (List.range 256).all (fun n=>decide (Lib.indexByte [46,95,45,47] n.toUInt8 < 0) == decide (¬ (n = 46 ∨ n = 95 ∨ n = 45 ∨ n = 47))) = true:=by decide +kernel
 obtain ⟨n,rfl⟩:=Int.eq_ofNat_of_zero_le h.1
 have:=List.all_eq_true.1 hall n (List.mem_range.2 (by omega))
 rw [beq_iff_eq,decide_eq_decide] at this
 rw [Int.toNat_natCast,this]
 omega
theorem file_step (k : Nat) (s : ByteArray) (i : Nat) (hi : i < s.size) (hs : s.size ≤ 140737488351232) : ckone_File.l0 (k + 1) s (s.size : Int) (i : Int) = if chF (bt s i) = true then ckone_File.l0 k s (s.size : Int) ((i + 1 : Nat) : Int) else some false:=by
 rw [ckone_File.l0,if_pos (by omega),if_pos (by omega),if_pos (by omega),i64_id (by omega) (by omega)]
 have hb:=bt_range s i
 have hx:=idx4 (bt s i) hb
 generalize bt s i = b at hb hx ⊢
 simp only [strings_IndexByte.f,Option.bind_some]
 generalize Lib.indexByte [46,95,45,47] b.toNat.toUInt8 = t at hx ⊢
 have hn : ((i : Int) + 1) = ((i + 1 : Nat) : Int):=rfl
 rw [hn]
 generalize ckone_File.l0 k s (s.size : Int) ((i + 1 : Nat) : Int) = X
 have hc : chF b = true ↔ ((97 ≤ b ∧ b ≤ 122) ∨ (48 ≤ b ∧ b ≤ 57) ∨ b = 46 ∨ b = 95 ∨ b = 45 ∨ b = 47):=by simp [chF,or_assoc]
 clear hn hs hi
 by_cases h : chF b = true
 ·rw [if_pos h]
  have h':=hc.1 h
  repeat' split
  all_goals first | rfl | (exfalso;omega)
 ·rw [if_neg h]
  have h' : ¬ ((97 ≤ b ∧ b ≤ 122) ∨ (48 ≤ b ∧ b ≤ 57) ∨ b = 46 ∨ b = 95 ∨ b = 45 ∨ b = 47):=fun q=>h (hc.2 q)
  repeat' split
  all_goals first | rfl | (exfalso;omega)
/-- Is it a file's name? -/
def fileB (s : ByteArray) : Bool:=(List.range' 0 s.size).all (fun j=>chF (bt s j)) && (decide (1 ≤ s.size) && decide (s.size ≤ 64))
theorem file_is (k : Nat) (s : ByteArray) (hs : s.size ≤ 140737488351232) (hk : s.size < k) : ckone_File.f k s = some (fileB s):=by
 refine all_loop s.size (fun k i=>ckone_File.l0 k s (s.size : Int) i) (fun j=>chF (bt s j)) (decide (1 ≤ s.size) && decide (s.size ≤ 64)) (fun k i hi=>file_step k s i hi hs) (fun k=>?_) s.size 0 k (by omega) hk
 show ckone_File.l0 (k + 1) s (s.size : Int) (s.size : Int) = _
 rw [ckone_File.l0,if_neg (by omega)]
 by_cases h0 : s.toList = ([] : List UInt8)
 ·rw [if_pos h0]
  have : s.size = 0:=by
   rw [ByteArray.toList_eq] at h0
   have:=congrArg List.length h0
   rw [Array.length_toList] at this
   exact this
  simp [this]
 ·rw [if_neg h0]
  have : 1 ≤ s.size:=Nat.one_le_iff_ne_zero.2 fun h=>h0 (by rw [ByteArray.toList_eq];exact List.eq_nil_of_length_eq_zero (by rw [Array.length_toList];exact h))
  simp [this]
  omega
def chL (b : Int) : Bool:=(decide (97 ≤ b) && decide (b ≤ 122)) || (decide (48 ≤ b) && decide (b ≤ 57)) || decide (b = 45)
theorem label_step (k : Nat) (s : ByteArray) (i : Nat) (hi : i < s.size) (hs : s.size ≤ 140737488351232) : dns_Label.l0 (k + 1) s (s.size : Int) (i : Int) = if chL (bt s i) = true then dns_Label.l0 k s (s.size : Int) ((i + 1 : Nat) : Int) else some false:=by
 rw [dns_Label.l0,if_pos (by omega),if_pos (by omega),if_pos (by omega),i64_id (by omega) (by omega)]
 have hn : ((i : Int) + 1) = ((i + 1 : Nat) : Int):=rfl
 rw [hn]
 generalize bt s i = b
 generalize dns_Label.l0 k s (s.size : Int) ((i + 1 : Nat) : Int) = X
 have h1 : dns_small.f b = some (decide (97 ≤ b) && decide (b ≤ 122)):=by
  unfold dns_small.f
  by_cases h : 97 ≤ b <;> simp [h]
 have h2 : dns_digit.f b = some (decide (48 ≤ b) && decide (b ≤ 57)):=by
  unfold dns_digit.f
  by_cases h : 48 ≤ b <;> simp [h]
 rw [h1,h2,chL]
 simp only [Option.bind_some]
 cases (decide (97 ≤ b) && decide (b ≤ 122)) <;> cases (decide (48 ≤ b) && decide (b ≤ 57)) <;> by_cases h : b = 45 <;> simp [h]
/-- Is it a label? -/
def labB (s : ByteArray) : Bool:=decide (1 ≤ s.size) && (decide (s.size ≤ 63) && ((List.range' 0 s.size).all (fun j=>chL (bt s j)) && (decide (bt s 0 ≠ 45) && decide (bt s ((s.size : Int) - 1) ≠ 45))))
theorem label_is (k : Nat) (s : ByteArray) (hs : s.size ≤ 140737488351232) (hk : s.size + 1 < k) : dns_Label.f k s = some (labB s):=by
 have hj : ∀ x : Bool,dns_Label.j0 k s x = some ((List.range' 0 s.size).all (fun j=>chL (bt s j)) && !x):=by
  intro x
  obtain ⟨k,rfl⟩ : ∃ k',k = k' + 1:=⟨k - 1,by omega⟩
  cases x with
  | true=>rw [dns_Label.j0,if_pos rfl];simp
  | false =>
   rw [dns_Label.j0,if_neg (by decide)]
   refine (all_loop s.size (fun k i=>dns_Label.l0 k s (s.size : Int) i) (fun j=>chL (bt s j)) true (fun k i hi=>label_step k s i hi hs) (fun k=>?_) s.size 0 k (by omega) (by omega)).trans (by simp)
   show dns_Label.l0 (k + 1) s (s.size : Int) (s.size : Int) = _
   rw [dns_Label.l0,if_neg (by omega)]
 rw [dns_Label.f,labB]
 by_cases h0 : s.toList = ([] : List UInt8)
 ·rw [if_pos h0,hj]
  have : s.size = 0:=by
   rw [ByteArray.toList_eq] at h0
   have:=congrArg List.length h0
   rw [Array.length_toList] at this
   exact this
  simp [this]
 have h1 : 1 ≤ s.size:=Nat.one_le_iff_ne_zero.2 fun h=>h0 (by rw [ByteArray.toList_eq];exact List.eq_nil_of_length_eq_zero (by rw [Array.length_toList];exact h))
 rw [if_neg h0]
 by_cases h63 : (s.size : Int) > 63
 ·rw [if_pos h63,hj]
  have : ¬ s.size ≤ 63:=by omega
  simp [this]
 have h63' : s.size ≤ 63:=by omega
 rw [if_neg h63,if_pos (by omega)]
 by_cases hf : bt s 0 = 45
 ·rw [if_pos hf,hj]
  simp [hf]
 rw [if_neg hf,i64_id (by omega) (by omega),if_pos (by omega),if_pos (by omega),hj]
 by_cases hl : bt s ((s.size : Int) - 1) = 45
 ·simp [hl]
 ·have : (bt s ((s.size : Int) - 1) == 45) = false:=beq_eq_false_iff_ne.2 hl
  rw [this]
  simp [h1,h63',hf,hl]
def chI (b : Int) : Bool:=(decide (97 ≤ b) && decide (b ≤ 122)) || (decide (65 ≤ b) && decide (b ≤ 90)) || (decide (48 ≤ b) && decide (b ≤ 57)) || decide (b = 46) || decide (b = 95) || decide (b = 45) || decide (b = 47) || decide (b = 58) || decide (b = 64)
def chH (b : Int) : Bool:=(decide (97 ≤ b) && decide (b ≤ 122)) || (decide (48 ≤ b) && decide (b ≤ 57))
theorem idx6 (b : Int) (h : 0 ≤ b ∧ b ≤ 255) : Lib.indexByte [46,95,45,47,58,64] b.toNat.toUInt8 < 0 ↔ ¬ (b = 46 ∨ b = 95 ∨ b = 45 ∨ b = 47 ∨ b = 58 ∨ b = 64):=by
 have hall : (List.range 256).all (fun n=>decide (Lib.indexByte [46,95,45,47,58,64] n.toUInt8 < 0) == decide (¬ (n = 46 ∨ n = 95 ∨ n = 45 ∨ n = 47 ∨ n = 58 ∨ n = 64))) = true:=by decide +kernel
 obtain ⟨n,rfl⟩:=Int.eq_ofNat_of_zero_le h.1
 have:=List.all_eq_true.1 hall n (List.mem_range.2 (by omega))
 rw [beq_iff_eq,decide_eq_decide] at this
 rw [Int.toNat_natCast,this]
 omega
theorem small_is (b : Int) : dns_small.f b = some (decide (97 ≤ b) && decide (b ≤ 122)):=by
 unfold dns_small.f
 by_cases h : 97 ≤ b <;> simp [h]
theorem great_is (b : Int) : dns_great.f b = some (decide (65 ≤ b) && decide (b ≤ 90)):=by
 unfold dns_great.f
 by_cases h : 65 ≤ b <;> simp [h]
theorem digit_is (b : Int) : dns_digit.f b = some (decide (48 ≤ b) && decide (b ≤ 57)):=by
 unfold dns_digit.f
 by_cases h : 48 ≤ b <;> simp [h]
theorem image_step (k : Nat) (s : ByteArray) (i : Nat) (hi : i < s.size) (hs : s.size ≤ 140737488351232) : dns_Image.l0 (k + 1) s (s.size : Int) (i : Int) = if chI (bt s i) = true then dns_Image.l0 k s (s.size : Int) ((i + 1 : Nat) : Int) else some false:=by
 rw [dns_Image.l0,if_pos (by omega),if_pos (by omega),if_pos (by omega),i64_id (by omega) (by omega)]
 have hb:=bt_range s i
 have hx:=idx6 (bt s i) hb
 generalize bt s i = b at hb hx ⊢
 simp only [strings_IndexByte.f,small_is,great_is,digit_is,Option.bind_some]
 generalize Lib.indexByte [46,95,45,47,58,64] b.toNat.toUInt8 = t at hx ⊢
 have hn : ((i : Int) + 1) = ((i + 1 : Nat) : Int):=rfl
 rw [hn]
 generalize dns_Image.l0 k s (s.size : Int) ((i + 1 : Nat) : Int) = X
 have hc : chI b = true ↔ ((97 ≤ b ∧ b ≤ 122) ∨ (65 ≤ b ∧ b ≤ 90) ∨ (48 ≤ b ∧ b ≤ 57) ∨ b = 46 ∨ b = 95 ∨ b = 45 ∨ b = 47 ∨ b = 58 ∨ b = 64):=by simp [chI,or_assoc]
 clear hn hs hi
 simp only [Bool.and_eq_true,decide_eq_true_eq]
 by_cases h : chI b = true
 ·rw [if_pos h]
  have h':=hc.1 h
  repeat' split
  all_goals first | rfl | (exfalso;omega)
 ·rw [if_neg h]
  have h' : ¬ ((97 ≤ b ∧ b ≤ 122) ∨ (65 ≤ b ∧ b ≤ 90) ∨ (48 ≤ b ∧ b ≤ 57) ∨ b = 46 ∨ b = 95 ∨ b = 45 ∨ b = 47 ∨ b = 58 ∨ b = 64):=fun q=>h (hc.2 q)
  repeat' split
  all_goals first | rfl | (exfalso;omega)
/-- Is it an image's name? -/
def imgB (s : ByteArray) : Bool:=decide (1 ≤ s.size) && (decide (s.size ≤ 255) && ((List.range' 0 s.size).all (fun j=>chI (bt s j)) && chH (bt s 0)))
theorem image_is (k : Nat) (s : ByteArray) (hs : s.size ≤ 140737488351232) (hk : s.size + 1 < k) : dns_Image.f k s = some (imgB s):=by
 have hj : ∀ x : Bool,dns_Image.j0 k s x = some ((List.range' 0 s.size).all (fun j=>chI (bt s j)) && !x):=by
  intro x
  obtain ⟨k,rfl⟩ : ∃ k',k = k' + 1:=⟨k - 1,by omega⟩
  cases x with
  | true=>rw [dns_Image.j0,if_pos rfl];simp
  | false =>
   rw [dns_Image.j0,if_neg (by decide)]
   refine (all_loop s.size (fun k i=>dns_Image.l0 k s (s.size : Int) i) (fun j=>chI (bt s j)) true (fun k i hi=>image_step k s i hi hs) (fun k=>?_) s.size 0 k (by omega) (by omega)).trans (by simp)
   show dns_Image.l0 (k + 1) s (s.size : Int) (s.size : Int) = _
   rw [dns_Image.l0,if_neg (by omega)]
 rw [dns_Image.f,imgB]
 by_cases h0 : s.toList = ([] : List UInt8)
 ·rw [if_pos h0,hj]
  have : s.size = 0:=by
   rw [ByteArray.toList_eq] at h0
   have:=congrArg List.length h0
   rw [Array.length_toList] at this
   exact this
  simp [this]
 have h1 : 1 ≤ s.size:=Nat.one_le_iff_ne_zero.2 fun h=>h0 (by rw [ByteArray.toList_eq];exact List.eq_nil_of_length_eq_zero (by rw [Array.length_toList];exact h))
 rw [if_neg h0]
 by_cases h255 : (s.size : Int) > 255
 ·rw [if_pos h255,hj]
  have : ¬ s.size ≤ 255:=by omega
  simp [this]
 have h255' : s.size ≤ 255:=by omega
 rw [if_neg h255,if_pos (by omega),small_is,digit_is]
 simp only [Option.bind_some,hj,chH]
 cases (decide (97 ≤ bt s 0) && decide (bt s 0 ≤ 122)) <;> cases (decide (48 ≤ bt s 0) && decide (bt s 0 ≤ 57)) <;> simp [h1,h255']
end Go.Proofs.YtpmbdcljphpcnaaDoor.Pure
namespace Go.Proofs.YtpmbdcljphpcnaaDoor.Pure
open Go.RowKit Go.Proofs.YtpmbdcljphpcnaaDoor.GC2 Go.Proofs.YtpmbdcljphpcnaaDoor.Split Go.Proofs.YtpmbdcljphpcnaaDoorW.PrintWords Go.Proofs.YtpmbdcljphpcnaaDoorW.PrintLast Go.Proofs.YtpmbdcljphpcnaaDoorW.PrintMore

theorem glue_len (c : UInt8) : ∀ l : List UInt8,((pieces c l).map List.length).sum + (pieces c l).length = l.length + 1
 | []=>rfl
 | x :: l=>by
  have ih:=glue_len c l
  cases h : pieces c l with
  | nil=>exact absurd h (pieces_ne c l)
  | cons p ps =>
   rw [h] at ih
   rw [pieces,h]
   split
   ·simp at ih ⊢;omega
   ·simp at ih ⊢;omega
theorem le_sum : ∀ (l : List Nat) (x : Nat),x ∈ l → x ≤ l.sum
 | [],_,h=>by cases h
 | y :: l,x,h=>by
  rw [List.sum_cons]
  rcases List.mem_cons.1 h with rfl | h
  ·omega
  ·have:=le_sum l x h
   omega
theorem texts_small (c : UInt8) (s : ByteArray) : (texts c s).length ≤ s.size + 1 ∧ ∀ p ∈ texts c s,p.size ≤ s.size:=by
 have h:=glue_len c s.data.toList
 have hs : s.data.toList.length = s.size:=Array.length_toList
 constructor
 ·simp only [texts,List.length_map];omega
 ·intro p hp
  obtain ⟨l,hl,rfl⟩:=List.mem_map.1 hp
  have h1 : l.length ≤ ((pieces c s.data.toList).map List.length).sum:=le_sum _ _ (List.mem_map.2 ⟨l,hl,rfl⟩)
  have h2 : 1 ≤ (pieces c s.data.toList).length:=List.length_pos_of_mem hl
  show l.toArray.size ≤ s.size
  rw [List.size_toArray]
  omega
/-- Is it a name? -/
def nameB (s : ByteArray) : Bool:=(texts 46 s).all labB && decide ((s.size : Int) ≤ 253)
theorem labels_is (k : Nat) : ∀ l : List ByteArray,(∀ p ∈ l,p.size ≤ 140737488351232 ∧ p.size + 1 < k) → labels k l = some (l.all labB)
 | [],_=>rfl
 | p :: l,h=>by
  rw [labels,label_is k p (h p (by simp)).1 (h p (by simp)).2,Option.bind_some,labels_is k l (fun q hq=>h q (List.mem_cons_of_mem _ hq)),List.all_cons]
  cases labB p <;> rfl
theorem name_is (k : Nat) (s : ByteArray) (hs : s.size ≤ 140737488351232) (hk : s.size + 1 < k) : dns_Name.f k s = some (nameB s):=by
 rw [dns_Name.f,if_pos hs,labels_is k _ (fun p hp=>by have:=(texts_small 46 s).2 p hp;omega),Option.bind_some,nameB]
 cases (texts 46 s).all labB <;> rfl
end Go.Proofs.YtpmbdcljphpcnaaDoor.Pure
namespace Go.Proofs.YtpmbdcljphpcnaaDoor.Pure
open Go.RowKit Go.Proofs.YtpmbdcljphpcnaaDoor.GC2 Go.Proofs.YtpmbdcljphpcnaaDoor.Split Go.Proofs.YtpmbdcljphpcnaaDoorW.PrintWords Go.Proofs.YtpmbdcljphpcnaaDoorW.PrintLast Go.Proofs.YtpmbdcljphpcnaaDoorW.PrintMore

abbrev Con:=S100
abbrev Pod:=S98
theorem rdP (l : List Pod) (i : Nat) (h : i < l.length) : rd_T98 l (i : Int) = l[i]:=by
 simp [rd_T98,List.getElem?_eq_getElem h]
theorem rdC (l : List Con) (i : Nat) (h : i < l.length) : rd_T100 l (i : Int) = l[i]:=by
 simp [rd_T100,List.getElem?_eq_getElem h]
/-- What is wrong with containers. -/
def consS (seen : List (List UInt8)) : List Con → Int
 | []=>0
 | c :: cs=>if labB c.f0 = true then (if c.f0.data.toList ∈ seen then 8 else if imgB c.f1 = true then consS (c.f0.data.toList :: seen) cs else 6) else 13
def containersS (l : List Con) : Int:=if l.length = 0 then 16 else if l.length > 16 then 18 else consS [] l
theorem cons_ev : ∀ (l : List Con) (seen : List (List UInt8)),(∀ c ∈ l,c.f0.size ≤ 1000000000 ∧ c.f1.size ≤ 140737488351232) → Ev (fun k=>consF k seen l) (consS seen l)
 | [],_,_=>⟨0,fun _ _=>rfl⟩
 | c :: cs,seen,h=>by
  obtain ⟨h0,h1⟩:=h c List.mem_cons_self
  obtain ⟨K,hK⟩:=cons_ev cs (c.f0.data.toList :: seen) (fun q hq=>h q (List.mem_cons_of_mem _ hq))
  refine ⟨K + c.f0.size + c.f1.size + 2,fun k hk=>?_⟩
  show consF k seen (c :: cs) = _
  have hK:=hK k (by omega)
  rw [consF,if_pos h0,label_is k _ (by omega) (by omega),Option.bind_some,consS]
  cases labB c.f0 with
  | false=>rw [if_neg (show ¬ (false = true) by decide),if_neg (show ¬ (false = true) by decide)]
  | true =>
   rw [if_pos rfl,if_pos rfl]
   by_cases hm : c.f0.data.toList ∈ seen
   ·rw [if_pos hm,if_pos hm]
   ·rw [if_neg hm,if_neg hm,image_is k _ (by omega) (by omega),Option.bind_some]
    cases imgB c.f1 with
    | false=>rw [if_neg (show ¬ (false = true) by decide),if_neg (show ¬ (false = true) by decide)]
    | true=>rw [if_pos rfl,if_pos rfl];exact hK
/-- Does a file not rise? -/
def ordB : Option ByteArray → ByteArray → Bool
 | none,_=>false
 | some q,f=>!(Op.bytesLess q.toList f.toList)
/-- What is wrong with pods. -/
def chkS (prev : Option ByteArray) : List Pod → Int
 | []=>0
 | p :: ps=>if (fileB p.f0 && (nameB p.f1 && labB p.f2)) = true then (if ordB prev p.f0 = true then 6 else if p.f3 > 2 ∨ p.f4 < 1 ∨ p.f4 > 3600 then 7 else if containersS p.f5 = 0 then chkS (some p.f0) ps else containersS p.f5) else 13
def checkS (l : List Pod) : Int:=if l.length > 1024 then 18 else chkS none l
/-- Texts of pods are no longer than a machine bears; of pods whose containers aren't too many, those of containers are short. -/
def Sane : List Pod → Prop
 | []=>True
 | p :: ps=>(p.f0.size ≤ 140737488351232 ∧ p.f1.size ≤ 140737488351232 ∧ p.f2.size ≤ 140737488351232) ∧ (p.f5.length ≤ 16 → (∀ c ∈ p.f5,c.f0.size ≤ 1000000000 ∧ c.f1.size ≤ 140737488351232) ∧ Sane ps)
def prevOf (l : List Pod) : Nat → Option ByteArray
 | 0=>none
 | j + 1=>some (rd_T98 l (j : Int)).f0
theorem prev_some (l : List Pod) (i : Nat) (h : i < l.length) : prevOf l (i + 1) = some l[i].f0:=by rw [prevOf,rdP l i h]
theorem chk_ev (l : List Pod) (a : Int) (hl : l.length ≤ 9223372036854775806) : ∀ (m i : Nat),i + m = l.length → Sane (l.drop i) → Ev (fun k=>cktwo_State_Check.l0 k l (l.length : Int) (i : Int) a l) (chkS (prevOf l i) (l.drop i))
 | 0,i,h,_=>⟨1,fun k hk=>by
   obtain ⟨k,rfl⟩ : ∃ k',k = k' + 1:=⟨k - 1,by omega⟩
   show cktwo_State_Check.l0 (k + 1) l (l.length : Int) (i : Int) a l = _
   rw [cktwo_State_Check.l0,if_neg (by omega),List.drop_eq_nil_of_le (by omega)];rfl⟩
 | m + 1,i,h,hs=>by
  have hi : i < l.length:=by omega
  have ih:=chk_ev l a hl m (i + 1) (by omega)
  rw [prev_some l i hi] at ih
  rw [List.drop_eq_getElem_cons hi] at hs ⊢
  have e1:=rdP l i hi
  generalize l[i] = p at hs e1 ih ⊢
  obtain ⟨⟨s0,s1,s2⟩,hs⟩:=hs
  have hw : wrap64 ((i : Int) + 1) = ((i + 1 : Nat) : Int):=by rw [i64_id (by omega) (by omega)];omega
  obtain ⟨R,hR⟩ : ∃ R,(if containersS p.f5 = 0 then chkS (some p.f0) (l.drop (i + 1)) else containersS p.f5) = R:=⟨_,rfl⟩
  have hC : ∃ K,∀ k,K ≤ k → ((cktwo_containers.f k p.f5).bind fun t=>if t = 0 then cktwo_State_Check.l0 k l (l.length : Int) ((i + 1 : Nat) : Int) a l else some t) = some R:=by
   by_cases h16 : p.f5.length > 16
   ·refine ⟨0,fun k _=>?_⟩
    have hc : containersS p.f5 = 18:=by rw [containersS,if_neg (by omega),if_pos h16]
    rw [cktwo_containers.f,if_neg (by omega),if_pos h16,Option.bind_some,if_neg (by decide),← hR,hc,if_neg (by decide)]
   ·obtain ⟨hq,hs'⟩:=hs (by omega)
    obtain ⟨K1,h1⟩:=cons_ev p.f5 [] hq
    obtain ⟨K2,h2⟩:=ih hs'
    refine ⟨K1 + K2,fun k hk=>?_⟩
    have hc : cktwo_containers.f k p.f5 = some (containersS p.f5):=by
     rw [cktwo_containers.f,containersS]
     by_cases h0 : p.f5.length = 0
     ·rw [if_pos h0,if_pos h0]
     ·rw [if_neg h0,if_neg h0,if_neg h16,if_neg h16]
      exact h1 k (by omega)
    rw [hc,Option.bind_some,← hR]
    by_cases h0 : containersS p.f5 = 0
    ·rw [if_pos h0,if_pos h0]
     exact h2 k (by omega)
    ·rw [if_neg h0,if_neg h0]
  obtain ⟨K,hK⟩:=hC
  refine ⟨K + p.f0.size + p.f1.size + p.f2.size + 10,fun k hk=>?_⟩
  obtain ⟨k,rfl⟩ : ∃ j,k = j + 4:=⟨k - 4,by omega⟩
  have hK:=hK k (by omega)
  have hf:=file_is (k + 3) p.f0 s0 (by omega)
  have hn:=name_is (k + 3) p.f1 s1 (by omega)
  have hb:=label_is (k + 3) p.f2 s2 (by omega)
  have j3 : ∀ x : Bool,cktwo_State_Check.j3 (k + 1) l (l.length : Int) (i : Int) x a l p.f0 p.f1 p.f2 p.f3 p.f4 p.f5 = some (if x = true then 7 else R):=by
   intro x
   rw [cktwo_State_Check.j3,hw]
   cases x with
   | true=>rfl
   | false=>rw [if_neg (show ¬ (false = true) by decide),if_neg (show ¬ (false = true) by decide)];exact hK
  have j2 : ∀ x : Bool,cktwo_State_Check.j2 (k + 2) l (l.length : Int) (i : Int) x a l p.f0 p.f1 p.f2 p.f3 p.f4 p.f5 = some (if x = true then 6 else if p.f3 > 2 ∨ p.f4 < 1 ∨ p.f4 > 3600 then 7 else R):=by
   intro x
   rw [cktwo_State_Check.j2]
   cases x with
   | true=>rfl
   | false =>
    rw [if_neg (show ¬ (false = true) by decide),if_neg (show ¬ (false = true) by decide)]
    by_cases c1 : p.f3 > 2
    ·rw [if_pos c1,j3,if_pos rfl,if_pos (.inl c1)]
    ·rw [if_neg c1]
     by_cases c2 : p.f4 < 1
     ·rw [if_pos c2,j3,if_pos rfl,if_pos (.inr (.inl c2))]
     ·rw [if_neg c2,j3]
      by_cases c3 : p.f4 > 3600
      ·rw [decide_eq_true c3,if_pos rfl,if_pos (.inr (.inr c3))]
      ·rw [decide_eq_false c3,if_neg (by decide),if_neg (by omega)]
  have j1 : ∀ x : Bool,cktwo_State_Check.j1 (k + 3) (i : Int) l (l.length : Int) (i : Int) x a l p.f0 p.f1 p.f2 p.f3 p.f4 p.f5 = some (if x = true then 13 else if ordB (prevOf l i) p.f0 = true then 6 else if p.f3 > 2 ∨ p.f4 < 1 ∨ p.f4 > 3600 then 7 else R):=by
   intro x
   rw [cktwo_State_Check.j1]
   cases x with
   | true=>rfl
   | false =>
    rw [if_neg (show ¬ (false = true) by decide),if_neg (show ¬ (false = true) by decide)]
    cases i with
    | zero=>rw [if_neg (show ¬ (((0 : Nat) : Int) > 0) by decide),j2];rfl
    | succ i =>
     have hpw : wrap64 (((i + 1 : Nat) : Int) - 1) = (i : Int):=by rw [i64_id (by omega) (by omega)];omega
     rw [if_pos (by omega),hpw,if_pos (by omega),if_pos (by omega),j2]
     rfl
  show cktwo_State_Check.l0 (k + 3 + 1) l (l.length : Int) (i : Int) a l = _
  rw [cktwo_State_Check.l0,if_pos (by omega),if_pos (by omega),if_pos (by omega),e1,hf,Option.bind_some,chkS,hR]
  cases fileB p.f0 with
  | false=>rw [if_neg (show ¬ (false = true) by decide),j1];rfl
  | true =>
   rw [if_pos rfl,hn,Option.bind_some]
   cases nameB p.f1 with
   | false=>rw [if_neg (show ¬ (false = true) by decide),j1];rfl
   | true =>
    rw [if_pos rfl,hb,Option.bind_some,j1]
    cases labB p.f2 <;> rfl
/-- What is wrong with a state. -/
theorem check_ev (l : List Pod) (a : Int) (hl : l.length ≤ 9223372036854775806) (hs : Sane l) : Ev (fun k=>cktwo_State_Check.f k a l) (checkS l):=by
 obtain ⟨K,hK⟩:=chk_ev l a hl l.length 0 (by omega) hs
 refine ⟨K,fun k hk=>?_⟩
 show cktwo_State_Check.f k a l = _
 rw [cktwo_State_Check.f,checkS]
 by_cases h : l.length > 1024
 ·rw [if_pos (by omega),if_pos h]
 ·rw [if_neg (by omega),if_neg h]
  exact hK k hk
/-- What is right has short texts. -/
def FitsC (c : Con) : Prop:=c.f0.size ≤ 4096 ∧ c.f1.size ≤ 4096
def FitsP (p : Pod) : Prop:=(p.f0.size ≤ 4096 ∧ p.f1.size ≤ 4096 ∧ p.f2.size ≤ 4096) ∧ p.f5.length ≤ 16 ∧ ∀ c ∈ p.f5,FitsC c
theorem cons_zero : ∀ (l : List Con) (seen : List (List UInt8)),consS seen l = 0 → ∀ c ∈ l,FitsC c
 | [],_,_=>fun _ h=>by cases h
 | c :: cs,seen,h=>by
  rw [consS] at h
  split at h
  ·split at h
   ·cases h
   ·split at h
    ·rename_i h1 h2 h3
     intro q hq
     rcases List.mem_cons.1 hq with rfl | hq
     ·simp only [labB,imgB,Bool.and_eq_true,decide_eq_true_eq] at h1 h3
      exact ⟨by omega,by omega⟩
     ·exact cons_zero cs _ h q hq
    ·cases h
  ·cases h
theorem chk_zero : ∀ (l : List Pod) (prev : Option ByteArray),chkS prev l = 0 → ∀ p ∈ l,FitsP p
 | [],_,_=>fun _ h=>by cases h
 | p :: ps,prev,h=>by
  rw [chkS] at h
  split at h
  ·rename_i h1
   split at h
   ·cases h
   ·split at h
    ·cases h
    ·split at h
     ·rename_i h4
      intro q hq
      rcases List.mem_cons.1 hq with rfl | hq
      ·simp only [fileB,nameB,labB,Bool.and_eq_true,decide_eq_true_eq] at h1
       rw [containersS] at h4
       split at h4
       ·cases h4
       ·split at h4
        ·cases h4
        ·exact ⟨⟨by omega,by omega,by omega⟩,by omega,cons_zero _ _ h4⟩
      ·exact chk_zero ps _ h q hq
     ·exact absurd h (by assumption)
  ·cases h
theorem check_zero {l : List Pod} (h : checkS l = 0) : l.length ≤ 1024 ∧ ∀ p ∈ l,FitsP p:=by
 rw [checkS] at h
 split at h
 ·cases h
 ·exact ⟨by omega,chk_zero _ _ h⟩
theorem sane_of : ∀ (l : List Pod),(∀ p ∈ l,FitsP p) → Sane l
 | [],_=>trivial
 | p :: ps,h=>by
  obtain ⟨⟨h0,h1,h2⟩,_,h3⟩:=h p List.mem_cons_self
  refine ⟨⟨by omega,by omega,by omega⟩,fun _=>⟨fun c hc=>?_,sane_of ps (fun q hq=>h q (List.mem_cons_of_mem _ hq))⟩⟩
  have:=h3 c hc
  exact ⟨by have:=this.1;omega,by have:=this.2;omega⟩
end Go.Proofs.YtpmbdcljphpcnaaDoor.Pure
