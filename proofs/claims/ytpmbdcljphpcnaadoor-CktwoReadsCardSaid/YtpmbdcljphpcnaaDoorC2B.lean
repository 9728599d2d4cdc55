/- The bytes of numbers and texts. Plain lemmas. The Taker of pack: the program's and the document's (as in the claims of layer 2). Plain lemmas. The bytes that are put and taken again. Plain lemmas. cktwo's Encode and Decode, the one behind the other. Plain lemmas. No conditions beside those stated. -/
import Derived.Test.YtpmbdcljphpcnaaDoorGC2x1
import Derived.Test.YtpmbdcljphpcnaaDoorGC2x8
import Derived.Test.YtpmbdcljphpcnaaDoorGC2x9
import Derived.Test.YtpmbdcljphpcnaaDoorC2A
import Derived.Test.YtpmbdcljphpcnaaDoorGC2Text
import Derived.Test.YtpmbdcljphpcnaaDoorGC2Dec1
namespace Go.Proofs.YtpmbdcljphpcnaaDoor.Pure
open Go.RowKit Go.Proofs.YtpmbdcljphpcnaaDoor.GC2 Go.Proofs.YtpmbdcljphpcnaaDoorW.PrintWords Go.Proofs.YtpmbdcljphpcnaaDoorW.PrintLast Go.Proofs.YtpmbdcljphpcnaaDoorW.PrintMore
def beL : Nat → Int → List Int
 | 0,_=>[]
 | n + 1,v=>beL n (v / 256) ++ [v % 256]
theorem zK {a b c d a' b' c' d' : Int} (ha : a = a') (hb : b = b') (hc : c = c') (hd : d = d') : strOfNums [a,b,c,d] = strOfNums [a',b',c',d']:=by subst ha hb hc hd;rfl
theorem yx {a b a' b' : Int} (ha : a = a') (hb : b = b') : strOfNums [a,b] = strOfNums [a',b']:=by subst ha hb;rfl
theorem yA (k : Nat) (v : Int) : bU.f (k + 2) 1 v = some (strOfNums (beL 1 v)):=by
 simp [bU.f,fJ.f,bU.l0,wrap64,shr,beL]
theorem xB (k : Nat) (v : Int) : bU.f (k + 3) 2 v = some (strOfNums (beL 2 v)):=by
 simp [bU.f,fJ.f,bU.l0,wrap64,shr,beL,List.replicate]
 exact yx (by show v / 2 ^ 8 % 256 = _;omega) rfl
theorem yB {a b c d e f g h a' b' c' d' e' f' g' h' : Int} (ha : a = a') (hb : b = b') (hc : c = c') (hd : d = d') (he : e = e') (hf : f = f') (hg : g = g') (hh : h = h') : strOfNums [a,b,c,d,e,f,g,h] = strOfNums [a',b',c',d',e',f',g',h']:=by subst ha hb hc hd he hf hg hh;rfl
theorem zH (k : Nat) (v : Int) : bU.f (k + 9) 8 v = some (strOfNums (beL 8 v)):=by
 simp [bU.f,fJ.f,bU.l0,wrap64,shr,beL,List.replicate]
 exact yB (by show v / 2 ^ 56 % 256 = _;omega) (by show v / 2 ^ 48 % 256 = _;omega) (by show v / 2 ^ 40 % 256 = _;omega) (by show v / 2 ^ 32 % 256 = _;omega) (by show v / 2 ^ 24 % 256 = _;omega) (by show v / 2 ^ 16 % 256 = _;omega) (by show v / 2 ^ 8 % 256 = _;omega) rfl
theorem pq (n : Nat) : ∀ v : Int,(beL n v).length = n:=by
 induction n with
 | zero=>intro v;rfl
 | succ n ih=>intro v;simp [beL,ih]
theorem iO (xs : List Int) : (strOfNums xs).size = xs.length:=by
 show (strOfNums xs).data.size = _
 simp [strOfNums]
def txt (t : ByteArray) : ByteArray:=strOfNums (beL 2 t.size) ++ t
theorem jU (k : Nat) (s : ByteArray) (hs : s.size ≤ 4096) : eP.f (k + 10) s = some (txt s,0):=by
 unfold eP.f
 rw [if_neg (by omega),bY (by omega) (by omega),show k + 10 = (k + 7) + 3 from rfl,xB]
 simp only [Option.bind_some]
 rw [if_pos (by rw [iO];simp [beL];omega)]
 rfl
theorem xL (k : Nat) (s : ByteArray) (hs : 4096 < s.size) : eP.f k s = some (⟨#[]⟩,2):=by
 unfold eP.f
 rw [if_pos (by omega)]
theorem iW (t : ByteArray) : (txt t).size = 2 + t.size:=by rw [txt,ByteArray.size_append,iO,pq]
end Go.Proofs.YtpmbdcljphpcnaaDoor.Pure
namespace Go.Proofs.YtpmbdcljphpcnaaDoor.Pure
open Go.RowKit Go.Proofs.YtpmbdcljphpcnaaDoor.GC2 Go.Proofs.YtpmbdcljphpcnaaDoorW.PrintWords Go.Proofs.YtpmbdcljphpcnaaDoorW.PrintLast Go.Proofs.YtpmbdcljphpcnaaDoorW.PrintMore
def iX (xs : List Int) (v : Int) : Int:=xs.foldl (fun v b=>v * 256 + b) v
theorem nL (x : ByteArray) : ∀ b ∈ bytesOf x,0 ≤ b ∧ b < 256:=by
 intro b hb
 simp only [bytesOf,List.mem_map] at hb
 obtain ⟨c,_,rfl⟩:=hb
 have:=c.toNat_lt
 omega
theorem jq (x : ByteArray) : (bytesOf x).length = x.size:=by
 show (List.map _ x.data.toList).length = x.data.size
 rw [List.length_map,Array.length_toList]
theorem mq (x : ByteArray) : strOfNums (bytesOf x) = x:=by
 apply ByteArray.ext
 simp [strOfNums,bytesOf,Function.comp_def]
theorem rD (x : ByteArray) (i : Nat) (h : i < x.size) : (bytesOf x).drop i = bt x i :: (bytesOf x).drop (i + 1):=by
 rw [List.drop_eq_getElem_cons (by rw [jq];exact h)]
 congr 1
 simp only [bytesOf,List.getElem_map,bt,Int.toNat_natCast,dif_pos h]
 rfl
theorem vM {x b : Int} (h0 : 0 ≤ x) (hx : x % 256 = 0) (h1 : x < 18446744073709551616) (hb0 : 0 ≤ b) (hb : b < 256) : Go.bits .or .u64 x b = x + b :=
 bits_join .u64 64 (by decide) (fun n h0 h1=>bY h0 (by omega)) 8 x b h0 hx h1 hb0 hb (by omega)
theorem wh (x : ByteArray) (i : Int) : 0 ≤ bt x i ∧ bt x i < 256:=by
 unfold bt
 split
 ·have:=(x[i.toNat]).toNat_lt
  omega
 ·omega
theorem sG (x rest : ByteArray) (e : Int) (hx : x.size ≤ 8) (d : Nat) : ∀ (k i : Nat) (v : Int),i + d = x.size → 0 ≤ v → v < ((256 ^ i : Nat) : Int) →
  aR.l0 (k + d + 1) x v x.size i rest e = some (iX ((bytesOf x).drop i) v,rest,e):=by
 induction d with
 | zero =>
  intro k i v hi _ _
  rw [aR.l0,if_neg (by omega),List.drop_of_length_le (by rw [jq];omega)]
  rfl
 | succ d ih =>
  intro k i v hi h0 h1
  obtain ⟨hb0,hb1⟩:=wh x i
  have hp : 256 ^ i ≤ 256 ^ 7:=Nat.pow_le_pow_right (by omega) (by omega)
  have hv : v * 256 < 18446744073709551616:=by omega
  rw [show k + (d + 1) + 1 = (k + d + 1) + 1 from by omega]
  rw [aR.l0,if_pos (by omega),if_pos (by omega),if_pos (by omega),bY (x:=v * 256) (by omega) (by omega),bY (x:=bt x i) hb0 (by omega),vM (by omega) (by omega) hv hb0 hb1,bJ (by omega) (by omega)]
  have:=ih k (i + 1) (v * 256 + bt x i) (by omega) (by omega) (by rw [Nat.pow_succ];omega)
  rw [show ((i : Int) + 1) = ((i + 1 : Nat) : Int) from by omega,this,rD x i (by omega)]
  rfl
def dZ (s : ByteArray) (e n : Int) : Int × ByteArray × Int :=
 if e = 0 then
  if n = 1 ∨ n = 2 ∨ n = 4 ∨ n = 8 then
   if (s.size : Int) < n then (0,s,1) else (iX (bytesOf (s.extract 0 n.toNat)) 0,s.extract n.toNat s.size,0)
  else (0,s,7)
 else (0,s,e)
theorem lu (s : ByteArray) (e n : Int) : aR.f 20 s e n = some (dZ s e n):=by
 unfold aR.f dZ
 by_cases he : e = 0
 ·subst he
  rw [if_pos rfl,if_pos rfl]
  have hz : fJ.f n = some (decide (n = 1 ∨ n = 2 ∨ n = 4 ∨ n = 8)):=by
   unfold fJ.f
   by_cases h1 : n = 1 <;> by_cases h2 : n = 2 <;> by_cases h4 : n = 4 <;> by_cases h8 : n = 8 <;> simp [h1,h2,h4,h8]
  rw [hz]
  simp only [Option.bind_some]
  by_cases hn : n = 1 ∨ n = 2 ∨ n = 4 ∨ n = 8
  ·rw [if_pos hn,decide_eq_true hn]
   simp only [aR.j0,aR.j1,Bool.not_true]
   rw [if_neg (by decide)]
   unfold bX.f
   rw [if_pos rfl]
   by_cases hl : (s.size : Int) < n
   ·rw [if_pos hl,if_pos hl];rfl
   ·have hg : ¬ (n > (s.size : Int)):=hl
    have h0 : 0 ≤ n:=by omega
    have h1 : n ≤ (s.size : Int):=by omega
    rw [if_neg hg,if_neg hl,if_pos h0,if_pos h1]
    simp only [Option.bind_some,if_true]
    have hsz : (s.extract 0 n.toNat).size = n.toNat:=by rw [ByteArray.size_extract];omega
    have h:=sG (s.extract 0 n.toNat) (s.extract n.toNat s.size) 0 (by omega) n.toNat (17 - n.toNat) 0 0 (by omega) (by omega) (by decide)
    rw [show 17 - n.toNat + n.toNat + 1 = 18 from by omega] at h
    exact h
  ·rw [if_neg hn,decide_eq_false hn]
   simp [aR.j0,aR.j1,bX.f]
 ·rw [if_neg he,if_neg he]
  simp [aR.j0,aR.j1,bX.f,he]
theorem rE (xs : List Int) : ∀ v : Int,0 ≤ v → (∀ b ∈ xs,0 ≤ b ∧ b < 256) → 0 ≤ iX xs v ∧ iX xs v < (v + 1) * ((256 ^ xs.length : Nat) : Int):=by
 induction xs with
 | nil=>intro v h0 _;exact ⟨h0,by simp [iX];omega⟩
 | cons b xs ih =>
  intro v h0 hb
  obtain ⟨b0,b1⟩:=hb b List.mem_cons_self
  obtain ⟨g0,g1⟩:=ih (v * 256 + b) (by omega) (fun c hc=>hb c (List.mem_cons_of_mem _ hc))
  refine ⟨g0,Int.lt_of_lt_of_le g1 ?_⟩
  rw [List.length_cons,Nat.pow_succ,Nat.mul_comm,Int.natCast_mul,← Int.mul_assoc]
  exact Int.mul_le_mul_of_nonneg_right (by omega) (Int.natCast_nonneg _)
theorem iw (s : ByteArray) (e n : Int) (hn : n = 1 ∨ n = 2) : ∃ v s' e',dZ s e n = (v,s',e') ∧ 0 ≤ v ∧ v < 65536 ∧ (e' = 0 → e = 0) ∧ (e' ≠ 0 → s' = s ∧ v = 0):=by
 by_cases he : e = 0
 ·by_cases hl : (s.size : Int) < n
  ·exact ⟨0,s,1,by unfold dZ;rw [if_pos he,if_pos (by omega),if_pos hl],by omega,by omega,fun h=>by omega,fun _=>⟨rfl,rfl⟩⟩
  ·have hsz : (s.extract 0 n.toNat).size = n.toNat:=by rw [ByteArray.size_extract];omega
   have hbd:=rE (bytesOf (s.extract 0 n.toNat)) 0 (by omega) (nL _)
   rw [jq,hsz] at hbd
   refine ⟨_,_,0,by unfold dZ;rw [if_pos he,if_pos (by omega),if_neg hl],hbd.1,Int.lt_of_lt_of_le hbd.2 ?_,fun _=>he,fun h=>absurd rfl h⟩
   rcases hn with rfl | rfl <;> decide
 ·exact ⟨0,s,e,by unfold dZ;rw [if_neg he],by omega,by omega,fun h=>h,fun _=>⟨rfl,rfl⟩⟩
theorem iQ (s : ByteArray) (e : Int) : ∃ t s'' e'',bL.f 20 s e = some (t,s'',e''):=by
 obtain ⟨v,s',e',h,h0,h1,_,h2⟩:=iw s e 2 (.inr rfl)
 have hw : wrap64 v = v:=bJ (by omega) (by omega)
 unfold bL.f
 rw [lu,h]
 simp only [Option.bind_some]
 rw [hw]
 by_cases he : e' = 0
 ·subst he
  by_cases hv : v > 4096
  ·rw [if_pos hv]
   refine ⟨⟨#[]⟩,s,2,?_⟩
   simp [eT.f,bX.f]
  ·rw [if_neg hv]
   unfold bX.f
   rw [if_pos rfl]
   by_cases hl : (s'.size : Int) < v
   ·have hg : v > (s'.size : Int):=hl
    rw [if_pos hg]
    exact ⟨_,_,_,rfl⟩
   ·have hg : ¬ v > (s'.size : Int):=hl
    have hle : v ≤ (s'.size : Int):=by omega
    rw [if_neg hg]
    simp only [if_pos h0,if_pos hle]
    exact ⟨_,_,_,rfl⟩
 ·obtain ⟨rfl,rfl⟩:=h2 he
  rw [if_neg (by omega)]
  unfold bX.f
  rw [if_neg he]
  exact ⟨_,_,_,rfl⟩
theorem more {α : Type} {g : Nat → Option α} (h : ∀ k,LeO (g k) (g (k + 1))) {r : α} (hr : g 20 = some r) (k : Nat) (hk : 20 ≤ k) : g k = some r:=nY h hk hr
end Go.Proofs.YtpmbdcljphpcnaaDoor.Pure
namespace Go.Proofs.YtpmbdcljphpcnaaDoor.Pure
open Go.RowKit Go.Proofs.YtpmbdcljphpcnaaDoor.GC2 Go.Proofs.YtpmbdcljphpcnaaDoorW.PrintWords Go.Proofs.YtpmbdcljphpcnaaDoorW.PrintLast Go.Proofs.YtpmbdcljphpcnaaDoorW.PrintMore
theorem xC (n : Nat) : ∀ v : Int,∀ b ∈ beL n v,0 ≤ b ∧ b < 256:=by
 induction n with
 | zero=>intro v b hb;simp [beL] at hb
 | succ n ih =>
  intro v b hb
  simp only [beL,List.mem_append,List.mem_singleton] at hb
  rcases hb with hb | rfl
  ·exact ih _ b hb
  ·omega
theorem qh (xs ys : List Int) (v : Int) : iX (xs ++ ys) v = iX ys (iX xs v):=by simp [iX]
theorem vN (n : Nat) : ∀ v a : Int,iX (beL n v) a = a * 256 ^ n + v % 256 ^ n:=by
 induction n with
 | zero=>intro v a;simp [beL,iX,Int.emod_one]
 | succ n ih =>
  intro v a
  rw [beL,qh,ih]
  have h : v % 256 ^ (n + 1) = (v / 256) % 256 ^ n * 256 + v % 256:=by
   rw [Int.pow_succ,Int.mul_comm (256 ^ n) 256,Int.emod_def v (256 * 256 ^ n),Int.emod_def (v / 256),← Int.ediv_ediv_of_nonneg (show (0 : Int) ≤ 256 by omega),Int.mul_assoc]
   generalize (256 : Int) ^ n * (v / 256 / 256 ^ n) = p
   omega
  rw [h]
  simp only [iX,List.foldl_cons,List.foldl_nil,Int.pow_succ]
  rw [Int.add_mul,Int.mul_assoc]
  omega
theorem vO (xs : List Int) (h : ∀ b ∈ xs,0 ≤ b ∧ b < 256) : beL xs.length (iX xs 0) = xs:=by
 generalize hn : xs.length = n
 induction n generalizing xs with
 | zero=>rw [List.length_eq_zero_iff.1 hn];rfl
 | succ n ih =>
  have hne : xs ≠ []:=fun e=>by rw [e] at hn;cases hn
  obtain ⟨ys,b,rfl⟩ : ∃ ys b,xs = ys ++ [b]:=⟨xs.dropLast,xs.getLast hne,(List.dropLast_concat_getLast hne).symm⟩
  have hb:=h b (by simp)
  rw [List.length_append,List.length_singleton] at hn
  have e : iX (ys ++ [b]) 0 = iX ys 0 * 256 + b:=by rw [qh];rfl
  rw [beL,e,show (iX ys 0 * 256 + b) / 256 = iX ys 0 by omega,show (iX ys 0 * 256 + b) % 256 = b by omega,ih ys (fun c hc=>h c (by simp [hc])) (by omega)]
theorem qQ (xs : List Int) (hb : ∀ b ∈ xs,0 ≤ b ∧ b < 256) : bytesOf (strOfNums xs) = xs:=by
 simp only [bytesOf,strOfNums,List.map_map]
 apply List.ext_getElem (by simp)
 intro i h1 h2
 obtain ⟨g0,g1⟩:=hb _ (List.getElem_mem h2)
 simp [Function.comp_def]
 omega
theorem qj (n : Nat) (v : Int) (s : ByteArray) (hn : n = 1 ∨ n = 2 ∨ n = 4 ∨ n = 8) : dZ (strOfNums (beL n v) ++ s) 0 n = (v % 256 ^ n,s,0):=by
 have hl:=pq n v
 unfold dZ
 have hz : (strOfNums (beL n v)).size = n:=by rw [iO,hl]
 rw [if_pos rfl,if_pos (by omega),if_neg (by rw [ByteArray.size_append];omega)]
 have e1 : (strOfNums (beL n v) ++ s).extract 0 n = strOfNums (beL n v):=ByteArray.extract_append_eq_left hz.symm
 have e2 : (strOfNums (beL n v) ++ s).extract n (strOfNums (beL n v) ++ s).size = s:=ByteArray.extract_append_eq_right hz.symm (by rw [ByteArray.size_append])
 rw [Int.toNat_natCast,e1,e2,qQ _ (xC n v),vN]
 simp
theorem ql (s : ByteArray) (n : Nat) (h : n ≤ s.size) : s.extract 0 n ++ s.extract n s.size = s:=by
 rw [ByteArray.extract_append_extract]
 ·rw [show min 0 n = 0 by omega,show max n s.size = s.size by omega]
  exact ByteArray.extract_zero_size
theorem jr (n : Nat) (hn : n = 1 ∨ n = 2 ∨ n = 4 ∨ n = 8) (s : ByteArray) (e v : Int) (s' : ByteArray) (h : dZ s e n = (v,s',0)) : e = 0 ∧ s = strOfNums (beL n v) ++ s' ∧ 0 ≤ v ∧ v < ((256 ^ n : Nat) : Int):=by
 unfold dZ at h
 by_cases he : e = 0
 ·rw [if_pos he,if_pos (by omega)] at h
  by_cases hl : (s.size : Int) < n
  ·rw [if_pos hl] at h
   injection h with _ h;injection h with _ h;cases h
  ·rw [if_neg hl,Int.toNat_natCast] at h
   injection h with h1 h;injection h with h2 _
   subst h1 h2
   have hsz : (s.extract 0 n).size = n:=by rw [ByteArray.size_extract];omega
   have hbd:=rE (bytesOf (s.extract 0 n)) 0 (by omega) (nL _)
   have hv:=vO (bytesOf (s.extract 0 n)) (nL _)
   rw [jq,hsz] at hbd hv
   refine ⟨he,?_,hbd.1,by have:=hbd.2;omega⟩
   rw [hv,mq,ql s n (by omega)]
 ·rw [if_neg he] at h
  injection h with _ h;injection h with _ h
  exact absurd h he
theorem uJ (x s0 t s : ByteArray) (m : Int) (h2 : dZ x 0 2 = (m,s0,0)) (e1 : wrap64 m = m) (e2 : ¬ m > 4096) (hb : bX.f s0 0 m = some (t,true,s,0)) : bL.f 20 x 0 = some (t,s,0):=by
 unfold bL.f
 rw [lu,h2]
 simp only [Option.bind_some]
 rw [e1,if_neg e2,hb]
 rfl
theorem jv (t s : ByteArray) (ht : t.size ≤ 4096) : bL.f 20 (txt t ++ s) 0 = some (t,s,0):=by
 have e0 : (t.size : Int) % 65536 = t.size:=by omega
 have e1 : wrap64 (t.size : Int) = t.size:=bJ (by omega) (by omega)
 have e2 : ¬ ((t.size : Int) > 4096):=by omega
 have e3 : ¬ ((t.size : Int) > ((t ++ s).size : Int)):=by rw [ByteArray.size_append];omega
 have e4 : (t.size : Int) ≤ ((t ++ s).size : Int):=by rw [ByteArray.size_append];omega
 have e5 : (t ++ s).extract 0 t.size = t:=ByteArray.extract_append_eq_left rfl
 have e6 : (t ++ s).extract t.size (t ++ s).size = s:=ByteArray.extract_append_eq_right rfl (by rw [ByteArray.size_append])
 have hb : bX.f (t ++ s) 0 t.size = some (t,true,s,0):=by
  unfold bX.f
  rw [if_pos rfl,if_neg e3,if_pos (Int.natCast_nonneg _),if_pos e4,Int.toNat_natCast,e5,e6]
 have ht2 : dZ (strOfNums (beL 2 t.size) ++ (t ++ s)) 0 2 = ((t.size : Int),t ++ s,0):=by
  have h:=qj 2 t.size (t ++ s) (by simp)
  rw [show ((256 : Int) ^ 2) = 65536 from rfl,e0] at h
  exact h
 unfold txt
 rw [ByteArray.append_assoc]
 exact uJ _ _ t s t.size ht2 e1 e2 hb
theorem jV (s : ByteArray) (e : Int) (t s' : ByteArray) (h : bL.f 20 s e = some (t,s',0)) : e = 0 ∧ s = txt t ++ s' ∧ t.size ≤ 4096:=by
 rw [bL.f,lu,Option.bind_some] at h
 obtain ⟨v,s1,e1,ht,v0,v1,_,hz⟩:=iw s e 2 (.inr rfl)
 rw [ht] at h
 have wv : wrap64 v = v:=bJ (by omega) (by omega)
 simp only [wv] at h
 by_cases hv : v > 4096
 ·rw [if_pos hv] at h
  have hb : eT.f s1 e1 s 2 = some (s,2):=rfl
  rw [hb,Option.bind_some] at h
  simp only [bX.f] at h
  rw [if_neg (by decide)] at h
  simp at h
 ·rw [if_neg hv] at h
  obtain ⟨⟨t1,ok,s2,e2⟩,hb,h⟩:=Option.bind_eq_some_iff.1 h
  unfold bX.f at hb
  by_cases he : e1 = 0
  ·subst he
   obtain ⟨h1,h2,h3,h4⟩:=jr 2 (by simp) s e v s1 ht
   rw [if_pos rfl] at hb
   by_cases hl : v > (s1.size : Int)
   ·rw [if_pos hl] at hb
    injection hb with hb;injection hb with g1 hb;injection hb with g2 hb;injection hb with g3 g4
    subst g1 g2 g3 g4
    simp at h
   ·rw [if_neg hl,if_pos v0,if_pos (by omega)] at hb
    injection hb with hb;injection hb with g1 hb;injection hb with g2 hb;injection hb with g3 g4
    subst g1 g2 g3 g4
    rw [if_pos rfl] at h
    injection h with h;injection h with q1 h;injection h with q2 q3
    subst q1 q2
    have hsz : (s1.extract 0 v.toNat).size = v.toNat:=by rw [ByteArray.size_extract];omega
    refine ⟨h1,?_,by rw [hsz];omega⟩
    show s = txt (s1.extract 0 v.toNat) ++ s1.extract v.toNat s1.size
    unfold txt
    rw [hsz,show ((v.toNat : Nat) : Int) = v by omega,ByteArray.append_assoc,ql s1 v.toNat (by omega)]
    exact h2
  ·rw [if_neg he] at hb
   injection hb with hb;injection hb with g1 hb;injection hb with g2 hb;injection hb with g3 g4
   subst g1 g2 g3 g4
   simp at h
   exact absurd h.2.2 he
end Go.Proofs.YtpmbdcljphpcnaaDoor.Pure
namespace Go.Proofs.YtpmbdcljphpcnaaDoor.Pure
open Go.RowKit Go.Proofs.YtpmbdcljphpcnaaDoor.GC2 Go.Proofs.YtpmbdcljphpcnaaDoorW.PrintWords Go.Proofs.YtpmbdcljphpcnaaDoorW.PrintLast Go.Proofs.YtpmbdcljphpcnaaDoorW.PrintMore
def gV (n : Nat) (v : Int) : ByteArray:=strOfNums (beL n v)
theorem jw (n : Nat) (v : Int) : (gV n v).size = n:=by rw [gV,iO,pq]
def gL : List Con → ByteArray
 | []=>⟨#[]⟩
 | c :: cs=>txt c.f0 ++ (txt c.f1 ++ gL cs)
def qm (p : Pod) : ByteArray:=txt p.f0 ++ (txt p.f1 ++ (txt p.f2 ++ (gV 1 p.f3 ++ (gV 2 p.f4 ++ (gV 1 p.f5.length ++ gL p.f5)))))
def iY : List Pod → ByteArray
 | []=>⟨#[]⟩
 | p :: ps=>qm p ++ iY ps
def kL (a : Int) (l : List Pod) : ByteArray:=gV 8 a ++ (gV 2 l.length ++ iY l)
def qo (p : Pod) : Prop:=(0 ≤ p.f3 ∧ p.f3 < 256) ∧ 0 ≤ p.f4 ∧ p.f4 < 65536
theorem mI (s : ByteArray) : s ++ (⟨#[]⟩ : ByteArray) = s:=ByteArray.append_empty
theorem mJ (s : ByteArray) : (⟨#[]⟩ : ByteArray) ++ s = s:=ByteArray.empty_append
theorem nM : ∀ (l : List Con),(∀ c ∈ l,l6 c) → (gL l).size ≤ 8196 * l.length
 | [],_=>Nat.zero_le _
 | c :: cs,h=>by
  have ih:=nM cs (fun q hq=>h q (List.mem_cons_of_mem _ hq))
  obtain ⟨h0,h1⟩:=h c List.mem_cons_self
  rw [gL,List.length_cons]
  simp only [ByteArray.size_append,iW]
  omega
theorem nN (k : Nat) (hk : 10 ≤ k) : ∀ (l : List Con) (acc : ByteArray),(∀ c ∈ l,l6 c) → acc.size + 10000 * l.length ≤ 100000000000 → iN k acc l = some (acc ++ gL l)
 | [],acc,_,_=>by rw [iN,gL,mI]
 | c :: cs,acc,h,hs=>by
  obtain ⟨h0,h1⟩:=h c List.mem_cons_self
  rw [List.length_cons] at hs
  obtain ⟨k,rfl⟩ : ∃ j,k = j + 10:=⟨k - 10,by omega⟩
  have e : mg (k + 10) acc [c.f0,c.f1] = some (acc ++ txt c.f0 ++ txt c.f1):=by
   simp only [mg,jU k _ h0,jU k _ h1,Option.bind_some,ByteArray.size_append,iW]
   rw [if_pos (by omega),if_pos (by omega)]
  rw [iN,e,Option.bind_some,nN (k + 10) hk cs _ (fun q hq=>h q (List.mem_cons_of_mem _ hq)) (by simp only [ByteArray.size_append,iW];omega),gL]
  simp only [ByteArray.append_assoc]
theorem nO (k : Nat) (hk : 20 ≤ k) : ∀ (l : List Pod) (acc : ByteArray),(∀ p ∈ l,kI p ∧ qo p) → acc.size + 200000 * l.length ≤ 90000000000 → iD k acc l = some (acc ++ iY l)
 | [],acc,_,_=>by rw [iD,iY,mI]
 | p :: ps,acc,h,hs=>by
  obtain ⟨⟨⟨h0,h1,h2⟩,hl,hc⟩,⟨n0,n1⟩,n2,n3⟩:=h p List.mem_cons_self
  rw [List.length_cons] at hs
  have hz:=nM p.f5 hc
  obtain ⟨k,rfl⟩ : ∃ j,k = j + 10:=⟨k - 10,by omega⟩
  have e : mg (k + 10) acc [p.f0,p.f1,p.f2] = some (acc ++ txt p.f0 ++ txt p.f1 ++ txt p.f2):=by
   simp only [mg,jU k _ h0,jU k _ h1,jU k _ h2,Option.bind_some,ByteArray.size_append,iW]
   rw [if_pos (by omega),if_pos (by omega),if_pos (by omega)]
  have w1 : IntKind.u64.wrap p.f3 = p.f3:=bY n0 (by omega)
  have w2 : IntKind.u64.wrap p.f4 = p.f4:=bY n2 (by omega)
  have w3 : IntKind.u64.wrap (p.f5.length : Int) = p.f5.length:=bY (by omega) (by omega)
  have q1 : bU.f (k + 10) 1 p.f3 = some (gV 1 p.f3):=yA (k + 8) _
  have q2 : bU.f (k + 10) 2 p.f4 = some (gV 2 p.f4):=xB (k + 7) _
  have q3 : bU.f (k + 10) 1 (p.f5.length : Int) = some (gV 1 p.f5.length):=yA (k + 8) _
  rw [iD,e,Option.bind_some,w1,w2,w3,q1,Option.bind_some,q2,Option.bind_some,q3,Option.bind_some,if_pos (by simp only [ByteArray.size_append,iW,jw];omega),
   nN (k + 10) (by omega) p.f5 _ hc (by simp only [ByteArray.size_append,iW,jw];omega),Option.bind_some,
   nO (k + 10) hk ps _ (fun q hq=>h q (List.mem_cons_of_mem _ hq)) (by simp only [ByteArray.size_append,iW,jw];omega),iY,qm]
  simp only [ByteArray.append_assoc]
theorem zI (a : Int) (l : List Pod) (ha : 0 ≤ a) (ha2 : a < 18446744073709551616) (hl : l.length ≤ 9223372036854775806) (hs : uH l) (hn : ∀ p ∈ l,qo p) :
  Ev (fun k=>dz.f k a l) (if fZ l = 0 then (kL a l,0) else (⟨#[]⟩,fZ l)):=by
 obtain ⟨K,hK⟩:=lq l a hl hs
 refine ⟨K + 30,fun k hk=>?_⟩
 show dz.f k a l = _
 have hc:=hK k (by omega)
 rw [dz.f]
 replace hc : aM.f k a l = some (fZ l):=hc
 rw [hc,Option.bind_some]
 by_cases h0 : fZ l = 0
 ·obtain ⟨h1,h2⟩:=nK h0
  rw [if_pos h0,if_pos h0]
  have w1 : IntKind.u64.wrap a = a:=bY ha (by omega)
  have w2 : IntKind.u64.wrap (l.length : Int) = l.length:=bY (by omega) (by omega)
  obtain ⟨k,rfl⟩ : ∃ j,k = j + 10:=⟨k - 10,by omega⟩
  have q1 : bU.f (k + 10) 8 a = some (gV 8 a):=zH (k + 1) _
  have q2 : bU.f (k + 10) 2 (l.length : Int) = some (gV 2 l.length):=xB (k + 7) _
  rw [w2,q1,Option.bind_some,q2,Option.bind_some,if_pos (by simp only [jw];omega),
   nO (k + 10) (by omega) l _ (fun p hp=>⟨h2 p hp,hn p hp⟩) (by simp only [ByteArray.size_append,jw];omega),Option.bind_some,kL,ByteArray.append_assoc]
 ·rw [if_neg h0,if_neg h0]
theorem rF (k : Nat) (hk : 20 ≤ k) (s : ByteArray) (e : Int) : bL.f k s e = bL.f 20 s e:=by
 obtain ⟨t,s',e',h⟩:=iQ s e
 rw [h]
 exact more (g:=fun k=>bL.f k s e) (fun k=>bL.mono s e k) h k hk
theorem take_at (k : Nat) (hk : 20 ≤ k) (s : ByteArray) (e n : Int) : aR.f k s e n = some (dZ s e n):=more (g:=fun k=>aR.f k s e n) (fun k=>aR.mono s e n k) (lu s e n) k hk
theorem vP (k : Nat) (hk : 20 ≤ k) : jo k = jo 20:=by
 funext a
 unfold jo
 simp only [rF k hk]
theorem rG (k : Nat) (hk : 20 ≤ k) : iy k = iy 20:=by
 funext a
 unfold iy
 simp only [rF k hk,take_at k hk,take_at 20 (Nat.le_refl _),vP k hk]
theorem uK (c : Con) (s : ByteArray) (acc : List Con) (hc : l6 c) (hl : acc.length < 4398046511104) : jo 20 (txt c.f0 ++ (txt c.f1 ++ s),0,acc) = some (s,0,acc ++ [c]):=by
 unfold jo
 simp only [jv c.f0 _ hc.1,jv c.f1 _ hc.2,Option.bind_some]
 rw [if_pos hl]
theorem nP (s : ByteArray) : ∀ (cs acc : List Con),(∀ c ∈ cs,l6 c) → acc.length + cs.length ≤ 1000000 → GC2.runN (jo 20) (fun c=>c.2.1) cs.length (gL cs ++ s,0,acc) = some (s,0,acc ++ cs)
 | [],acc,_,_=>by
  rw [List.append_nil,gL,mJ];rfl
 | c :: cs,acc,h,hl=>by
  rw [List.length_cons] at hl
  have ih:=nP s cs (acc ++ [c]) (fun q hq=>h q (List.mem_cons_of_mem _ hq)) (by rw [List.length_append,List.length_singleton];omega)
  have e : gL (c :: cs) ++ s = txt c.f0 ++ (txt c.f1 ++ (gL cs ++ s)):=by rw [gL];simp only [ByteArray.append_assoc]
  rw [e,List.length_cons,GC2.runN,if_pos rfl,uK c _ acc (h c List.mem_cons_self) (by omega),Option.bind_some,ih,List.append_assoc]
  rfl
theorem jW (n : Nat) (v : Int) (s : ByteArray) (hn : n = 1 ∨ n = 2 ∨ n = 4 ∨ n = 8) (h0 : 0 ≤ v) (h1 : v < 256 ^ n) : dZ (gV n v ++ s) 0 n = (v,s,0):=by
 have h:=qj n v s hn
 rw [Int.emod_eq_of_lt h0 h1] at h
 exact h
theorem uL (p : Pod) (s : ByteArray) (ps : List Pod) (hp : kI p) (hn : qo p) (hl : ps.length < 1000000) : iy 20 (qm p ++ s,0,false,ps) = some (s,0,false,ps ++ [p]):=by
 obtain ⟨⟨h0,h1,h2⟩,h16,hc⟩:=hp
 obtain ⟨⟨n0,n1⟩,n2,n3⟩:=hn
 have e : qm p ++ s = txt p.f0 ++ (txt p.f1 ++ (txt p.f2 ++ (gV 1 p.f3 ++ (gV 2 p.f4 ++ (gV 1 p.f5.length ++ (gL p.f5 ++ s)))))):=by rw [qm];simp only [ByteArray.append_assoc]
 have t1:=jW 1 p.f3 (gV 2 p.f4 ++ (gV 1 p.f5.length ++ (gL p.f5 ++ s))) (by simp) n0 (by omega)
 have t2:=jW 2 p.f4 (gV 1 p.f5.length ++ (gL p.f5 ++ s)) (by simp) n2 (by omega)
 have t3:=jW 1 p.f5.length (gL p.f5 ++ s) (by simp) (by omega) (by omega)
 have w : wrap64 (p.f5.length : Int) = p.f5.length:=bJ (by omega) (by omega)
 have m : jS (jo 20) (fun c=>c.2.1) 16 (p.f5.length : Int) (gL p.f5 ++ s,0,[]) = some (true,s,0,p.f5):=by
  rw [jS,w,if_neg (by omega),Int.toNat_natCast,nP s p.f5 [] hc (by rw [List.length_nil];omega),Option.bind_some,List.nil_append]
 have u8 : IntKind.u8.wrap p.f3 = p.f3:=by simp [IntKind.wrap,IntKind.bits,IntKind.signed];omega
 have u16 : IntKind.u16.wrap p.f4 = p.f4:=by simp [IntKind.wrap,IntKind.bits,IntKind.signed];omega
 rw [e]
 unfold iy
 rw [if_neg (show ¬ (false = true) by decide)]
 simp only [jv p.f0 _ h0,jv p.f1 _ h1,jv p.f2 _ h2,Option.bind_some,take_at 20 (Nat.le_refl _)]
 replace t1 : dZ (gV 1 p.f3 ++ (gV 2 p.f4 ++ (gV 1 p.f5.length ++ (gL p.f5 ++ s)))) 0 1 = _:=t1
 replace t2 : dZ (gV 2 p.f4 ++ (gV 1 p.f5.length ++ (gL p.f5 ++ s))) 0 2 = _:=t2
 replace t3 : dZ (gV 1 p.f5.length ++ (gL p.f5 ++ s)) 0 1 = _:=t3
 simp only [t1,t2,t3,m,Option.bind_some,u8,u16]
 rw [if_pos (by omega)]
 rfl
theorem nQ (s : ByteArray) : ∀ (l acc : List Pod),(∀ p ∈ l,kI p ∧ qo p) → acc.length + l.length ≤ 900000 → GC2.runN (iy 20) (fun c=>c.2.1) l.length (iY l ++ s,0,false,acc) = some (s,0,false,acc ++ l)
 | [],acc,_,_=>by
  rw [List.append_nil,iY,mJ];rfl
 | p :: l,acc,h,hl=>by
  rw [List.length_cons] at hl
  have ih:=nQ s l (acc ++ [p]) (fun q hq=>h q (List.mem_cons_of_mem _ hq)) (by rw [List.length_append,List.length_singleton];omega)
  obtain ⟨h1,h2⟩:=h p List.mem_cons_self
  rw [iY,ByteArray.append_assoc,List.length_cons,GC2.runN,if_pos rfl,uL p _ acc h1 h2 (by omega),Option.bind_some,ih,List.append_assoc]
  rfl
theorem oz (b s1 s2 : ByteArray) (x e1 m e2 : Int) (k : Nat) (hk : 20 ≤ k) (h1 : dZ b 0 8 = (x,s1,e1)) (h2 : dZ s1 e1 2 = (m,s2,e2)) (wm : wrap64 m = m) :
  dx.f k b = ((if m > 1024 then some (false,(s2,e2,false,[])) else (GC2.runN (iy 20) (fun c=>c.2.1) m.toNat ((s2,e2,false,[]) : DS)).bind fun b=>some (true,b)) : Option (Bool × DS)).bind fun r =>
   if r.1 = false ∨ r.2.2.2.1 = true then some (0,[],18) else (dB.f r.2.1 r.2.2.1).bind fun e=>if e.1 = 0 then (aM.f k x r.2.2.2.2).bind fun c=>if c = 0 then some (x,r.2.2.2.2,0) else some (0,[],c) else some (0,[],e.1):=by
 rw [dx.f,take_at k hk,Option.bind_some,h1]
 simp only [take_at k hk,Option.bind_some,h2,jS,wm,rG k hk]
theorem vQ (b s2 s3 : ByteArray) (x e2 m e3 : Int) (ps : List Pod) (k : Nat) (h : dx.f k b = ((if m > 1024 then some (false,(s2,e2,false,[])) else (GC2.runN (iy 20) (fun c=>c.2.1) m.toNat ((s2,e2,false,[]) : DS)).bind fun b=>some (true,b)) : Option (Bool × DS)).bind fun r =>
   if r.1 = false ∨ r.2.2.2.1 = true then some (0,[],18) else (dB.f r.2.1 r.2.2.1).bind fun e=>if e.1 = 0 then (aM.f k x r.2.2.2.2).bind fun c=>if c = 0 then some (x,r.2.2.2.2,0) else some (0,[],c) else some (0,[],e.1))
  (hm : ¬ m > 1024) (hr : GC2.runN (iy 20) (fun c=>c.2.1) m.toNat ((s2,e2,false,[]) : DS) = some (s3,e3,false,ps)) (he : dB.f s3 e3 = some (0,s3,e3)) (hc : aM.f k x ps = some 0) : dx.f k b = some (x,ps,0):=by
 rw [h,if_neg hm,hr,Option.bind_some,Option.bind_some,if_neg (by simp)]
 show (dB.f s3 e3).bind _ = _
 rw [he,Option.bind_some,if_pos rfl]
 show (aM.f k x ps).bind _ = _
 rw [hc,Option.bind_some,if_pos rfl]
theorem yT (a : Int) (l : List Pod) (ha : 0 ≤ a) (ha2 : a < 18446744073709551616) (hn : ∀ p ∈ l,qo p) (hc : fZ l = 0) : Ev (fun k=>dx.f k (kL a l)) (a,l,0):=by
 obtain ⟨h1,h2⟩:=nK hc
 obtain ⟨K,hK⟩:=lq l a (by omega) (mH l h2)
 refine ⟨K + 30,fun k hk=>?_⟩
 have hK : aM.f k a l = some (fZ l):=hK k (by omega)
 rw [hc] at hK
 have t1:=jW 8 a (gV 2 l.length ++ iY l) (by simp) ha (by omega)
 have t2:=jW 2 l.length (iY l) (by simp) (by omega) (by omega)
 replace t1 : dZ (kL a l) 0 8 = _:=t1
 replace t2 : dZ (gV 2 l.length ++ iY l) 0 2 = _:=t2
 have w : wrap64 (l.length : Int) = l.length:=bJ (by omega) (by omega)
 have r:=nQ ⟨#[]⟩ l [] (fun p hp=>⟨h2 p hp,hn p hp⟩) (by rw [List.length_nil];omega)
 rw [mI,List.nil_append] at r
 have he : dB.f (⟨#[]⟩ : ByteArray) 0 = some (0,⟨#[]⟩,0):=by
  unfold dB.f
  rw [if_pos rfl,if_pos (by rw [ByteArray.toList_eq])]
 exact vQ _ _ _ _ _ _ _ _ k (oz _ _ _ _ _ _ _ k (by omega) t1 t2 w) (by omega) (by rw [Int.toNat_natCast];exact r) he hK
theorem uM {a b : ByteArray × Int × List Con} (h : jo 20 a = some b) (hb : b.2.1 = 0) : a.2.1 = 0 ∧ ∃ c,l6 c ∧ b.2.2 = a.2.2 ++ [c] ∧ a.1 = txt c.f0 ++ (txt c.f1 ++ b.1):=by
 obtain ⟨⟨t1,s1,e1⟩,h1,h⟩:=Option.bind_eq_some_iff.1 h
 obtain ⟨⟨t2,s2,e2⟩,h2,h⟩:=Option.bind_eq_some_iff.1 h
 split at h
 ·obtain rfl:=Option.some.inj h
  obtain rfl : e2 = 0:=hb
  obtain ⟨g1,g2,g3⟩:=jV _ _ _ _ h2
  obtain rfl : e1 = 0:=g1
  obtain ⟨f1,f2,f3⟩:=jV _ _ _ _ h1
  replace g2 : s1 = txt t2 ++ s2:=g2
  exact ⟨f1,⟨t1,t2⟩,⟨f3,g3⟩,rfl,by rw [f2,g2]⟩
 ·cases h
theorem kM : ∀ (n : Nat) (a b : ByteArray × Int × List Con),GC2.runN (jo 20) (fun c=>c.2.1) n a = some b → b.2.1 = 0 → a.2.1 = 0 ∧ ∃ cs,cs.length = n ∧ (∀ c ∈ cs,l6 c) ∧ b.2.2 = a.2.2 ++ cs ∧ a.1 = gL cs ++ b.1
 | 0,a,b,h,hb=>by
  obtain rfl:=Option.some.inj h
  exact ⟨hb,[],rfl,(fun c hc=>by cases hc),by rw [List.append_nil],by rw [gL,mJ]⟩
 | n + 1,a,b,h,hb=>by
  rw [GC2.runN] at h
  by_cases he : a.2.1 = 0
  ·rw [if_pos he] at h
   obtain ⟨a1,h1,h⟩:=Option.bind_eq_some_iff.1 h
   obtain ⟨g1,cs,g2,g3,g4,g5⟩:=kM n a1 b h hb
   obtain ⟨f1,c,f2,f3,f4⟩:=uM h1 g1
   refine ⟨he,c :: cs,by rw [List.length_cons,g2],fun q hq=>?_,by rw [g4,f3,List.append_assoc];rfl,?_⟩
   ·rcases List.mem_cons.1 hq with rfl | hq
    ·exact f2
    ·exact g3 q hq
   ·rw [f4,g5,gL];simp only [ByteArray.append_assoc]
  ·rw [if_neg he] at h
   exact absurd (kM n a b h hb).1 he
theorem uN {a b : DS} (h : iy 20 a = some b) (hb : b.2.1 = 0) (hf : b.2.2.1 = false) : a.2.1 = 0 ∧ a.2.2.1 = false ∧ ∃ p,kI p ∧ qo p ∧ b.2.2.2 = a.2.2.2 ++ [p] ∧ a.1 = qm p ++ b.1:=by
 rw [iy] at h
 by_cases hfa : a.2.2.1 = true
 ·rw [if_pos hfa] at h
  obtain rfl:=Option.some.inj h
  rw [hfa] at hf
  cases hf
 ·rw [if_neg hfa] at h
  simp only [take_at 20 (Nat.le_refl _)] at h
  obtain ⟨⟨t0,s0,e0⟩,h0,h⟩:=Option.bind_eq_some_iff.1 h
  obtain ⟨⟨t1,s1,e1⟩,h1,h⟩:=Option.bind_eq_some_iff.1 h
  obtain ⟨⟨t2,s2,e2⟩,h2,h⟩:=Option.bind_eq_some_iff.1 h
  obtain ⟨⟨v,s3,e3⟩,h3,h⟩:=Option.bind_eq_some_iff.1 h
  obtain ⟨⟨g,s4,e4⟩,h4,h⟩:=Option.bind_eq_some_iff.1 h
  obtain ⟨⟨m,s5,e5⟩,h5,h⟩:=Option.bind_eq_some_iff.1 h
  obtain ⟨⟨okk,s6,e6,cs⟩,h6,h⟩:=Option.bind_eq_some_iff.1 h
  split at h
  ·obtain rfl:=Option.some.inj h
   obtain rfl : e6 = 0:=hb
   obtain rfl : okk = true:=by
    replace hf : (!okk) = false:=hf
    cases okk
    ·cases hf
    ·rfl
   have hd:=ko h6
   split at hd
   ·exact absurd hd.1 (show ¬ (true = false) by decide)
   ·rename_i hle
    obtain ⟨g1,cs',g2,g3,g4,g5⟩:=kM _ _ _ hd.2 rfl
    replace g1 : e5 = 0:=g1
    subst g1
    replace g4 : cs = [] ++ cs':=g4
    rw [List.nil_append] at g4
    subst g4
    replace h5 : dZ s4 e4 1 = (m,s5,0):=Option.some.inj h5
    replace h4 : dZ s3 e3 2 = (g,s4,e4):=Option.some.inj h4
    replace h3 : dZ s2 e2 1 = (v,s3,e3):=Option.some.inj h3
    obtain ⟨u1,u2,u3,u4⟩:=jr 1 (by simp) _ _ _ _ h5
    subst u1
    obtain ⟨v1,v2,v3,v4⟩:=jr 2 (by simp) _ _ _ _ h4
    subst v1
    obtain ⟨w1,w2,w3,w4⟩:=jr 1 (by simp) _ _ _ _ h3
    subst w1
    obtain ⟨x2,y2,z2⟩:=jV _ _ _ _ h2
    replace x2 : e1 = 0:=x2
    subst x2
    obtain ⟨x1,y1,z1⟩:=jV _ _ _ _ h1
    replace x1 : e0 = 0:=x1
    subst x1
    obtain ⟨x0,y0,z0⟩:=jV _ _ _ _ h0
    have u4' : m < 256:=u4
    have v4' : g < 65536:=v4
    have w4' : v < 256:=w4
    have wm : wrap64 m = m:=bJ (by omega) (by omega)
    simp only [wm] at hle g2
    have hl : (cs.length : Int) = m:=by omega
    have e8 : IntKind.u8.wrap v = v:=by simp [IntKind.wrap,IntKind.bits,IntKind.signed];omega
    have e16 : IntKind.u16.wrap g = g:=by simp [IntKind.wrap,IntKind.bits,IntKind.signed];omega
    have hfa' : a.2.2.1 = false:=by cases hq : a.2.2.1 <;> simp_all
    refine ⟨x0,hfa',⟨t0,t1,t2,v,g,cs⟩,⟨⟨z0,z1,z2⟩,by show cs.length ≤ 16;omega,g3⟩,⟨⟨w3,w4'⟩,v3,v4'⟩,?_,?_⟩
    ·show a.2.2.2 ++ [_] = _
     rw [e8,e16]
    ·show a.1 = qm ⟨t0,t1,t2,v,g,cs⟩ ++ s6
     replace y1 : s0 = txt t1 ++ s1:=y1
     replace y2 : s1 = txt t2 ++ s2:=y2
     replace g5 : s5 = gL cs ++ s6:=g5
     rw [y0,y1,y2,w2,v2,u2,g5,qm]
     show _ = (txt t0 ++ (txt t1 ++ (txt t2 ++ (gV 1 v ++ (gV 2 g ++ (gV 1 (cs.length : Int) ++ gL cs)))))) ++ s6
     rw [hl]
     simp only [ByteArray.append_assoc,gV]
  ·cases h
theorem jF : ∀ (n : Nat) (a b : DS),GC2.runN (iy 20) (fun c=>c.2.1) n a = some b → b.2.1 = 0 → b.2.2.1 = false → a.2.1 = 0 ∧ a.2.2.1 = false ∧ ∃ l,l.length = n ∧ (∀ p ∈ l,kI p ∧ qo p) ∧ b.2.2.2 = a.2.2.2 ++ l ∧ a.1 = iY l ++ b.1
 | 0,a,b,h,hb,hf=>by
  obtain rfl:=Option.some.inj h
  exact ⟨hb,hf,[],rfl,(fun c hc=>by cases hc),by rw [List.append_nil],by rw [iY,mJ]⟩
 | n + 1,a,b,h,hb,hf=>by
  rw [GC2.runN] at h
  by_cases he : a.2.1 = 0
  ·rw [if_pos he] at h
   obtain ⟨a1,h1,h⟩:=Option.bind_eq_some_iff.1 h
   obtain ⟨g1,g0,l,g2,g3,g4,g5⟩:=jF n a1 b h hb hf
   obtain ⟨f1,f0,p,f2,fn,f3,f4⟩:=uN h1 g1 g0
   refine ⟨he,f0,p :: l,by rw [List.length_cons,g2],fun q hq=>?_,by rw [g4,f3,List.append_assoc];rfl,?_⟩
   ·rcases List.mem_cons.1 hq with rfl | hq
    ·exact ⟨f2,fn⟩
    ·exact g3 q hq
   ·rw [f4,g5,iY,ByteArray.append_assoc]
  ·rw [if_neg he] at h
   exact absurd (jF n a b h hb hf).1 he
theorem sH (a : ByteArray × Int × List Con) (hl : a.2.2.length < 4398046511104) : ∃ b,jo 20 a = some b ∧ b.2.2.length = a.2.2.length + 1:=by
 obtain ⟨t1,s1,e1,h1⟩:=iQ a.1 a.2.1
 obtain ⟨t2,s2,e2,h2⟩:=iQ s1 e1
 refine ⟨(s2,e2,a.2.2 ++ [⟨t1,t2⟩]),?_,by simp⟩
 unfold jo
 simp only [h1,h2,Option.bind_some]
 rw [if_pos hl]
theorem jX : ∀ (n : Nat) (a : ByteArray × Int × List Con),a.2.2.length + n ≤ 1000000 → ∃ b,GC2.runN (jo 20) (fun c=>c.2.1) n a = some b
 | 0,a,_=>⟨a,rfl⟩
 | n + 1,a,h=>by
  rw [GC2.runN]
  by_cases he : a.2.1 = 0
  ·obtain ⟨b,h1,h2⟩:=sH a (by omega)
   rw [if_pos he,h1,Option.bind_some]
   exact jX n b (by omega)
  ·rw [if_neg he]
   exact jX n a (by omega)
theorem sI (a : DS) (hl : a.2.2.2.length < 1759218604441) : ∃ b,iy 20 a = some b ∧ b.2.2.2.length ≤ a.2.2.2.length + 1:=by
 unfold iy
 by_cases hf : a.2.2.1 = true
 ·exact ⟨a,by rw [if_pos hf],by omega⟩
 ·rw [if_neg hf]
  obtain ⟨t0,s0,e0,h0⟩:=iQ a.1 a.2.1
  obtain ⟨t1,s1,e1,h1⟩:=iQ s0 e0
  obtain ⟨t2,s2,e2,h2⟩:=iQ s1 e1
  simp only [h0,h1,h2,Option.bind_some,take_at 20 (Nat.le_refl _)]
  obtain ⟨m,s5,e5,h5,m0,m1,_,_⟩:=iw (dZ (dZ s2 e2 1).2.1 (dZ s2 e2 1).2.2 2).2.1 (dZ (dZ s2 e2 1).2.1 (dZ s2 e2 1).2.2 2).2.2 1 (.inl rfl)
  rw [h5]
  have wm : wrap64 m = m:=bJ (by omega) (by omega)
  simp only [jS,wm]
  by_cases hm : m > 16
  ·rw [if_pos hm,Option.bind_some,if_pos hl]
   exact ⟨_,rfl,by simp⟩
  ·rw [if_neg hm]
   obtain ⟨b,hb⟩:=jX m.toNat (s5,e5,[]) (by show 0 + m.toNat ≤ _;omega)
   rw [hb,Option.bind_some,Option.bind_some,if_pos hl]
   exact ⟨_,rfl,by simp⟩
theorem jg : ∀ (n : Nat) (a : DS),a.2.2.2.length + n ≤ 1000000 → ∃ b,GC2.runN (iy 20) (fun c=>c.2.1) n a = some b
 | 0,a,_=>⟨a,rfl⟩
 | n + 1,a,h=>by
  rw [GC2.runN]
  by_cases he : a.2.1 = 0
  ·obtain ⟨b,h1,h2⟩:=sI a (by omega)
   rw [if_pos he,h1,Option.bind_some]
   exact jg n b (by omega)
  ·rw [if_neg he]
   exact jg n a (by omega)
theorem uO {s : ByteArray} (h : s.toList = ([] : List UInt8)) : s = ⟨#[]⟩:=by
 rw [ByteArray.toList_eq] at h
 apply ByteArray.ext
 exact Array.ext' h
theorem yU (b : ByteArray) : ∃ r,Ev (fun k=>dx.f k b) r ∧ (r.2.2 = 0 → b = kL r.1 r.2.1 ∧ 0 ≤ r.1 ∧ r.1 < 18446744073709551616 ∧ (∀ p ∈ r.2.1,kI p ∧ qo p) ∧ fZ r.2.1 = 0) ∧ (r.2.2 ≠ 0 → r.1 = 0 ∧ r.2.1 = []):=by
 obtain ⟨m,s2,e2,hm,m0,m1,_,_⟩:=iw (dZ b 0 8).2.1 (dZ b 0 8).2.2 2 (.inr rfl)
 have wm : wrap64 m = m:=bJ (by omega) (by omega)
 have start : ∀ k,20 ≤ k → dx.f k b = ((if m > 1024 then some (false,(s2,e2,false,[])) else (GC2.runN (iy 20) (fun c=>c.2.1) m.toNat ((s2,e2,false,[]) : DS)).bind fun b=>some (true,b)) : Option (Bool × DS)).bind fun r =>
   if r.1 = false ∨ r.2.2.2.1 = true then some (0,[],18) else (dB.f r.2.1 r.2.2.1).bind fun e=>if e.1 = 0 then (aM.f k (dZ b 0 8).1 r.2.2.2.2).bind fun c=>if c = 0 then some ((dZ b 0 8).1,r.2.2.2.2,0) else some (0,[],c) else some (0,[],e.1):=by
  intro k hk
  rw [dx.f,take_at k hk,Option.bind_some]
  simp only [take_at k hk,Option.bind_some,hm,jS,wm,rG k hk]
 by_cases zL : m > 1024
 ·refine ⟨(0,[],18),⟨20,fun k hk=>?_⟩,fun h=>absurd h (by decide),fun _=>⟨rfl,rfl⟩⟩
  show dx.f k b = _
  rw [start k hk,if_pos zL,Option.bind_some,if_pos (.inl rfl)]
 ·obtain ⟨⟨s3,e3,full,ps⟩,hq⟩:=jg m.toNat (s2,e2,false,[]) (by show 0 + m.toNat ≤ _;omega)
  have go : ∀ k,20 ≤ k → dx.f k b = if full = true then some (0,[],18) else (dB.f s3 e3).bind fun e=>if e.1 = 0 then (aM.f k (dZ b 0 8).1 ps).bind fun c=>if c = 0 then some ((dZ b 0 8).1,ps,0) else some (0,[],c) else some (0,[],e.1):=by
   intro k hk
   rw [start k hk,if_neg zL,hq,Option.bind_some,Option.bind_some]
   simp
  clear start
  cases full with
  | true =>
   refine ⟨(0,[],18),⟨20,fun k hk=>?_⟩,fun h=>absurd h (by decide),fun _=>⟨rfl,rfl⟩⟩
   show dx.f k b = _
   rw [go k hk,if_pos rfl]
  | false =>
   by_cases he : e3 = 0
   ·subst he
    by_cases hs : s3.toList = ([] : List UInt8)
    ·have hE : dB.f s3 0 = some (0,s3,0):=by unfold dB.f;rw [if_pos rfl,if_pos hs]
     obtain ⟨g1,_,l,g2,g3,g4,g5⟩:=jF _ _ _ hq rfl rfl
     replace g1 : e2 = 0:=g1
     subst g1
     replace g4 : ps = [] ++ l:=g4
     rw [List.nil_append] at g4
     subst g4
     replace g5 : s2 = iY ps ++ s3:=g5
     rw [uO hs,mI] at g5
     obtain ⟨u1,u2,u3,u4⟩:=jr 2 (by simp) _ _ _ _ hm
     obtain ⟨v1,v2,v3,v4⟩:=jr 8 (by simp) b 0 (dZ b 0 8).1 (dZ b 0 8).2.1 (Prod.ext rfl (Prod.ext rfl u1))
     have v4' : (dZ b 0 8).1 < 18446744073709551616:=v4
     have hl : (ps.length : Int) = m:=by omega
     obtain ⟨K,hK⟩:=lq ps (dZ b 0 8).1 (by omega) (mH ps (fun p hp=>(g3 p hp).1))
     by_cases hc : fZ ps = 0
     ·refine ⟨((dZ b 0 8).1,ps,0),⟨K + 20,fun k hk=>?_⟩,fun _=>⟨?_,v3,v4',g3,hc⟩,fun h=>absurd rfl h⟩
      ·show dx.f k b = _
       have hK : aM.f k (dZ b 0 8).1 ps = some (fZ ps):=hK k (by omega)
       rw [go k (by omega),if_neg (by decide),hE,Option.bind_some,if_pos rfl,hK,Option.bind_some,if_pos hc]
      ·show b = kL (dZ b 0 8).1 ps
       rw [kL,hl,gV,gV,← g5,← u2]
       exact v2
     ·refine ⟨(0,[],fZ ps),⟨K + 20,fun k hk=>?_⟩,fun h=>absurd h hc,fun _=>⟨rfl,rfl⟩⟩
      show dx.f k b = _
      have hK : aM.f k (dZ b 0 8).1 ps = some (fZ ps):=hK k (by omega)
      rw [go k (by omega),if_neg (by decide),hE,Option.bind_some,if_pos rfl,hK,Option.bind_some,if_neg hc]
    ·have hE : dB.f s3 0 = some (6,s3,0):=by unfold dB.f;rw [if_pos rfl,if_neg hs]
     refine ⟨(0,[],6),⟨20,fun k hk=>?_⟩,fun h=>absurd h (by decide),fun _=>⟨rfl,rfl⟩⟩
     show dx.f k b = _
     rw [go k hk,if_neg (by decide),hE,Option.bind_some,if_neg (show ¬ ((6 : Int) = 0) by decide)]
   ·have hE : dB.f s3 e3 = some (e3,s3,e3):=by unfold dB.f;rw [if_neg he]
    refine ⟨(0,[],e3),⟨20,fun k hk=>?_⟩,fun h=>absurd h he,fun _=>⟨rfl,rfl⟩⟩
    show dx.f k b = _
    rw [go k hk,if_neg (by decide),hE,Option.bind_some,if_neg he]
end Go.Proofs.YtpmbdcljphpcnaaDoor.Pure
