/- The bytes of numbers and texts. Plain lemmas. cktwo's Encode. Plain lemmas. No conditions beside those stated. -/
import Derived.Test.YtpmbdcljphpcnaaDoorGC2x1
import Derived.Test.YtpmbdcljphpcnaaDoorC2A
import Derived.Test.YtpmbdcljphpcnaaDoorGC2Text
namespace Go.Proofs.YtpmbdcljphpcnaaDoor.Pure
open Go.RowKit Go.Proofs.YtpmbdcljphpcnaaDoor.GC2 Go.Proofs.YtpmbdcljphpcnaaDoorW.PrintWords Go.Proofs.YtpmbdcljphpcnaaDoorW.PrintLast Go.Proofs.YtpmbdcljphpcnaaDoorW.PrintMore
def beL : Nat → Int → List Int
 | 0,_=>[]
 | n + 1,v=>beL n (v / 256) ++ [v % 256]
theorem xH {a b c d a' b' c' d' : Int} (ha : a = a') (hb : b = b') (hc : c = c') (hd : d = d') : strOfNums [a,b,c,d] = strOfNums [a',b',c',d']:=by subst ha hb hc hd;rfl
theorem vW {a b a' b' : Int} (ha : a = a') (hb : b = b') : strOfNums [a,b] = strOfNums [a',b']:=by subst ha hb;rfl
theorem vX (k : Nat) (v : Int) : bT.f (k + 2) 1 v = some (strOfNums (beL 1 v)):=by
 simp [bT.f,gu.f,bT.l0,wrap64,shr,beL]
theorem uY (k : Nat) (v : Int) : bT.f (k + 3) 2 v = some (strOfNums (beL 2 v)):=by
 simp [bT.f,gu.f,bT.l0,wrap64,shr,beL,List.replicate]
 exact vW (by show v / 2 ^ 8 % 256 = _;omega) rfl
theorem vY {a b c d e f g h a' b' c' d' e' f' g' h' : Int} (ha : a = a') (hb : b = b') (hc : c = c') (hd : d = d') (he : e = e') (hf : f = f') (hg : g = g') (hh : h = h') : strOfNums [a,b,c,d,e,f,g,h] = strOfNums [a',b',c',d',e',f',g',h']:=by subst ha hb hc hd he hf hg hh;rfl
theorem xD (k : Nat) (v : Int) : bT.f (k + 9) 8 v = some (strOfNums (beL 8 v)):=by
 simp [bT.f,gu.f,bT.l0,wrap64,shr,beL,List.replicate]
 exact vY (by show v / 2 ^ 56 % 256 = _;omega) (by show v / 2 ^ 48 % 256 = _;omega) (by show v / 2 ^ 40 % 256 = _;omega) (by show v / 2 ^ 32 % 256 = _;omega) (by show v / 2 ^ 24 % 256 = _;omega) (by show v / 2 ^ 16 % 256 = _;omega) (by show v / 2 ^ 8 % 256 = _;omega) rfl
theorem pR (n : Nat) : ∀ v : Int,(beL n v).length = n:=by
 induction n with
 | zero=>intro v;rfl
 | succ n ih=>intro v;simp [beL,ih]
theorem gy (xs : List Int) : (strOfNums xs).size = xs.length:=by
 show (strOfNums xs).data.size = _
 simp [strOfNums]
def txt (t : ByteArray) : ByteArray:=strOfNums (beL 2 t.size) ++ t
theorem jd (k : Nat) (s : ByteArray) (hs : s.size ≤ 4096) : d9.f (k + 10) s = some (txt s,0):=by
 unfold d9.f
 rw [if_neg (by omega),dh (by omega) (by omega),show k + 10 = (k + 7) + 3 from rfl,uY]
 simp only [Option.bind_some]
 rw [if_pos (by rw [gy];simp [beL];omega)]
 rfl
theorem vC (k : Nat) (s : ByteArray) (hs : 4096 < s.size) : d9.f k s = some (⟨#[]⟩,2):=by
 unfold d9.f
 rw [if_pos (by omega)]
theorem fO (t : ByteArray) : (txt t).size = 2 + t.size:=by rw [txt,ByteArray.size_append,gy,pR]
end Go.Proofs.YtpmbdcljphpcnaaDoor.Pure
namespace Go.Proofs.YtpmbdcljphpcnaaDoor.Pure
open Go.RowKit Go.Proofs.YtpmbdcljphpcnaaDoor.GC2 Go.Proofs.YtpmbdcljphpcnaaDoorW.PrintWords Go.Proofs.YtpmbdcljphpcnaaDoorW.PrintLast Go.Proofs.YtpmbdcljphpcnaaDoorW.PrintMore
def gq (n : Nat) (v : Int) : ByteArray:=strOfNums (beL n v)
theorem fQ (n : Nat) (v : Int) : (gq n v).size = n:=by rw [gq,gy,pR]
def je : List Con → ByteArray
 | []=>⟨#[]⟩
 | c :: cs=>txt c.f0 ++ (txt c.f1 ++ je cs)
def tH (p : Pod) : ByteArray:=txt p.f0 ++ (txt p.f1 ++ (txt p.f2 ++ (gq 1 p.f3 ++ (gq 2 p.f4 ++ (gq 1 p.f5.length ++ je p.f5)))))
def jR : List Pod → ByteArray
 | []=>⟨#[]⟩
 | p :: ps=>tH p ++ jR ps
def oW (a : Int) (l : List Pod) : ByteArray:=gq 8 a ++ (gq 2 l.length ++ jR l)
def rX (p : Pod) : Prop:=(0 ≤ p.f3 ∧ p.f3 < 256) ∧ 0 ≤ p.f4 ∧ p.f4 < 65536
theorem kT (s : ByteArray) : s ++ (⟨#[]⟩ : ByteArray) = s:=ByteArray.append_empty
theorem wM (s : ByteArray) : (⟨#[]⟩ : ByteArray) ++ s = s:=ByteArray.empty_append
theorem jG : ∀ (l : List Con),(∀ c ∈ l,nX c) → (je l).size ≤ 8196 * l.length
 | [],_=>Nat.zero_le _
 | c :: cs,h=>by
  have ih:=jG cs (fun q hq=>h q (List.mem_cons_of_mem _ hq))
  obtain ⟨h0,h1⟩:=h c List.mem_cons_self
  rw [je,List.length_cons]
  simp only [ByteArray.size_append,fO]
  omega
theorem lW (k : Nat) (hk : 10 ≤ k) : ∀ (l : List Con) (acc : ByteArray),(∀ c ∈ l,nX c) → acc.size + 10000 * l.length ≤ 100000000000 → iA k acc l = some (acc ++ je l)
 | [],acc,_,_=>by rw [iA,je,kT]
 | c :: cs,acc,h,hs=>by
  obtain ⟨h0,h1⟩:=h c List.mem_cons_self
  rw [List.length_cons] at hs
  obtain ⟨k,rfl⟩ : ∃ j,k = j + 10:=⟨k - 10,by omega⟩
  have e : kN (k + 10) acc [c.f0,c.f1] = some (acc ++ txt c.f0 ++ txt c.f1):=by
   simp only [kN,jd k _ h0,jd k _ h1,Option.bind_some,ByteArray.size_append,fO]
   rw [if_pos (by omega),if_pos (by omega)]
  rw [iA,e,Option.bind_some,lW (k + 10) hk cs _ (fun q hq=>h q (List.mem_cons_of_mem _ hq)) (by simp only [ByteArray.size_append,fO];omega),je]
  simp only [ByteArray.append_assoc]
theorem lX (k : Nat) (hk : 20 ≤ k) : ∀ (l : List Pod) (acc : ByteArray),(∀ p ∈ l,lU p ∧ rX p) → acc.size + 200000 * l.length ≤ 90000000000 → gQ k acc l = some (acc ++ jR l)
 | [],acc,_,_=>by rw [gQ,jR,kT]
 | p :: ps,acc,h,hs=>by
  obtain ⟨⟨⟨h0,h1,h2⟩,hl,hc⟩,⟨n0,n1⟩,n2,n3⟩:=h p List.mem_cons_self
  rw [List.length_cons] at hs
  have hz:=jG p.f5 hc
  obtain ⟨k,rfl⟩ : ∃ j,k = j + 10:=⟨k - 10,by omega⟩
  have e : kN (k + 10) acc [p.f0,p.f1,p.f2] = some (acc ++ txt p.f0 ++ txt p.f1 ++ txt p.f2):=by
   simp only [kN,jd k _ h0,jd k _ h1,jd k _ h2,Option.bind_some,ByteArray.size_append,fO]
   rw [if_pos (by omega),if_pos (by omega),if_pos (by omega)]
  have w1 : IntKind.u64.wrap p.f3 = p.f3:=dh n0 (by omega)
  have w2 : IntKind.u64.wrap p.f4 = p.f4:=dh n2 (by omega)
  have w3 : IntKind.u64.wrap (p.f5.length : Int) = p.f5.length:=dh (by omega) (by omega)
  have q1 : bT.f (k + 10) 1 p.f3 = some (gq 1 p.f3):=vX (k + 8) _
  have q2 : bT.f (k + 10) 2 p.f4 = some (gq 2 p.f4):=uY (k + 7) _
  have q3 : bT.f (k + 10) 1 (p.f5.length : Int) = some (gq 1 p.f5.length):=vX (k + 8) _
  rw [gQ,e,Option.bind_some,w1,w2,w3,q1,Option.bind_some,q2,Option.bind_some,q3,Option.bind_some,if_pos (by simp only [ByteArray.size_append,fO,fQ];omega),
   lW (k + 10) (by omega) p.f5 _ hc (by simp only [ByteArray.size_append,fO,fQ];omega),Option.bind_some,
   lX (k + 10) hk ps _ (fun q hq=>h q (List.mem_cons_of_mem _ hq)) (by simp only [ByteArray.size_append,fO,fQ];omega),jR,tH]
  simp only [ByteArray.append_assoc]
theorem uZ (a : Int) (l : List Pod) (ha : 0 ≤ a) (ha2 : a < 18446744073709551616) (hl : l.length ≤ 9223372036854775806) (hs : nV l) (hn : ∀ p ∈ l,rX p) :
  Ev (fun k=>bS.f k a l) (if iF l = 0 then (oW a l,0) else (⟨#[]⟩,iF l)):=by
 obtain ⟨K,hK⟩:=nW l a hl hs
 refine ⟨K + 30,fun k hk=>?_⟩
 show bS.f k a l = _
 have hc:=hK k (by omega)
 rw [bS.f]
 replace hc : aM.f k a l = some (iF l):=hc
 rw [hc,Option.bind_some]
 by_cases h0 : iF l = 0
 ·obtain ⟨h1,h2⟩:=lV h0
  rw [if_pos h0,if_pos h0]
  have w1 : IntKind.u64.wrap a = a:=dh ha (by omega)
  have w2 : IntKind.u64.wrap (l.length : Int) = l.length:=dh (by omega) (by omega)
  obtain ⟨k,rfl⟩ : ∃ j,k = j + 10:=⟨k - 10,by omega⟩
  have q1 : bT.f (k + 10) 8 a = some (gq 8 a):=xD (k + 1) _
  have q2 : bT.f (k + 10) 2 (l.length : Int) = some (gq 2 l.length):=uY (k + 7) _
  rw [w2,q1,Option.bind_some,q2,Option.bind_some,if_pos (by simp only [fQ];omega),
   lX (k + 10) (by omega) l _ (fun p hp=>⟨h2 p hp,hn p hp⟩) (by simp only [ByteArray.size_append,fQ];omega),Option.bind_some,oW,ByteArray.append_assoc]
 ·rw [if_neg h0,if_neg h0]
end Go.Proofs.YtpmbdcljphpcnaaDoor.Pure
