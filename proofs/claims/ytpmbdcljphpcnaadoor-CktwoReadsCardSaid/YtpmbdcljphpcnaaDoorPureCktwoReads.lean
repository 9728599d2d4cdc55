/- The law's own functions: a state as the document has it. Plain lemmas. The Taker of the document beside the program's. Plain lemmas. The document's Check beside cktwo's. Plain lemmas. The document's Decode beside cktwo's. Plain lemmas. CktwoReads, the pure statement: the state of any bytes, or what is wrong with them, is the document's; for every input. No conditions beside those stated. -/
import Derived.Test.YtpmbdcljphpcnaaDoorC2A
import Derived.Test.YtpmbdcljphpcnaaDoorGC2x8
import Derived.Test.YtpmbdcljphpcnaaDoorGC2RSame
import Derived.Test.YtpmbdcljphpcnaaDoorC2B
import Derived.Test.YtpmbdcljphpcnaaDoorGC2x12
import Derived.Test.YtpmbdcljphpcnaaDoorGC2x9
import Derived.Test.YtpmbdcljphpcnaaDoorGC2x11
import Derived.Test.YtpmbdcljphpcnaaDoorGC2x13
import Derived.Test.YtpmbdcljphpcnaaDoorGC2CktwoReadsS
namespace Go.Proofs.YtpmbdcljphpcnaaDoor.Pure
open Go.RowKit Go.Proofs.YtpmbdcljphpcnaaDoor.GC2 Go.Proofs.YtpmbdcljphpcnaaDoorW.PrintWords Go.Proofs.YtpmbdcljphpcnaaDoorW.PrintLast Go.Proofs.YtpmbdcljphpcnaaDoorW.PrintMore
abbrev RCon:=S104
abbrev RPod:=S103
def iZ (c : Con) : RCon:=⟨c.f0,c.f1⟩
def toR (p : Pod) : RPod:=⟨p.f0,p.f1,p.f2,p.f3,p.f4,p.f5.map iZ⟩
theorem wo (l : List Pod) (L i a : Int) (accP : List RPod) (x y z : ByteArray) (u v : Int) (cs : List Con) (hcs : cs.length ≤ 4398046511000) (hl : accP.length < 1759218604441) (r : Int × List RPod)
  (hr : Ev (fun k=>bM.l0 k l L (wrap64 (i + 1)) a (accP ++ [⟨x,y,z,u,v,cs.map iZ⟩])) r) : ∀ (m j : Nat),j + m = cs.length → Ev (fun k=>bM.l1 k l L i cs (cs.length : Int) (j : Int) a accP x y z u v ((cs.take j).map iZ)) r
 | 0,j,h=>Ev.step (fun k=>by rw [bM.l1,if_neg (by omega),if_pos hl,List.take_of_length_le (by omega)]) hr
 | m + 1,j,h=>by
  have ih:=wo l L i a accP x y z u v cs hcs hl r hr m (j + 1) (by omega)
  refine Ev.step (fun k=>?_) ih
  have hj : j < cs.length:=by omega
  have hw : wrap64 ((j : Int) + 1) = ((j + 1 : Nat) : Int):=by rw [bJ (by omega) (by omega)];omega
  rw [bM.l1,if_pos (by omega),if_pos (by omega),if_pos (by omega),if_pos (by rw [List.length_map,List.length_take];omega),hw,rdC cs j hj]
  congr 1
  rw [List.take_succ_eq_append_getElem hj,List.map_append]
  rfl
theorem rH (l : List Pod) (a : Int) (hl : l.length ≤ 1759218604000) (hc : ∀ p ∈ l,p.f5.length ≤ 4398046511000) : ∀ (m i : Nat),i + m = l.length → Ev (fun k=>bM.l0 k l (l.length : Int) (i : Int) a ((l.take i).map toR)) (a,l.map toR)
 | 0,i,h=>Ev.step (fun k=>by rw [bM.l0,if_neg (by omega),List.take_of_length_le (by omega)]) (Ev.now _)
 | m + 1,i,h=>by
  have ih:=rH l a hl hc m (i + 1) (by omega)
  have hi : i < l.length:=by omega
  have hw : wrap64 ((i : Int) + 1) = ((i + 1 : Nat) : Int):=by rw [bJ (by omega) (by omega)];omega
  have hin:=wo l (l.length : Int) (i : Int) a ((l.take i).map toR) l[i].f0 l[i].f1 l[i].f2 l[i].f3 l[i].f4 l[i].f5 (hc _ (List.getElem_mem hi)) (by rw [List.length_map,List.length_take];omega) (a,l.map toR) (by
   rw [hw]
   rw [List.take_succ_eq_append_getElem hi,List.map_append] at ih
   exact ih) l[i].f5.length 0 (by omega)
  refine Ev.step (fun k=>?_) hin
  rw [bM.l0,if_pos (by omega),if_pos (by omega),if_pos (by omega),rdP l i hi]
  rfl
theorem yC (l : List Pod) (a : Int) (hl : l.length ≤ 1759218604000) (hc : ∀ p ∈ l,p.f5.length ≤ 4398046511000) : Ev (fun k=>bM.f k a l) (a,l.map toR):=rH l a hl hc l.length 0 (by omega)
theorem oC : ∀ l : List RCon,nE l l = true
 | []=>rfl
 | c :: cs=>by rw [nE,wY,oC cs];simp
theorem oD : ∀ l : List RPod,nG l l = true
 | []=>rfl
 | p :: ps=>by rw [nG,wZ,oD ps,oC];simp
theorem sJ (a : Int) (l : List RPod) : eD.f a l a l = some true:=by
 rw [eD.f,oD];simp
end Go.Proofs.YtpmbdcljphpcnaaDoor.Pure
namespace Go.Proofs.YtpmbdcljphpcnaaDoor.Pure
open Go.RowKit Go.Proofs.YtpmbdcljphpcnaaDoor.GC2 Go.Proofs.YtpmbdcljphpcnaaDoorW.PrintWords Go.Proofs.YtpmbdcljphpcnaaDoorW.PrintLast Go.Proofs.YtpmbdcljphpcnaaDoorW.PrintMore
theorem uP (x : ByteArray) (hx : x.size ≤ 8) (d : Nat) : ∀ (k i : Nat) (v : Int),i + d = x.size → 0 ≤ v → v < ((256 ^ i : Nat) : Int) →
  bR.l0 (k + d + 1) x v i = some (iX ((bytesOf x).drop i) v):=by
 induction d with
 | zero =>
  intro k i v hi _ _
  rw [bR.l0,if_neg (by omega),List.drop_of_length_le (by rw [jq];omega)]
  rfl
 | succ d ih =>
  intro k i v hi h0 h1
  obtain ⟨hb0,hb1⟩:=wh x i
  have hp : 256 ^ i ≤ 256 ^ 7:=Nat.pow_le_pow_right (by omega) (by omega)
  have hv : v * 256 ≤ 18446744073709551616 - 256:=by omega
  rw [show k + (d + 1) + 1 = (k + d + 1) + 1 from by omega]
  rw [bR.l0,if_pos (by omega),if_pos (by omega),bY (x:=v * 256) (by omega) (by omega),bY (x:=bt x i) hb0 (by omega),bY (by omega) (by omega),bJ (by omega) (by omega)]
  have:=ih k (i + 1) (v * 256 + bt x i) (by omega) (by omega) (by rw [Nat.pow_succ];omega)
  rw [show ((i : Int) + 1) = ((i + 1 : Nat) : Int) from by omega,this,rD x i (by omega)]
  rfl
theorem qp (s : ByteArray) (e n : Int) : aT.f 20 s e n = some ((dZ s e n).2.1,(dZ s e n).2.2,(dZ s e n).1):=by
 unfold aT.f dZ
 by_cases he : e = 0
 ·subst he
  rw [if_pos rfl,if_pos rfl]
  have ok : ∀ q : Bool,q = false → (n = 1 ∨ n = 2 ∨ n = 4 ∨ n = 8) → aT.j0 20 n q s 0 = some ((if (s.size : Int) < n then ((0 : Int),s,(1 : Int)) else (iX (bytesOf (s.extract 0 n.toNat)) 0,s.extract n.toNat s.size,0)).2.1,(if (s.size : Int) < n then ((0 : Int),s,(1 : Int)) else (iX (bytesOf (s.extract 0 n.toNat)) 0,s.extract n.toNat s.size,0)).2.2,(if (s.size : Int) < n then ((0 : Int),s,(1 : Int)) else (iX (bytesOf (s.extract 0 n.toNat)) 0,s.extract n.toNat s.size,0)).1):=by
   intro q hq hn
   subst hq
   rw [aT.j0,if_neg (by decide)]
   by_cases hl : (s.size : Int) < n
   ·rw [if_pos hl,if_pos hl]
   ·have h0 : 0 ≤ n:=by omega
    have h1 : n ≤ (s.size : Int):=by omega
    rw [if_neg hl,if_neg hl,if_pos h0,if_pos h1]
    have hsz : (s.extract 0 n.toNat).size = n.toNat:=by rw [ByteArray.size_extract];omega
    have h:=uP (s.extract 0 n.toNat) (by omega) n.toNat (18 - n.toNat) 0 0 (by omega) (by omega) (by decide)
    rw [show 18 - n.toNat + n.toNat + 1 = 19 from by omega] at h
    have h2 : bR.f 19 (s.extract 0 n.toNat) = some (iX (bytesOf (s.extract 0 n.toNat)) 0):=h
    rw [h2]
    rfl
  by_cases hn : n = 1 ∨ n = 2 ∨ n = 4 ∨ n = 8
  ·rw [if_pos hn]
   by_cases h1 : n = 1
   ·rw [if_pos h1];exact ok _ rfl hn
   rw [if_neg h1]
   by_cases h2 : n = 2
   ·rw [if_pos h2];exact ok _ rfl hn
   rw [if_neg h2]
   by_cases h4 : n = 4
   ·rw [if_pos h4];exact ok _ rfl hn
   rw [if_neg h4]
   exact ok _ (by simp;omega) hn
  ·rw [if_neg hn,if_neg (fun h=>hn (.inl h)),if_neg (fun h=>hn (.inr (.inl h))),if_neg (fun h=>hn (.inr (.inr (.inl h))))]
   rw [aT.j0,if_pos (by simp;exact fun h=>hn (.inr (.inr (.inr h))))]
 ·rw [if_neg he,if_neg he]
theorem sK (s s' : ByteArray) (e v e' : Int) (h : dZ s e 2 = (v,s',e')) (h1 : e' ≠ 0 → s' = s ∧ v = 0) (h0 : 0 ≤ v) (hw : wrap64 v = v) : ∃ t s'' e'',bL.f 20 s e = some (t,s'',e'') ∧ bf.f 20 s e = some (s'',e'',t):=by
 unfold bL.f bf.f
 rw [lu,qp,h]
 simp only [Option.bind_some]
 rw [hw]
 by_cases he : e' = 0
 ·subst he
  rw [if_pos rfl]
  by_cases hv : v > 4096
  ·rw [if_pos hv,if_pos hv]
   refine ⟨⟨#[]⟩,s,2,?_,rfl⟩
   simp [eT.f,bX.f]
  ·rw [if_neg hv,if_neg hv]
   unfold bX.f
   rw [if_pos rfl]
   by_cases hl : (s'.size : Int) < v
   ·have hg : v > (s'.size : Int):=hl
    rw [if_pos hl,if_pos hg]
    exact ⟨_,_,_,rfl,rfl⟩
   ·have hg : ¬ v > (s'.size : Int):=hl
    have hle : v ≤ (s'.size : Int):=by omega
    rw [if_neg hl,if_neg hg]
    simp only [if_pos h0,if_pos hle]
    exact ⟨_,_,_,rfl,rfl⟩
 ·obtain ⟨rfl,rfl⟩:=h1 he
  rw [if_neg he,if_neg (by omega)]
  unfold bX.f
  rw [if_neg he]
  exact ⟨_,_,_,rfl,rfl⟩
theorem sM (s : ByteArray) (e : Int) : ∃ t s'' e'',bL.f 20 s e = some (t,s'',e'') ∧ bf.f 20 s e = some (s'',e'',t):=by
 obtain ⟨v,s',e',h,h0,h1,_,h2⟩:=iw s e 2 (.inr rfl)
 exact sK s s' e v e' h h2 h0 (bJ (by omega) (by omega))
theorem uQ (s : ByteArray) (e : Int) : ∃ r,dB.f s e = some (r,s,e) ∧ fq.f s e = some r:=by
 unfold dB.f fq.f
 by_cases he : e = 0
 ·rw [if_pos he,if_pos he]
  by_cases hs : s.toList = []
  ·rw [if_pos hs,if_pos hs];exact ⟨_,rfl,rfl⟩
  ·rw [if_neg hs,if_neg hs];exact ⟨_,rfl,rfl⟩
 ·rw [if_neg he,if_neg he];exact ⟨_,rfl,rfl⟩
theorem jY {s t s' : ByteArray} {e e' : Int} (h : bL.f 20 s e = some (t,s',e')) : Ev (fun k=>bf.f k s e) (s',e',t):=by
 obtain ⟨t2,s2,e2,h1,h2⟩:=sM s e
 rw [h] at h1
 obtain ⟨rfl,rfl,rfl⟩ : t = t2 ∧ s' = s2 ∧ e' = e2:=by simpa using h1
 exact Ev.of (fun k=>bf.mono s e k) h2
theorem jZ (s : ByteArray) (e n : Int) : Ev (fun k=>aT.f k s e n) ((dZ s e n).2.1,(dZ s e n).2.2,(dZ s e n).1):=Ev.of (fun k=>aT.mono s e n k) (qp s e n)
end Go.Proofs.YtpmbdcljphpcnaaDoor.Pure
namespace Go.Proofs.YtpmbdcljphpcnaaDoor.Pure
open Go.RowKit Go.Proofs.YtpmbdcljphpcnaaDoor.GC2 Go.Proofs.YtpmbdcljphpcnaaDoor.Split Go.Proofs.YtpmbdcljphpcnaaDoorW.PrintWords Go.Proofs.YtpmbdcljphpcnaaDoorW.PrintLast Go.Proofs.YtpmbdcljphpcnaaDoorW.PrintMore
theorem yD (l : List Pod) (i : Nat) (h : i < l.length) : aG (l.map toR) (i : Int) = toR l[i]:=by
 simp [aG,List.getElem?_eq_getElem h]
theorem vR (l : List Con) (i : Nat) (h : i < l.length) : d9 (l.map iZ) (i : Int) = iZ l[i]:=by
 simp [d9,List.getElem?_eq_getElem h]
def Fair (p : Pod) : Prop:=(p.f0.size ≤ 100000000 ∧ p.f1.size ≤ 100000000 ∧ p.f2.size ≤ 100000000) ∧ 0 ≤ p.f4 ∧ ∀ c ∈ p.f5,c.f0.size ≤ 100000000 ∧ c.f1.size ≤ 100000000
def nm (c : Con) : List UInt8:=c.f0.data.toList
section
variable (a x3 : Int) (L : List RPod) (f0 f1 f2 : ByteArray) (f3 f4 : Int) (cs : List Con) (h16 : cs.length ≤ 16) (hc : ∀ c ∈ cs,c.f0.size ≤ 100000000 ∧ c.f1.size ≤ 100000000)
include h16
theorem yE (kk : Nat) (hk : kk < cs.length) (T : Int) (hT : Ev (fun k=>(bT.f k cs[kk].f1).bind fun t=>if t = true then aI.l1 k x3 ((kk + 1 : Nat) : Int) a L f0 f1 f2 f3 f4 (cs.map iZ) else some 6) T) : ∀ (m x : Nat),x + m = kk →
  Ev (fun k=>aI.l2 k x3 (kk : Int) (x : Int) a L f0 f1 f2 f3 f4 (cs.map iZ)) (if nm cs[kk] ∈ ((cs.drop x).take m).map nm then 8 else T)
 | 0,x,h=>by
  have hw : wrap64 ((kk : Int) + 1) = ((kk + 1 : Nat) : Int):=by rw [bJ (by omega) (by omega)];omega
  rw [List.take_zero,List.map_nil,if_neg (by simp)]
  refine Ev.step (fun k=>?_) hT
  rw [aI.l2,if_neg (by omega),if_pos (by omega),if_pos (by rw [List.length_map];omega),vR cs kk hk,hw]
  rfl
 | m + 1,x,h=>by
  have hx : x < cs.length:=by omega
  have hw : wrap64 ((x : Int) + 1) = ((x + 1 : Nat) : Int):=by rw [bJ (by omega) (by omega)];omega
  have ih:=yE kk hk T hT m (x + 1) (by omega)
  rw [List.drop_eq_getElem_cons hx,List.take_succ_cons,List.map_cons]
  have st : ∀ k,aI.l2 (k + 1) x3 (kk : Int) (x : Int) a L f0 f1 f2 f3 f4 (cs.map iZ) = if nm cs[x] = nm cs[kk] then some 8 else aI.l2 k x3 (kk : Int) ((x + 1 : Nat) : Int) a L f0 f1 f2 f3 f4 (cs.map iZ):=by
   intro k
   rw [aI.l2,if_pos (by omega),if_pos (by omega),if_pos (by rw [List.length_map];omega),if_pos (by omega),if_pos (by rw [List.length_map];omega),vR cs kk hk,vR cs x hx,hw]
   show (if cs[x].f0.toList = cs[kk].f0.toList then _ else _) = _
   rw [ByteArray.toList_eq,ByteArray.toList_eq]
   rfl
  by_cases he : nm cs[x] = nm cs[kk]
  ·rw [if_pos (by rw [he];exact List.mem_cons_self)]
   exact Ev.step (fun k=>by rw [st,if_pos he]) (Ev.now _)
  ·have hm : (nm cs[kk] ∈ nm cs[x] :: ((cs.drop (x + 1)).take m).map nm) ↔ nm cs[kk] ∈ ((cs.drop (x + 1)).take m).map nm:=by
    rw [List.mem_cons]
    exact ⟨fun q=>q.elim (fun e=>absurd e.symm he) id,.inr⟩
   simp only [hm]
   exact Ev.step (fun k=>by rw [st,if_neg he]) ih
include hc
theorem wu (R : Int) (hR : Ev (fun k=>aI.l0 k (wrap64 (x3 + 1)) a L) R) : ∀ (m kk : Nat),kk + m = cs.length →
  Ev (fun k=>aI.l1 k x3 (kk : Int) a L f0 f1 f2 f3 f4 (cs.map iZ)) (if jf ((cs.take kk).map nm).reverse (cs.drop kk) = 0 then R else jf ((cs.take kk).map nm).reverse (cs.drop kk))
 | 0,kk,h=>by
  rw [List.drop_eq_nil_of_le (by omega),jf,if_pos rfl]
  exact Ev.step (fun k=>by rw [aI.l1,if_neg (by rw [List.length_map];omega)]) hR
 | m + 1,kk,h=>by
  have hk : kk < cs.length:=by omega
  have ih:=wu R hR m (kk + 1) (by omega)
  have ht : ((cs.take (kk + 1)).map nm).reverse = nm cs[kk] :: ((cs.take kk).map nm).reverse:=by
   rw [List.take_succ_eq_append_getElem hk,List.map_append,List.reverse_append];rfl
  rw [ht] at ih
  obtain ⟨g0,g1⟩:=hc cs[kk] (List.getElem_mem hk)
  have hl : Ev (fun k=>bG.f k cs[kk].f0) (jD cs[kk].f0):=⟨cs[kk].f0.size + 101,fun k hk=>jE k _ (by omega) (by omega)⟩
  have hi : Ev (fun k=>bT.f k cs[kk].f1) (mo cs[kk].f1):=⟨cs[kk].f1.size + 101,fun k hk=>o9 k _ (by omega) (by omega)⟩
  have st : ∀ k,aI.l1 (k + 1) x3 (kk : Int) a L f0 f1 f2 f3 f4 (cs.map iZ) = (bG.f k cs[kk].f0).bind fun t=>if t = true then aI.l2 k x3 (kk : Int) ((0 : Nat) : Int) a L f0 f1 f2 f3 f4 (cs.map iZ) else some 13:=by
   intro k
   rw [aI.l1,if_pos (by rw [List.length_map];omega),if_pos (by omega),vR cs kk hk]
   rfl
  have hT : Ev (fun k=>(bT.f k cs[kk].f1).bind fun t=>if t = true then aI.l1 k x3 ((kk + 1 : Nat) : Int) a L f0 f1 f2 f3 f4 (cs.map iZ) else some 6)
    (if mo cs[kk].f1 = true then (if jf (nm cs[kk] :: ((cs.take kk).map nm).reverse) (cs.drop (kk + 1)) = 0 then R else jf (nm cs[kk] :: ((cs.take kk).map nm).reverse) (cs.drop (kk + 1))) else 6):=by
   refine Ev.bind hi ?_
   cases mo cs[kk].f1 with
   | true=>exact Ev.congr (fun k=>by rw [if_pos rfl]) (by rw [if_pos rfl];exact ih)
   | false=>exact Ev.congr (fun k=>by rw [if_neg (show ¬ (false = true) by decide)]) (by rw [if_neg (show ¬ (false = true) by decide)];exact Ev.now _)
  have hd:=yE a x3 L f0 f1 f2 f3 f4 cs h16 kk hk _ hT kk 0 (by omega)
  rw [List.drop_zero] at hd
  refine Ev.step st (Ev.bind hl ?_)
  rw [List.drop_eq_getElem_cons hk]
  have hV : jf ((cs.take kk).map nm).reverse (cs[kk] :: cs.drop (kk + 1)) = if jD cs[kk].f0 = true then (if nm cs[kk] ∈ (cs.take kk).map nm then (8 : Int) else if mo cs[kk].f1 = true then jf (nm cs[kk] :: ((cs.take kk).map nm).reverse) (cs.drop (kk + 1)) else 6) else 13:=by
   rw [jf]
   simp only [List.mem_reverse]
   rfl
  rw [hV]
  cases jD cs[kk].f0 with
  | false =>
   rw [if_neg (show ¬ (false = true) by decide),if_neg (show ¬ ((13 : Int) = 0) by decide)]
   exact Ev.congr (f:=fun _=>some 13) (fun k=>by rw [if_neg (show ¬ (false = true) by decide)]) (Ev.now _)
  | true =>
   rw [if_pos rfl]
   refine Ev.congr (f:=fun k=>aI.l2 k x3 (kk : Int) ((0 : Nat) : Int) a L f0 f1 f2 f3 f4 (cs.map iZ)) (fun k=>by rw [if_pos rfl]) ?_
   by_cases hm : nm cs[kk] ∈ (cs.take kk).map nm
   ·rw [if_pos hm] at hd ⊢
    rw [if_neg (show ¬ ((8 : Int) = 0) by decide)]
    exact hd
   ·rw [if_neg hm] at hd ⊢
    cases hb : mo cs[kk].f1 with
    | false =>
     rw [hb,if_neg (show ¬ (false = true) by decide)] at hd
     rw [if_neg (show ¬ (false = true) by decide),if_neg (show ¬ ((6 : Int) = 0) by decide)]
     exact hd
    | true =>
     rw [hb,if_pos rfl] at hd
     rw [if_pos rfl]
     exact hd
end
theorem yF (l : List Pod) (a : Int) (hl : l.length ≤ 9223372036854775806) : ∀ (m i : Nat),i + m = l.length → (∀ p ∈ l.drop i,Fair p) → Ev (fun k=>aI.l0 k (i : Int) a (l.map toR)) (nJ (lM l i) (l.drop i))
 | 0,i,h,_=>by
  rw [List.drop_eq_nil_of_le (by omega),nJ]
  exact Ev.step (fun k=>by rw [aI.l0,if_neg (by rw [List.length_map];omega)]) (Ev.now _)
 | m + 1,i,h,hs=>by
  have hi : i < l.length:=by omega
  have ih:=yF l a hl m (i + 1) (by omega) (fun p hp=>hs p (by rw [List.drop_eq_getElem_cons hi];exact List.mem_cons_of_mem _ hp))
  rw [lN l i hi] at ih
  have e1:=yD l i hi
  obtain ⟨⟨s0,s1,s2⟩,n4,hc⟩:=hs l[i] (by rw [List.drop_eq_getElem_cons hi];exact List.mem_cons_self)
  rw [List.drop_eq_getElem_cons hi]
  generalize l[i] = p at hc e1 ih s0 s1 s2 n4 ⊢
  have hw : wrap64 ((i : Int) + 1) = ((i + 1 : Nat) : Int):=by rw [bJ (by omega) (by omega)];omega
  rw [← hw] at ih
  obtain ⟨R,hR⟩ : ∃ R,(if fu p.f5 = 0 then nJ (some p.f0) (l.drop (i + 1)) else fu p.f5) = R:=⟨_,rfl⟩
  have hC : Ev (fun k=>if ((p.f5.map iZ).length : Int) = 0 then some 16 else if ((p.f5.map iZ).length : Int) > 16 then some 18 else aI.l1 k (i : Int) ((0 : Nat) : Int) a (l.map toR) p.f0 p.f1 p.f2 p.f3 p.f4 (p.f5.map iZ)) R:=by
   rw [← hR,fu]
   by_cases h0 : p.f5.length = 0
   ·rw [if_pos h0]
    exact Ev.congr (f:=fun _=>some 16) (fun k=>by rw [if_pos (by rw [List.length_map];omega)]) (Ev.now _)
   ·rw [if_neg h0]
    by_cases h16 : p.f5.length > 16
    ·rw [if_pos h16]
     exact Ev.congr (f:=fun _=>some 18) (fun k=>by rw [if_neg (by rw [List.length_map];omega),if_pos (by rw [List.length_map];omega)]) (Ev.now _)
    ·rw [if_neg h16]
     have:=wu a (i : Int) (l.map toR) p.f0 p.f1 p.f2 p.f3 p.f4 p.f5 (by omega) hc _ ih p.f5.length 0 (by omega)
     rw [List.drop_zero] at this
     exact Ev.congr (fun k=>by rw [if_neg (by rw [List.length_map];omega),if_neg (by rw [List.length_map];omega)]) this
  obtain ⟨K,hK⟩:=hC
  refine ⟨K + 2 * p.f0.size + 2 * p.f1.size + p.f2.size + 400,fun k hk=>?_⟩
  obtain ⟨k,rfl⟩ : ∃ j,k = j + 4:=⟨k - 4,by omega⟩
  have hK:=hK k (by omega)
  have hf:=pX (k + 3) p.f0 (by omega) (by omega)
  have hn:=qd (k + 3) p.f1 (by omega) (by omega)
  have hb:=jE (k + 3) p.f2 (by omega) (by omega)
  have j3 : ∀ x : Bool,aI.j3 (k + 1) (i : Int) x a (l.map toR) p.f0 p.f1 p.f2 p.f3 p.f4 (p.f5.map iZ) = some (if x = true then 7 else R):=by
   intro x
   rw [aI.j3]
   cases x with
   | true=>rfl
   | false=>rw [if_neg (show ¬ (false = true) by decide),if_neg (show ¬ (false = true) by decide)];exact hK
  have j2 : ∀ x : Bool,aI.j2 (k + 2) (i : Int) x a (l.map toR) p.f0 p.f1 p.f2 p.f3 p.f4 (p.f5.map iZ) = some (if x = true then 6 else if p.f3 > 2 ∨ p.f4 < 1 ∨ p.f4 > 3600 then 7 else R):=by
   intro x
   rw [aI.j2]
   cases x with
   | true=>rfl
   | false =>
    rw [if_neg (show ¬ (false = true) by decide),if_neg (show ¬ (false = true) by decide)]
    by_cases c1 : p.f3 > 2
    ·rw [if_pos c1,j3,if_pos rfl,if_pos (.inl c1)]
    ·rw [if_neg c1]
     by_cases c2 : p.f4 = 0
     ·rw [if_pos c2,j3,if_pos rfl,if_pos (.inr (.inl (by omega)))]
     ·rw [if_neg c2,j3]
      by_cases c3 : p.f4 > 3600
      ·rw [decide_eq_true c3,if_pos rfl,if_pos (.inr (.inr c3))]
      ·rw [decide_eq_false c3,if_neg (by decide),if_neg (by omega)]
  have j1 : ∀ x : Bool,aI.j1 (k + 3) (i : Int) x a (l.map toR) p.f0 p.f1 p.f2 p.f3 p.f4 (p.f5.map iZ) = some (if x = true then 13 else if xA (lM l i) p.f0 = true then 6 else if p.f3 > 2 ∨ p.f4 < 1 ∨ p.f4 > 3600 then 7 else R):=by
   intro x
   rw [aI.j1]
   cases x with
   | true=>rfl
   | false =>
    rw [if_neg (show ¬ (false = true) by decide),if_neg (show ¬ (false = true) by decide)]
    cases i with
    | zero=>rw [if_neg (show ¬ (((0 : Nat) : Int) > 0) by decide),j2];rfl
    | succ i =>
     have hpw : wrap64 (((i + 1 : Nat) : Int) - 1) = (i : Int):=by rw [bJ (by omega) (by omega)];omega
     rw [if_pos (by omega),hpw,if_pos (by omega),if_pos (by rw [List.length_map];omega),j2,yD l i (by omega),lN l i (by omega)]
     rfl
  show aI.l0 (k + 3 + 1) (i : Int) a (l.map toR) = _
  rw [aI.l0,if_pos (by rw [List.length_map];omega),if_pos (by omega),e1]
  show (aV.f (k + 3) p.f0).bind _ = _
  rw [hf,Option.bind_some,nJ,hR]
  cases nH p.f0 with
  | false =>
   rw [if_neg (show ¬ (false = true) by decide)]
   exact j1 true
  | true =>
   rw [if_pos rfl]
   show (bD.f (k + 3) p.f1).bind _ = _
   rw [hn,Option.bind_some]
   cases lZ p.f1 with
   | false =>
    rw [if_neg (show ¬ (false = true) by decide)]
    exact j1 true
   | true =>
    rw [if_pos rfl]
    show (bG.f (k + 3) p.f2).bind _ = _
    rw [hb,Option.bind_some]
    refine (j1 _).trans ?_
    cases jD p.f2 <;> rfl
theorem sN (l : List Pod) (a : Int) (hl : l.length ≤ 9223372036854775806) (hs : ∀ p ∈ l,Fair p) : Ev (fun k=>aI.f k a (l.map toR)) (fZ l):=by
 rw [fZ]
 by_cases h : l.length > 1024
 ·rw [if_pos h]
  exact Ev.congr (f:=fun _=>some 18) (fun k=>by rw [aI.f,if_pos (by rw [List.length_map];omega)]) (Ev.now _)
 ·rw [if_neg h]
  exact Ev.congr (fun k=>by rw [aI.f,if_neg (by rw [List.length_map];omega)];rfl) (yF l a hl l.length 0 (by omega) hs)
theorem vS {p : Pod} (h : kI p) (hn : 0 ≤ p.f4) : Fair p:=by
 obtain ⟨⟨h0,h1,h2⟩,_,h3⟩:=h
 refine ⟨⟨by omega,by omega,by omega⟩,hn,fun c hc=>?_⟩
 have:=h3 c hc
 exact ⟨by have:=this.1;omega,by have:=this.2;omega⟩
end Go.Proofs.YtpmbdcljphpcnaaDoor.Pure
namespace Go.Proofs.YtpmbdcljphpcnaaDoor.Pure
open Go.RowKit Go.Proofs.YtpmbdcljphpcnaaDoor.GC2 Go.Proofs.YtpmbdcljphpcnaaDoorW.PrintWords Go.Proofs.YtpmbdcljphpcnaaDoorW.PrintLast Go.Proofs.YtpmbdcljphpcnaaDoorW.PrintMore
theorem nR {α : Type} (f : α → Option α) (err : α → Int) : ∀ (n : Nat) (a q : α),err a ≠ 0 → GC2.runN f err n a = some q → q = a
 | 0,a,q,_,h=>(Option.some.inj h).symm
 | n + 1,a,q,he,h=>by
  rw [GC2.runN,if_neg he] at h
  exact nR f err n a q he h
theorem j4 : ∀ (n : Nat) (a q : DS),a.2.2.1 = true → GC2.runN (iy 20) (fun c=>c.2.1) n a = some q → q = a
 | 0,a,q,_,h=>(Option.some.inj h).symm
 | n + 1,a,q,hf,h=>by
  rw [GC2.runN] at h
  have hd : iy 20 a = some a:=by unfold iy;rw [if_pos hf]
  split at h
  ·rw [hd,Option.bind_some] at h
   exact j4 n a q hf h
  ·exact j4 n a q hf h
theorem rJ (x6 x8 m a : Int) (ps : List RPod) (f0 f1 f2 : ByteArray) (f3 f4 : Int) (wm : wrap64 m = m) (m16 : m ≤ 16) (hps : ps.length < 1759218604441) :
  ∀ (n j : Nat) (s : ByteArray) (e : Int) (acc : List Con) (q : ByteArray × Int × List Con),(j : Int) + n = m → acc.length ≤ j → GC2.runN (jo 20) (fun c=>c.2.1) n (s,e,acc) = some q →
  ∀ r,Ev (fun k=>aN.l0 k x6 (wrap64 (x8 + 1)) q.1 q.2.1 a (ps ++ [⟨f0,f1,f2,f3,f4,q.2.2.map iZ⟩])) r → Ev (fun k=>aN.l1 k x6 x8 m (j : Int) s e a ps f0 f1 f2 f3 f4 (acc.map iZ)) r
 | 0,j,s,e,acc,q,h,hl,hq,r,hr=>by
  obtain rfl:=Option.some.inj hq
  refine Ev.step (fun k=>by rw [aN.l1,wm,if_neg (by omega)]) ?_
  exact Ev.step (fun k=>by rw [aN.j3,if_neg (show ¬ (false = true) by decide),if_pos hps]) hr
 | n + 1,j,s,e,acc,q,h,hl,hq,r,hr=>by
  have hw : wrap64 ((j : Int) + 1) = ((j + 1 : Nat) : Int):=by rw [bJ (by omega) (by omega)];omega
  refine Ev.step (fun k=>by rw [aN.l1,wm,if_pos (by omega)]) ?_
  by_cases he : e = 0
  ·rw [GC2.runN,if_pos he] at hq
   obtain ⟨b,hb,hq⟩:=Option.bind_eq_some_iff.1 hq
   obtain ⟨⟨t1,s1,e1⟩,h1,hb⟩:=Option.bind_eq_some_iff.1 hb
   obtain ⟨⟨t2,s2,e2⟩,h2,hb⟩:=Option.bind_eq_some_iff.1 hb
   split at hb
   ·obtain rfl:=Option.some.inj hb
    have ih:=rJ x6 x8 m a ps f0 f1 f2 f3 f4 wm m16 hps n (j + 1) s2 e2 (acc ++ [⟨t1,t2⟩]) q (by omega) (by rw [List.length_append,List.length_singleton];omega) hq r hr
    rw [beq_iff_eq.2 he]
    refine Ev.step (fun k=>by rw [aN.j3,if_pos rfl]) (Ev.bind (jY h1) (Ev.bind (jY h2) ?_))
    refine Ev.congr (fun k=>by rw [if_pos (by rw [List.length_map];omega),hw]) ?_
    rw [List.map_append] at ih
    exact ih
   ·cases hb
  ·have:=nR (jo 20) (fun c=>c.2.1) (n + 1) (s,e,acc) q he hq
   subst this
   rw [beq_eq_false_iff_ne.2 he]
   exact Ev.step (fun k=>by rw [aN.j3,if_neg (show ¬ (false = true) by decide),if_pos hps]) hr
def qw (k : Nat) (a : Int) (s : ByteArray) (e : Int) (ps : List RPod) : Option (Int × List RPod × Int) :=
 (fq.f s e).bind fun t=>if t = 0 then (aI.f k a ps).bind fun c=>if c = 0 then some (a,ps,0) else some (0,[],c) else some (0,[],t)
theorem pz (x6 a : Int) (w6 : wrap64 x6 = x6) (h6 : x6 ≤ 1024) : ∀ (n i : Nat) (s : ByteArray) (e : Int) (ps : List Pod) (q : DS),(i : Int) + n = x6 → ps.length ≤ i → GC2.runN (iy 20) (fun c=>c.2.1) n ((s,e,false,ps) : DS) = some q →
  ∀ r,(q.2.2.1 = false → Ev (fun k=>qw k a q.1 q.2.1 (q.2.2.2.map toR)) r) → Ev (fun k=>aN.l0 k x6 (i : Int) s e a (ps.map toR)) (if q.2.2.1 = true then (0,[],18) else r)
 | 0,i,s,e,ps,q,h,hl,hq,r,hr=>by
  obtain rfl:=Option.some.inj hq
  rw [if_neg (show ¬ (false = true) by decide)]
  refine Ev.step (fun k=>by rw [aN.l0,w6,if_neg (by omega)]) ?_
  exact Ev.step (fun k=>by rw [aN.j1,if_neg (show ¬ (false = true) by decide)];rfl) (hr rfl)
 | n + 1,i,s,e,ps,q,h,hl,hq,r,hr=>by
  have hw : wrap64 ((i : Int) + 1) = ((i + 1 : Nat) : Int):=by rw [bJ (by omega) (by omega)];omega
  refine Ev.step (fun k=>by rw [aN.l0,w6,if_pos (by omega)]) ?_
  by_cases he : e = 0
  ·rw [GC2.runN,if_pos he] at hq
   obtain ⟨b,hb,hq⟩:=Option.bind_eq_some_iff.1 hq
   rw [iy,if_neg (show ¬ (false = true) by decide)] at hb
   simp only [take_at 20 (Nat.le_refl _)] at hb
   obtain ⟨⟨t0,s0,e0⟩,h0,hb⟩:=Option.bind_eq_some_iff.1 hb
   obtain ⟨⟨t1,s1,e1⟩,h1,hb⟩:=Option.bind_eq_some_iff.1 hb
   obtain ⟨⟨t2,s2,e2⟩,h2,hb⟩:=Option.bind_eq_some_iff.1 hb
   obtain ⟨⟨v,s3,e3⟩,h3,hb⟩:=Option.bind_eq_some_iff.1 hb
   obtain ⟨⟨g,s4,e4⟩,h4,hb⟩:=Option.bind_eq_some_iff.1 hb
   obtain ⟨⟨m,s5,e5⟩,h5,hb⟩:=Option.bind_eq_some_iff.1 hb
   obtain ⟨⟨okk,s6,e6,cs⟩,h7,hb⟩:=Option.bind_eq_some_iff.1 hb
   split at hb
   ·obtain rfl:=Option.some.inj hb
    replace h3 : dZ s2 e2 1 = (v,s3,e3):=Option.some.inj h3
    replace h4 : dZ s3 e3 2 = (g,s4,e4):=Option.some.inj h4
    replace h5 : dZ s4 e4 1 = (m,s5,e5):=Option.some.inj h5
    have q3:=jZ s2 e2 1
    have q4:=jZ s3 e3 2
    have q5:=jZ s4 e4 1
    rw [h3] at q3
    rw [h4] at q4
    rw [h5] at q5
    obtain ⟨m',_,_,hm',m0,m1,_,_⟩:=iw s4 e4 1 (.inl rfl)
    rw [h5] at hm'
    injection hm' with hm' _
    subst hm'
    have wm : wrap64 m = m:=bJ (by omega) (by omega)
    have e8 : IntKind.u8.wrap v = v % 256:=by simp [IntKind.wrap,IntKind.bits,IntKind.signed]
    rw [beq_iff_eq.2 he]
    refine Ev.step (fun k=>by rw [aN.j1,if_pos rfl]) (Ev.bind (jY h0) (Ev.bind (jY h1) (Ev.bind (jY h2) (Ev.bind q3 (Ev.bind q4 (Ev.bind q5 ?_))))))
    have hd:=ko h7
    by_cases zL : m > 16
    ·rw [wm,if_pos zL] at hd
     obtain ⟨d1,d2⟩:=hd
     replace d1 : okk = false:=d1
     subst d1
     have:=j4 n _ q rfl hq
     subst this
     exact Ev.congr (fun k=>by rw [if_pos zL];rfl) (Ev.now _)
    ·rw [wm,if_neg zL] at hd
     obtain ⟨d1,d2⟩:=hd
     replace d1 : okk = true:=d1
     subst d1
     replace d2 : GC2.runN (jo 20) (fun c=>c.2.1) m.toNat (s5,e5,[]) = some (s6,e6,cs):=d2
     replace hq : GC2.runN (iy 20) (fun c=>c.2.1) n ((s6,e6,false,ps ++ [⟨t0,t1,t2,IntKind.u8.wrap v,IntKind.u16.wrap g,cs⟩]) : DS) = some q:=hq
     have ih:=pz x6 a w6 h6 n (i + 1) s6 e6 (ps ++ [⟨t0,t1,t2,IntKind.u8.wrap v,IntKind.u16.wrap g,cs⟩]) q (by omega) (by rw [List.length_append,List.length_singleton];omega) hq r hr
     rw [List.map_append,← hw,e8] at ih
     exact Ev.congr (fun k=>by rw [if_neg zL];rfl) (rJ x6 (i : Int) m a (ps.map toR) t0 t1 t2 (v % 256) (IntKind.u16.wrap g) wm (by omega) (by rw [List.length_map];omega) m.toNat 0 s5 e5 [] (s6,e6,cs) (by omega) (Nat.le_refl _) d2 _ ih)
   ·cases hb
  ·have:=nR (iy 20) (fun c=>c.2.1) (n + 1) ((s,e,false,ps) : DS) q he hq
   subst this
   rw [beq_eq_false_iff_ne.2 he,if_neg (show ¬ (false = true) by decide)]
   exact Ev.step (fun k=>by rw [aN.j1,if_neg (show ¬ (false = true) by decide)];rfl) (hr rfl)
theorem uR (b : ByteArray) : ∃ r,Ev (fun k=>dx.f k b) r ∧ Ev (fun k=>aN.f k b) (r.1,r.2.1.map toR,r.2.2) ∧ r.2.1.length ≤ 1024 ∧ ∀ p ∈ r.2.1,p.f5.length ≤ 16:=by
 obtain ⟨m,s2,e2,hm,m0,m1,_,_⟩:=iw (dZ b 0 8).2.1 (dZ b 0 8).2.2 2 (.inr rfl)
 have wm : wrap64 m = m:=bJ (by omega) (by omega)
 have start : ∀ k,20 ≤ k → _:=fun k hk=>oz b _ s2 _ _ m e2 k hk (Prod.ext rfl (Prod.ext rfl rfl) : dZ b 0 8 = ((dZ b 0 8).1,(dZ b 0 8).2.1,(dZ b 0 8).2.2)) hm wm
 have q1:=jZ b 0 8
 have q2:=jZ (dZ b 0 8).2.1 (dZ b 0 8).2.2 2
 rw [hm] at q2
 generalize (dZ b 0 8).1 = x at start q1
 have refS : ∀ r,Ev (fun k=>if m > 1024 then some (0,[],18) else aN.l0 k m 0 s2 e2 x []) r → Ev (fun k=>aN.f k b) r:=fun r hr=>Ev.congr (fun k=>by rw [aN.f]) (Ev.bind q1 (Ev.bind q2 hr))
 by_cases zM : m > 1024
 ·refine ⟨(0,[],18),⟨20,fun k hk=>?_⟩,refS _ (Ev.congr (f:=fun _=>some (0,[],18)) (fun k=>by rw [if_pos zM]) (Ev.now _)),by simp,by simp⟩
  show dx.f k b = _
  rw [start k hk,if_pos zM,Option.bind_some,if_pos (.inl rfl)]
 ·obtain ⟨⟨s3,e3,full,ps⟩,hq⟩:=jg m.toNat (s2,e2,false,[]) (by show 0 + m.toNat ≤ _;omega)
  have go : ∀ k,20 ≤ k → dx.f k b = if full = true then some (0,[],18) else (dB.f s3 e3).bind fun e=>if e.1 = 0 then (aM.f k x ps).bind fun c=>if c = 0 then some (x,ps,0) else some (0,[],c) else some (0,[],e.1):=by
   intro k hk
   rw [start k hk,if_neg zM,hq,Option.bind_some,Option.bind_some]
   simp
  clear start
  cases full with
  | true =>
   refine ⟨(0,[],18),⟨20,fun k hk=>?_⟩,?_,by simp,by simp⟩
   ·show dx.f k b = _
    rw [go k hk,if_pos rfl]
   ·exact refS _ (Ev.congr (fun k=>by rw [if_neg zM];rfl) (pz m x wm (by omega) m.toNat 0 s2 e2 [] (s3,e3,true,ps) (by omega) (Nat.le_refl _) hq (0,[],18) (fun h=>absurd h (show ¬ (true = false) by decide))))
  | false =>
   have hpr : ∀ r,Ev (fun k=>qw k x s3 e3 (ps.map toR)) r → Ev (fun k=>aN.f k b) r:=fun r hr=>refS _ (Ev.congr (fun k=>by rw [if_neg zM];rfl) (pz m x wm (by omega) m.toNat 0 s2 e2 [] (s3,e3,false,ps) (by omega) (Nat.le_refl _) hq r (fun _=>hr)))
   obtain ⟨t,g1,g2⟩:=uQ s3 e3
   by_cases ht : t = 0
   ·subst ht
    have he : e3 = 0:=by
     unfold dB.f at g1
     by_cases he : e3 = 0
     ·exact he
     ·rw [if_neg he] at g1
      simp at g1
      exact absurd g1 he
    obtain ⟨_,_,l,l1,l2,l3,_⟩:=jF _ _ _ hq he rfl
    replace l3 : ps = [] ++ l:=l3
    rw [List.nil_append] at l3
    subst l3
    obtain ⟨K,hK⟩:=lq ps x (by omega) (mH ps (fun p hp=>(l2 p hp).1))
    have hR:=sN ps x (by omega) (fun p hp=>vS (l2 p hp).1 (l2 p hp).2.2.1)
    by_cases hc : fZ ps = 0
    ·refine ⟨(x,ps,0),⟨K + 20,fun k hk=>?_⟩,hpr _ ?_,by show ps.length ≤ _;omega,fun p hp=>(l2 p hp).1.2.1⟩
     ·show dx.f k b = _
      have hK : aM.f k x ps = some (fZ ps):=hK k (by omega)
      rw [go k (by omega),if_neg (by decide),g1,Option.bind_some,if_pos rfl,hK,Option.bind_some,if_pos hc]
     ·refine Ev.congr (fun k=>by rw [qw,g2,Option.bind_some,if_pos rfl]) (Ev.bind hR (Ev.congr (f:=fun _=>some (x,ps.map toR,0)) (fun k=>by rw [if_pos hc]) (Ev.now _)))
    ·refine ⟨(0,[],fZ ps),⟨K + 20,fun k hk=>?_⟩,hpr _ ?_,by simp,by simp⟩
     ·show dx.f k b = _
      have hK : aM.f k x ps = some (fZ ps):=hK k (by omega)
      rw [go k (by omega),if_neg (by decide),g1,Option.bind_some,if_pos rfl,hK,Option.bind_some,if_neg hc]
     ·refine Ev.congr (fun k=>by rw [qw,g2,Option.bind_some,if_pos rfl]) (Ev.bind hR (Ev.congr (f:=fun _=>some (0,[],fZ ps)) (fun k=>by rw [if_neg hc]) (Ev.now _)))
   ·refine ⟨(0,[],t),⟨20,fun k hk=>?_⟩,hpr _ ?_,by simp,by simp⟩
    ·show dx.f k b = _
     rw [go k hk,if_neg (by decide),g1,Option.bind_some,if_neg ht]
    ·exact Ev.congr (f:=fun _=>some (0,[],t)) (fun k=>by rw [qw,g2,Option.bind_some,if_neg ht]) (Ev.now _)
end Go.Proofs.YtpmbdcljphpcnaaDoor.Pure
namespace Go.Proofs.YtpmbdcljphpcnaaDoor.Pure
open Go.RowKit Go.Proofs.YtpmbdcljphpcnaaDoor.GC2 Go.Proofs.YtpmbdcljphpcnaaDoorW.PrintWords Go.Proofs.YtpmbdcljphpcnaaDoorW.PrintLast Go.Proofs.YtpmbdcljphpcnaaDoorW.PrintMore
theorem rM : Ev (fun k=>dD.f k) true:=by
 have h : dD.f 100 = some true:=by decide +kernel
 exact Ev.of (fun k=>dD.mono k) h
theorem CktwoReads : bP.Pure:=by
 intro b hb
 refine Ev.rounds (g:=fun k=>bP.f k b) ?_
 by_cases h : (b.size : Int) > 20000
 ·exact Ev.congr (fun k=>by rw [bP.f,if_pos h]) (Ev.bind rM (Ev.now _))
 ·obtain ⟨⟨a,l,c⟩,h1,h2,h3,h4⟩:=uR b
  refine Ev.congr (fun k=>by rw [bP.f,if_neg h]) (Ev.bind h1 (Ev.bind h2 (Ev.bind rM ?_)))
  refine Ev.congr (fun k=>by rw [if_pos rfl,if_pos rfl]) (Ev.bind (yC l a (by replace h3 : l.length ≤ 1024:=h3;omega) (fun p hp=>by have:=h4 p hp;omega)) ?_)
  exact Ev.congr (fun k=>by rw [sJ,Option.bind_some]) (Ev.now _)
end Go.Proofs.YtpmbdcljphpcnaaDoor.Pure
