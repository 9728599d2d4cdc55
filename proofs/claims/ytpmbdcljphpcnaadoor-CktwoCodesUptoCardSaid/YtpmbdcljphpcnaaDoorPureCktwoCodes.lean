/- The law's own functions: a state as the document has it. Plain lemmas. The document's Check beside cktwo's. Plain lemmas. Is a state small. Plain lemmas. The bytes of cktwo by the document. Plain lemmas. CktwoCodes, the pure statement: the bytes of any state, or what is wrong with it, and whether two are alike, are the document's; for every input of bulk at most 1048576. No conditions beside those stated. -/
import Derived.Test.YtpmbdcljphpcnaaDoorC2A
import Derived.Test.YtpmbdcljphpcnaaDoorGC2x8
import Derived.Test.YtpmbdcljphpcnaaDoorGC2RSame
import Derived.Test.YtpmbdcljphpcnaaDoorGC2x11
import Derived.Test.YtpmbdcljphpcnaaDoorGC2x1
import Derived.Test.YtpmbdcljphpcnaaDoorGC2CktwoCodesS
import Derived.Test.YtpmbdcljphpcnaaDoorC2B
import Derived.Test.YtpmbdcljphpcnaaDoorGC2Same
import Derived.Lib.Hide
import Derived.Test.YtpmbdcljphpcnaaDoorGC2x13
import Derived.Test.YtpmbdcljphpcnaaDoorGC2x12
namespace Go.Proofs.YtpmbdcljphpcnaaDoor.Pure
open Go.RowKit Go.Proofs.YtpmbdcljphpcnaaDoor.GC2 Go.Proofs.YtpmbdcljphpcnaaDoorW.PrintWords Go.Proofs.YtpmbdcljphpcnaaDoorW.PrintLast Go.Proofs.YtpmbdcljphpcnaaDoorW.PrintMore
abbrev RCon:=S104
abbrev RPod:=S103
def gW (c : Con) : RCon:=⟨c.f0,c.f1⟩
def toR (p : Pod) : RPod:=⟨p.f0,p.f1,p.f2,p.f3,p.f4,p.f5.map gW⟩
theorem tY (l : List Pod) (L i a : Int) (accP : List RPod) (x y z : ByteArray) (u v : Int) (cs : List Con) (hcs : cs.length ≤ 4398046511000) (hl : accP.length < 1759218604441) (r : Int × List RPod)
  (hr : Ev (fun k=>bF.l0 k l L (wrap64 (i + 1)) a (accP ++ [⟨x,y,z,u,v,cs.map gW⟩])) r) : ∀ (m j : Nat),j + m = cs.length → Ev (fun k=>bF.l1 k l L i cs (cs.length : Int) (j : Int) a accP x y z u v ((cs.take j).map gW)) r
 | 0,j,h=>Ev.step (fun k=>by rw [bF.l1,if_neg (by omega),if_pos hl,List.take_of_length_le (by omega)]) hr
 | m + 1,j,h=>by
  have ih:=tY l L i a accP x y z u v cs hcs hl r hr m (j + 1) (by omega)
  refine Ev.step (fun k=>?_) ih
  have hj : j < cs.length:=by omega
  have hw : wrap64 ((j : Int) + 1) = ((j + 1 : Nat) : Int):=by rw [bY (by omega) (by omega)];omega
  rw [bF.l1,if_pos (by omega),if_pos (by omega),if_pos (by omega),if_pos (by rw [List.length_map,List.length_take];omega),hw,rdC cs j hj]
  congr 1
  rw [List.take_succ_eq_append_getElem hj,List.map_append]
  rfl
theorem pU (l : List Pod) (a : Int) (hl : l.length ≤ 1759218604000) (hc : ∀ p ∈ l,p.f5.length ≤ 4398046511000) : ∀ (m i : Nat),i + m = l.length → Ev (fun k=>bF.l0 k l (l.length : Int) (i : Int) a ((l.take i).map toR)) (a,l.map toR)
 | 0,i,h=>Ev.step (fun k=>by rw [bF.l0,if_neg (by omega),List.take_of_length_le (by omega)]) (Ev.now _)
 | m + 1,i,h=>by
  have ih:=pU l a hl hc m (i + 1) (by omega)
  have hi : i < l.length:=by omega
  have hw : wrap64 ((i : Int) + 1) = ((i + 1 : Nat) : Int):=by rw [bY (by omega) (by omega)];omega
  have hin:=tY l (l.length : Int) (i : Int) a ((l.take i).map toR) l[i].f0 l[i].f1 l[i].f2 l[i].f3 l[i].f4 l[i].f5 (hc _ (List.getElem_mem hi)) (by rw [List.length_map,List.length_take];omega) (a,l.map toR) (by
   rw [hw]
   rw [List.take_succ_eq_append_getElem hi,List.map_append] at ih
   exact ih) l[i].f5.length 0 (by omega)
  refine Ev.step (fun k=>?_) hin
  rw [bF.l0,if_pos (by omega),if_pos (by omega),if_pos (by omega),rdP l i hi]
  rfl
theorem tZ (l : List Pod) (a : Int) (hl : l.length ≤ 1759218604000) (hc : ∀ p ∈ l,p.f5.length ≤ 4398046511000) : Ev (fun k=>bF.f k a l) (a,l.map toR):=pU l a hl hc l.length 0 (by omega)
theorem mK : ∀ l : List RCon,jX l l = true
 | []=>rfl
 | c :: cs=>by rw [jX,uQ,mK cs];simp
theorem mM : ∀ l : List RPod,jY l l = true
 | []=>rfl
 | p :: ps=>by rw [jY,sZ,mM ps,mK];simp
theorem vD (a : Int) (l : List RPod) : dQ.f a l a l = some true:=by
 rw [dQ.f,mM];simp
end Go.Proofs.YtpmbdcljphpcnaaDoor.Pure
namespace Go.Proofs.YtpmbdcljphpcnaaDoor.Pure
open Go.RowKit Go.Proofs.YtpmbdcljphpcnaaDoor.GC2 Go.Proofs.YtpmbdcljphpcnaaDoor.Split Go.Proofs.YtpmbdcljphpcnaaDoorW.PrintWords Go.Proofs.YtpmbdcljphpcnaaDoorW.PrintLast Go.Proofs.YtpmbdcljphpcnaaDoorW.PrintMore
theorem u6 (l : List Pod) (i : Nat) (h : i < l.length) : ah (l.map toR) (i : Int) = toR l[i]:=by
 simp [ah,List.getElem?_eq_getElem h]
theorem rY (l : List Con) (i : Nat) (h : i < l.length) : dD (l.map gW) (i : Int) = gW l[i]:=by
 simp [dD,List.getElem?_eq_getElem h]
def Fair (p : Pod) : Prop:=(p.f0.size ≤ 100000000 ∧ p.f1.size ≤ 100000000 ∧ p.f2.size ≤ 100000000) ∧ 0 ≤ p.f4 ∧ ∀ c ∈ p.f5,c.f0.size ≤ 100000000 ∧ c.f1.size ≤ 100000000
def nm (c : Con) : List UInt8:=c.f0.data.toList
section
variable (a x3 : Int) (L : List RPod) (f0 f1 f2 : ByteArray) (f3 f4 : Int) (cs : List Con) (h16 : cs.length ≤ 16) (hc : ∀ c ∈ cs,c.f0.size ≤ 100000000 ∧ c.f1.size ≤ 100000000)
include h16
theorem vZ (kk : Nat) (hk : kk < cs.length) (T : Int) (hT : Ev (fun k=>(bR.f k cs[kk].f1).bind fun t=>if t = true then aJ.l1 k x3 ((kk + 1 : Nat) : Int) a L f0 f1 f2 f3 f4 (cs.map gW) else some 6) T) : ∀ (m x : Nat),x + m = kk →
  Ev (fun k=>aJ.l2 k x3 (kk : Int) (x : Int) a L f0 f1 f2 f3 f4 (cs.map gW)) (if nm cs[kk] ∈ ((cs.drop x).take m).map nm then 8 else T)
 | 0,x,h=>by
  have hw : wrap64 ((kk : Int) + 1) = ((kk + 1 : Nat) : Int):=by rw [bY (by omega) (by omega)];omega
  rw [List.take_zero,List.map_nil,if_neg (by simp)]
  refine Ev.step (fun k=>?_) hT
  rw [aJ.l2,if_neg (by omega),if_pos (by omega),if_pos (by rw [List.length_map];omega),rY cs kk hk,hw]
  rfl
 | m + 1,x,h=>by
  have hx : x < cs.length:=by omega
  have hw : wrap64 ((x : Int) + 1) = ((x + 1 : Nat) : Int):=by rw [bY (by omega) (by omega)];omega
  have ih:=vZ kk hk T hT m (x + 1) (by omega)
  rw [List.drop_eq_getElem_cons hx,List.take_succ_cons,List.map_cons]
  have st : ∀ k,aJ.l2 (k + 1) x3 (kk : Int) (x : Int) a L f0 f1 f2 f3 f4 (cs.map gW) = if nm cs[x] = nm cs[kk] then some 8 else aJ.l2 k x3 (kk : Int) ((x + 1 : Nat) : Int) a L f0 f1 f2 f3 f4 (cs.map gW):=by
   intro k
   rw [aJ.l2,if_pos (by omega),if_pos (by omega),if_pos (by rw [List.length_map];omega),if_pos (by omega),if_pos (by rw [List.length_map];omega),rY cs kk hk,rY cs x hx,hw]
   show (if cs[x].f0.toList = cs[kk].f0.toList then _ else _) = _
   rw [ByteArray.toList_eq,ByteArray.toList_eq]
   rfl
  by_cases he : nm cs[x] = nm cs[kk]
  ·rw [if_pos (by rw [he];exact List.mem_cons_self)]
   exact Ev.step (fun k=>by rw [st,if_pos he]) (Ev.now _)
  ·have hm : (nm cs[kk] ∈ nm cs[x] :: ((cs.drop (x + 1)).take m).map nm) ↔ nm cs[kk] ∈ ((cs.drop (x + 1)).take m).map nm:=by
    rw [List.mem_cons]
    exact ⟨fun q=>q.elim (fun e=>absurd e.symm he) id,.inr⟩
   simp only [hm]
   exact Ev.step (fun k=>by rw [st,if_neg he]) ih
include hc
theorem uf (R : Int) (hR : Ev (fun k=>aJ.l0 k (wrap64 (x3 + 1)) a L) R) : ∀ (m kk : Nat),kk + m = cs.length →
  Ev (fun k=>aJ.l1 k x3 (kk : Int) a L f0 f1 f2 f3 f4 (cs.map gW)) (if iK ((cs.take kk).map nm).reverse (cs.drop kk) = 0 then R else iK ((cs.take kk).map nm).reverse (cs.drop kk))
 | 0,kk,h=>by
  rw [List.drop_eq_nil_of_le (by omega),iK,if_pos rfl]
  exact Ev.step (fun k=>by rw [aJ.l1,if_neg (by rw [List.length_map];omega)]) hR
 | m + 1,kk,h=>by
  have hk : kk < cs.length:=by omega
  have ih:=uf R hR m (kk + 1) (by omega)
  have ht : ((cs.take (kk + 1)).map nm).reverse = nm cs[kk] :: ((cs.take kk).map nm).reverse:=by
   rw [List.take_succ_eq_append_getElem hk,List.map_append,List.reverse_append];rfl
  rw [ht] at ih
  obtain ⟨g0,g1⟩:=hc cs[kk] (List.getElem_mem hk)
  have hl : Ev (fun k=>bC.f k cs[kk].f0) (iR cs[kk].f0):=⟨cs[kk].f0.size + 101,fun k hk=>iT k _ (by omega) (by omega)⟩
  have hi : Ev (fun k=>bR.f k cs[kk].f1) (kQ cs[kk].f1):=⟨cs[kk].f1.size + 101,fun k hk=>ny k _ (by omega) (by omega)⟩
  have st : ∀ k,aJ.l1 (k + 1) x3 (kk : Int) a L f0 f1 f2 f3 f4 (cs.map gW) = (bC.f k cs[kk].f0).bind fun t=>if t = true then aJ.l2 k x3 (kk : Int) ((0 : Nat) : Int) a L f0 f1 f2 f3 f4 (cs.map gW) else some 13:=by
   intro k
   rw [aJ.l1,if_pos (by rw [List.length_map];omega),if_pos (by omega),rY cs kk hk]
   rfl
  have hT : Ev (fun k=>(bR.f k cs[kk].f1).bind fun t=>if t = true then aJ.l1 k x3 ((kk + 1 : Nat) : Int) a L f0 f1 f2 f3 f4 (cs.map gW) else some 6)
    (if kQ cs[kk].f1 = true then (if iK (nm cs[kk] :: ((cs.take kk).map nm).reverse) (cs.drop (kk + 1)) = 0 then R else iK (nm cs[kk] :: ((cs.take kk).map nm).reverse) (cs.drop (kk + 1))) else 6):=by
   refine Ev.bind hi ?_
   cases kQ cs[kk].f1 with
   | true=>exact Ev.congr (fun k=>by rw [if_pos rfl]) (by rw [if_pos rfl];exact ih)
   | false=>exact Ev.congr (fun k=>by rw [if_neg (show ¬ (false = true) by decide)]) (by rw [if_neg (show ¬ (false = true) by decide)];exact Ev.now _)
  have hd:=vZ a x3 L f0 f1 f2 f3 f4 cs h16 kk hk _ hT kk 0 (by omega)
  rw [List.drop_zero] at hd
  refine Ev.step st (Ev.bind hl ?_)
  rw [List.drop_eq_getElem_cons hk]
  have hV : iK ((cs.take kk).map nm).reverse (cs[kk] :: cs.drop (kk + 1)) = if iR cs[kk].f0 = true then (if nm cs[kk] ∈ (cs.take kk).map nm then (8 : Int) else if kQ cs[kk].f1 = true then iK (nm cs[kk] :: ((cs.take kk).map nm).reverse) (cs.drop (kk + 1)) else 6) else 13:=by
   rw [iK]
   simp only [List.mem_reverse]
   rfl
  rw [hV]
  cases iR cs[kk].f0 with
  | false =>
   rw [if_neg (show ¬ (false = true) by decide),if_neg (show ¬ ((13 : Int) = 0) by decide)]
   exact Ev.congr (f:=fun _=>some 13) (fun k=>by rw [if_neg (show ¬ (false = true) by decide)]) (Ev.now _)
  | true =>
   rw [if_pos rfl]
   refine Ev.congr (f:=fun k=>aJ.l2 k x3 (kk : Int) ((0 : Nat) : Int) a L f0 f1 f2 f3 f4 (cs.map gW)) (fun k=>by rw [if_pos rfl]) ?_
   by_cases hm : nm cs[kk] ∈ (cs.take kk).map nm
   ·rw [if_pos hm] at hd ⊢
    rw [if_neg (show ¬ ((8 : Int) = 0) by decide)]
    exact hd
   ·rw [if_neg hm] at hd ⊢
    cases hb : kQ cs[kk].f1 with
    | false =>
     rw [hb,if_neg (show ¬ (false = true) by decide)] at hd
     rw [if_neg (show ¬ (false = true) by decide),if_neg (show ¬ ((6 : Int) = 0) by decide)]
     exact hd
    | true =>
     rw [hb,if_pos rfl] at hd
     rw [if_pos rfl]
     exact hd
end
theorem wh (l : List Pod) (a : Int) (hl : l.length ≤ 9223372036854775806) : ∀ (m i : Nat),i + m = l.length → (∀ p ∈ l.drop i,Fair p) → Ev (fun k=>aJ.l0 k (i : Int) a (l.map toR)) (lT (j6 l i) (l.drop i))
 | 0,i,h,_=>by
  rw [List.drop_eq_nil_of_le (by omega),lT]
  exact Ev.step (fun k=>by rw [aJ.l0,if_neg (by rw [List.length_map];omega)]) (Ev.now _)
 | m + 1,i,h,hs=>by
  have hi : i < l.length:=by omega
  have ih:=wh l a hl m (i + 1) (by omega) (fun p hp=>hs p (by rw [List.drop_eq_getElem_cons hi];exact List.mem_cons_of_mem _ hp))
  rw [kg l i hi] at ih
  have e1:=u6 l i hi
  obtain ⟨⟨s0,s1,s2⟩,n4,hc⟩:=hs l[i] (by rw [List.drop_eq_getElem_cons hi];exact List.mem_cons_self)
  rw [List.drop_eq_getElem_cons hi]
  generalize l[i] = p at hc e1 ih s0 s1 s2 n4 ⊢
  have hw : wrap64 ((i : Int) + 1) = ((i + 1 : Nat) : Int):=by rw [bY (by omega) (by omega)];omega
  rw [← hw] at ih
  obtain ⟨R,hR⟩ : ∃ R,(if eH p.f5 = 0 then lT (some p.f0) (l.drop (i + 1)) else eH p.f5) = R:=⟨_,rfl⟩
  have hC : Ev (fun k=>if ((p.f5.map gW).length : Int) = 0 then some 16 else if ((p.f5.map gW).length : Int) > 16 then some 18 else aJ.l1 k (i : Int) ((0 : Nat) : Int) a (l.map toR) p.f0 p.f1 p.f2 p.f3 p.f4 (p.f5.map gW)) R:=by
   rw [← hR,eH]
   by_cases h0 : p.f5.length = 0
   ·rw [if_pos h0]
    exact Ev.congr (f:=fun _=>some 16) (fun k=>by rw [if_pos (by rw [List.length_map];omega)]) (Ev.now _)
   ·rw [if_neg h0]
    by_cases h16 : p.f5.length > 16
    ·rw [if_pos h16]
     exact Ev.congr (f:=fun _=>some 18) (fun k=>by rw [if_neg (by rw [List.length_map];omega),if_pos (by rw [List.length_map];omega)]) (Ev.now _)
    ·rw [if_neg h16]
     have:=uf a (i : Int) (l.map toR) p.f0 p.f1 p.f2 p.f3 p.f4 p.f5 (by omega) hc _ ih p.f5.length 0 (by omega)
     rw [List.drop_zero] at this
     exact Ev.congr (fun k=>by rw [if_neg (by rw [List.length_map];omega),if_neg (by rw [List.length_map];omega)]) this
  obtain ⟨K,hK⟩:=hC
  refine ⟨K + 2 * p.f0.size + 2 * p.f1.size + p.f2.size + 400,fun k hk=>?_⟩
  obtain ⟨k,rfl⟩ : ∃ j,k = j + 4:=⟨k - 4,by omega⟩
  have hK:=hK k (by omega)
  have hf:=nQ (k + 3) p.f0 (by omega) (by omega)
  have hn:=nU (k + 3) p.f1 (by omega) (by omega)
  have hb:=iT (k + 3) p.f2 (by omega) (by omega)
  have j3 : ∀ x : Bool,aJ.j3 (k + 1) (i : Int) x a (l.map toR) p.f0 p.f1 p.f2 p.f3 p.f4 (p.f5.map gW) = some (if x = true then 7 else R):=by
   intro x
   rw [aJ.j3]
   cases x with
   | true=>rfl
   | false=>rw [if_neg (show ¬ (false = true) by decide),if_neg (show ¬ (false = true) by decide)];exact hK
  have j2 : ∀ x : Bool,aJ.j2 (k + 2) (i : Int) x a (l.map toR) p.f0 p.f1 p.f2 p.f3 p.f4 (p.f5.map gW) = some (if x = true then 6 else if p.f3 > 2 ∨ p.f4 < 1 ∨ p.f4 > 3600 then 7 else R):=by
   intro x
   rw [aJ.j2]
   cases x with
   | true=>rfl
   | false =>
    rw [if_neg (show ¬ (false = true) by decide),if_neg (show ¬ (false = true) by decide)]
    by_cases c1 : p.f3 > 2
    ·rw [if_pos c1,j3,if_pos rfl,if_pos (.inl c1)]
    ·rw [if_neg c1]
     by_cases c2 : p.f4 = 0
     ·rw [if_pos c2,j3,if_pos rfl,if_pos (.inr (.inl (by omega)))]
     ·rw [if_neg c2,j3]
      by_cases c3 : p.f4 > 3600
      ·rw [decide_eq_true c3,if_pos rfl,if_pos (.inr (.inr c3))]
      ·rw [decide_eq_false c3,if_neg (by decide),if_neg (by omega)]
  have j1 : ∀ x : Bool,aJ.j1 (k + 3) (i : Int) x a (l.map toR) p.f0 p.f1 p.f2 p.f3 p.f4 (p.f5.map gW) = some (if x = true then 13 else if uX (j6 l i) p.f0 = true then 6 else if p.f3 > 2 ∨ p.f4 < 1 ∨ p.f4 > 3600 then 7 else R):=by
   intro x
   rw [aJ.j1]
   cases x with
   | true=>rfl
   | false =>
    rw [if_neg (show ¬ (false = true) by decide),if_neg (show ¬ (false = true) by decide)]
    cases i with
    | zero=>rw [if_neg (show ¬ (((0 : Nat) : Int) > 0) by decide),j2];rfl
    | succ i =>
     have hpw : wrap64 (((i + 1 : Nat) : Int) - 1) = (i : Int):=by rw [bY (by omega) (by omega)];omega
     rw [if_pos (by omega),hpw,if_pos (by omega),if_pos (by rw [List.length_map];omega),j2,u6 l i (by omega),kg l i (by omega)]
     rfl
  show aJ.l0 (k + 3 + 1) (i : Int) a (l.map toR) = _
  rw [aJ.l0,if_pos (by rw [List.length_map];omega),if_pos (by omega),e1]
  show (aR.f (k + 3) p.f0).bind _ = _
  rw [hf,Option.bind_some,lT,hR]
  cases lQ p.f0 with
  | false =>
   rw [if_neg (show ¬ (false = true) by decide)]
   exact j1 true
  | true =>
   rw [if_pos rfl]
   show (aY.f (k + 3) p.f1).bind _ = _
   rw [hn,Option.bind_some]
   cases kJ p.f1 with
   | false =>
    rw [if_neg (show ¬ (false = true) by decide)]
    exact j1 true
   | true =>
    rw [if_pos rfl]
    show (bC.f (k + 3) p.f2).bind _ = _
    rw [hb,Option.bind_some]
    refine (j1 _).trans ?_
    cases iR p.f2 <;> rfl
theorem qA (l : List Pod) (a : Int) (hl : l.length ≤ 9223372036854775806) (hs : ∀ p ∈ l,Fair p) : Ev (fun k=>aJ.f k a (l.map toR)) (iF l):=by
 rw [iF]
 by_cases h : l.length > 1024
 ·rw [if_pos h]
  exact Ev.congr (f:=fun _=>some 18) (fun k=>by rw [aJ.f,if_pos (by rw [List.length_map];omega)]) (Ev.now _)
 ·rw [if_neg h]
  exact Ev.congr (fun k=>by rw [aJ.f,if_neg (by rw [List.length_map];omega)];rfl) (wh l a hl l.length 0 (by omega) hs)
theorem wN {p : Pod} (h : lU p) (hn : 0 ≤ p.f4) : Fair p:=by
 obtain ⟨⟨h0,h1,h2⟩,_,h3⟩:=h
 refine ⟨⟨by omega,by omega,by omega⟩,hn,fun c hc=>?_⟩
 have:=h3 c hc
 exact ⟨by have:=this.1;omega,by have:=this.2;omega⟩
end Go.Proofs.YtpmbdcljphpcnaaDoor.Pure
namespace Go.Proofs.YtpmbdcljphpcnaaDoor.Pure
open Go.RowKit Go.Proofs.YtpmbdcljphpcnaaDoor.GC2 Go.Proofs.YtpmbdcljphpcnaaDoorW.PrintWords Go.Proofs.YtpmbdcljphpcnaaDoorW.PrintLast Go.Proofs.YtpmbdcljphpcnaaDoorW.PrintMore
def nC : List Con → Nat
 | []=>0
 | c :: cs=>1 + c.f0.size + c.f1.size + nC cs
theorem nZ : ∀ (l : List Con),∀ c ∈ l,c.f0.size ≤ nC l ∧ c.f1.size ≤ nC l
 | [],c,h=>by cases h
 | d :: l,c,h=>by
  rw [nC]
  rcases List.mem_cons.1 h with rfl | h
  ·exact ⟨by omega,by omega⟩
  ·have:=nZ l c h
   exact ⟨by omega,by omega⟩
theorem tJ : ∀ (l : List Con),(∀ c ∈ l,c.f0.size ≤ 140737488351232 ∧ c.f1.size ≤ 140737488351232) → nC l ≤ l.length * 300000000000000
 | [],_=>Nat.zero_le _
 | c :: l,h=>by
  have h0:=h c List.mem_cons_self
  have ih:=tJ l (fun q hq=>h q (List.mem_cons_of_mem _ hq))
  rw [nC,List.length_cons]
  omega
theorem og (l : List Pod) (L i : Int) (cs : List Con) (hcs : cs.length ≤ 4398046511104) (hg : ∀ c ∈ cs,c.f0.size ≤ 140737488351232 ∧ c.f1.size ≤ 140737488351232) : ∀ (m j : Nat) (n : Int),j + m = cs.length →
  ∃ n' : Int,(∀ r,Ev (fun k=>if n' > 20000 then some false else aW.l0 k n' l L (wrap64 (i + 1))) r → Ev (fun k=>aW.l1 k n l L i cs (cs.length : Int) (j : Int)) r) ∧ (0 ≤ n → n + m * 300000000000000 ≤ 9000000000000000000 → n' = n + nC (cs.drop j))
 | 0,j,n,h=>⟨n,fun r hr=>Ev.step (fun k=>by rw [aW.l1,if_neg (by omega)]) hr,fun _ _=>by rw [List.drop_eq_nil_of_le (by omega)];simp [nC]⟩
 | m + 1,j,n,h=>by
  have hj : j < cs.length:=by omega
  obtain ⟨g0,g1⟩:=hg cs[j] (List.getElem_mem hj)
  have hw : wrap64 ((j : Int) + 1) = ((j + 1 : Nat) : Int):=by rw [bY (by omega) (by omega)];omega
  have we : wrap64 (wrap64 (1 + (cs[j].f0.size : Int)) + (cs[j].f1.size : Int)) = 1 + (cs[j].f0.size : Int) + (cs[j].f1.size : Int):=by
   rw [bY (x:=1 + (cs[j].f0.size : Int)) (by omega) (by omega),bY (by omega) (by omega)]
  obtain ⟨n',h1,h2⟩:=og l L i cs hcs hg m (j + 1) (wrap64 (n + (1 + (cs[j].f0.size : Int) + (cs[j].f1.size : Int)))) (by omega)
  refine ⟨n',fun r hr=>Ev.step (fun k=>?_) (h1 r hr),fun hn hb=>?_⟩
  ·rw [aW.l1,if_pos (by omega),if_pos (by omega),if_pos (by omega),hw,rdC cs j hj,we]
  ·have e : wrap64 (n + (1 + (cs[j].f0.size : Int) + (cs[j].f1.size : Int))) = n + (1 + (cs[j].f0.size : Int) + (cs[j].f1.size : Int)):=bY (by omega) (by omega)
   rw [e] at h2
   rw [h2 (by omega) (by omega),List.drop_eq_getElem_cons hj,nC]
   omega
theorem lY (l : List Pod) (hl : l.length ≤ 9223372036854775806) (hg : ∀ p ∈ l,G98 p) : ∀ (m i : Nat) (n : Int),i + m = l.length →
  ∃ r,Ev (fun k=>aW.l0 k n l (l.length : Int) (i : Int)) r ∧ (r = true → 0 ≤ n → n ≤ 20000 → nV (l.drop i))
 | 0,i,n,h=>⟨true,Ev.step (fun k=>by rw [aW.l0,if_neg (by omega)]) (Ev.now _),fun _ _ _=>by rw [List.drop_eq_nil_of_le (by omega)];trivial⟩
 | m + 1,i,n,h=>by
  have hi : i < l.length:=by omega
  obtain ⟨g0,g1,g2,_,_,g5,_,g6⟩:=hg l[i] (List.getElem_mem hi)
  have hw : wrap64 ((i : Int) + 1) = ((i + 1 : Nat) : Int):=by rw [bY (by omega) (by omega)];omega
  have we : wrap64 (wrap64 (wrap64 (1 + (l[i].f0.size : Int)) + (l[i].f1.size : Int)) + (l[i].f2.size : Int)) = 1 + (l[i].f0.size : Int) + (l[i].f1.size : Int) + (l[i].f2.size : Int):=by
   rw [bY (x:=1 + (l[i].f0.size : Int)) (by omega) (by omega),bY (x:=1 + (l[i].f0.size : Int) + (l[i].f1.size : Int)) (by omega) (by omega),bY (by omega) (by omega)]
  obtain ⟨n',h1,h2⟩:=og l (l.length : Int) (i : Int) l[i].f5 (by omega) g6 l[i].f5.length 0 (wrap64 (n + (1 + (l[i].f0.size : Int) + (l[i].f1.size : Int) + (l[i].f2.size : Int)))) (by omega)
  rw [hw] at h1
  have go : ∀ r,Ev (fun k=>if n' > 20000 then some false else aW.l0 k n' l (l.length : Int) ((i + 1 : Nat) : Int)) r → Ev (fun k=>aW.l0 k n l (l.length : Int) (i : Int)) r:=fun r hr=>Ev.step (fun k=>by
   rw [aW.l0,if_pos (by omega),if_pos (by omega),if_pos (by omega),rdP l i hi,we];rfl) (h1 r hr)
  by_cases hx : n' > 20000
  ·exact ⟨false,go _ (Ev.congr (fun k=>by rw [if_pos hx]) (Ev.now _)),fun q=>by cases q⟩
  ·obtain ⟨r,q1,q2⟩:=lY l hl hg m (i + 1) n' (by omega)
   refine ⟨r,go _ (Ev.congr (fun k=>by rw [if_neg hx]) q1),fun hr hn0 hn1=>?_⟩
   rw [List.drop_eq_getElem_cons hi]
   refine ⟨⟨g0,g1,g2⟩,fun h16=>?_⟩
   have e : wrap64 (n + (1 + (l[i].f0.size : Int) + (l[i].f1.size : Int) + (l[i].f2.size : Int))) = n + (1 + (l[i].f0.size : Int) + (l[i].f1.size : Int) + (l[i].f2.size : Int)):=bY (by omega) (by omega)
   rw [e] at h2
   have h2':=h2 (by omega) (by omega)
   rw [List.drop_zero] at h2'
   refine ⟨fun c hc=>?_,q2 hr (by omega) (by omega)⟩
   have:=nZ _ c hc
   exact ⟨by omega,by omega⟩
theorem oh (l : List Pod) (a : Int) (hl : l.length ≤ 9223372036854775806) (hg : ∀ p ∈ l,G98 p) : ∃ r,Ev (fun k=>aW.f k a l) r ∧ (r = true → nV l):=by
 obtain ⟨r,h1,h2⟩:=lY l hl hg l.length 0 0 (by omega)
 exact ⟨r,h1,fun q=>h2 q (by omega) (by omega)⟩
end Go.Proofs.YtpmbdcljphpcnaaDoor.Pure
namespace Go.Proofs.YtpmbdcljphpcnaaDoor.Pure
open Go.RowKit Go.Proofs.YtpmbdcljphpcnaaDoor.GC2 Go.Proofs.YtpmbdcljphpcnaaDoorW.PrintWords Go.Proofs.YtpmbdcljphpcnaaDoorW.PrintLast Go.Proofs.YtpmbdcljphpcnaaDoorW.PrintMore
theorem ko (xs ys : List Int) : strOfNums xs ++ strOfNums ys = strOfNums (xs ++ ys):=by
 apply ByteArray.ext
 simp [strOfNums]
theorem quo {v : Int} (h0 : 0 ≤ v) (h1 : v < 18446744073709551616) : IntKind.u64.wrap (Int.tdiv v 256) = v / 256:=by
 rw [Int.tdiv_eq_ediv_of_nonneg h0]
 exact dh (by omega) (by omega)
theorem rest {v : Int} (h0 : 0 ≤ v) : Int.tmod v 256 % 256 = v % 256:=by
 rw [Int.tmod_eq_emod_of_nonneg h0];omega
theorem qB (k : Nat) (n v : Int) (s : ByteArray) (i : Int) (h0 : 0 ≤ v) (h1 : v < 18446744073709551616) (hi : i < n) (h2 : 0 ≤ i) (hn : n ≤ 8) (hs : s.size ≤ 100) :
  aT.l0 (k + 1) n v s i = aT.l0 k n (v / 256) (strOfNums [v % 256] ++ s) (i + 1):=by
 simp only [aT.l0]
 rw [if_pos hi,quo h0 h1,rest h0,bY (by omega) (by omega)]
 simp only [Option.bind_some]
 rw [if_pos (by rw [gy];simp;omega)]
theorem tK (k : Nat) (n v : Int) (s : ByteArray) : aT.l0 (k + 1) n v s n = some s:=by
 simp only [aT.l0]
 rw [if_neg (by omega)]
theorem oZ (d : Nat) : ∀ (k : Nat) (n v : Int) (xs : List Int),0 ≤ v → v < 18446744073709551616 → (d : Int) ≤ n → n ≤ 8 → xs.length ≤ 90 - d →
  aT.l0 (k + d + 1) n v (strOfNums xs) (n - d) = some (strOfNums (beL d v ++ xs)):=by
 induction d with
 | zero=>intro k n v xs _ _ _ _ _;simpa [beL] using tK k n v (strOfNums xs)
 | succ d ih =>
  intro k n v xs h0 h1 hd hn hx
  rw [show k + (d + 1) + 1 = (k + d + 1) + 1 from by omega,qB _ _ _ _ _ h0 h1 (by omega) (by omega) hn (by rw [gy];omega),ko,show n - ((d + 1 : Nat) : Int) + 1 = n - (d : Nat) from by omega]
  rw [ih k n (v / 256) ([v % 256] ++ xs) (by omega) (by omega) (by omega) hn (by simp;omega)]
  simp [beL]
theorem wm (k : Nat) (n : Nat) (v : Int) (h0 : 0 ≤ v) (h1 : v < 18446744073709551616) (hn : n = 1 ∨ n = 2 ∨ n = 4 ∨ n = 8) : aT.f (k + 10) n v = some (strOfNums (beL n v)):=by
 have e : aT.l0 (k + 9) n v (⟨#[]⟩ : ByteArray) 0 = some (strOfNums (beL n v)):=by
  have h:=oZ n (k + 8 - n) n v [] h0 h1 (by omega) (by omega) (by simp)
  rw [show k + 8 - n + n + 1 = k + 9 from by omega] at h
  have h' : aT.l0 (k + 9) n v (strOfNums []) 0 = some (strOfNums (beL n v)):=by simpa using h
  exact h'
 rcases hn with rfl | rfl | rfl | rfl <;> simp only [aT.f,aT.j0] <;> simpa using e
theorem wo (k : Nat) (s : ByteArray) (hs : s.size ≤ 4096) : bJ.f (k + 10) s = some (strOfNums (beL 2 s.size) ++ s):=by
 unfold bJ.f
 rw [dh (by omega) (by omega)]
 have h2 : aT.f (k + 10) 2 s.size = some (strOfNums (beL 2 s.size)):=wm k 2 s.size (by omega) (by omega) (by simp)
 rw [h2]
 simp only [Option.bind_some]
 rw [if_pos (by rw [gy];simp [beL];omega)]
theorem jf (s : ByteArray) (hs : s.size ≤ 4096) : Ev (fun k=>bJ.f k s) (txt s):=⟨10,fun k hk=>by
 obtain ⟨k,rfl⟩ : ∃ j,k = j + 10:=⟨k - 10,by omega⟩
 exact wo k s hs⟩
theorem kU (n : Nat) (v : Int) (h0 : 0 ≤ v) (h1 : v < 18446744073709551616) (hn : n = 1 ∨ n = 2 ∨ n = 4 ∨ n = 8) : Ev (fun k=>aT.f k n v) (gq n v):=⟨10,fun k hk=>by
 obtain ⟨k,rfl⟩ : ∃ j,k = j + 10:=⟨k - 10,by omega⟩
 exact wm k n v h0 h1 hn⟩
theorem oo (i a : Int) (L : List RPod) (f0 f1 f2 : ByteArray) (f3 f4 : Int) (cs : List Con) (hcs : cs.length ≤ 1000) (hf : ∀ c ∈ cs,nX c) : ∀ (m j : Nat) (acc : ByteArray),j + m = cs.length → acc.size + 10000 * m ≤ 100000000000 →
  ∀ r,Ev (fun k=>aN.l0 k (acc ++ je (cs.drop j)) (wrap64 (i + 1)) a L) r → Ev (fun k=>aN.l1 k acc i (j : Int) a L f0 f1 f2 f3 f4 (cs.map gW)) r
 | 0,j,acc,h,hs,r,hr=>by
  rw [List.drop_eq_nil_of_le (by omega),je,kT] at hr
  exact Ev.step (fun k=>by rw [aN.l1,if_neg (by rw [List.length_map];omega)]) hr
 | m + 1,j,acc,h,hs,r,hr=>by
  have hj : j < cs.length:=by omega
  obtain ⟨h0,h1⟩:=hf cs[j] (List.getElem_mem hj)
  have hw : wrap64 ((j : Int) + 1) = ((j + 1 : Nat) : Int):=by rw [bY (by omega) (by omega)];omega
  have z0:=fO cs[j].f0
  have z1:=fO cs[j].f1
  have ih:=oo i a L f0 f1 f2 f3 f4 cs hcs hf m (j + 1) (acc ++ txt cs[j].f0 ++ txt cs[j].f1) (by omega) (by simp only [ByteArray.size_append];omega) r (by
   rw [List.drop_eq_getElem_cons hj,je] at hr
   simpa only [ByteArray.append_assoc] using hr)
  have st : ∀ k,aN.l1 (k + 1) acc i (j : Int) a L f0 f1 f2 f3 f4 (cs.map gW) = (bJ.f k cs[j].f0).bind fun x=>if acc.size + x.size ≤ 9223372036854775807 then (bJ.f k cs[j].f1).bind fun y=>if (acc ++ x).size + y.size ≤ 9223372036854775807 then aN.l1 k (acc ++ x ++ y) i ((j + 1 : Nat) : Int) a L f0 f1 f2 f3 f4 (cs.map gW) else none else none:=by
   intro k
   rw [aN.l1,if_pos (by rw [List.length_map];omega),if_pos (by omega),rY cs j hj,hw]
   rfl
  refine Ev.step st (Ev.bind (jf cs[j].f0 h0) ?_)
  refine Ev.congr (fun k=>by rw [if_pos (by omega)]) (Ev.bind (jf cs[j].f1 h1) ?_)
  exact Ev.congr (fun k=>by rw [if_pos (by simp only [ByteArray.size_append];omega)]) ih
theorem lZ (l : List Pod) (a : Int) (hl : l.length ≤ 1024) (hf : ∀ p ∈ l,lU p ∧ rX p) : ∀ (m i : Nat) (acc : ByteArray),i + m = l.length → acc.size + 200000 * m ≤ 90000000000 →
  Ev (fun k=>aN.l0 k acc (i : Int) a (l.map toR)) (acc ++ jR (l.drop i))
 | 0,i,acc,h,hs=>by
  rw [List.drop_eq_nil_of_le (by omega),jR,kT]
  exact Ev.step (fun k=>by rw [aN.l0,if_neg (by rw [List.length_map];omega)]) (Ev.now _)
 | m + 1,i,acc,h,hs=>by
  have hi : i < l.length:=by omega
  have e1:=u6 l i hi
  obtain ⟨⟨⟨h0,h1,h2⟩,h16,hc⟩,⟨n0,n1⟩,n2,n3⟩:=hf l[i] (List.getElem_mem hi)
  have ihl:=lZ l a hl hf m (i + 1)
  rw [List.drop_eq_getElem_cons hi,jR]
  generalize l[i] = p at e1 h0 h1 h2 h16 hc n0 n1 n2 n3 ⊢
  have hw : wrap64 ((i : Int) + 1) = ((i + 1 : Nat) : Int):=by rw [bY (by omega) (by omega)];omega
  have hz:=jG p.f5 hc
  have z0:=fO p.f0
  have z1:=fO p.f1
  have z2:=fO p.f2
  have y3 : strOfNums [p.f3] = gq 1 p.f3:=by
   rw [gq]
   congr 1
   simp [beL]
   omega
  have z3:=fQ 1 p.f3
  have z4:=fQ 2 p.f4
  have z5:=fQ 1 (p.f5.length : Int)
  have c1 : (i : Int) < ((l.map toR).length : Int):=by rw [List.length_map];exact Int.ofNat_lt.2 hi
  have c2 : 0 ≤ (i : Int):=Int.natCast_nonneg i
  have b4 : p.f4 ≤ 18446744073709551615:=Int.le_trans (Int.le_of_lt n3) (by decide)
  have b5 : 0 ≤ (p.f5.length : Int):=Int.natCast_nonneg _
  have b6 : (p.f5.length : Int) ≤ 18446744073709551615:=Int.le_trans (Int.ofNat_le.2 h16) (by decide)
  have q4 : Ev (fun k=>aT.f k 2 p.f4) (gq 2 p.f4):=kU 2 p.f4 n2 (Int.lt_of_le_of_lt b4 (by decide)) (by simp)
  have q5 : Ev (fun k=>aT.f k 1 (p.f5.length : Int)) (gq 1 p.f5.length):=kU 1 (p.f5.length : Int) b5 (Int.lt_of_le_of_lt b6 (by decide)) (by simp)
  have B4:=Lib.hid b4
  have B6:=Lib.hid b6
  clear b4 b6
  have hin:=oo (i : Int) a (l.map toR) p.f0 p.f1 p.f2 p.f3 p.f4 p.f5 (by omega) hc p.f5.length 0 (acc ++ txt p.f0 ++ txt p.f1 ++ txt p.f2 ++ gq 1 p.f3 ++ gq 2 p.f4 ++ gq 1 p.f5.length) (by omega) (by simp only [ByteArray.size_append];omega)
   (acc ++ (tH p ++ jR (l.drop (i + 1)))) (by
    rw [hw,List.drop_zero]
    have:=ihl (acc ++ txt p.f0 ++ txt p.f1 ++ txt p.f2 ++ gq 1 p.f3 ++ gq 2 p.f4 ++ gq 1 p.f5.length ++ je p.f5) (by omega) (by simp only [ByteArray.size_append];omega)
    rw [tH]
    simpa only [ByteArray.append_assoc] using this)
  have st : ∀ k,aN.l0 (k + 1) acc (i : Int) a (l.map toR) = (bJ.f k p.f0).bind fun x=>if acc.size + x.size ≤ 9223372036854775807 then (bJ.f k p.f1).bind fun y=>if (acc ++ x).size + y.size ≤ 9223372036854775807 then (bJ.f k p.f2).bind fun z=>if (acc ++ x ++ y).size + z.size ≤ 9223372036854775807 then
    (if (acc ++ x ++ y ++ z).size + (gq 1 p.f3).size ≤ 9223372036854775807 then (aT.f k 2 p.f4).bind fun g=>if (acc ++ x ++ y ++ z ++ gq 1 p.f3).size + g.size ≤ 9223372036854775807 then (aT.f k 1 (p.f5.length : Int)).bind fun m=>if (acc ++ x ++ y ++ z ++ gq 1 p.f3 ++ g).size + m.size ≤ 9223372036854775807 then
     aN.l1 k (acc ++ x ++ y ++ z ++ gq 1 p.f3 ++ g ++ m) (i : Int) ((0 : Nat) : Int) a (l.map toR) p.f0 p.f1 p.f2 p.f3 p.f4 (p.f5.map gW) else none else none else none) else none else none else none:=by
   intro k
   have w4 : IntKind.u64.wrap p.f4 = p.f4:=dh n2 B4.out
   have w6 : IntKind.u64.wrap (((p.f5.map gW).length : Nat) : Int) = p.f5.length:=by rw [List.length_map];exact dh b5 B6.out
   rw [aN.l0,if_pos c1,if_pos c2]
   simp only [e1]
   simp only [toR,Option.bind_some,w4,w6,y3]
   rfl
  refine Ev.step st (Ev.bind (jf p.f0 h0) ?_)
  refine Ev.congr (fun k=>by rw [if_pos (by omega)]) (Ev.bind (jf p.f1 h1) ?_)
  refine Ev.congr (fun k=>by rw [if_pos (by simp only [ByteArray.size_append];omega)]) (Ev.bind (jf p.f2 h2) ?_)
  refine Ev.congr (fun k=>by rw [if_pos (by simp only [ByteArray.size_append];omega),if_pos (by simp only [ByteArray.size_append];omega)]) (Ev.bind q4 ?_)
  refine Ev.congr (fun k=>by rw [if_pos (by simp only [ByteArray.size_append];omega)]) (Ev.bind q5 ?_)
  exact Ev.congr (fun k=>by rw [if_pos (by simp only [ByteArray.size_append];omega)]) hin
theorem rZ (l : List Pod) (a : Int) (ha : 0 ≤ a) (ha2 : a < 18446744073709551616) (hl : l.length ≤ 1024) (hf : ∀ p ∈ l,lU p ∧ rX p) : Ev (fun k=>aN.f k a (l.map toR)) (oW a l):=by
 have q1 : Ev (fun k=>aT.f k 8 a) (gq 8 a):=kU 8 a ha ha2 (by simp)
 have q2 : Ev (fun k=>aT.f k 2 (l.length : Int)) (gq 2 l.length):=kU 2 (l.length : Int) (by omega) (by omega) (by simp)
 have z1:=fQ 8 a
 have z2:=fQ 2 (l.length : Int)
 have this:=lZ l a hl hf l.length 0 (gq 8 a ++ gq 2 l.length) (by omega) (by simp only [ByteArray.size_append];omega)
 rw [List.drop_zero,ByteArray.append_assoc] at this
 have hz : (gq 8 a).size + (gq 2 (l.length : Int)).size ≤ 9223372036854775807:=by omega
 have w : IntKind.u64.wrap (((l.map toR).length : Nat) : Int) = l.length:=by rw [List.length_map];exact dh (by omega) (by omega)
 refine Ev.congr (fun k=>by rw [aN.f,w]) (Ev.bind q1 (Ev.bind q2 ?_))
 exact Ev.congr (f:=fun k=>aN.l0 k (gq 8 a ++ gq 2 l.length) ((0 : Nat) : Int) a (l.map toR)) (fun k=>by rw [if_pos hz];rfl) this
theorem pV : ∀ l m : List Con,eqC l m = jX (l.map gW) (m.map gW)
 | [],[]=>rfl
 | _ :: _,[]=>rfl
 | [],_ :: _=>rfl
 | p :: ps,q :: qs=>by rw [eqC,List.map_cons,List.map_cons,jX,pV ps qs];rfl
theorem pW : ∀ l m : List Pod,eqL l m = jY (l.map toR) (m.map toR)
 | [],[]=>rfl
 | _ :: _,[]=>rfl
 | [],_ :: _=>rfl
 | p :: ps,q :: qs=>by
  rw [eqL,List.map_cons,List.map_cons,jY,pW ps qs,eqP,sZ,pV];rfl
theorem r9 (a b : Int) (l m : List Pod) : cO.f a l b m = dQ.f a (l.map toR) b (m.map toR):=by rw [cO.f,dQ.f,pW]
end Go.Proofs.YtpmbdcljphpcnaaDoor.Pure
namespace Go.Proofs.YtpmbdcljphpcnaaDoor.Pure
open Go.RowKit Go.Proofs.YtpmbdcljphpcnaaDoor.GC2 Go.Proofs.YtpmbdcljphpcnaaDoorW.PrintWords Go.Proofs.YtpmbdcljphpcnaaDoorW.PrintLast Go.Proofs.YtpmbdcljphpcnaaDoorW.PrintMore
theorem pX : Ev (fun k=>cK.f k) true:=by
 have h : cK.f 100 = some true:=by decide +kernel
 exact Ev.of (fun k=>cK.mono k) h
theorem mO : ∀ (l : List Pod),(∀ p ∈ l,Fair p) → nV l
 | [],_=>trivial
 | p :: ps,h=>by
  obtain ⟨⟨h0,h1,h2⟩,_,h3⟩:=h p List.mem_cons_self
  refine ⟨⟨by omega,by omega,by omega⟩,fun _=>⟨fun c hc=>?_,mO ps (fun q hq=>h q (List.mem_cons_of_mem _ hq))⟩⟩
  have:=h3 c hc
  exact ⟨by have:=this.1;omega,by have:=this.2;omega⟩
theorem nD {α : Type} (u : α → Nat) (h1 : ∀ x,1 ≤ u x) : ∀ l : List α,l.length ≤ (l.map u).sum
 | []=>Nat.zero_le _
 | x :: l=>by
  have:=nD u h1 l
  have:=h1 x
  rw [List.length_cons,List.map_cons,List.sum_cons]
  omega
theorem oq : ∀ l : List Con,eqC l l = true
 | []=>rfl
 | c :: cs=>by rw [eqC,eqK,oq cs];simp
theorem ou : ∀ l : List Pod,eqL l l = true
 | []=>rfl
 | p :: ps=>by rw [eqL,eqP,ou ps,oq];simp
theorem l6 (a : Int) (l : List Pod) (hg : ∀ p ∈ l,G98 p) (hU : U49 ⟨a,l⟩ ≤ 1048576) : l.length ≤ 1048576 ∧ ∀ p ∈ l,Fair p ∧ rX p ∧ p.f5.length ≤ 1048576:=by
 have hs : (l.map U98).sum ≤ 1048576:=by
  unfold U49 at hU
  replace hU : (1 + ((l.map U98).sum + 1)) + 1 ≤ 1048576:=hU
  omega
 refine ⟨Nat.le_trans (nD U98 (fun x=>by unfold U98;omega) l) hs,fun p hp=>?_⟩
 have h1 : U98 p ≤ 1048576:=Nat.le_trans (nA _ _ (List.mem_map.2 ⟨p,hp,rfl⟩)) hs
 obtain ⟨_,_,_,g3,g4,_⟩:=hg p hp
 simp [Lit.wf,IntKind.min,IntKind.max,IntKind.bits,IntKind.signed] at g3 g4
 unfold U98 at h1
 have h6 : (p.f5.map oN).sum ≤ 1048576:=by omega
 have h5:=Nat.le_trans (nD oN (fun x=>by unfold oN;omega) p.f5) h6
 refine ⟨⟨⟨by omega,by omega,by omega⟩,by omega,fun c hc=>?_⟩,⟨⟨by omega,by omega⟩,by omega,by omega⟩,by omega⟩
 have h2 : oN c ≤ 1048576:=Nat.le_trans (nA _ _ (List.mem_map.2 ⟨c,hc,rfl⟩)) h6
 unfold oN at h2
 exact ⟨by omega,by omega⟩
theorem last (a b : Int) (l m : List Pod) : Ev (fun k=>aI.j1 k false a l b m a (l.map toR) b (m.map toR)) true:=by
 refine Ev.step (fun k=>by rw [aI.j1,if_neg (show ¬ (false = true) by decide)]) (Ev.bind pX ?_)
 obtain ⟨r,hr⟩ : ∃ r,cO.f a l b m = some r:=⟨_,rfl⟩
 have hr2 : dQ.f a (l.map toR) b (m.map toR) = some r:=by rw [← r9,hr]
 have hs : cO.f a l a l = some true:=by rw [cO.f,ou];simp
 exact Ev.congr (f:=fun _=>some true) (fun k=>by rw [if_pos rfl,hr,Option.bind_some,hr2,Option.bind_some,beq_self_eq_true,if_pos rfl,hs,Option.bind_some]) (Ev.now _)
theorem CktwoCodes : aI.Pure:=by
 rintro ⟨a,l⟩ ⟨b,m⟩ ⟨ha,_,_,hg⟩ ⟨hb,_,_,hgm⟩ hU
 have ha' : 0 ≤ a ∧ a < 18446744073709551616:=by
  simp [Lit.wf,IntKind.min,IntKind.max,IntKind.bits,IntKind.signed] at ha
  omega
 obtain ⟨l1,l2⟩:=l6 a l hg (by omega)
 obtain ⟨m1,m2⟩:=l6 b m hgm (by omega)
 refine Ev.rounds (g:=fun k=>aI.f k a l b m) ?_
 have long : Ev (fun k=>aI.j0 k true a l b m) true:=Ev.step (fun k=>by rw [aI.j0,if_pos rfl]) (Ev.bind pX (Ev.now _))
 obtain ⟨r1,s1,_⟩:=oh l a (by omega) hg
 obtain ⟨r2,s2,_⟩:=oh m b (by omega) hgm
 refine Ev.congr (fun k=>by rw [aI.f]) (Ev.bind s1 ?_)
 cases r1 with
 | false=>exact Ev.congr (fun k=>by rw [if_neg (show ¬ (false = true) by decide)]) long
 | true =>
  refine Ev.congr (fun k=>by rw [if_pos rfl]) (Ev.bind s2 ?_)
  cases r2 with
  | false=>exact long
  | true =>
   show Ev (fun k=>aI.j0 k false a l b m) true
   have ol:=tZ l a (by omega) (fun p hp=>by have:=(l2 p hp).2.2;omega)
   have om:=tZ m b (by omega) (fun p hp=>by have:=(m2 p hp).2.2;omega)
   have hs:=mO l (fun p hp=>(l2 p hp).1)
   have rc:=qA l a (by omega) (fun p hp=>(l2 p hp).1)
   have pc:=nW l a (by omega) hs
   have en:=uZ a l ha'.1 ha'.2 (by omega) hs (fun p hp=>(l2 p hp).2.1)
   refine Ev.step (fun k=>by rw [aI.j0,if_neg (show ¬ (false = true) by decide)]) (Ev.bind ol (Ev.bind om (Ev.bind rc (Ev.bind en (Ev.bind pc ?_)))))
   by_cases hc : iF l = 0
   ·obtain ⟨c1,c2⟩:=lV hc
    have by_:=rZ l a ha'.1 ha'.2 c1 (fun p hp=>⟨c2 p hp,(l2 p hp).2.1⟩)
    simp only [hc,if_true]
    refine Ev.bind by_ ?_
    exact Ev.congr (fun k=>by rw [if_pos rfl]) (last a b l m)
   ·simp only [if_neg hc,if_true]
    have e_ : ((ByteArray.mk #[]).toList != ([] : List UInt8)) = false:=by
     first
     | decide +kernel
     | simp [ByteArray.toList,ByteArray.toList.loop]
    rw [e_]
    exact last a b l m
end Go.Proofs.YtpmbdcljphpcnaaDoor.Pure
