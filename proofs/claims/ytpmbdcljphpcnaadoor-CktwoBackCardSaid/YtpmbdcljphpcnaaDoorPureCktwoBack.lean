/- The law's own functions: a state as the document has it; is it small. Plain lemmas. CktwoBack, the pure statement: what is encoded is decoded as it was; what is decoded is encoded as it was; for every input. No conditions beside those stated. -/
import Derived.Test.YtpmbdcljphpcnaaDoorC2A
import Derived.Test.YtpmbdcljphpcnaaDoorGC2x11
import Derived.Test.YtpmbdcljphpcnaaDoorGC2x1
import Derived.Test.YtpmbdcljphpcnaaDoorGC2RSame
import Derived.Test.YtpmbdcljphpcnaaDoorGC2CktwoBackS
import Derived.Test.YtpmbdcljphpcnaaDoorC2B
namespace Go.Proofs.YtpmbdcljphpcnaaDoor.Pure
open Go.RowKit Go.Proofs.YtpmbdcljphpcnaaDoor.GC2 Go.Proofs.YtpmbdcljphpcnaaDoorW.PrintWords Go.Proofs.YtpmbdcljphpcnaaDoorW.PrintLast Go.Proofs.YtpmbdcljphpcnaaDoorW.PrintMore

abbrev RCon:=S104
abbrev RPod:=S103
def toRC (c : Con) : RCon:=⟨c.f0,c.f1⟩
/-- A pod, as the document has it. -/
def toR (p : Pod) : RPod:=⟨p.f0,p.f1,p.f2,p.f3,p.f4,p.f5.map toRC⟩
theorem of_in (l : List Pod) (L i a : Int) (accP : List RPod) (x y z : ByteArray) (u v : Int) (cs : List Con) (hcs : cs.length ≤ 4398046511000) (hl : accP.length < 1759218604441) (r : Int × List RPod)
  (hr : Ev (fun k=>bosunlaw18_Of.l0 k l L (wrap64 (i + 1)) a (accP ++ [⟨x,y,z,u,v,cs.map toRC⟩])) r) : ∀ (m j : Nat),j + m = cs.length → Ev (fun k=>bosunlaw18_Of.l1 k l L i cs (cs.length : Int) (j : Int) a accP x y z u v ((cs.take j).map toRC)) r
 | 0,j,h=>Ev.step (fun k=>by rw [bosunlaw18_Of.l1,if_neg (by omega),if_pos hl,List.take_of_length_le (by omega)]) hr
 | m + 1,j,h=>by
  have ih:=of_in l L i a accP x y z u v cs hcs hl r hr m (j + 1) (by omega)
  refine Ev.step (fun k=>?_) ih
  have hj : j < cs.length:=by omega
  have hw : wrap64 ((j : Int) + 1) = ((j + 1 : Nat) : Int):=by rw [i64_id (by omega) (by omega)];omega
  rw [bosunlaw18_Of.l1,if_pos (by omega),if_pos (by omega),if_pos (by omega),if_pos (by rw [List.length_map,List.length_take];omega),hw,rdC cs j hj]
  congr 1
  rw [List.take_succ_eq_append_getElem hj,List.map_append]
  rfl
theorem of_loop (l : List Pod) (a : Int) (hl : l.length ≤ 1759218604000) (hc : ∀ p ∈ l,p.f5.length ≤ 4398046511000) : ∀ (m i : Nat),i + m = l.length → Ev (fun k=>bosunlaw18_Of.l0 k l (l.length : Int) (i : Int) a ((l.take i).map toR)) (a,l.map toR)
 | 0,i,h=>Ev.step (fun k=>by rw [bosunlaw18_Of.l0,if_neg (by omega),List.take_of_length_le (by omega)]) (Ev.now _)
 | m + 1,i,h=>by
  have ih:=of_loop l a hl hc m (i + 1) (by omega)
  have hi : i < l.length:=by omega
  have hw : wrap64 ((i : Int) + 1) = ((i + 1 : Nat) : Int):=by rw [i64_id (by omega) (by omega)];omega
  have hin:=of_in l (l.length : Int) (i : Int) a ((l.take i).map toR) l[i].f0 l[i].f1 l[i].f2 l[i].f3 l[i].f4 l[i].f5 (hc _ (List.getElem_mem hi)) (by rw [List.length_map,List.length_take];omega) (a,l.map toR) (by
   rw [hw]
   rw [List.take_succ_eq_append_getElem hi,List.map_append] at ih
   exact ih) l[i].f5.length 0 (by omega)
  refine Ev.step (fun k=>?_) hin
  rw [bosunlaw18_Of.l0,if_pos (by omega),if_pos (by omega),if_pos (by omega),rdP l i hi]
  rfl
theorem of_ev (l : List Pod) (a : Int) (hl : l.length ≤ 1759218604000) (hc : ∀ p ∈ l,p.f5.length ≤ 4398046511000) : Ev (fun k=>bosunlaw18_Of.f k a l) (a,l.map toR):=of_loop l a hl hc l.length 0 (by omega)
theorem reqC_refl : ∀ l : List RCon,reqC l l = true
 | []=>rfl
 | c :: cs=>by rw [reqC,reqK,reqC_refl cs];simp
theorem reqL_refl : ∀ l : List RPod,reqL l l = true
 | []=>rfl
 | p :: ps=>by rw [reqL,reqP,reqL_refl ps,reqC_refl];simp
theorem same_refl (a : Int) (l : List RPod) : bosunref18_Same.f a l a l = some true:=by
 rw [bosunref18_Same.f,reqL_refl];simp
/-! ### Small -/
def cSum : List Con → Nat
 | []=>0
 | c :: cs=>1 + c.f0.size + c.f1.size + cSum cs
theorem cSum_mem : ∀ (l : List Con),∀ c ∈ l,c.f0.size ≤ cSum l ∧ c.f1.size ≤ cSum l
 | [],c,h=>by cases h
 | d :: l,c,h=>by
  rw [cSum]
  rcases List.mem_cons.1 h with rfl | h
  ·exact ⟨by omega,by omega⟩
  ·have:=cSum_mem l c h
   exact ⟨by omega,by omega⟩
theorem cSum_le : ∀ (l : List Con),(∀ c ∈ l,c.f0.size ≤ 140737488351232 ∧ c.f1.size ≤ 140737488351232) → cSum l ≤ l.length * 300000000000000
 | [],_=>Nat.zero_le _
 | c :: l,h=>by
  have h0:=h c List.mem_cons_self
  have ih:=cSum_le l (fun q hq=>h q (List.mem_cons_of_mem _ hq))
  rw [cSum,List.length_cons]
  omega
theorem small_in (l : List Pod) (L i : Int) (cs : List Con) (hcs : cs.length ≤ 4398046511104) (hg : ∀ c ∈ cs,c.f0.size ≤ 140737488351232 ∧ c.f1.size ≤ 140737488351232) : ∀ (m j : Nat) (n : Int),j + m = cs.length →
  ∃ n' : Int,(∀ r,Ev (fun k=>if n' > 20000 then some false else bosunlaw18_Small.l0 k n' l L (wrap64 (i + 1))) r → Ev (fun k=>bosunlaw18_Small.l1 k n l L i cs (cs.length : Int) (j : Int)) r) ∧ (0 ≤ n → n + m * 300000000000000 ≤ 9000000000000000000 → n' = n + cSum (cs.drop j))
 | 0,j,n,h=>⟨n,fun r hr=>Ev.step (fun k=>by rw [bosunlaw18_Small.l1,if_neg (by omega)]) hr,fun _ _=>by rw [List.drop_eq_nil_of_le (by omega)];simp [cSum]⟩
 | m + 1,j,n,h=>by
  have hj : j < cs.length:=by omega
  obtain ⟨g0,g1⟩:=hg cs[j] (List.getElem_mem hj)
  have hw : wrap64 ((j : Int) + 1) = ((j + 1 : Nat) : Int):=by rw [i64_id (by omega) (by omega)];omega
  have we : wrap64 (wrap64 (1 + (cs[j].f0.size : Int)) + (cs[j].f1.size : Int)) = 1 + (cs[j].f0.size : Int) + (cs[j].f1.size : Int):=by
   rw [i64_id (x:=1 + (cs[j].f0.size : Int)) (by omega) (by omega),i64_id (by omega) (by omega)]
  obtain ⟨n',h1,h2⟩:=small_in l L i cs hcs hg m (j + 1) (wrap64 (n + (1 + (cs[j].f0.size : Int) + (cs[j].f1.size : Int)))) (by omega)
  refine ⟨n',fun r hr=>Ev.step (fun k=>?_) (h1 r hr),fun hn hb=>?_⟩
  ·rw [bosunlaw18_Small.l1,if_pos (by omega),if_pos (by omega),if_pos (by omega),hw,rdC cs j hj,we]
  ·have e : wrap64 (n + (1 + (cs[j].f0.size : Int) + (cs[j].f1.size : Int))) = n + (1 + (cs[j].f0.size : Int) + (cs[j].f1.size : Int)):=i64_id (by omega) (by omega)
   rw [e] at h2
   rw [h2 (by omega) (by omega),List.drop_eq_getElem_cons hj,cSum]
   omega
theorem small_loop (l : List Pod) (hl : l.length ≤ 9223372036854775806) (hg : ∀ p ∈ l,G98 p) : ∀ (m i : Nat) (n : Int),i + m = l.length →
  ∃ r,Ev (fun k=>bosunlaw18_Small.l0 k n l (l.length : Int) (i : Int)) r ∧ (r = true → 0 ≤ n → n ≤ 20000 → Sane (l.drop i))
 | 0,i,n,h=>⟨true,Ev.step (fun k=>by rw [bosunlaw18_Small.l0,if_neg (by omega)]) (Ev.now _),fun _ _ _=>by rw [List.drop_eq_nil_of_le (by omega)];trivial⟩
 | m + 1,i,n,h=>by
  have hi : i < l.length:=by omega
  obtain ⟨g0,g1,g2,_,_,g5,_,g6⟩:=hg l[i] (List.getElem_mem hi)
  have hw : wrap64 ((i : Int) + 1) = ((i + 1 : Nat) : Int):=by rw [i64_id (by omega) (by omega)];omega
  have we : wrap64 (wrap64 (wrap64 (1 + (l[i].f0.size : Int)) + (l[i].f1.size : Int)) + (l[i].f2.size : Int)) = 1 + (l[i].f0.size : Int) + (l[i].f1.size : Int) + (l[i].f2.size : Int):=by
   rw [i64_id (x:=1 + (l[i].f0.size : Int)) (by omega) (by omega),i64_id (x:=1 + (l[i].f0.size : Int) + (l[i].f1.size : Int)) (by omega) (by omega),i64_id (by omega) (by omega)]
  obtain ⟨n',h1,h2⟩:=small_in l (l.length : Int) (i : Int) l[i].f5 (by omega) g6 l[i].f5.length 0 (wrap64 (n + (1 + (l[i].f0.size : Int) + (l[i].f1.size : Int) + (l[i].f2.size : Int)))) (by omega)
  rw [hw] at h1
  have go : ∀ r,Ev (fun k=>if n' > 20000 then some false else bosunlaw18_Small.l0 k n' l (l.length : Int) ((i + 1 : Nat) : Int)) r → Ev (fun k=>bosunlaw18_Small.l0 k n l (l.length : Int) (i : Int)) r:=fun r hr=>Ev.step (fun k=>by
   rw [bosunlaw18_Small.l0,if_pos (by omega),if_pos (by omega),if_pos (by omega),rdP l i hi,we];rfl) (h1 r hr)
  by_cases hx : n' > 20000
  ·exact ⟨false,go _ (Ev.congr (fun k=>by rw [if_pos hx]) (Ev.now _)),fun q=>by cases q⟩
  ·obtain ⟨r,q1,q2⟩:=small_loop l hl hg m (i + 1) n' (by omega)
   refine ⟨r,go _ (Ev.congr (fun k=>by rw [if_neg hx]) q1),fun hr hn0 hn1=>?_⟩
   rw [List.drop_eq_getElem_cons hi]
   refine ⟨⟨g0,g1,g2⟩,fun h16=>?_⟩
   have e : wrap64 (n + (1 + (l[i].f0.size : Int) + (l[i].f1.size : Int) + (l[i].f2.size : Int))) = n + (1 + (l[i].f0.size : Int) + (l[i].f1.size : Int) + (l[i].f2.size : Int)):=i64_id (by omega) (by omega)
   rw [e] at h2
   have h2':=h2 (by omega) (by omega)
   rw [List.drop_zero] at h2'
   refine ⟨fun c hc=>?_,q2 hr (by omega) (by omega)⟩
   have:=cSum_mem _ c hc
   exact ⟨by omega,by omega⟩
theorem small_ev (l : List Pod) (a : Int) (hl : l.length ≤ 9223372036854775806) (hg : ∀ p ∈ l,G98 p) : ∃ r,Ev (fun k=>bosunlaw18_Small.f k a l) r ∧ (r = true → Sane l):=by
 obtain ⟨r,h1,h2⟩:=small_loop l hl hg l.length 0 0 (by omega)
 exact ⟨r,h1,fun q=>h2 q (by omega) (by omega)⟩
end Go.Proofs.YtpmbdcljphpcnaaDoor.Pure
namespace Go.Proofs.YtpmbdcljphpcnaaDoor.Pure
open Go.RowKit Go.Proofs.YtpmbdcljphpcnaaDoor.GC2 Go.Proofs.YtpmbdcljphpcnaaDoorW.PrintWords Go.Proofs.YtpmbdcljphpcnaaDoorW.PrintLast Go.Proofs.YtpmbdcljphpcnaaDoorW.PrintMore

theorem awake18 : Ev (fun k=>bosunlaw18_Awake.f k) true:=by
 have h : bosunlaw18_Awake.f 100 = some true:=by decide +kernel
 exact Ev.of (fun k=>bosunlaw18_Awake.mono k) h
/-- The second half: what is decoded is encoded as it was. -/
theorem half (b : ByteArray) : Ev (fun k=>bosunlaw18_CktwoBack.j1 k b) true:=by
 obtain ⟨⟨a,l,c⟩,hr,h1,h2⟩:=dec_all b
 refine Ev.step (fun k=>by rw [bosunlaw18_CktwoBack.j1]) (Ev.bind hr ?_)
 by_cases h0 : c = 0
 ·obtain ⟨g1,g2,g3,g4,g5⟩:=h1 h0
  replace g5 : checkS l = 0:=g5
  have he:=enc_ev a l g2 g3 (by have:=(check_zero g5).1;omega) (sane_of l (fun p hp=>(g4 p hp).1)) (fun p hp=>(g4 p hp).2)
  rw [if_pos g5] at he
  refine Ev.congr (fun k=>by rw [if_pos h0]) (Ev.bind he (Ev.bind awake18 ?_))
  refine Ev.congr (fun k=>by rw [if_pos rfl,if_pos rfl]) ?_
  replace g1 : b = stateB a l:=g1
  rw [← g1,beq_self_eq_true]
  exact Ev.now _
 ·obtain ⟨q1,q2⟩:=h2 h0
  replace q1 : a = 0:=q1
  replace q2 : l = []:=q2
  refine Ev.congr (fun k=>by rw [if_neg h0]) (Ev.bind awake18 ?_)
  refine Ev.congr (fun k=>by rw [if_pos rfl,if_pos q1,q2];rfl) (Ev.now _)
theorem CktwoBack : bosunlaw18_CktwoBack.Pure:=by
 rintro ⟨a,l⟩ b ⟨ha,hl8,hl,hg⟩ hb
 have ha' : 0 ≤ a ∧ a < 18446744073709551616:=by
  simp [Lit.wf,IntKind.min,IntKind.max,IntKind.bits,IntKind.signed] at ha
  omega
 replace hl8 : l.length * 80 ≤ 140737488351232:=hl8
 have hB : ∀ p ∈ l,Nums p:=fun p hp=>by
  obtain ⟨_,_,_,g3,g4,_⟩:=hg p hp
  simp [Lit.wf,IntKind.min,IntKind.max,IntKind.bits,IntKind.signed] at g3 g4
  exact ⟨⟨by omega,by omega⟩,by omega,by omega⟩
 refine Ev.rounds (g:=fun k=>bosunlaw18_CktwoBack.f k a l b) ?_
 obtain ⟨r,h1,h2⟩:=small_ev l a (by omega) hg
 refine Ev.congr (fun k=>by rw [bosunlaw18_CktwoBack.f]) (Ev.bind h1 ?_)
 have long : Ev (fun k=>bosunlaw18_CktwoBack.j0 k b true a l) true:=Ev.step (fun k=>by rw [bosunlaw18_CktwoBack.j0,if_pos rfl]) (Ev.bind awake18 (Ev.now _))
 cases r with
 | false=>exact Ev.congr (fun k=>by rw [if_neg (show ¬ (false = true) by decide)]) long
 | true =>
  refine Ev.congr (fun k=>by rw [if_pos rfl]) ?_
  by_cases hbz : (b.size : Int) > 20000
  ·rw [decide_eq_true hbz]
   exact long
  ·rw [decide_eq_false hbz]
   have hs:=h2 rfl
   refine Ev.step (fun k=>by rw [bosunlaw18_CktwoBack.j0,if_neg (show ¬ (false = true) by decide)]) (Ev.bind (enc_ev a l ha'.1 ha'.2 (by omega) hs hB) ?_)
   by_cases hc : checkS l = 0
   ·rw [if_pos hc]
    obtain ⟨c1,c2⟩:=check_zero hc
    have ho:=of_ev l a (by omega) (fun p hp=>by have:=(c2 p hp).2.1;omega)
    refine Ev.congr (fun k=>by rw [if_pos rfl]) (Ev.bind (dec_put a l ha'.1 ha'.2 hB hc) ?_)
    refine Ev.congr (fun k=>by rw [if_pos rfl]) (Ev.bind ho (Ev.bind ho ?_))
    refine Ev.congr (fun k=>by rw [same_refl,Option.bind_some,if_pos rfl]) (half b)
   ·rw [if_neg hc]
    exact Ev.congr (fun k=>by rw [if_neg hc]) (half b)
end Go.Proofs.YtpmbdcljphpcnaaDoor.Pure
