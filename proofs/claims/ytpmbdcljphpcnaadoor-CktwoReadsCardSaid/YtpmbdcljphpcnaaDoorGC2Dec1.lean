/- cktwo.Decode's outer closure: its contract. No conditions beside those stated. -/
import Derived.Test.YtpmbdcljphpcnaaDoorGC2Dec11
namespace Go.Proofs.YtpmbdcljphpcnaaDoor.GC2
open Go.RowKit Go.Proofs.YtpmbdcljphpcnaaDoorW.PrintWords Go.Proofs.YtpmbdcljphpcnaaDoorW.PrintLast Go.Proofs.YtpmbdcljphpcnaaDoorW.PrintMore
set_option linter.unusedVariables false
set_option linter.unusedSimpArgs false
section
variable {w0 w w' : World} {gT gt gs gf gr gp : Nat} {rest : ByteArray} {err seq : Int} {full : Bool} {ok : Nat → Prop} {us : Value} {ps : List Pod2}
theorem OutI.fresh (h : OutI w0 w gT gt gs gf gr rest err seq full ok us ps) : OutI w0 w gT gt gs gf gr rest err seq full (fun k=>k ≠ w.heap.size) us ps :=
 ⟨h.T,h.t,h.s,h.f,h.r,Kd.dO (Kd.jP h.S w.heap.size (Nat.le_refl _)) (fun _ hk=>hk.2),h.B⟩
theorem OutI.one (h : OutI w0 w gT gt gs gf gr rest err seq full (fun k=>k ≠ gp) us ps) {cs : Array Value} (hp : w.heap[gp]? = some (.cells cs 98 (0,0))) (j : Nat) (v : Value) (hge : w0.heap.size ≤ gp) :
  OutI w0 (w.setCell ⟨gp,j,none⟩ v) gT gt gs gf gr rest err seq full (fun k=>k ≠ gp) us ps ∧ (w.setCell ⟨gp,j,none⟩ v).heap[gp]? = some (.cells (cs.setIfInBounds j v) 98 (0,0)) :=
 ⟨h.far hp (by decide) (gK h.t hp (by decide)) (gK h.s hp (by decide)) (gK h.f hp (by decide)) (gK h.r hp (by decide)) (fun _ hk=>hk) hge v,aX hp j v rfl⟩
theorem OutI.six (h : OutI w0 w gT gt gs gf gr rest err seq full (fun k=>k ≠ gp) us ps) {c0 c1 c2 c3 c4 c5 : Value} (hp : w.heap[gp]? = some (.cells #[c0,c1,c2,c3,c4,c5] 98 (0,0))) (x y z : ByteArray) (a b : Int) (hge : w0.heap.size ≤ gp) :
  ∃ w6,(((((w.setCell ⟨gp,0,none⟩ (.string x)).setCell ⟨gp,1,none⟩ (.string y)).setCell ⟨gp,2,none⟩ (.string z)).setCell ⟨gp,3,none⟩ (.int .u8 a)).setCell ⟨gp,4,none⟩ (.int .u16 b)).setCell ⟨gp,5,none⟩ (.slice none 0 0) = w6 ∧
   OutI w0 w6 gT gt gs gf gr rest err seq full (fun k=>k ≠ gp) us ps ∧ w6.heap[gp]? = some (.cells #[.string x,.string y,.string z,.int .u8 a,.int .u16 b,.slice none 0 0] 98 (0,0)):=by
 obtain ⟨h1,p1⟩:=h.one hp 0 (.string x) hge
 obtain ⟨h2,p2⟩:=h1.one p1 1 (.string y) hge
 obtain ⟨h3,p3⟩:=h2.one p2 2 (.string z) hge
 obtain ⟨h4,p4⟩:=h3.one p3 3 (.int .u8 a) hge
 obtain ⟨h5,p5⟩:=h4.one p4 4 (.int .u16 b) hge
 obtain ⟨h6,p6⟩:=h5.one p5 5 (.slice none 0 0) hge
 exact ⟨_,rfl,h6,p6⟩
theorem OutI.vH (h : OutI w0 w gT gt gs gf gr rest err seq full ok us ps) (b : Bool) (hge : w0.heap.size ≤ gf) : OutI w0 (w.setCell ⟨gf,0,none⟩ (.bool b)) gT gt gs gf gr rest err seq b ok us ps :=
 ⟨h.T.far (h.T.fK h.f (by decide)) _,aJ h.t (gK h.t h.f (by decide)) _,aJ h.s (gK h.s h.f (by decide)) _,aX h.f 0 _ rfl,aJ h.r (gK h.r h.f (by decide)) _,
  Kd.qZ h.S h.f (by decide) 0 _,aA h.B hge⟩
theorem OutI.push {v1 : Value} {ps' : List Pod2} {ok' : Nat → Prop} (h : OutI w0 w gT gt gs gf gr rest err seq full ok us ps) (ho : Kd.S k98 98 w' w0.heap.size ok' v1 ps') (hb : Below w0.heap.size w0 w') (hg : w.grownBy w' us.ownBlock) (hge : w0.heap.size ≤ gs) (hne : gr ≠ gs) :
  OutI w0 (w'.setCell ⟨gs,1,none⟩ v1) gT gt gs gf gr rest err seq full ok' v1 ps' :=
 have hs:=dS h.s hg (Kd.lH h.S h.s (by decide))
 have hT:=h.T.grown hg (h.T.vE h.S (by decide))
 ⟨hT.far (hT.fK hs (by decide)) _,aJ (dS h.t hg (Kd.lH h.S h.t (by decide))) (gK h.t h.s (by decide)) _,aX hs 1 v1 rfl,aJ (dS h.f hg (Kd.lH h.S h.f (by decide))) (gK h.f h.s (by decide)) _,
  aJ (dS h.r hg (Kd.lH h.S h.r (by decide))) hne _,Kd.qZ ho hs (by decide) 1 _,aA hb hge⟩
end
theorem ko {α : Type} {step : α → Option α} {err : α → Int} {most v : Int} {a : α} {r : Bool × α} (h : jS step err most v a = some r) : if wrap64 v > most then r.1 = false ∧ r.2 = a else r.1 = true ∧ runN step err (wrap64 v).toNat a = some r.2:=by
 unfold jS at h
 split at h
 ·rw [if_pos (by assumption)]
  obtain rfl:=Option.some.inj h
  exact ⟨rfl,rfl⟩
 ·rw [if_neg (by assumption)]
  obtain ⟨b,hb,h⟩:=Option.bind_eq_some_iff.1 h
  obtain rfl:=Option.some.inj h
  exact ⟨rfl,hb⟩
def nW.T1 : Bool × List (List Nat × List Nat):=(true,[([],[]),([0],[0]),([],[]),([2,1],[2]),([],[]),([4,3],[4]),([],[]),([6,5],[6]),([7],[7]),([],[]),([9,7],[9]),([10],[10]),([1,3,5,8,11],[1,3,5,8,11]),([],[]),([13,12,10,0,1,2,3,4,5,6,7,8,9,10,11,12,13],[12,13])])
def nW.B1 : List Nat:=[0,1,0,7,0,31,0,127,255,0,767,1791,4095,0,16383]
theorem nW.zD : iB .any (opsOf Tryd.f61 1) = nW.T1:=by kernel_rfl
theorem nW.yu : iq nW.T1.2 nW.B1 = true:=by kernel_rfl
set_option maxHeartbeats 16000000 in
set_option maxRecDepth 100000 in
theorem nW.calls (k : Nat) (w0 w : World) (gT gt gs gf gr : Nat) (rest : ByteArray) (err seq : Int) (full : Bool) (us : Value) (ps : List Pod2) (q : DS) (hgs : w0.heap.size ≤ gs) (hgf : w0.heap.size ≤ gf) (hne : gr ≠ gs)
  (hI : OutI w0 w gT gt gs gf gr rest err seq full (fun _=>True) us ps) (h : iy k (rest,err,full,ps) = some q) :
  Calls Tryd.prog 61 #[.pointer (some ⟨gf,0,none⟩),.pointer (some ⟨gt,0,none⟩),.pointer (some ⟨gs,0,none⟩)] w fun e w'=>e = .returned (.tuple #[]) ∧ ∃ us',OutI w0 w' gT gt gs gf gr q.1 q.2.1 seq q.2.2.1 (fun _=>True) us' q.2.2.2:=by
 have hcf : w.cell? ⟨gf,0,none⟩ = some (.bool full):=(ay hI.f 0).trans rfl
 have HGS:=Aside0.mk hgs
 have HGF:=Aside0.mk hgf
 have HNE:=Aside0.mk hne
 clear hgs hgf hne
 cases full with
 | true =>
  rw [iy,if_pos rfl] at h
  obtain rfl:=Option.some.inj h
  have HI:=Aside0.mk hI
  clear hI h
  go_enter Tryd.func61,Tryd.ntmps61
  go_wp2
  refine bodyPost_ret (results_none rfl _ _ _) rfl ?_
  exact ⟨rfl,us,HI.out⟩
 | false =>
  rw [iy,if_neg (show ¬ (false = true) by decide)] at h
  obtain ⟨x,hx,h⟩:=Option.bind_eq_some_iff.1 h
  obtain ⟨y,hy,h⟩:=Option.bind_eq_some_iff.1 h
  obtain ⟨z,hz,h⟩:=Option.bind_eq_some_iff.1 h
  obtain ⟨v,hv,h⟩:=Option.bind_eq_some_iff.1 h
  obtain ⟨g,hg,h⟩:=Option.bind_eq_some_iff.1 h
  obtain ⟨m,hm,h⟩:=Option.bind_eq_some_iff.1 h
  obtain ⟨r,hr,h⟩:=Option.bind_eq_some_iff.1 h
  have hl : ps.length < 1759218604441:=Decidable.by_contra fun hn=>by rw [if_neg hn] at h;cases h
  rw [if_pos hl] at h
  have HL:=Aside0.mk hl
  obtain ⟨vb,hvb⟩ : ∃ vb,IntKind.u8.wrap v.1 = vb:=⟨_,rfl⟩
  obtain ⟨gb,hgb⟩ : ∃ gb,IntKind.u16.wrap g.1 = gb:=⟨_,rfl⟩
  rw [hvb,hgb] at h
  have HVB:=Aside0.mk hvb
  have HGB:=Aside0.mk hgb
  clear hvb hgb
  obtain rfl:=Option.some.inj h
  have HR:=Aside0.mk (ko hr)
  have HI:=Aside0.mk hI.drew
  have HM:=Aside0.mk hm
  clear hI h hl hr hm
  go_enter Tryd.func61,Tryd.ntmps61
  go_upto_region 1 with (fail)
  clear hcf
  refine ji (n:=15) (S:=fun w'=>w'.cell? ⟨gt,0,none⟩ = some (.pointer (some ⟨gT,0,none⟩))) (ds:=[]) #[false,false,false,false,false,false,false,false,false,false,false,false,false,false,false] (by kernel_rfl) rfl rfl ((ay HI.out.t 0).trans rfl) (fun hHeld=>?_)
  refine gM nW.zD nW.yu (fun HT_ HW_=>?_)
  generalize w.drew = w1 at HI hHeld ⊢
  refine gN (i:=0) (N:=some 5) (v:=?_) (a':=?_) #[true,false,false,false,false,false,false,false,false,false,false,false,false,false,false] rfl rfl (eZ HT_.out HW_.out (by kernel_rfl)) (fun _ _ _ h=>h) (Or.inl ⟨by rfl,?_⟩) hHeld ?_ ?_
  rotate_left
  ·intro w' s0
   go_simp
   with_reducible rfl
  rotate_left
  ·simp only [Act.put,List.setIfInBounds_toArray,List.set_cons_zero,List.set_cons_succ,bI,bN]
   rfl
  refine gN (i:=2) (N:=some 7) (v:=?_) (a':=?_) #[true,false,true,false,false,false,false,false,false,false,false,false,false,false,false] rfl rfl (eZ HT_.out HW_.out (by kernel_rfl)) (fun _ _ _ h=>h) (Or.inl ⟨by rfl,?_⟩) hHeld ?_ ?_
  rotate_left
  ·intro w' s0
   go_simp
   with_reducible rfl
  rotate_left
  ·simp only [Act.put,List.setIfInBounds_toArray,List.set_cons_zero,List.set_cons_succ,bI,bN]
   rfl
  refine gN (i:=4) (N:=some 9) (v:=?_) (a':=?_) #[true,false,true,false,true,false,false,false,false,false,false,false,false,false,false] rfl rfl (eZ HT_.out HW_.out (by kernel_rfl)) (fun _ _ _ h=>h) (Or.inl ⟨by rfl,?_⟩) hHeld ?_ ?_
  rotate_left
  ·intro w' s0
   go_simp
   with_reducible rfl
  rotate_left
  ·simp only [Act.put,List.setIfInBounds_toArray,List.set_cons_zero,List.set_cons_succ,bI,bN]
   rfl
  refine gN (i:=6) (N:=some 11) (v:=?_) (a':=?_) #[true,false,true,false,true,false,true,false,false,false,false,false,false,false,false] rfl rfl (eZ HT_.out HW_.out (by kernel_rfl)) (fun _ _ _ h=>h) (Or.inl ⟨by rfl,?_⟩) hHeld ?_ ?_
  rotate_left
  ·intro w' s0
   go_simp
   with_reducible rfl
  rotate_left
  ·simp only [Act.put,List.setIfInBounds_toArray,List.set_cons_zero,List.set_cons_succ,bI,bN]
   rfl
  refine gN (i:=9) (N:=some 14) (v:=?_) (a':=?_) #[true,false,true,false,true,false,true,false,false,true,false,false,false,false,false] rfl rfl (eZ HT_.out HW_.out (by kernel_rfl)) (fun _ _ _ h=>h) (Or.inl ⟨by rfl,?_⟩) hHeld ?_ ?_
  rotate_left
  ·intro w' s0
   go_simp
   with_reducible rfl
  rotate_left
  ·simp only [Act.put,List.setIfInBounds_toArray,List.set_cons_zero,List.set_cons_succ,bI,bN]
   rfl
  refine xR (σ:=Nat) 1 #[true,true,true,true,true,true,true,true,true,true,true,true,true,true,false] (fun gp=>[(6,.string x.1),(8,.string y.1),(10,.string z.1),(12,.int .u64 v.1),(13,.int .u8 (IntKind.u8.wrap v.1)),(15,.int .u64 g.1),(16,.int .u16 (IntKind.u16.wrap g.1)),(17,.agg #[.string x.1,.string y.1,.string z.1,.int .u8 (IntKind.u8.wrap v.1),.int .u16 (IntKind.u16.wrap g.1),.slice none 0 0]),(3,.pointer (some ⟨gp,0,none⟩))]) (fun gp w'=>Aside0 (OutI w0 w' gT gt gs gf gr g.2.1 g.2.2 seq false (fun k=>k ≠ gp) us ps) ∧ Aside0 (w'.heap[gp]? = some (.cells #[.string (⟨#[]⟩ : ByteArray),.string (⟨#[]⟩ : ByteArray),.string (⟨#[]⟩ : ByteArray),.int .u8 0,.int .u16 0,.slice none 0 0] 98 (0,0))) ∧ Aside0 (w0.heap.size ≤ gp)) ?_ ?_
  rotate_left
  ·intro hCont
   refine tC (i:=1) (j:=13) (Ni:=some 6) (Nj:=some 3) #[true,true,true,false,true,false,true,false,false,true,false,false,false,false,false] #[true,false,true,false,true,false,true,false,false,true,false,false,false,true,false] rfl rfl rfl rfl (mW HT_.out (by kernel_rfl)) (by decide) (by decide) (fun K hK=>?_) (fun K hK=>?_)
   ·skip
    refine fD Tryd.func49 (by kernel_rfl) rfl #[.pointer (some ⟨gT,0,none⟩)] (by rfl) rfl rfl (by (try simp only [List.map_toArray,List.map_cons,List.map_nil]);first | done | rfl) ?_
    refine (bL.calls k gT rest err _ _ _ w0 _ HI.out.T HI.out.B hx).mono ?_
    rintro e wa ⟨rfl,hi,hb,hk⟩
    refine ⟨_,rfl,?_⟩
    replace HI:=Aside0.mk (HI.out.taker hi hb hk)
    clear hi hb hk
    refine hK.out _ _ ((ay HI.out.t 0).trans rfl) (fun hHeld=>?_)
    clear hK K
    refine eG (a':=?_) ?_ ?_
    rotate_left
    ·show Act.put _ (some 6) _ = _
     simp only [Act.put,List.setIfInBounds_toArray,List.set_cons_zero,List.set_cons_succ,bI,bN]
     rfl
    refine tC (i:=3) (j:=13) (Ni:=some 8) (Nj:=some 3) #[true,true,true,true,true,false,true,false,false,true,false,false,false,false,false] #[true,true,true,false,true,false,true,false,false,true,false,false,false,true,false] rfl rfl rfl rfl (mW HT_.out (by kernel_rfl)) (by decide) (by decide) (fun K hK=>?_) (fun K hK=>?_)
    ·skip
     refine fD Tryd.func49 (by kernel_rfl) rfl #[.pointer (some ⟨gT,0,none⟩)] (by rfl) rfl rfl (by (try simp only [List.map_toArray,List.map_cons,List.map_nil]);first | done | rfl) ?_
     refine (bL.calls k gT x.2.1 x.2.2 _ _ _ w0 _ HI.out.T HI.out.B hy).mono ?_
     rintro e wb ⟨rfl,hi,hb,hk⟩
     refine ⟨_,rfl,?_⟩
     replace HI:=Aside0.mk (HI.out.taker hi hb hk)
     clear hi hb hk
     refine hK.out _ _ ((ay HI.out.t 0).trans rfl) (fun hHeld=>?_)
     clear hK K
     refine eG (a':=?_) ?_ ?_
     rotate_left
     ·show Act.put _ (some 8) _ = _
      simp only [Act.put,List.setIfInBounds_toArray,List.set_cons_zero,List.set_cons_succ,bI,bN]
      rfl
     refine tC (i:=5) (j:=13) (Ni:=some 10) (Nj:=some 3) #[true,true,true,true,true,true,true,false,false,true,false,false,false,false,false] #[true,true,true,true,true,false,true,false,false,true,false,false,false,true,false] rfl rfl rfl rfl (mW HT_.out (by kernel_rfl)) (by decide) (by decide) (fun K hK=>?_) (fun K hK=>?_)
     ·skip
      refine fD Tryd.func49 (by kernel_rfl) rfl #[.pointer (some ⟨gT,0,none⟩)] (by rfl) rfl rfl (by (try simp only [List.map_toArray,List.map_cons,List.map_nil]);first | done | rfl) ?_
      refine (bL.calls k gT y.2.1 y.2.2 _ _ _ w0 _ HI.out.T HI.out.B hz).mono ?_
      rintro e wc ⟨rfl,hi,hb,hk⟩
      refine ⟨_,rfl,?_⟩
      replace HI:=Aside0.mk (HI.out.taker hi hb hk)
      clear hi hb hk
      refine hK.out _ _ ((ay HI.out.t 0).trans rfl) (fun hHeld=>?_)
      clear hK K
      refine eG (a':=?_) ?_ ?_
      rotate_left
      ·show Act.put _ (some 10) _ = _
       simp only [Act.put,List.setIfInBounds_toArray,List.set_cons_zero,List.set_cons_succ,bI,bN]
       rfl
      refine tC (i:=7) (j:=13) (Ni:=some 12) (Nj:=some 3) #[true,true,true,true,true,true,true,true,false,true,false,false,false,false,false] #[true,true,true,true,true,true,true,false,false,true,false,false,false,true,false] rfl rfl rfl rfl (mW HT_.out (by kernel_rfl)) (by decide) (by decide) (fun K hK=>?_) (fun K hK=>?_)
      ·skip
       refine fD Tryd.func48 (by kernel_rfl) rfl #[.pointer (some ⟨gT,0,none⟩),.int .i64 1] (by rfl) rfl rfl (by (try simp only [List.map_toArray,List.map_cons,List.map_nil]);first | done | rfl) ?_
       refine (aR.calls k gT z.2.1 z.2.2 1 _ _ _ w0 _ HI.out.T HI.out.B hv).mono ?_
       rintro e wd ⟨rfl,hi,hb,hk⟩
       refine ⟨_,rfl,?_⟩
       replace HI:=Aside0.mk (HI.out.taker hi hb hk)
       clear hi hb hk
       refine hK.out _ _ ((ay HI.out.t 0).trans rfl) (fun hHeld=>?_)
       clear hK K
       refine eG (a':=?_) ?_ ?_
       rotate_left
       ·show Act.put _ (some 12) _ = _
        simp only [Act.put,List.setIfInBounds_toArray,List.set_cons_zero,List.set_cons_succ,bI,bN]
        rfl
       refine dH (i:=8) (N:=some 13) (v:=?_) (a':=?_) #[true,true,true,true,true,true,true,true,true,true,false,false,false,false,false] rfl rfl (dn HT_.out (by kernel_rfl)) (fun _ _ _ h=>h) (Or.inl ⟨by rfl,?_⟩) ?_ ?_
       rotate_left
       ·intro w'
        go_simp
        with_reducible rfl
       rotate_left
       ·simp only [Act.put,List.setIfInBounds_toArray,List.set_cons_zero,List.set_cons_succ,bI,bN]
        rfl
       refine tC (i:=10) (j:=13) (Ni:=some 15) (Nj:=some 3) #[true,true,true,true,true,true,true,true,true,true,true,false,false,false,false] #[true,true,true,true,true,true,true,true,true,true,false,false,false,true,false] rfl rfl rfl rfl (mW HT_.out (by kernel_rfl)) (by decide) (by decide) (fun K hK=>?_) (fun K hK=>?_)
       ·skip
        refine fD Tryd.func48 (by kernel_rfl) rfl #[.pointer (some ⟨gT,0,none⟩),.int .i64 2] (by rfl) rfl rfl (by (try simp only [List.map_toArray,List.map_cons,List.map_nil]);first | done | rfl) ?_
        refine (aR.calls k gT v.2.1 v.2.2 2 _ _ _ w0 _ HI.out.T HI.out.B hg).mono ?_
        rintro e we ⟨rfl,hi,hb,hk⟩
        refine ⟨_,rfl,?_⟩
        replace HI:=Aside0.mk (HI.out.taker hi hb hk)
        clear hi hb hk
        refine hK.out _ _ ((ay HI.out.t 0).trans rfl) (fun hHeld=>?_)
        clear hK K
        refine eG (a':=?_) ?_ ?_
        rotate_left
        ·show Act.put _ (some 15) _ = _
         simp only [Act.put,List.setIfInBounds_toArray,List.set_cons_zero,List.set_cons_succ,bI,bN]
         rfl
        refine dH (i:=11) (N:=some 16) (v:=?_) (a':=?_) #[true,true,true,true,true,true,true,true,true,true,true,true,false,false,false] rfl rfl (dn HT_.out (by kernel_rfl)) (fun _ _ _ h=>h) (Or.inl ⟨by rfl,?_⟩) ?_ ?_
        rotate_left
        ·intro w'
         go_simp
         with_reducible rfl
        rotate_left
        ·simp only [Act.put,List.setIfInBounds_toArray,List.set_cons_zero,List.set_cons_succ,bI,bN]
         rfl
        refine dH (i:=12) (N:=some 17) (v:=?_) (a':=?_) #[true,true,true,true,true,true,true,true,true,true,true,true,true,false,false] rfl rfl (dn HT_.out (by kernel_rfl)) (fun _ _ _ h=>h) (Or.inl ⟨by rfl,?_⟩) ?_ ?_
        rotate_left
        ·intro w'
         go_simp
         with_reducible rfl
        rotate_left
        ·simp only [Act.put,List.setIfInBounds_toArray,List.set_cons_zero,List.set_cons_succ,bI,bN]
         rfl
        refine gH (i:=13) (N:=some 3) #[true,true,true,true,true,true,true,true,true,true,true,true,true,true,false] rfl rfl (eF HT_.out (by kernel_rfl)) (by decide) (fun K hK=>?_)
        refine kK (w1:=?_) (v:=?_) (by rfl) rfl ?_ ?_
        rotate_left 2
        ·go_simp
         constructor
         ·rfl
         ·rfl
        have HG:=Aside0.mk (aW HI.out.B)
        have HP:=Aside0.mk (ig we (.cells #[.string (⟨#[]⟩ : ByteArray),.string (⟨#[]⟩ : ByteArray),.string (⟨#[]⟩ : ByteArray),.int .u8 0,.int .u16 0,.slice none 0 0] 98))
        replace HI:=Aside0.mk (HI.out.fresh.alloc (.cells #[.string (⟨#[]⟩ : ByteArray),.string (⟨#[]⟩ : ByteArray),.string (⟨#[]⟩ : ByteArray),.int .u8 0,.int .u16 0,.slice none 0 0] 98))
        refine hK.out _ _ ((ay HI.out.t 0).trans rfl) (fun hHeld=>?_)
        clear hK K
        refine eG (a':=?_) ?_ ?_
        rotate_left
        ·show Act.put _ (some 3) _ = _
         simp only [Act.put,List.setIfInBounds_toArray,List.set_cons_zero,List.set_cons_succ,bI,bN]
         rfl
        exact eG (by simp only [jk,Act.put,List.setIfInBounds_toArray,List.set_cons_zero,List.set_cons_succ]) (hCont we.heap.size _ ⟨HI,HP,HG⟩)
       ·skip
        refine kK (w1:=?_) (v:=?_) (by rfl) rfl ?_ ?_
        rotate_left 2
        ·go_simp
         constructor
         ·rfl
         ·rfl
        have HG:=Aside0.mk (aW HI.out.B)
        have HP:=Aside0.mk (ig wd (.cells #[.string (⟨#[]⟩ : ByteArray),.string (⟨#[]⟩ : ByteArray),.string (⟨#[]⟩ : ByteArray),.int .u8 0,.int .u16 0,.slice none 0 0] 98))
        replace HI:=Aside0.mk (HI.out.fresh.alloc (.cells #[.string (⟨#[]⟩ : ByteArray),.string (⟨#[]⟩ : ByteArray),.string (⟨#[]⟩ : ByteArray),.int .u8 0,.int .u16 0,.slice none 0 0] 98))
        refine hK.out _ _ ((ay HI.out.t 0).trans rfl) (fun hHeld=>?_)
        clear hK K
        refine eG (a':=?_) ?_ ?_
        rotate_left
        ·show Act.put _ (some 3) _ = _
         simp only [Act.put,List.setIfInBounds_toArray,List.set_cons_zero,List.set_cons_succ,bI,bN]
         rfl
        refine gH (i:=10) (N:=some 15) #[true,true,true,true,true,true,true,true,true,true,true,false,false,true,false] rfl rfl (eF HT_.out (by kernel_rfl)) (by decide) (fun K hK=>?_)
        refine fD Tryd.func48 (by kernel_rfl) rfl #[.pointer (some ⟨gT,0,none⟩),.int .i64 2] (by rfl) rfl rfl (by (try simp only [List.map_toArray,List.map_cons,List.map_nil]);first | done | rfl) ?_
        refine (aR.calls k gT v.2.1 v.2.2 2 _ _ _ w0 _ HI.out.T HI.out.B hg).mono ?_
        rintro e we ⟨rfl,hi,hb,hk⟩
        refine ⟨_,rfl,?_⟩
        replace HP:=Aside0.mk (bO.blk hk HP.out (Ne.symm (HI.out.T.fK HP.out (by decide))) (by simp))
        replace HI:=Aside0.mk (HI.out.taker hi hb hk)
        clear hi hb hk
        refine hK.out _ _ ((ay HI.out.t 0).trans rfl) (fun hHeld=>?_)
        clear hK K
        refine eG (a':=?_) ?_ ?_
        rotate_left
        ·show Act.put _ (some 15) _ = _
         simp only [Act.put,List.setIfInBounds_toArray,List.set_cons_zero,List.set_cons_succ,bI,bN]
         rfl
        refine dH (i:=11) (N:=some 16) (v:=?_) (a':=?_) #[true,true,true,true,true,true,true,true,true,true,true,true,false,true,false] rfl rfl (dn HT_.out (by kernel_rfl)) (fun _ _ _ h=>h) (Or.inl ⟨by rfl,?_⟩) ?_ ?_
        rotate_left
        ·intro w'
         go_simp
         with_reducible rfl
        rotate_left
        ·simp only [Act.put,List.setIfInBounds_toArray,List.set_cons_zero,List.set_cons_succ,bI,bN]
         rfl
        refine dH (i:=12) (N:=some 17) (v:=?_) (a':=?_) #[true,true,true,true,true,true,true,true,true,true,true,true,true,true,false] rfl rfl (dn HT_.out (by kernel_rfl)) (fun _ _ _ h=>h) (Or.inl ⟨by rfl,?_⟩) ?_ ?_
        rotate_left
        ·intro w'
         go_simp
         with_reducible rfl
        rotate_left
        ·simp only [Act.put,List.setIfInBounds_toArray,List.set_cons_zero,List.set_cons_succ,bI,bN]
         rfl
        exact eG (by simp only [jk,Act.put,List.setIfInBounds_toArray,List.set_cons_zero,List.set_cons_succ]) (hCont wd.heap.size _ ⟨HI,HP,HG⟩)
      ·skip
       refine kK (w1:=?_) (v:=?_) (by rfl) rfl ?_ ?_
       rotate_left 2
       ·go_simp
        constructor
        ·rfl
        ·rfl
       have HG:=Aside0.mk (aW HI.out.B)
       have HP:=Aside0.mk (ig wc (.cells #[.string (⟨#[]⟩ : ByteArray),.string (⟨#[]⟩ : ByteArray),.string (⟨#[]⟩ : ByteArray),.int .u8 0,.int .u16 0,.slice none 0 0] 98))
       replace HI:=Aside0.mk (HI.out.fresh.alloc (.cells #[.string (⟨#[]⟩ : ByteArray),.string (⟨#[]⟩ : ByteArray),.string (⟨#[]⟩ : ByteArray),.int .u8 0,.int .u16 0,.slice none 0 0] 98))
       refine hK.out _ _ ((ay HI.out.t 0).trans rfl) (fun hHeld=>?_)
       clear hK K
       refine eG (a':=?_) ?_ ?_
       rotate_left
       ·show Act.put _ (some 3) _ = _
        simp only [Act.put,List.setIfInBounds_toArray,List.set_cons_zero,List.set_cons_succ,bI,bN]
        rfl
       refine gH (i:=7) (N:=some 12) #[true,true,true,true,true,true,true,true,false,true,false,false,false,true,false] rfl rfl (eF HT_.out (by kernel_rfl)) (by decide) (fun K hK=>?_)
       refine fD Tryd.func48 (by kernel_rfl) rfl #[.pointer (some ⟨gT,0,none⟩),.int .i64 1] (by rfl) rfl rfl (by (try simp only [List.map_toArray,List.map_cons,List.map_nil]);first | done | rfl) ?_
       refine (aR.calls k gT z.2.1 z.2.2 1 _ _ _ w0 _ HI.out.T HI.out.B hv).mono ?_
       rintro e wd ⟨rfl,hi,hb,hk⟩
       refine ⟨_,rfl,?_⟩
       replace HP:=Aside0.mk (bO.blk hk HP.out (Ne.symm (HI.out.T.fK HP.out (by decide))) (by simp))
       replace HI:=Aside0.mk (HI.out.taker hi hb hk)
       clear hi hb hk
       refine hK.out _ _ ((ay HI.out.t 0).trans rfl) (fun hHeld=>?_)
       clear hK K
       refine eG (a':=?_) ?_ ?_
       rotate_left
       ·show Act.put _ (some 12) _ = _
        simp only [Act.put,List.setIfInBounds_toArray,List.set_cons_zero,List.set_cons_succ,bI,bN]
        rfl
       refine dH (i:=8) (N:=some 13) (v:=?_) (a':=?_) #[true,true,true,true,true,true,true,true,true,true,false,false,false,true,false] rfl rfl (dn HT_.out (by kernel_rfl)) (fun _ _ _ h=>h) (Or.inl ⟨by rfl,?_⟩) ?_ ?_
       rotate_left
       ·intro w'
        go_simp
        with_reducible rfl
       rotate_left
       ·simp only [Act.put,List.setIfInBounds_toArray,List.set_cons_zero,List.set_cons_succ,bI,bN]
        rfl
       refine gH (i:=10) (N:=some 15) #[true,true,true,true,true,true,true,true,true,true,true,false,false,true,false] rfl rfl (eF HT_.out (by kernel_rfl)) (by decide) (fun K hK=>?_)
       refine fD Tryd.func48 (by kernel_rfl) rfl #[.pointer (some ⟨gT,0,none⟩),.int .i64 2] (by rfl) rfl rfl (by (try simp only [List.map_toArray,List.map_cons,List.map_nil]);first | done | rfl) ?_
       refine (aR.calls k gT v.2.1 v.2.2 2 _ _ _ w0 _ HI.out.T HI.out.B hg).mono ?_
       rintro e we ⟨rfl,hi,hb,hk⟩
       refine ⟨_,rfl,?_⟩
       replace HP:=Aside0.mk (bO.blk hk HP.out (Ne.symm (HI.out.T.fK HP.out (by decide))) (by simp))
       replace HI:=Aside0.mk (HI.out.taker hi hb hk)
       clear hi hb hk
       refine hK.out _ _ ((ay HI.out.t 0).trans rfl) (fun hHeld=>?_)
       clear hK K
       refine eG (a':=?_) ?_ ?_
       rotate_left
       ·show Act.put _ (some 15) _ = _
        simp only [Act.put,List.setIfInBounds_toArray,List.set_cons_zero,List.set_cons_succ,bI,bN]
        rfl
       refine dH (i:=11) (N:=some 16) (v:=?_) (a':=?_) #[true,true,true,true,true,true,true,true,true,true,true,true,false,true,false] rfl rfl (dn HT_.out (by kernel_rfl)) (fun _ _ _ h=>h) (Or.inl ⟨by rfl,?_⟩) ?_ ?_
       rotate_left
       ·intro w'
        go_simp
        with_reducible rfl
       rotate_left
       ·simp only [Act.put,List.setIfInBounds_toArray,List.set_cons_zero,List.set_cons_succ,bI,bN]
        rfl
       refine dH (i:=12) (N:=some 17) (v:=?_) (a':=?_) #[true,true,true,true,true,true,true,true,true,true,true,true,true,true,false] rfl rfl (dn HT_.out (by kernel_rfl)) (fun _ _ _ h=>h) (Or.inl ⟨by rfl,?_⟩) ?_ ?_
       rotate_left
       ·intro w'
        go_simp
        with_reducible rfl
       rotate_left
       ·simp only [Act.put,List.setIfInBounds_toArray,List.set_cons_zero,List.set_cons_succ,bI,bN]
        rfl
       exact eG (by simp only [jk,Act.put,List.setIfInBounds_toArray,List.set_cons_zero,List.set_cons_succ]) (hCont wc.heap.size _ ⟨HI,HP,HG⟩)
     ·skip
      refine kK (w1:=?_) (v:=?_) (by rfl) rfl ?_ ?_
      rotate_left 2
      ·go_simp
       constructor
       ·rfl
       ·rfl
      have HG:=Aside0.mk (aW HI.out.B)
      have HP:=Aside0.mk (ig wb (.cells #[.string (⟨#[]⟩ : ByteArray),.string (⟨#[]⟩ : ByteArray),.string (⟨#[]⟩ : ByteArray),.int .u8 0,.int .u16 0,.slice none 0 0] 98))
      replace HI:=Aside0.mk (HI.out.fresh.alloc (.cells #[.string (⟨#[]⟩ : ByteArray),.string (⟨#[]⟩ : ByteArray),.string (⟨#[]⟩ : ByteArray),.int .u8 0,.int .u16 0,.slice none 0 0] 98))
      refine hK.out _ _ ((ay HI.out.t 0).trans rfl) (fun hHeld=>?_)
      clear hK K
      refine eG (a':=?_) ?_ ?_
      rotate_left
      ·show Act.put _ (some 3) _ = _
       simp only [Act.put,List.setIfInBounds_toArray,List.set_cons_zero,List.set_cons_succ,bI,bN]
       rfl
      refine gH (i:=5) (N:=some 10) #[true,true,true,true,true,true,true,false,false,true,false,false,false,true,false] rfl rfl (eF HT_.out (by kernel_rfl)) (by decide) (fun K hK=>?_)
      refine fD Tryd.func49 (by kernel_rfl) rfl #[.pointer (some ⟨gT,0,none⟩)] (by rfl) rfl rfl (by (try simp only [List.map_toArray,List.map_cons,List.map_nil]);first | done | rfl) ?_
      refine (bL.calls k gT y.2.1 y.2.2 _ _ _ w0 _ HI.out.T HI.out.B hz).mono ?_
      rintro e wc ⟨rfl,hi,hb,hk⟩
      refine ⟨_,rfl,?_⟩
      replace HP:=Aside0.mk (bO.blk hk HP.out (Ne.symm (HI.out.T.fK HP.out (by decide))) (by simp))
      replace HI:=Aside0.mk (HI.out.taker hi hb hk)
      clear hi hb hk
      refine hK.out _ _ ((ay HI.out.t 0).trans rfl) (fun hHeld=>?_)
      clear hK K
      refine eG (a':=?_) ?_ ?_
      rotate_left
      ·show Act.put _ (some 10) _ = _
       simp only [Act.put,List.setIfInBounds_toArray,List.set_cons_zero,List.set_cons_succ,bI,bN]
       rfl
      refine gH (i:=7) (N:=some 12) #[true,true,true,true,true,true,true,true,false,true,false,false,false,true,false] rfl rfl (eF HT_.out (by kernel_rfl)) (by decide) (fun K hK=>?_)
      refine fD Tryd.func48 (by kernel_rfl) rfl #[.pointer (some ⟨gT,0,none⟩),.int .i64 1] (by rfl) rfl rfl (by (try simp only [List.map_toArray,List.map_cons,List.map_nil]);first | done | rfl) ?_
      refine (aR.calls k gT z.2.1 z.2.2 1 _ _ _ w0 _ HI.out.T HI.out.B hv).mono ?_
      rintro e wd ⟨rfl,hi,hb,hk⟩
      refine ⟨_,rfl,?_⟩
      replace HP:=Aside0.mk (bO.blk hk HP.out (Ne.symm (HI.out.T.fK HP.out (by decide))) (by simp))
      replace HI:=Aside0.mk (HI.out.taker hi hb hk)
      clear hi hb hk
      refine hK.out _ _ ((ay HI.out.t 0).trans rfl) (fun hHeld=>?_)
      clear hK K
      refine eG (a':=?_) ?_ ?_
      rotate_left
      ·show Act.put _ (some 12) _ = _
       simp only [Act.put,List.setIfInBounds_toArray,List.set_cons_zero,List.set_cons_succ,bI,bN]
       rfl
      refine dH (i:=8) (N:=some 13) (v:=?_) (a':=?_) #[true,true,true,true,true,true,true,true,true,true,false,false,false,true,false] rfl rfl (dn HT_.out (by kernel_rfl)) (fun _ _ _ h=>h) (Or.inl ⟨by rfl,?_⟩) ?_ ?_
      rotate_left
      ·intro w'
       go_simp
       with_reducible rfl
      rotate_left
      ·simp only [Act.put,List.setIfInBounds_toArray,List.set_cons_zero,List.set_cons_succ,bI,bN]
       rfl
      refine gH (i:=10) (N:=some 15) #[true,true,true,true,true,true,true,true,true,true,true,false,false,true,false] rfl rfl (eF HT_.out (by kernel_rfl)) (by decide) (fun K hK=>?_)
      refine fD Tryd.func48 (by kernel_rfl) rfl #[.pointer (some ⟨gT,0,none⟩),.int .i64 2] (by rfl) rfl rfl (by (try simp only [List.map_toArray,List.map_cons,List.map_nil]);first | done | rfl) ?_
      refine (aR.calls k gT v.2.1 v.2.2 2 _ _ _ w0 _ HI.out.T HI.out.B hg).mono ?_
      rintro e we ⟨rfl,hi,hb,hk⟩
      refine ⟨_,rfl,?_⟩
      replace HP:=Aside0.mk (bO.blk hk HP.out (Ne.symm (HI.out.T.fK HP.out (by decide))) (by simp))
      replace HI:=Aside0.mk (HI.out.taker hi hb hk)
      clear hi hb hk
      refine hK.out _ _ ((ay HI.out.t 0).trans rfl) (fun hHeld=>?_)
      clear hK K
      refine eG (a':=?_) ?_ ?_
      rotate_left
      ·show Act.put _ (some 15) _ = _
       simp only [Act.put,List.setIfInBounds_toArray,List.set_cons_zero,List.set_cons_succ,bI,bN]
       rfl
      refine dH (i:=11) (N:=some 16) (v:=?_) (a':=?_) #[true,true,true,true,true,true,true,true,true,true,true,true,false,true,false] rfl rfl (dn HT_.out (by kernel_rfl)) (fun _ _ _ h=>h) (Or.inl ⟨by rfl,?_⟩) ?_ ?_
      rotate_left
      ·intro w'
       go_simp
       with_reducible rfl
      rotate_left
      ·simp only [Act.put,List.setIfInBounds_toArray,List.set_cons_zero,List.set_cons_succ,bI,bN]
       rfl
      refine dH (i:=12) (N:=some 17) (v:=?_) (a':=?_) #[true,true,true,true,true,true,true,true,true,true,true,true,true,true,false] rfl rfl (dn HT_.out (by kernel_rfl)) (fun _ _ _ h=>h) (Or.inl ⟨by rfl,?_⟩) ?_ ?_
      rotate_left
      ·intro w'
       go_simp
       with_reducible rfl
      rotate_left
      ·simp only [Act.put,List.setIfInBounds_toArray,List.set_cons_zero,List.set_cons_succ,bI,bN]
       rfl
      exact eG (by simp only [jk,Act.put,List.setIfInBounds_toArray,List.set_cons_zero,List.set_cons_succ]) (hCont wb.heap.size _ ⟨HI,HP,HG⟩)
    ·skip
     refine kK (w1:=?_) (v:=?_) (by rfl) rfl ?_ ?_
     rotate_left 2
     ·go_simp
      constructor
      ·rfl
      ·rfl
     have HG:=Aside0.mk (aW HI.out.B)
     have HP:=Aside0.mk (ig wa (.cells #[.string (⟨#[]⟩ : ByteArray),.string (⟨#[]⟩ : ByteArray),.string (⟨#[]⟩ : ByteArray),.int .u8 0,.int .u16 0,.slice none 0 0] 98))
     replace HI:=Aside0.mk (HI.out.fresh.alloc (.cells #[.string (⟨#[]⟩ : ByteArray),.string (⟨#[]⟩ : ByteArray),.string (⟨#[]⟩ : ByteArray),.int .u8 0,.int .u16 0,.slice none 0 0] 98))
     refine hK.out _ _ ((ay HI.out.t 0).trans rfl) (fun hHeld=>?_)
     clear hK K
     refine eG (a':=?_) ?_ ?_
     rotate_left
     ·show Act.put _ (some 3) _ = _
      simp only [Act.put,List.setIfInBounds_toArray,List.set_cons_zero,List.set_cons_succ,bI,bN]
      rfl
     refine gH (i:=3) (N:=some 8) #[true,true,true,true,true,false,true,false,false,true,false,false,false,true,false] rfl rfl (eF HT_.out (by kernel_rfl)) (by decide) (fun K hK=>?_)
     refine fD Tryd.func49 (by kernel_rfl) rfl #[.pointer (some ⟨gT,0,none⟩)] (by rfl) rfl rfl (by (try simp only [List.map_toArray,List.map_cons,List.map_nil]);first | done | rfl) ?_
     refine (bL.calls k gT x.2.1 x.2.2 _ _ _ w0 _ HI.out.T HI.out.B hy).mono ?_
     rintro e wb ⟨rfl,hi,hb,hk⟩
     refine ⟨_,rfl,?_⟩
     replace HP:=Aside0.mk (bO.blk hk HP.out (Ne.symm (HI.out.T.fK HP.out (by decide))) (by simp))
     replace HI:=Aside0.mk (HI.out.taker hi hb hk)
     clear hi hb hk
     refine hK.out _ _ ((ay HI.out.t 0).trans rfl) (fun hHeld=>?_)
     clear hK K
     refine eG (a':=?_) ?_ ?_
     rotate_left
     ·show Act.put _ (some 8) _ = _
      simp only [Act.put,List.setIfInBounds_toArray,List.set_cons_zero,List.set_cons_succ,bI,bN]
      rfl
     refine gH (i:=5) (N:=some 10) #[true,true,true,true,true,true,true,false,false,true,false,false,false,true,false] rfl rfl (eF HT_.out (by kernel_rfl)) (by decide) (fun K hK=>?_)
     refine fD Tryd.func49 (by kernel_rfl) rfl #[.pointer (some ⟨gT,0,none⟩)] (by rfl) rfl rfl (by (try simp only [List.map_toArray,List.map_cons,List.map_nil]);first | done | rfl) ?_
     refine (bL.calls k gT y.2.1 y.2.2 _ _ _ w0 _ HI.out.T HI.out.B hz).mono ?_
     rintro e wc ⟨rfl,hi,hb,hk⟩
     refine ⟨_,rfl,?_⟩
     replace HP:=Aside0.mk (bO.blk hk HP.out (Ne.symm (HI.out.T.fK HP.out (by decide))) (by simp))
     replace HI:=Aside0.mk (HI.out.taker hi hb hk)
     clear hi hb hk
     refine hK.out _ _ ((ay HI.out.t 0).trans rfl) (fun hHeld=>?_)
     clear hK K
     refine eG (a':=?_) ?_ ?_
     rotate_left
     ·show Act.put _ (some 10) _ = _
      simp only [Act.put,List.setIfInBounds_toArray,List.set_cons_zero,List.set_cons_succ,bI,bN]
      rfl
     refine gH (i:=7) (N:=some 12) #[true,true,true,true,true,true,true,true,false,true,false,false,false,true,false] rfl rfl (eF HT_.out (by kernel_rfl)) (by decide) (fun K hK=>?_)
     refine fD Tryd.func48 (by kernel_rfl) rfl #[.pointer (some ⟨gT,0,none⟩),.int .i64 1] (by rfl) rfl rfl (by (try simp only [List.map_toArray,List.map_cons,List.map_nil]);first | done | rfl) ?_
     refine (aR.calls k gT z.2.1 z.2.2 1 _ _ _ w0 _ HI.out.T HI.out.B hv).mono ?_
     rintro e wd ⟨rfl,hi,hb,hk⟩
     refine ⟨_,rfl,?_⟩
     replace HP:=Aside0.mk (bO.blk hk HP.out (Ne.symm (HI.out.T.fK HP.out (by decide))) (by simp))
     replace HI:=Aside0.mk (HI.out.taker hi hb hk)
     clear hi hb hk
     refine hK.out _ _ ((ay HI.out.t 0).trans rfl) (fun hHeld=>?_)
     clear hK K
     refine eG (a':=?_) ?_ ?_
     rotate_left
     ·show Act.put _ (some 12) _ = _
      simp only [Act.put,List.setIfInBounds_toArray,List.set_cons_zero,List.set_cons_succ,bI,bN]
      rfl
     refine dH (i:=8) (N:=some 13) (v:=?_) (a':=?_) #[true,true,true,true,true,true,true,true,true,true,false,false,false,true,false] rfl rfl (dn HT_.out (by kernel_rfl)) (fun _ _ _ h=>h) (Or.inl ⟨by rfl,?_⟩) ?_ ?_
     rotate_left
     ·intro w'
      go_simp
      with_reducible rfl
     rotate_left
     ·simp only [Act.put,List.setIfInBounds_toArray,List.set_cons_zero,List.set_cons_succ,bI,bN]
      rfl
     refine gH (i:=10) (N:=some 15) #[true,true,true,true,true,true,true,true,true,true,true,false,false,true,false] rfl rfl (eF HT_.out (by kernel_rfl)) (by decide) (fun K hK=>?_)
     refine fD Tryd.func48 (by kernel_rfl) rfl #[.pointer (some ⟨gT,0,none⟩),.int .i64 2] (by rfl) rfl rfl (by (try simp only [List.map_toArray,List.map_cons,List.map_nil]);first | done | rfl) ?_
     refine (aR.calls k gT v.2.1 v.2.2 2 _ _ _ w0 _ HI.out.T HI.out.B hg).mono ?_
     rintro e we ⟨rfl,hi,hb,hk⟩
     refine ⟨_,rfl,?_⟩
     replace HP:=Aside0.mk (bO.blk hk HP.out (Ne.symm (HI.out.T.fK HP.out (by decide))) (by simp))
     replace HI:=Aside0.mk (HI.out.taker hi hb hk)
     clear hi hb hk
     refine hK.out _ _ ((ay HI.out.t 0).trans rfl) (fun hHeld=>?_)
     clear hK K
     refine eG (a':=?_) ?_ ?_
     rotate_left
     ·show Act.put _ (some 15) _ = _
      simp only [Act.put,List.setIfInBounds_toArray,List.set_cons_zero,List.set_cons_succ,bI,bN]
      rfl
     refine dH (i:=11) (N:=some 16) (v:=?_) (a':=?_) #[true,true,true,true,true,true,true,true,true,true,true,true,false,true,false] rfl rfl (dn HT_.out (by kernel_rfl)) (fun _ _ _ h=>h) (Or.inl ⟨by rfl,?_⟩) ?_ ?_
     rotate_left
     ·intro w'
      go_simp
      with_reducible rfl
     rotate_left
     ·simp only [Act.put,List.setIfInBounds_toArray,List.set_cons_zero,List.set_cons_succ,bI,bN]
      rfl
     refine dH (i:=12) (N:=some 17) (v:=?_) (a':=?_) #[true,true,true,true,true,true,true,true,true,true,true,true,true,true,false] rfl rfl (dn HT_.out (by kernel_rfl)) (fun _ _ _ h=>h) (Or.inl ⟨by rfl,?_⟩) ?_ ?_
     rotate_left
     ·intro w'
      go_simp
      with_reducible rfl
     rotate_left
     ·simp only [Act.put,List.setIfInBounds_toArray,List.set_cons_zero,List.set_cons_succ,bI,bN]
      rfl
     exact eG (by simp only [jk,Act.put,List.setIfInBounds_toArray,List.set_cons_zero,List.set_cons_succ]) (hCont wa.heap.size _ ⟨HI,HP,HG⟩)
   ·skip
    refine kK (w1:=?_) (v:=?_) (by rfl) rfl ?_ ?_
    rotate_left 2
    ·go_simp
     constructor
     ·rfl
     ·rfl
    have HG:=Aside0.mk (aW HI.out.B)
    have HP:=Aside0.mk (ig w1 (.cells #[.string (⟨#[]⟩ : ByteArray),.string (⟨#[]⟩ : ByteArray),.string (⟨#[]⟩ : ByteArray),.int .u8 0,.int .u16 0,.slice none 0 0] 98))
    replace HI:=Aside0.mk (HI.out.fresh.alloc (.cells #[.string (⟨#[]⟩ : ByteArray),.string (⟨#[]⟩ : ByteArray),.string (⟨#[]⟩ : ByteArray),.int .u8 0,.int .u16 0,.slice none 0 0] 98))
    refine hK.out _ _ ((ay HI.out.t 0).trans rfl) (fun hHeld=>?_)
    clear hK K
    refine eG (a':=?_) ?_ ?_
    rotate_left
    ·show Act.put _ (some 3) _ = _
     simp only [Act.put,List.setIfInBounds_toArray,List.set_cons_zero,List.set_cons_succ,bI,bN]
     rfl
    refine gH (i:=1) (N:=some 6) #[true,true,true,false,true,false,true,false,false,true,false,false,false,true,false] rfl rfl (eF HT_.out (by kernel_rfl)) (by decide) (fun K hK=>?_)
    refine fD Tryd.func49 (by kernel_rfl) rfl #[.pointer (some ⟨gT,0,none⟩)] (by rfl) rfl rfl (by (try simp only [List.map_toArray,List.map_cons,List.map_nil]);first | done | rfl) ?_
    refine (bL.calls k gT rest err _ _ _ w0 _ HI.out.T HI.out.B hx).mono ?_
    rintro e wa ⟨rfl,hi,hb,hk⟩
    refine ⟨_,rfl,?_⟩
    replace HP:=Aside0.mk (bO.blk hk HP.out (Ne.symm (HI.out.T.fK HP.out (by decide))) (by simp))
    replace HI:=Aside0.mk (HI.out.taker hi hb hk)
    clear hi hb hk
    refine hK.out _ _ ((ay HI.out.t 0).trans rfl) (fun hHeld=>?_)
    clear hK K
    refine eG (a':=?_) ?_ ?_
    rotate_left
    ·show Act.put _ (some 6) _ = _
     simp only [Act.put,List.setIfInBounds_toArray,List.set_cons_zero,List.set_cons_succ,bI,bN]
     rfl
    refine gH (i:=3) (N:=some 8) #[true,true,true,true,true,false,true,false,false,true,false,false,false,true,false] rfl rfl (eF HT_.out (by kernel_rfl)) (by decide) (fun K hK=>?_)
    refine fD Tryd.func49 (by kernel_rfl) rfl #[.pointer (some ⟨gT,0,none⟩)] (by rfl) rfl rfl (by (try simp only [List.map_toArray,List.map_cons,List.map_nil]);first | done | rfl) ?_
    refine (bL.calls k gT x.2.1 x.2.2 _ _ _ w0 _ HI.out.T HI.out.B hy).mono ?_
    rintro e wb ⟨rfl,hi,hb,hk⟩
    refine ⟨_,rfl,?_⟩
    replace HP:=Aside0.mk (bO.blk hk HP.out (Ne.symm (HI.out.T.fK HP.out (by decide))) (by simp))
    replace HI:=Aside0.mk (HI.out.taker hi hb hk)
    clear hi hb hk
    refine hK.out _ _ ((ay HI.out.t 0).trans rfl) (fun hHeld=>?_)
    clear hK K
    refine eG (a':=?_) ?_ ?_
    rotate_left
    ·show Act.put _ (some 8) _ = _
     simp only [Act.put,List.setIfInBounds_toArray,List.set_cons_zero,List.set_cons_succ,bI,bN]
     rfl
    refine gH (i:=5) (N:=some 10) #[true,true,true,true,true,true,true,false,false,true,false,false,false,true,false] rfl rfl (eF HT_.out (by kernel_rfl)) (by decide) (fun K hK=>?_)
    refine fD Tryd.func49 (by kernel_rfl) rfl #[.pointer (some ⟨gT,0,none⟩)] (by rfl) rfl rfl (by (try simp only [List.map_toArray,List.map_cons,List.map_nil]);first | done | rfl) ?_
    refine (bL.calls k gT y.2.1 y.2.2 _ _ _ w0 _ HI.out.T HI.out.B hz).mono ?_
    rintro e wc ⟨rfl,hi,hb,hk⟩
    refine ⟨_,rfl,?_⟩
    replace HP:=Aside0.mk (bO.blk hk HP.out (Ne.symm (HI.out.T.fK HP.out (by decide))) (by simp))
    replace HI:=Aside0.mk (HI.out.taker hi hb hk)
    clear hi hb hk
    refine hK.out _ _ ((ay HI.out.t 0).trans rfl) (fun hHeld=>?_)
    clear hK K
    refine eG (a':=?_) ?_ ?_
    rotate_left
    ·show Act.put _ (some 10) _ = _
     simp only [Act.put,List.setIfInBounds_toArray,List.set_cons_zero,List.set_cons_succ,bI,bN]
     rfl
    refine gH (i:=7) (N:=some 12) #[true,true,true,true,true,true,true,true,false,true,false,false,false,true,false] rfl rfl (eF HT_.out (by kernel_rfl)) (by decide) (fun K hK=>?_)
    refine fD Tryd.func48 (by kernel_rfl) rfl #[.pointer (some ⟨gT,0,none⟩),.int .i64 1] (by rfl) rfl rfl (by (try simp only [List.map_toArray,List.map_cons,List.map_nil]);first | done | rfl) ?_
    refine (aR.calls k gT z.2.1 z.2.2 1 _ _ _ w0 _ HI.out.T HI.out.B hv).mono ?_
    rintro e wd ⟨rfl,hi,hb,hk⟩
    refine ⟨_,rfl,?_⟩
    replace HP:=Aside0.mk (bO.blk hk HP.out (Ne.symm (HI.out.T.fK HP.out (by decide))) (by simp))
    replace HI:=Aside0.mk (HI.out.taker hi hb hk)
    clear hi hb hk
    refine hK.out _ _ ((ay HI.out.t 0).trans rfl) (fun hHeld=>?_)
    clear hK K
    refine eG (a':=?_) ?_ ?_
    rotate_left
    ·show Act.put _ (some 12) _ = _
     simp only [Act.put,List.setIfInBounds_toArray,List.set_cons_zero,List.set_cons_succ,bI,bN]
     rfl
    refine dH (i:=8) (N:=some 13) (v:=?_) (a':=?_) #[true,true,true,true,true,true,true,true,true,true,false,false,false,true,false] rfl rfl (dn HT_.out (by kernel_rfl)) (fun _ _ _ h=>h) (Or.inl ⟨by rfl,?_⟩) ?_ ?_
    rotate_left
    ·intro w'
     go_simp
     with_reducible rfl
    rotate_left
    ·simp only [Act.put,List.setIfInBounds_toArray,List.set_cons_zero,List.set_cons_succ,bI,bN]
     rfl
    refine gH (i:=10) (N:=some 15) #[true,true,true,true,true,true,true,true,true,true,true,false,false,true,false] rfl rfl (eF HT_.out (by kernel_rfl)) (by decide) (fun K hK=>?_)
    refine fD Tryd.func48 (by kernel_rfl) rfl #[.pointer (some ⟨gT,0,none⟩),.int .i64 2] (by rfl) rfl rfl (by (try simp only [List.map_toArray,List.map_cons,List.map_nil]);first | done | rfl) ?_
    refine (aR.calls k gT v.2.1 v.2.2 2 _ _ _ w0 _ HI.out.T HI.out.B hg).mono ?_
    rintro e we ⟨rfl,hi,hb,hk⟩
    refine ⟨_,rfl,?_⟩
    replace HP:=Aside0.mk (bO.blk hk HP.out (Ne.symm (HI.out.T.fK HP.out (by decide))) (by simp))
    replace HI:=Aside0.mk (HI.out.taker hi hb hk)
    clear hi hb hk
    refine hK.out _ _ ((ay HI.out.t 0).trans rfl) (fun hHeld=>?_)
    clear hK K
    refine eG (a':=?_) ?_ ?_
    rotate_left
    ·show Act.put _ (some 15) _ = _
     simp only [Act.put,List.setIfInBounds_toArray,List.set_cons_zero,List.set_cons_succ,bI,bN]
     rfl
    refine dH (i:=11) (N:=some 16) (v:=?_) (a':=?_) #[true,true,true,true,true,true,true,true,true,true,true,true,false,true,false] rfl rfl (dn HT_.out (by kernel_rfl)) (fun _ _ _ h=>h) (Or.inl ⟨by rfl,?_⟩) ?_ ?_
    rotate_left
    ·intro w'
     go_simp
     with_reducible rfl
    rotate_left
    ·simp only [Act.put,List.setIfInBounds_toArray,List.set_cons_zero,List.set_cons_succ,bI,bN]
     rfl
    refine dH (i:=12) (N:=some 17) (v:=?_) (a':=?_) #[true,true,true,true,true,true,true,true,true,true,true,true,true,true,false] rfl rfl (dn HT_.out (by kernel_rfl)) (fun _ _ _ h=>h) (Or.inl ⟨by rfl,?_⟩) ?_ ?_
    rotate_left
    ·intro w'
     go_simp
     with_reducible rfl
    rotate_left
    ·simp only [Act.put,List.setIfInBounds_toArray,List.set_cons_zero,List.set_cons_succ,bI,bN]
     rfl
    exact eG (by simp only [jk,Act.put,List.setIfInBounds_toArray,List.set_cons_zero,List.set_cons_succ]) (hCont w1.heap.size _ ⟨HI,HP,HG⟩)
  rintro gp w5 ⟨HI,HP,HG⟩
  have hHeld : w5.cell? ⟨gt,0,none⟩ = some (.pointer (some ⟨gT,0,none⟩)):=(ay HI.out.t 0).trans rfl
  refine eG (a':=?_) ?_ ?_
  rotate_left
  ·simp only [jk,Act.put,List.setIfInBounds_toArray,List.set_cons_zero,List.set_cons_succ]
   rfl
  refine gH (i:=14) (N:=none) #[true,true,true,true,true,true,true,true,true,true,true,true,true,true,true] rfl rfl (eF HT_.out (by kernel_rfl)) (by decide) (fun K hK=>?_)
  have hz0 : w5.cell? ⟨gp,0,none⟩ = some (.string (⟨#[]⟩ : ByteArray)):=(ay HP.out 0).trans rfl
  have hz1 : w5.cell? ⟨gp,1,none⟩ = some (.string (⟨#[]⟩ : ByteArray)):=(ay HP.out 1).trans rfl
  have hz2 : w5.cell? ⟨gp,2,none⟩ = some (.string (⟨#[]⟩ : ByteArray)):=(ay HP.out 2).trans rfl
  have hz3 : w5.cell? ⟨gp,3,none⟩ = some (.int .u8 0):=(ay HP.out 3).trans rfl
  have zQ : w5.cell? ⟨gp,4,none⟩ = some (.int .u16 0):=(ay HP.out 4).trans rfl
  have zR : w5.cell? ⟨gp,5,none⟩ = some (.slice none 0 0):=(ay HP.out 5).trans rfl
  have hf0:=av HP.out 0
  have hf1:=av HP.out 1
  have hf2:=av HP.out 2
  have hf3:=av HP.out 3
  have zS:=av HP.out 4
  have zT:=av HP.out 5
  refine qW (w1:=?_) (by rfl) rfl ?_ ?_
  rotate_left
  ·go_simp
   rfl
  clear hz0 hz1 hz2 hz3 zQ zR hf0 hf1 hf2 hf3 zS zT
  obtain ⟨w6,zN,zO,zP⟩:=HI.out.six HP.out x.1 y.1 z.1 (IntKind.u8.wrap v.1) (IntKind.u16.wrap g.1) HG.out
  rw [zN]
  clear zN
  replace HI:=Aside0.mk zO
  replace HP:=Aside0.mk zP
  clear zO zP
  refine hK.out _ _ ((ay HI.out.t 0).trans rfl) (fun hHeld=>?_)
  clear hK K
  refine kE (iI HT_.out (by kernel_rfl)) ?_
  clear hHeld hx hy hz hv hg
  rw [HVB.out,HGB.out] at HP
  obtain ⟨As,cs,es⟩:=Kd.gq HI.out.S
  subst es
  have hmany:=many1.calls (I:=fun (a : ByteArray × Int × List Con2) w'=>∃ u,InI w0 w' gT gt gs gf gr gp a.1 a.2.1 seq false (.slice As ps.length cs) ps (⟨x.1,y.1,z.1,vb,gb,[]⟩ : Pod2) u a.2.2) (fun c=>c.2.1) gT 1 16 (.pointer (some ⟨gp,0,none⟩)) (.pointer (some ⟨gt,0,none⟩)) (jo k) (m.2.1,m.2.2,[]) r.2 m.1 r.1 w6
   (fun a w' ⟨u,hi⟩=>(ay hi.o.T.1 1).trans rfl) (fun a w' n ⟨u,hi⟩=>⟨u,hi.drewN n⟩) (by decide) (fun a b w' ⟨u,hi⟩ _ hs=>kH.calls k w0 w' gT gt gs gf gr gp a.1 a.2.1 seq false _ ps _ u a.2.2 b hi hs)
   ((aR.calls k gT g.2.1 g.2.2 1 _ _ _ w0 _ HI.out.T HI.out.B HM.out).mono (fun e w' ⟨he,hi,hb,hk⟩=>⟨he,_,InI.taker ⟨HI.out.mono (fun k hk=>⟨hk,by simp [Value.ownBlock]⟩),HP.out,Kd.jl _ _ _ _ _,HG.out⟩ hi hb hk⟩)) HR.out
  have hct : w6.cell? ⟨gt,0,none⟩ = some (.pointer (some ⟨gT,0,none⟩)):=(ay HI.out.t 0).trans rfl
  go_wp2_with (first | (go_at_call 60;refine hmany.mono ?_;rintro e w7 ⟨rfl,u1,zL⟩; obtain ⟨Au,cu,eu⟩:=Kd.iH zL.R;subst eu;have H7:=Aside0.mk zL;have H8:=Aside0.mk (zL.o.vH (!r.1) HGF.out);have R8:=Aside0.mk (Kd.xM zL.R zL.o.f (by decide) 0 (.bool (!r.1)));clear zL;have z0 : w7.cell? ⟨gf,0,none⟩ = some (.bool false):=(ay H7.out.o.f 0).trans rfl;have zU:=av H7.out.o.f 0;have n1 : gs ≠ gf:=gK H7.out.o.s H7.out.o.f (by decide);have n2 : gp ≠ gf:=gK H7.out.p H7.out.o.f (by decide);have n3:=n1.symm;have n4:=n2.symm;have y1 : w7.cell? ⟨gs,1,none⟩ = some (.slice As ps.length cs):=(ay H7.out.o.s 1).trans rfl;have p0 : w7.cell? ⟨gp,0,none⟩ = some (.string x.1):=(ay H7.out.p 0).trans rfl;have p1 : w7.cell? ⟨gp,1,none⟩ = some (.string y.1):=(ay H7.out.p 1).trans rfl;have p2 : w7.cell? ⟨gp,2,none⟩ = some (.string z.1):=(ay H7.out.p 2).trans rfl;have p3 : w7.cell? ⟨gp,3,none⟩ = some (.int .u8 vb):=(ay H7.out.p 3).trans rfl;have p4 : w7.cell? ⟨gp,4,none⟩ = some (.int .u16 gb):=(ay H7.out.p 4).trans rfl;have p5 : w7.cell? ⟨gp,5,none⟩ = some (.slice Au r.2.2.2.length cu):=(ay H7.out.p 5).trans rfl) | (at_builtin;refine Kd.mX k98 (w0:=w0) w0.heap.size rfl (.tmp 23) (.tmp 25) 47 98 (.agg #[.string ⟨#[]⟩,.string ⟨#[]⟩,.string ⟨#[]⟩,.int .u8 0,.int .u16 0,.slice none 0 0]) 80 rfl Tryd.underlying47 vF rfl (by decide) (by omega) (.slice As ps.length cs) ps (⟨x.1,y.1,z.1,vb,gb,r.2.2.2⟩ : Pod2) [.string x.1,.string y.1,.string z.1,.int .u8 vb,.int .u16 gb,.slice Au r.2.2.2.length cu] (fun _=>True) (fun k=>some k = (Value.slice Au r.2.2.2.length cu).ownBlock) rfl (by first | (go_simp;done) | (go_simp;rfl)) ?aP ?aK (fun _ _=>trivial) ?aO ?aB ?aS ?aL ?_;(case aP=>exact vB _ _ _ (⟨x.1,y.1,z.1,vb,gb,r.2.2.2⟩ : Pod2) (Kd.fE (Kd.oN rfl R8.out) (fun _ h=>h)));(case aK=>exact fun k hk=>⟨trivial,fun e=>((Kd.S_R H8.out.S).1 k e.symm).2 hk⟩);(case aO=>exact Kd.dO H8.out.S (fun k hk=>⟨trivial,fun e=>hk.2 e⟩));(case aB=>exact H8.out.B);(case aS=>exact aW H8.out.B);(case aL=>have:=HL.out;omega);intro v1 w9 ho hb hg hat;obtain ⟨Ao,co,eo⟩:=Kd.gq ho;subst eo;have H9:=Aside0.mk (H8.out.push ho hb hg HGS.out HNE.out);have zM:=dS H8.out.s hg (Kd.lH H8.out.S H8.out.s (by decide));have q1 : w9.cell? ⟨gs,1,none⟩ = some (.slice As ps.length cs):=(ay zM 1).trans rfl;have zV:=av zM 1;clear ho hb hg hat zM))
  go_end0
  refine ⟨rfl,.slice Ao (ps ++ [(⟨x.1,y.1,z.1,vb,gb,r.2.2.2⟩ : Pod2)]).length co,?_⟩
  have hz:=H9.out
  simpa only [List.length_append,List.length_singleton] using hz
end Go.Proofs.YtpmbdcljphpcnaaDoor.GC2
