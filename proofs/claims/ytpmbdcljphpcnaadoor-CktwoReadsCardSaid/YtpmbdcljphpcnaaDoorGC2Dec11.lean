/- cktwo.Decode's inner closure: its contract. No conditions beside those stated. -/
import Derived.Test.YtpmbdcljphpcnaaDoorGC2Inv
namespace Go.Proofs.YtpmbdcljphpcnaaDoor.GC2
open Go.RowKit Go.Proofs.YtpmbdcljphpcnaaDoorW.PrintWords Go.Proofs.YtpmbdcljphpcnaaDoorW.PrintLast Go.Proofs.YtpmbdcljphpcnaaDoorW.PrintMore
set_option linter.unusedVariables false
set_option linter.unusedSimpArgs false
def kH.T0 : Bool × List (List Nat × List Nat):=(true,[([],[]),([0],[0]),([],[]),([2],[2]),([],[]),([4,3],[4]),([3,5],[3,5]),([6],[6]),([1,7,5],[1,7]),([0,1,2,3,4,5,6,7,8],[]),([9,8,8,0,1,2,3,4,5,6,7,8],[8,9])])
def kH.B0 : List Nat:=[0,1,0,4,0,28,60,124,255,511,1023]
theorem kH.zC : iB .any (opsOf Tryd.f62 0) = kH.T0:=by kernel_rfl
theorem kH.yj : iq kH.T0.2 kH.B0 = true:=by kernel_rfl
set_option maxHeartbeats 8000000 in
set_option maxRecDepth 100000 in
theorem kH.calls (k : Nat) (w0 w : World) (gT gt gs gf gr gp : Nat) (rest : ByteArray) (err seq : Int) (full : Bool) (us : Value) (ps : List Pod2) (p : Pod2) (u : Value) (cs : List Con2) (q : ByteArray × Int × List Con2)
  (hI : InI w0 w gT gt gs gf gr gp rest err seq full us ps p u cs) (h : jo k (rest,err,cs) = some q) :
  Calls Tryd.prog 62 #[.pointer (some ⟨gp,0,none⟩),.pointer (some ⟨gt,0,none⟩)] w fun e w'=>e = .returned (.tuple #[]) ∧ ∃ u',InI w0 w' gT gt gs gf gr gp q.1 q.2.1 seq full us ps p u' q.2.2:=by
 obtain ⟨x,hx,h⟩:=Option.bind_eq_some_iff.1 h
 obtain ⟨y,hy,h⟩:=Option.bind_eq_some_iff.1 h
 have hl : cs.length < 4398046511104:=Decidable.by_contra fun hn=>by rw [if_neg hn] at h;cases h
 rw [if_pos hl] at h
 have hlen:=Aside0.mk hl
 obtain rfl:=Option.some.inj h
 clear h hl
 have HI:=Aside0.mk hI.drew
 clear hI
 go_enter Tryd.func62,Tryd.ntmps62
 go_upto_region 0 with (fail)
 refine ji (n:=11) (S:=fun w'=>w'.cell? ⟨gp,5,none⟩ = some u ∧ w'.cell? ⟨gt,0,none⟩ = some (.pointer (some ⟨gT,0,none⟩))) (ds:=[10]) #[false,false,false,false,false,false,false,false,false,false,false] (by kernel_rfl) rfl rfl ⟨(ay HI.out.p 5).trans rfl,(ay HI.out.o.t 0).trans rfl⟩ (fun hHeld=>?_);refine gM kH.zC kH.yj (fun HT_ HW_=>?_)
 generalize w.drew = w1 at HI hHeld ⊢
 refine dH (i:=0) (N:=(some 2)) (v:=?_) (a':=?_) #[true,false,false,false,false,false,false,false,false,false,false] rfl rfl (dn HT_.out (by kernel_rfl)) (fun _ _ _ h=>h) (Or.inl ⟨by rfl,?_⟩) ?_ ?_
 rotate_left
 ·intro w'
  go_simp
  with_reducible rfl
 rotate_left
 ·simp only [Act.put,List.setIfInBounds_toArray,List.set_cons_zero,List.set_cons_succ,bI,bN]
  rfl
 refine gN (i:=1) (N:=(some 3)) (v:=?_) (a':=?_) #[true,true,false,false,false,false,false,false,false,false,false] rfl rfl (eZ HT_.out HW_.out (by kernel_rfl)) (fun _ _ _ h=>h) (Or.inl ⟨by rfl,?_⟩) hHeld ?_ ?_
 rotate_left
 ·rintro w' ⟨s0,s1⟩
  go_simp
  with_reducible rfl
 rotate_left
 ·simp only [Act.put,List.setIfInBounds_toArray,List.set_cons_zero,List.set_cons_succ,bI,bN]
  rfl
 refine gN (i:=2) (N:=(some 4)) (v:=?_) (a':=?_) #[true,true,true,false,false,false,false,false,false,false,false] rfl rfl (eZ HT_.out HW_.out (by kernel_rfl)) (fun _ _ _ h=>h) (Or.inl ⟨by rfl,?_⟩) hHeld ?_ ?_
 rotate_left
 ·rintro w' ⟨s0,s1⟩
  go_simp
  with_reducible rfl
 rotate_left
 ·simp only [Act.put,List.setIfInBounds_toArray,List.set_cons_zero,List.set_cons_succ,bI,bN]
  rfl
 refine gN (i:=4) (N:=(some 6)) (v:=?_) (a':=?_) #[true,true,true,false,true,false,false,false,false,false,false] rfl rfl (eZ HT_.out HW_.out (by kernel_rfl)) (fun _ _ _ h=>h) (Or.inl ⟨by rfl,?_⟩) hHeld ?_ ?_
 rotate_left
 ·rintro w' ⟨s0,s1⟩
  go_simp
  with_reducible rfl
 rotate_left
 ·simp only [Act.put,List.setIfInBounds_toArray,List.set_cons_zero,List.set_cons_succ,bI,bN]
  rfl
 refine gH (i:=3) (N:=(some 5)) #[true,true,true,true,true,false,false,false,false,false,false] rfl rfl (eF HT_.out (by kernel_rfl)) (by decide) (fun K hK=>?_)
 refine fD Tryd.func49 (by kernel_rfl) rfl #[.pointer (some ⟨gT,0,none⟩)] (by rfl) rfl rfl (by (try simp only [List.map_toArray,List.map_cons,List.map_nil]);first | done | rfl) ?_
 refine (bL.calls k gT rest err _ _ _ w0 _ HI.out.o.T HI.out.o.B hx).mono ?_
 rintro e wn ⟨rfl,hi,hb,hk⟩
 refine ⟨_,rfl,?_⟩
 replace HI:=Aside0.mk (HI.out.taker hi hb hk)
 clear hi hb hk
 refine hK.out _ _ ⟨(ay HI.out.p 5).trans rfl,(ay HI.out.o.t 0).trans rfl⟩ (fun hHeld=>?_)
 clear hK K
 refine eG (a':=?_) ?_ ?_
 rotate_left
 ·show Act.put _ (some 5) _ = _
  simp only [Act.put,List.setIfInBounds_toArray,List.set_cons_zero,List.set_cons_succ,bI,bN]
  rfl
 refine gH (i:=5) (N:=(some 7)) #[true,true,true,true,true,true,false,false,false,false,false] rfl rfl (eF HT_.out (by kernel_rfl)) (by decide) (fun K hK=>?_)
 refine fD Tryd.func49 (by kernel_rfl) rfl #[.pointer (some ⟨gT,0,none⟩)] (by rfl) rfl rfl (by (try simp only [List.map_toArray,List.map_cons,List.map_nil]);first | done | rfl) ?_
 refine (bL.calls k gT x.2.1 x.2.2 _ _ _ w0 _ HI.out.o.T HI.out.o.B hy).mono ?_
 rintro e wn ⟨rfl,hi,hb,hk⟩
 refine ⟨_,rfl,?_⟩
 replace HI:=Aside0.mk (HI.out.taker hi hb hk)
 clear hi hb hk
 refine hK.out _ _ ⟨(ay HI.out.p 5).trans rfl,(ay HI.out.o.t 0).trans rfl⟩ (fun hHeld=>?_)
 clear hK K
 refine eG (a':=?_) ?_ ?_
 rotate_left
 ·show Act.put _ (some 7) _ = _
  simp only [Act.put,List.setIfInBounds_toArray,List.set_cons_zero,List.set_cons_succ,bI,bN]
  rfl
 refine dH (i:=6) (N:=(some 8)) (v:=?_) (a':=?_) #[true,true,true,true,true,true,true,false,false,false,false] rfl rfl (dn HT_.out (by kernel_rfl)) (fun _ _ _ h=>h) (Or.inl ⟨by rfl,?_⟩) ?_ ?_
 rotate_left
 ·intro w'
  go_simp
  with_reducible rfl
 rotate_left
 ·simp only [Act.put,List.setIfInBounds_toArray,List.set_cons_zero,List.set_cons_succ,bI,bN]
  rfl
 refine gH (i:=7) (N:=(some 9)) #[true,true,true,true,true,true,true,true,false,false,false] rfl rfl (eF HT_.out (by kernel_rfl)) (by decide) (fun K hK=>?_)
 refine kK (w1:=?_) (v:=?_) (by rfl) rfl ?_ ?_
 rotate_left 2
 ·go_simp
  constructor
  ·rfl
  ·rfl
 refine hK.out _ _ ⟨(ay (ah HI.out.p _) 5).trans rfl,(ay (ah HI.out.o.t _) 0).trans rfl⟩ (fun hHeld=>?_)
 clear hK K
 refine eG (a':=?_) ?_ ?_
 rotate_left
 ·show Act.put _ (some 9) _ = _
  simp only [Act.put,List.setIfInBounds_toArray,List.set_cons_zero,List.set_cons_succ,bI,bN]
  rfl
 refine gH (i:=8) (N:=(some 10)) #[true,true,true,true,true,true,true,true,true,false,false] rfl rfl (eF HT_.out (by kernel_rfl)) (by decide) (fun K hK=>?_)
 refine Kd.nT jJ (w0:=w0) w0.heap.size (by rfl) (.tmp 3) (.tmp 9) 96 100 (.agg #[.string ⟨#[]⟩,.string ⟨#[]⟩]) 32 rfl Tryd.underlying96 vG rfl (by decide) (by omega) u cs (⟨x.1,y.1⟩ : Con2) [.string x.1,.string y.1] (fun _=>True) (fun _=>False) rfl rfl ?aP (fun _ hk=>hk.elim) ?aF ?aO ?aB ?aS ?aL ?_
 case aP=>exact tX _ _ _ (⟨x.1,y.1⟩ : Con2)
 case aB=>exact HI.out.o.B
 case aF=>exact fun _ _=>trivial
 case aO=>exact HI.out.R
 case aS=>exact aW HI.out.o.B
 case aL=>have:=hlen.out;omega
 intro v1 wn ho hb hg hat
 obtain ⟨HO,HP⟩:=HI.out.grown ho hb hg hat
 have HO:=Aside0.mk HO
 have HP:=Aside0.mk HP
 have HR:=Aside0.mk ho
 have HG:=Aside0.mk HI.out.ge
 clear HI ho hb hg hat
 obtain ⟨Ao,co,eo⟩:=Kd.iH HR.out
 subst eo
 refine hK.out _ _ ⟨(ay HP.out 5).trans rfl,(ay HO.out.t 0).trans rfl⟩ (fun hHeld=>?_)
 clear hK K
 refine eG (a':=?_) ?_ ?_
 rotate_left
 ·show Act.put _ (some 10) _ = _
  simp only [Act.put,List.setIfInBounds_toArray,List.set_cons_zero,List.set_cons_succ,bI,bN]
  rfl
 refine dH (i:=9) (N:=(some 11)) (v:=?_) (a':=?_) #[true,true,true,true,true,true,true,true,true,true,false] rfl rfl (dn HT_.out (by kernel_rfl)) (fun _ _ _ h=>h) (Or.inl ⟨by rfl,?_⟩) ?_ ?_
 rotate_left
 ·intro w'
  go_simp
  with_reducible rfl
 rotate_left
 ·simp only [Act.put,List.setIfInBounds_toArray,List.set_cons_zero,List.set_cons_succ,bI,bN]
  rfl
 refine xQ (i:=10) (N:=none) #[true,true,true,true,true,true,true,true,true,true,true] rfl rfl (eF HT_.out (by kernel_rfl)) (by decide) (fun K hK=>?_)
 have hs : wn.cell? ⟨gp,5,none⟩ = some u:=(ay HP.out 5).trans rfl
 have hfs:=av HP.out 5
 refine qW (w1:=?_) (by rfl) rfl ?_ ?_
 rotate_left
 ·go_simp
  rfl
 refine hK.out _ _ ?_
 clear hK K
 refine kE (iI HT_.out (by kernel_rfl)) ?_
 go_wp2
 go_end0
 refine ⟨rfl,.slice Ao (cs ++ [(⟨x.1,y.1⟩ : Con2)]).length co,?_⟩
 have hz:=InI.put HO.out HP.out HR.out HG.out
 simpa only [List.length_append,List.length_singleton] using hz
end Go.Proofs.YtpmbdcljphpcnaaDoor.GC2
