/- Written by this session's own program (wip/gen.py) out of the translation: plain Lean functions of the Go functions, and proofs that the calls come to their answers. No conditions beside those in the statements. -/
import Derived.Test.YtpflenjhmeaeoaaDoorGUtx0
import Derived.Test.YtpflenjhmeaeoaaDoorGUtKind
namespace Go.Proofs.YtpflenjhmeaeoaaDoor.GUt
open Go.RowKit Go.Proofs.YtpflenjhmeaeoaaDoorW.PrintWords Go.Proofs.YtpflenjhmeaeoaaDoorW.PrintLast Go.Proofs.YtpflenjhmeaeoaaDoorW.PrintMore
attribute [local go_sem] fC fD gu gD eP eT fE fF
set_option linter.unusedVariables false
set_option linter.unusedSimpArgs false
def cK.f (Aq : Int) (Am : ByteArray) (Ap : ByteArray) : Option (ByteArray):=(gL.f Aq).bind fun Al=>(if Al.size + 1 ≤ 9223372036854775807 then (if (Al ++ (⟨#[32]⟩ : ByteArray)).size + Am.size ≤ 9223372036854775807 then (if ((Al ++ (⟨#[32]⟩ : ByteArray)) ++ Am).size + 1 ≤ 9223372036854775807 then (if (((Al ++ (⟨#[32]⟩ : ByteArray)) ++ Am) ++ (⟨#[32]⟩ : ByteArray)).size + Ap.size ≤ 9223372036854775807 then (some ((((Al ++ (⟨#[32]⟩ : ByteArray)) ++ Am) ++ (⟨#[32]⟩ : ByteArray)) ++ Ap)) else (none)) else (none)) else (none)) else (none))
def cK.T1 : Bool × List (List Nat × List Nat):=(true,[([],[]),([0],[0]),([1],[1]),([2],[2]),([],[]),([4],[4]),([3,5],[3,5]),([6],[6]),([],[]),([8],[8]),([7,9],[7,9]),([10,2,0,1,2,3,4,5,6,7,8,9,10],[10])])
def cK.B1 : List Nat:=[0,1,3,7,0,16,63,127,0,256,1023,2047]
theorem cK.yK : gM .any (opsOf Tryd.f58 1) = cK.T1:=by kernel_rfl
theorem cK.vS : eY cK.T1.2 cK.B1 = true:=by kernel_rfl
set_option maxHeartbeats 8000000 in
set_option maxRecDepth 100000 in
theorem cK.calls (Aq : Int) (Am : ByteArray) (Ap : ByteArray) (r : ByteArray) (w : World) (h : cK.f Aq Am Ap = some r) :
  Calls Tryd.prog 58 #[.agg #[.int .i64 Aq,.string Am,.string Ap]] w fun e w'=>e = .returned (.string r) ∧ Below w.heap.size w w':=by
 have AO:=Tryd.underlying65
 have HB:=Aside0.mk (Below.refl w.heap.size w)
 have H : ((gL.f Aq).bind fun Al=>(if Al.size + 1 ≤ 9223372036854775807 then (if (Al ++ (⟨#[32]⟩ : ByteArray)).size + Am.size ≤ 9223372036854775807 then (if ((Al ++ (⟨#[32]⟩ : ByteArray)) ++ Am).size + 1 ≤ 9223372036854775807 then (if (((Al ++ (⟨#[32]⟩ : ByteArray)) ++ Am) ++ (⟨#[32]⟩ : ByteArray)).size + Ap.size ≤ 9223372036854775807 then (some ((((Al ++ (⟨#[32]⟩ : ByteArray)) ++ Am) ++ (⟨#[32]⟩ : ByteArray)) ++ Ap)) else (none)) else (none)) else (none)) else (none))) = some r:=h
 clear h
 replace H:=Option.bind_eq_some_iff.mp H
 obtain ⟨Al,AA,H⟩:=H
 replace H : (if Al.size + 1 ≤ 9223372036854775807 then (if (Al ++ (⟨#[32]⟩ : ByteArray)).size + Am.size ≤ 9223372036854775807 then (if ((Al ++ (⟨#[32]⟩ : ByteArray)) ++ Am).size + 1 ≤ 9223372036854775807 then (if (((Al ++ (⟨#[32]⟩ : ByteArray)) ++ Am) ++ (⟨#[32]⟩ : ByteArray)).size + Ap.size ≤ 9223372036854775807 then (some ((((Al ++ (⟨#[32]⟩ : ByteArray)) ++ Am) ++ (⟨#[32]⟩ : ByteArray)) ++ Ap)) else (none)) else (none)) else (none)) else (none)) = some r:=H
 have A2:=Aside0.mk AA
 clear AA
 by_cases c3 : Al.size + 1 ≤ 9223372036854775807
 ·rw [if_pos c3] at H
  have c3b0:=eq_true c3
  have c3b1 : decide (Al.size + 1 ≤ 9223372036854775807) = true:=decide_eq_true c3
  try have c3b2 : (9223372036854775807 < Al.size + 1) = False:=eq_false (Nat.not_lt.2 c3)
  by_cases c4 : (Al ++ (⟨#[32]⟩ : ByteArray)).size + Am.size ≤ 9223372036854775807
  ·rw [if_pos c4] at H
   have c4b0:=eq_true c4
   have c4b1 : decide ((Al ++ (⟨#[32]⟩ : ByteArray)).size + Am.size ≤ 9223372036854775807) = true:=decide_eq_true c4
   try have c4b2 : (9223372036854775807 < (Al ++ (⟨#[32]⟩ : ByteArray)).size + Am.size) = False:=eq_false (Nat.not_lt.2 c4)
   have c4s:=c4
   try simp only [ByteArray.size_append,show (⟨#[32]⟩ : ByteArray).size = 1 from rfl] at c4s
   try have c4s0:=eq_false (Nat.not_lt.2 c4s)
   try have c4s1:=eq_true c4s
   by_cases c5 : ((Al ++ (⟨#[32]⟩ : ByteArray)) ++ Am).size + 1 ≤ 9223372036854775807
   ·rw [if_pos c5] at H
    have c5b0:=eq_true c5
    have c5b1 : decide (((Al ++ (⟨#[32]⟩ : ByteArray)) ++ Am).size + 1 ≤ 9223372036854775807) = true:=decide_eq_true c5
    try have c5b2 : (9223372036854775807 < ((Al ++ (⟨#[32]⟩ : ByteArray)) ++ Am).size + 1) = False:=eq_false (Nat.not_lt.2 c5)
    have c5s:=c5
    try simp only [ByteArray.size_append,show (⟨#[32]⟩ : ByteArray).size = 1 from rfl] at c5s
    try have c5s0:=eq_false (Nat.not_lt.2 c5s)
    try have c5s1:=eq_true c5s
    by_cases c6 : (((Al ++ (⟨#[32]⟩ : ByteArray)) ++ Am) ++ (⟨#[32]⟩ : ByteArray)).size + Ap.size ≤ 9223372036854775807
    ·rw [if_pos c6] at H
     have c6b0:=eq_true c6
     have c6b1 : decide ((((Al ++ (⟨#[32]⟩ : ByteArray)) ++ Am) ++ (⟨#[32]⟩ : ByteArray)).size + Ap.size ≤ 9223372036854775807) = true:=decide_eq_true c6
     try have c6b2 : (9223372036854775807 < (((Al ++ (⟨#[32]⟩ : ByteArray)) ++ Am) ++ (⟨#[32]⟩ : ByteArray)).size + Ap.size) = False:=eq_false (Nat.not_lt.2 c6)
     have c6s:=c6
     try simp only [ByteArray.size_append,show (⟨#[32]⟩ : ByteArray).size = 1 from rfl] at c6s
     try have c6s0:=eq_false (Nat.not_lt.2 c6s)
     try have c6s1:=eq_true c6s
     obtain rfl:=Option.some.inj H
     go_enter Tryd.func58,Tryd.ntmps58
     try go_wp2_with (first|((with_reducible refine dA (N:=1) rfl ?_);refine dG ?hg (N:=1) ?hd (cs:=#[.int .i64 Aq,.string Am,.string Ap]) (t:=65) ?hr ?_;(case hd=>rfl);(case hg=>rfl);(case hr=>first|(go_simp;done)|(go_simp;rfl));intro Au hg w7 hbox hb;have Aw:=Aside0.mk (aJ (by repeat (first|(with_reducible first|exact HB.out|apply bG|apply aT|apply aZ)|exact HB.out)) hb);have Ay:=Aside0.mk (hbox);have AB:=Aside0.mk ((by rw [hg];exact (aY (by repeat (first|(with_reducible first|exact HB.out|apply bG|apply aT|apply aZ)|exact HB.out))) : w.heap.size ≤ Au));have AJ:=Aside0.mk ((by rw [hg];exact (aY (by repeat (first|(with_reducible first|exact HB.out|apply bG|apply aT|apply aZ)|exact HB.out))) : w.heap.size ≤ Au));clear HB;have HB:=Aw;have Ao:=Ay;have AL:=AB;have Az:=AJ;clear Aw Ay AB AJ;clear hb hbox hg))
     have Aw:=Aside0.mk (aG Ao.out)
     have Ay:=Aside0.mk (aZ HB.out)
     clear Ao
     clear HB
     have Ao:=Aw
     have HB:=Ay
     clear Aw Ay
     refine fu (n:=12) (S:=fun w'=>w'.cell? ⟨Au,0,none⟩ = some (.int .i64 Aq) ∧ w'.cell? ⟨Au,1,none⟩ = some (.string Am) ∧ w'.cell? ⟨Au,2,none⟩ = some (.string Ap)) (ds:=[]) #[false,false,false,false,false,false,false,false,false,false,false,false] (by kernel_rfl) rfl rfl ⟨(ah Ao.out 0).trans rfl,(ah Ao.out 1).trans rfl,(ah Ao.out 2).trans rfl⟩ (fun hHeld=>?_);refine dR cK.yK cK.vS (fun HT_ HW_=>?_)
     generalize w7.drew = w8 at Ao HB hHeld ⊢
     refine eD (i:=0) (N:=some 3) (v:=?_) (a':=?_) #[true,false,false,false,false,false,false,false,false,false,false,false] rfl rfl (eU HT_.out (by kernel_rfl)) (fun _ _ _ h=>h) (Or.inl ⟨by rfl,?_⟩) ?_ ?_
     rotate_left
     ·intro w'
      go_simp
      with_reducible rfl
     rotate_left
     ·simp only [Act.put,List.setIfInBounds_toArray,List.set_cons_zero,List.set_cons_succ,bH,bI]
      rfl
     refine eD (i:=4) (N:=some 7) (v:=?_) (a':=?_) #[true,false,false,false,true,false,false,false,false,false,false,false] rfl rfl (eU HT_.out (by kernel_rfl)) (fun _ _ _ h=>h) (Or.inl ⟨by rfl,?_⟩) ?_ ?_
     rotate_left
     ·intro w'
      go_simp
      with_reducible rfl
     rotate_left
     ·simp only [Act.put,List.setIfInBounds_toArray,List.set_cons_zero,List.set_cons_succ,bH,bI]
      rfl
     refine eD (i:=8) (N:=some 11) (v:=?_) (a':=?_) #[true,false,false,false,true,false,false,false,true,false,false,false] rfl rfl (eU HT_.out (by kernel_rfl)) (fun _ _ _ h=>h) (Or.inl ⟨by rfl,?_⟩) ?_ ?_
     rotate_left
     ·intro w'
      go_simp
      with_reducible rfl
     rotate_left
     ·simp only [Act.put,List.setIfInBounds_toArray,List.set_cons_zero,List.set_cons_succ,bH,bI]
      rfl
     refine iy (i:=1) (N:=some 4) (v:=?_) (a':=?_) #[true,true,false,false,true,false,false,false,true,false,false,false] rfl rfl (fq HT_.out HW_.out (by kernel_rfl)) (fun _ _ _ h=>h) (Or.inl ⟨by rfl,?_⟩) hHeld ?_ ?_
     rotate_left
     ·rintro w' ⟨s0,s1,s2⟩
      go_simp
      with_reducible rfl
     rotate_left
     ·simp only [Act.put,List.setIfInBounds_toArray,List.set_cons_zero,List.set_cons_succ,bH,bI]
      rfl
     refine iy (i:=5) (N:=some 8) (v:=?_) (a':=?_) #[true,true,false,false,true,true,false,false,true,false,false,false] rfl rfl (fq HT_.out HW_.out (by kernel_rfl)) (fun _ _ _ h=>h) (Or.inl ⟨by rfl,?_⟩) hHeld ?_ ?_
     rotate_left
     ·rintro w' ⟨s0,s1,s2⟩
      go_simp
      with_reducible rfl
     rotate_left
     ·simp only [Act.put,List.setIfInBounds_toArray,List.set_cons_zero,List.set_cons_succ,bH,bI]
      rfl
     refine iy (i:=9) (N:=some 12) (v:=?_) (a':=?_) #[true,true,false,false,true,true,false,false,true,true,false,false] rfl rfl (fq HT_.out HW_.out (by kernel_rfl)) (fun _ _ _ h=>h) (Or.inl ⟨by rfl,?_⟩) hHeld ?_ ?_
     rotate_left
     ·rintro w' ⟨s0,s1,s2⟩
      go_simp
      with_reducible rfl
     rotate_left
     ·simp only [Act.put,List.setIfInBounds_toArray,List.set_cons_zero,List.set_cons_succ,bH,bI]
      rfl
     refine gG (i:=2) (N:=some 5) #[true,true,true,false,true,true,false,false,true,true,false,false] rfl rfl (dw HT_.out (by kernel_rfl)) (by decide) (fun K hK=>?_)
     refine eZ Tryd.func80 (by kernel_rfl) rfl #[.int .i64 Aq] (by rfl) rfl rfl (by (try simp only [List.map_toArray,List.map_cons,List.map_nil]);first|done|rfl|(simp only [List.length_drop,List.length_take];rfl)) ?_
     with_reducible refine (gL.calls Aq Al _ A2.out).mono ?_
     rintro e w9 ⟨rfl,hb⟩
     refine ⟨_,rfl,?_⟩
     have Aw:=Aside0.mk (aM (g:=Au) (o:=.cells #[.int .i64 Aq,.string Am,.string Ap] 65 (0,0)) (bk_ Ao.out) hb)
     have Ay:=Aside0.mk (aJ (by repeat (first|(with_reducible first|exact HB.out|apply bG|apply aT|apply aZ|refine gq ?_ Az.out)|exact HB.out)) hb)
     clear Ao
     clear HB
     have Ao:=Aw
     have HB:=Ay
     clear Aw Ay
     (try clear hb)
     (try clear hb2)
     (try clear hk)
     (try clear hi)
     refine hK.out _ _ ⟨(ah Ao.out 0).trans rfl,(ah Ao.out 1).trans rfl,(ah Ao.out 2).trans rfl⟩ (fun hHeld=>?_)
     clear hK K
     refine dU (a':=?_) ?_ ?_
     rotate_left
     ·show Act.put _ (some 5) _ = _
      simp only [Act.put,List.setIfInBounds_toArray,List.set_cons_zero,List.set_cons_succ,bH,bI]
      rfl
     refine eD (i:=3) (N:=some 6) (v:=?_) (a':=?_) #[true,true,true,true,true,true,false,false,true,true,false,false] rfl rfl (eU HT_.out (by kernel_rfl)) (fun _ _ _ h=>h) (Or.inl ⟨by rfl,?_⟩) ?_ ?_
     rotate_left
     ·intro w'
      go_simp
      with_reducible rfl
     rotate_left
     ·simp only [Act.put,List.setIfInBounds_toArray,List.set_cons_zero,List.set_cons_succ,bH,bI]
      rfl
     refine eD (i:=6) (N:=some 9) (v:=?_) (a':=?_) #[true,true,true,true,true,true,true,false,true,true,false,false] rfl rfl (eU HT_.out (by kernel_rfl)) (fun _ _ _ h=>h) (Or.inl ⟨by rfl,?_⟩) ?_ ?_
     rotate_left
     ·intro w'
      go_simp
      with_reducible rfl
     rotate_left
     ·simp only [Act.put,List.setIfInBounds_toArray,List.set_cons_zero,List.set_cons_succ,bH,bI]
      rfl
     refine eD (i:=7) (N:=some 10) (v:=?_) (a':=?_) #[true,true,true,true,true,true,true,true,true,true,false,false] rfl rfl (eU HT_.out (by kernel_rfl)) (fun _ _ _ h=>h) (Or.inl ⟨by rfl,?_⟩) ?_ ?_
     rotate_left
     ·intro w'
      go_simp
      with_reducible rfl
     rotate_left
     ·simp only [Act.put,List.setIfInBounds_toArray,List.set_cons_zero,List.set_cons_succ,bH,bI]
      rfl
     refine eD (i:=10) (N:=some 13) (v:=?_) (a':=?_) #[true,true,true,true,true,true,true,true,true,true,true,false] rfl rfl (eU HT_.out (by kernel_rfl)) (fun _ _ _ h=>h) (Or.inl ⟨by rfl,?_⟩) ?_ ?_
     rotate_left
     ·intro w'
      go_simp
      with_reducible rfl
     rotate_left
     ·simp only [Act.put,List.setIfInBounds_toArray,List.set_cons_zero,List.set_cons_succ,bH,bI]
      rfl
     refine eD (i:=11) (N:=some 2) (v:=?_) (a':=?_) #[true,true,true,true,true,true,true,true,true,true,true,true] rfl rfl (eU HT_.out (by kernel_rfl)) (fun _ _ _ h=>h) (Or.inl ⟨by rfl,?_⟩) ?_ ?_
     rotate_left
     ·intro w'
      go_simp
      with_reducible rfl
     rotate_left
     ·simp only [Act.put,List.setIfInBounds_toArray,List.set_cons_zero,List.set_cons_succ,bH,bI]
      rfl
     refine gJ (eH HT_.out (by kernel_rfl)) ?_
     try go_wp2
     go_ret
     exact ⟨by first|rfl|(simp [aV,aW] <;> rfl)|(simp [*,aV,aW] <;> rfl),by repeat (first|(with_reducible first|exact HB.out|apply bG|apply aT|apply aZ|refine gq ?_ Az.out)|exact HB.out)⟩
    ·rw [if_neg c6] at H
     exact absurd H (by simp)
   ·rw [if_neg c5] at H
    exact absurd H (by simp)
  ·rw [if_neg c4] at H
   exact absurd H (by simp)
 ·rw [if_neg c3] at H
  exact absurd H (by simp)
end Go.Proofs.YtpflenjhmeaeoaaDoor.GUt
