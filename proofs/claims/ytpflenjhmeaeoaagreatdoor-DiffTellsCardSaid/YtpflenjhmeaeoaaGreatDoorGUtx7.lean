/- Written by this session's own program (wip/gen.py) out of the translation: plain Lean functions of the Go functions, and proofs that the calls come to their answers. No conditions beside those in the statements. -/
import Derived.Test.YtpflenjhmeaeoaaGreatDoorCp
import Derived.Test.YtpflenjhmeaeoaaGreatDoorGUtx0
import Derived.Test.YtpflenjhmeaeoaaGreatDoorGUtKind
namespace Go.Proofs.YtpflenjhmeaeoaaGreatDoor.GUt
open Go.RowKit Go.Proofs.YtpflenjhmeaeoaaGreatDoorW.PrintWords Go.Proofs.YtpflenjhmeaeoaaGreatDoorW.PrintLast Go.Proofs.YtpflenjhmeaeoaaGreatDoorW.PrintMore
attribute [local go_sem] fJ fK gH gI eO eP fM fO
set_option linter.unusedVariables false
set_option linter.unusedSimpArgs false
def bI.f (Bj : Int) (Bf : ByteArray) (Bh : ByteArray) : Option (ByteArray):=(dF.f Bj).bind fun AZ=>(if AZ.size + 1 ≤ 9223372036854775807 then (if (AZ ++ (⟨#[32]⟩ : ByteArray)).size + Bf.size ≤ 9223372036854775807 then (if ((AZ ++ (⟨#[32]⟩ : ByteArray)) ++ Bf).size + 1 ≤ 9223372036854775807 then (if (((AZ ++ (⟨#[32]⟩ : ByteArray)) ++ Bf) ++ (⟨#[32]⟩ : ByteArray)).size + Bh.size ≤ 9223372036854775807 then (some ((((AZ ++ (⟨#[32]⟩ : ByteArray)) ++ Bf) ++ (⟨#[32]⟩ : ByteArray)) ++ Bh)) else (none)) else (none)) else (none)) else (none))
def bI.T1 : Bool × List (List Nat × List Nat):=(true,[([],[]),([0],[0]),([1],[1]),([2],[2]),([],[]),([4],[4]),([3,5],[3,5]),([6],[6]),([],[]),([8],[8]),([7,9],[7,9]),([10,2,0,1,2,3,4,5,6,7,8,9,10],[10])])
def bI.B1 : List Nat:=[0,1,3,7,0,16,63,127,0,256,1023,2047]
theorem bI.wm : gV .any (opsOf Tryz.f11 1) = bI.T1:=by kernel_rfl
theorem bI.rF : fQ bI.T1.2 bI.B1 = true:=by kernel_rfl
set_option maxHeartbeats 8000000 in
set_option maxRecDepth 100000 in
theorem bI.calls (Bj : Int) (Bf : ByteArray) (Bh : ByteArray) (r : ByteArray) (w : World) (h : bI.f Bj Bf Bh = some r) :
  Calls Tryz.prog 11 #[.agg #[.int .i64 Bj,.string Bf,.string Bh]] w fun e w'=>e = .returned (.string r) ∧ Below w.heap.size w w':=by
 have Bv:=Tryz.underlying30
 have HB:=Aside0.mk (Below.refl w.heap.size w)
 have H : ((dF.f Bj).bind fun AZ=>(if AZ.size + 1 ≤ 9223372036854775807 then (if (AZ ++ (⟨#[32]⟩ : ByteArray)).size + Bf.size ≤ 9223372036854775807 then (if ((AZ ++ (⟨#[32]⟩ : ByteArray)) ++ Bf).size + 1 ≤ 9223372036854775807 then (if (((AZ ++ (⟨#[32]⟩ : ByteArray)) ++ Bf) ++ (⟨#[32]⟩ : ByteArray)).size + Bh.size ≤ 9223372036854775807 then (some ((((AZ ++ (⟨#[32]⟩ : ByteArray)) ++ Bf) ++ (⟨#[32]⟩ : ByteArray)) ++ Bh)) else (none)) else (none)) else (none)) else (none))) = some r:=h
 clear h
 replace H:=Option.bind_eq_some_iff.mp H
 obtain ⟨AZ,Bp,H⟩:=H
 replace H : (if AZ.size + 1 ≤ 9223372036854775807 then (if (AZ ++ (⟨#[32]⟩ : ByteArray)).size + Bf.size ≤ 9223372036854775807 then (if ((AZ ++ (⟨#[32]⟩ : ByteArray)) ++ Bf).size + 1 ≤ 9223372036854775807 then (if (((AZ ++ (⟨#[32]⟩ : ByteArray)) ++ Bf) ++ (⟨#[32]⟩ : ByteArray)).size + Bh.size ≤ 9223372036854775807 then (some ((((AZ ++ (⟨#[32]⟩ : ByteArray)) ++ Bf) ++ (⟨#[32]⟩ : ByteArray)) ++ Bh)) else (none)) else (none)) else (none)) else (none)) = some r:=H
 have A2:=Aside0.mk Bp
 clear Bp
 by_cases c3 : AZ.size + 1 ≤ 9223372036854775807
 ·rw [if_pos c3] at H
  have c3b0:=eq_true c3
  have c3b1 : decide (AZ.size + 1 ≤ 9223372036854775807) = true:=decide_eq_true c3
  try have c3b2 : (9223372036854775807 < AZ.size + 1) = False:=eq_false (Nat.not_lt.2 c3)
  by_cases c4 : (AZ ++ (⟨#[32]⟩ : ByteArray)).size + Bf.size ≤ 9223372036854775807
  ·rw [if_pos c4] at H
   have c4b0:=eq_true c4
   have c4b1 : decide ((AZ ++ (⟨#[32]⟩ : ByteArray)).size + Bf.size ≤ 9223372036854775807) = true:=decide_eq_true c4
   try have c4b2 : (9223372036854775807 < (AZ ++ (⟨#[32]⟩ : ByteArray)).size + Bf.size) = False:=eq_false (Nat.not_lt.2 c4)
   have c4s:=c4
   try simp only [ByteArray.size_append,show (⟨#[32]⟩ : ByteArray).size = 1 from rfl] at c4s
   try have c4s0:=eq_false (Nat.not_lt.2 c4s)
   try have c4s1:=eq_true c4s
   by_cases c5 : ((AZ ++ (⟨#[32]⟩ : ByteArray)) ++ Bf).size + 1 ≤ 9223372036854775807
   ·rw [if_pos c5] at H
    have c5b0:=eq_true c5
    have c5b1 : decide (((AZ ++ (⟨#[32]⟩ : ByteArray)) ++ Bf).size + 1 ≤ 9223372036854775807) = true:=decide_eq_true c5
    try have c5b2 : (9223372036854775807 < ((AZ ++ (⟨#[32]⟩ : ByteArray)) ++ Bf).size + 1) = False:=eq_false (Nat.not_lt.2 c5)
    have c5s:=c5
    try simp only [ByteArray.size_append,show (⟨#[32]⟩ : ByteArray).size = 1 from rfl] at c5s
    try have c5s0:=eq_false (Nat.not_lt.2 c5s)
    try have c5s1:=eq_true c5s
    by_cases c6 : (((AZ ++ (⟨#[32]⟩ : ByteArray)) ++ Bf) ++ (⟨#[32]⟩ : ByteArray)).size + Bh.size ≤ 9223372036854775807
    ·rw [if_pos c6] at H
     have c6b0:=eq_true c6
     have c6b1 : decide ((((AZ ++ (⟨#[32]⟩ : ByteArray)) ++ Bf) ++ (⟨#[32]⟩ : ByteArray)).size + Bh.size ≤ 9223372036854775807) = true:=decide_eq_true c6
     try have c6b2 : (9223372036854775807 < (((AZ ++ (⟨#[32]⟩ : ByteArray)) ++ Bf) ++ (⟨#[32]⟩ : ByteArray)).size + Bh.size) = False:=eq_false (Nat.not_lt.2 c6)
     have c6s:=c6
     try simp only [ByteArray.size_append,show (⟨#[32]⟩ : ByteArray).size = 1 from rfl] at c6s
     try have c6s0:=eq_false (Nat.not_lt.2 c6s)
     try have c6s1:=eq_true c6s
     obtain rfl:=Option.some.inj H
     go_enter Tryz.func11,Tryz.ntmps11
     try go_wp2_with (first|((with_reducible refine cZ (N:=1) rfl ?_);refine dA ?hg (N:=1) ?hd (cs:=#[.int .i64 Bj,.string Bf,.string Bh]) (t:=30) ?hr ?_;(case hd=>rfl);(case hg=>rfl);(case hr=>first|(go_simp;done)|(go_simp;rfl));intro Bl hg w7 hbox hb;have Bn:=Aside0.mk (aK hb_ hb);have Bo:=Aside0.mk (hbox);have Bq:=Aside0.mk ((by rw [hg];exact (aM hb_) : w.heap.size ≤ Bl));have Br:=Aside0.mk ((by rw [hg];exact (aM hb_) : w.heap.size ≤ Bl));clear HB;have HB:=Bn;have Bg:=Bo;have Bt:=Bq;have Bu:=Br;clear Bn Bo Bq Br;clear hb hbox hg))
     have Bn:=Aside0.mk (aG Bg.out)
     have Bo:=Aside0.mk (bB HB.out)
     clear Bg
     clear HB
     have Bg:=Bn
     have HB:=Bo
     clear Bn Bo
     refine fU (n:=12) (S:=fun w'=>w'.cell? ⟨Bl,0,none⟩ = some (.int .i64 Bj) ∧ w'.cell? ⟨Bl,1,none⟩ = some (.string Bf) ∧ w'.cell? ⟨Bl,2,none⟩ = some (.string Bh)) (ds:=[]) #[O,O,O,O,O,O,O,O,O,O,O,O] (by kernel_rfl) rfl rfl ⟨(ah Bg.out 0).trans rfl,(ah Bg.out 1).trans rfl,(ah Bg.out 2).trans rfl⟩ (fun hHeld=>?_);refine dY bI.wm bI.rF (fun HT_ HW_=>?_)
     generalize w7.drew = w8 at Bg HB hHeld ⊢
     refine eZ (i:=0) (N:=some 3) (v:=?_) (a':=?_) #[I,O,O,O,O,O,O,O,O,O,O,O] rfl rfl (fE HT_.out (by kernel_rfl)) (fun _ _ _ h=>h) (Or.inl ⟨by rfl,?_⟩) ?_ ?_
     rotate_left
     ·intro w'
      go_simp
      with_reducible rfl
     rotate_left
     ·simp only [Act.put,List.setIfInBounds_toArray,List.set_cons_zero,List.set_cons_succ,bJ,bM]
      rfl
     refine eZ (i:=4) (N:=some 7) (v:=?_) (a':=?_) #[I,O,O,O,I,O,O,O,O,O,O,O] rfl rfl (fE HT_.out (by kernel_rfl)) (fun _ _ _ h=>h) (Or.inl ⟨by rfl,?_⟩) ?_ ?_
     rotate_left
     ·intro w'
      go_simp
      with_reducible rfl
     rotate_left
     ·simp only [Act.put,List.setIfInBounds_toArray,List.set_cons_zero,List.set_cons_succ,bJ,bM]
      rfl
     refine eZ (i:=8) (N:=some 11) (v:=?_) (a':=?_) #[I,O,O,O,I,O,O,O,I,O,O,O] rfl rfl (fE HT_.out (by kernel_rfl)) (fun _ _ _ h=>h) (Or.inl ⟨by rfl,?_⟩) ?_ ?_
     rotate_left
     ·intro w'
      go_simp
      with_reducible rfl
     rotate_left
     ·simp only [Act.put,List.setIfInBounds_toArray,List.set_cons_zero,List.set_cons_succ,bJ,bM]
      rfl
     refine iG (i:=1) (N:=some 4) (v:=?_) (a':=?_) #[I,I,O,O,I,O,O,O,I,O,O,O] rfl rfl (fT HT_.out HW_.out (by kernel_rfl)) (fun _ _ _ h=>h) (Or.inl ⟨by rfl,?_⟩) hHeld ?_ ?_
     rotate_left
     ·rintro w' ⟨s0,s1,s2⟩
      go_simp
      with_reducible rfl
     rotate_left
     ·simp only [Act.put,List.setIfInBounds_toArray,List.set_cons_zero,List.set_cons_succ,bJ,bM]
      rfl
     refine iG (i:=5) (N:=some 8) (v:=?_) (a':=?_) #[I,I,O,O,I,I,O,O,I,O,O,O] rfl rfl (fT HT_.out HW_.out (by kernel_rfl)) (fun _ _ _ h=>h) (Or.inl ⟨by rfl,?_⟩) hHeld ?_ ?_
     rotate_left
     ·rintro w' ⟨s0,s1,s2⟩
      go_simp
      with_reducible rfl
     rotate_left
     ·simp only [Act.put,List.setIfInBounds_toArray,List.set_cons_zero,List.set_cons_succ,bJ,bM]
      rfl
     refine iG (i:=9) (N:=some 12) (v:=?_) (a':=?_) #[I,I,O,O,I,I,O,O,I,I,O,O] rfl rfl (fT HT_.out HW_.out (by kernel_rfl)) (fun _ _ _ h=>h) (Or.inl ⟨by rfl,?_⟩) hHeld ?_ ?_
     rotate_left
     ·rintro w' ⟨s0,s1,s2⟩
      go_simp
      with_reducible rfl
     rotate_left
     ·simp only [Act.put,List.setIfInBounds_toArray,List.set_cons_zero,List.set_cons_succ,bJ,bM]
      rfl
     refine gq (i:=2) (N:=some 5) #[I,I,I,O,I,I,O,O,I,I,O,O] rfl rfl (dD HT_.out (by kernel_rfl)) (by decide) (fun K hK=>?_)
     refine eX Tryz.func13 (by kernel_rfl) rfl #[.int .i64 Bj] (by rfl) rfl rfl (by (try simp only [List.map_toArray,List.map_cons,List.map_nil]);first|done|rfl|(simp only [List.length_drop,List.length_take];rfl)) ?_
     with_reducible refine (dF.calls Bj AZ _ A2.out).mono ?_
     rintro e w9 ⟨rfl,hb⟩
     refine ⟨_,rfl,?_⟩
     have Bn:=Aside0.mk (aN (g:=Bl) (o:=.cells #[.int .i64 Bj,.string Bf,.string Bh] 30 (0,0)) (bk_ Bg.out) hb)
     have Bo:=Aside0.mk (aK hb_ hb)
     clear Bg
     clear HB
     have Bg:=Bn
     have HB:=Bo
     clear Bn Bo
     (try clear hb)
     (try clear hb2)
     (try clear hk)
     (try clear hi)
     refine hK.out _ _ ⟨(ah Bg.out 0).trans rfl,(ah Bg.out 1).trans rfl,(ah Bg.out 2).trans rfl⟩ (fun hHeld=>?_)
     clear hK K
     refine dW (a':=?_) ?_ ?_
     rotate_left
     ·show Act.put _ (some 5) _ = _
      simp only [Act.put,List.setIfInBounds_toArray,List.set_cons_zero,List.set_cons_succ,bJ,bM]
      rfl
     refine eZ (i:=3) (N:=some 6) (v:=?_) (a':=?_) #[I,I,I,I,I,I,O,O,I,I,O,O] rfl rfl (fE HT_.out (by kernel_rfl)) (fun _ _ _ h=>h) (Or.inl ⟨by rfl,?_⟩) ?_ ?_
     rotate_left
     ·intro w'
      go_simp
      with_reducible rfl
     rotate_left
     ·simp only [Act.put,List.setIfInBounds_toArray,List.set_cons_zero,List.set_cons_succ,bJ,bM]
      rfl
     refine eZ (i:=6) (N:=some 9) (v:=?_) (a':=?_) #[I,I,I,I,I,I,I,O,I,I,O,O] rfl rfl (fE HT_.out (by kernel_rfl)) (fun _ _ _ h=>h) (Or.inl ⟨by rfl,?_⟩) ?_ ?_
     rotate_left
     ·intro w'
      go_simp
      with_reducible rfl
     rotate_left
     ·simp only [Act.put,List.setIfInBounds_toArray,List.set_cons_zero,List.set_cons_succ,bJ,bM]
      rfl
     refine eZ (i:=7) (N:=some 10) (v:=?_) (a':=?_) #[I,I,I,I,I,I,I,I,I,I,O,O] rfl rfl (fE HT_.out (by kernel_rfl)) (fun _ _ _ h=>h) (Or.inl ⟨by rfl,?_⟩) ?_ ?_
     rotate_left
     ·intro w'
      go_simp
      with_reducible rfl
     rotate_left
     ·simp only [Act.put,List.setIfInBounds_toArray,List.set_cons_zero,List.set_cons_succ,bJ,bM]
      rfl
     refine eZ (i:=10) (N:=some 13) (v:=?_) (a':=?_) #[I,I,I,I,I,I,I,I,I,I,I,O] rfl rfl (fE HT_.out (by kernel_rfl)) (fun _ _ _ h=>h) (Or.inl ⟨by rfl,?_⟩) ?_ ?_
     rotate_left
     ·intro w'
      go_simp
      with_reducible rfl
     rotate_left
     ·simp only [Act.put,List.setIfInBounds_toArray,List.set_cons_zero,List.set_cons_succ,bJ,bM]
      rfl
     refine eZ (i:=11) (N:=some 2) (v:=?_) (a':=?_) #[I,I,I,I,I,I,I,I,I,I,I,I] rfl rfl (fE HT_.out (by kernel_rfl)) (fun _ _ _ h=>h) (Or.inl ⟨by rfl,?_⟩) ?_ ?_
     rotate_left
     ·intro w'
      go_simp
      with_reducible rfl
     rotate_left
     ·simp only [Act.put,List.setIfInBounds_toArray,List.set_cons_zero,List.set_cons_succ,bJ,bM]
      rfl
     refine gP (fF HT_.out (by kernel_rfl)) ?_
     try go_wp2
     go_ret
     exact ⟨by first|rfl|(simp [aY,aZ] <;> rfl)|(simp [*,aY,aZ] <;> rfl),hb_⟩
    ·rw [if_neg c6] at H
     exact absurd H (by simp)
   ·rw [if_neg c5] at H
    exact absurd H (by simp)
  ·rw [if_neg c4] at H
   exact absurd H (by simp)
 ·rw [if_neg c3] at H
  exact absurd H (by simp)
end Go.Proofs.YtpflenjhmeaeoaaGreatDoor.GUt
