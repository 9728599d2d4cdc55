/- cktwo.many: its contract, for each closure that is handed to it. No conditions beside those stated. -/
import Derived.Test.YtpmbdcljphpcnaaDoorGC2x8
namespace Go.Proofs.YtpmbdcljphpcnaaDoor.GC2
open Go.RowKit Go.Proofs.YtpmbdcljphpcnaaDoorW.PrintWords Go.Proofs.YtpmbdcljphpcnaaDoorW.PrintLast Go.Proofs.YtpmbdcljphpcnaaDoorW.PrintMore
set_option linter.unusedVariables false
def runN {α : Type} (step : α → Option α) (err : α → Int) : Nat → α → Option α
 | 0,a=>some a
 | n + 1,a=>if err a = 0 then (step a).bind (runN step err n) else runN step err n a
set_option maxHeartbeats 4000000 in
set_option maxRecDepth 100000 in
theorem many1.calls {α : Type} (I : α → World → Prop) (err : α → Int) (gT : Nat) (n most : Int) (c0 c1 : Value) (step : α → Option α) (a1 b : α) (v : Int) (r : Bool) (w : World)
  (hT : ∀ a w,I a w → w.cell? ⟨gT,1,none⟩ = some (.int .i64 (err a))) (hD : ∀ a w m,I a w → I a (w.drewN m)) (hmost : most ≤ 1024)
  (hF : ∀ a b w,I a w → err a = 0 → step a = some b → Calls Tryd.prog 62 #[c0,c1] w fun e w'=>e = .returned (.tuple #[]) ∧ I b w')
  (hk : Calls Tryd.prog 48 #[.pointer (some ⟨gT,0,none⟩),.int .i64 n] w fun e w'=>e = .returned (.int .u64 v) ∧ I a1 w')
  (h : if wrap64 v > most then r = false ∧ b = a1 else r = true ∧ runN step err (wrap64 v).toNat a1 = some b) :
  Calls Tryd.prog 60 #[.pointer (some ⟨gT,0,none⟩),.int .i64 n,.int .i64 most,.func (.func 62) #[] #[c0,c1]] w fun e w'=>e = .returned (.bool r) ∧ I b w':=by
 have HTT:=Aside0.mk hT
 have HDD:=Aside0.mk hD
 have HFF:=Aside0.mk hF
 clear hT hD hF
 go_enter Tryd.func60,Tryd.ntmps60
 by_cases hc : wrap64 v > most
 ·rw [if_pos hc] at h
  obtain ⟨rfl,rfl⟩:=h
  have c1 : (wrap64 v ≤ most) = False:=eq_false (by omega)
  have c2 : decide (wrap64 v > most) = true:=decide_eq_true hc
  clear hc hmost
  go_wp2_with (first | (go_at_call 48;refine hk.mono ?_;rintro e w1 ⟨rfl,hI1⟩))
  go_ret
  exact ⟨rfl,by first | exact hI1 | exact HDD.out _ _ _ hI1⟩
 ·rw [if_neg hc] at h
  obtain ⟨rfl,h⟩:=h
  have c1 : (wrap64 v ≤ most) = True:=eq_true (by omega)
  have c2 : decide (wrap64 v > most) = false:=decide_eq_false hc
  have hv : wrap64 v ≤ 1024:=by omega
  clear hc hmost
  have HV:=Aside0.mk hv
  have HH:=Aside0.mk h
  clear hv h
  go_wp2_with (first | (go_at_call 48;refine hk.mono ?_;rintro e w1 ⟨rfl,hI1⟩))
  have HI1:=Aside0.mk hI1
  clear hI1
  go_loopg [18] (wrap64 v).toNat (fun kq v18 w'=>∃ (i : Nat) (a : α),v18 = .int .i64 (i : Int) ∧ Aside0 (i + kq = (wrap64 v).toNat) ∧ Aside0 (runN step err kq a = some b) ∧ Aside0 (I a w'))
  case atStart=>exact ⟨0,a1,rfl,⟨by omega⟩,HH,HI1⟩
  case round =>
   clear HH HI1
   obtain ⟨i,a,rfl,hi,hR,hI⟩:=hrel
   cases gk with
   | zero =>
    have d1 : decide ((i : Int) < wrap64 v) = false:=decide_eq_false (by have:=hi.out;omega)
    have d2 : ((i : Int) < wrap64 v) = False:=eq_false (by have:=hi.out;omega)
    have hr:=Option.some.inj hR.out
    subst hr
    go_wp2
    go_ret
    exact ⟨rfl,by first | exact hI.out | exact HDD.out _ _ _ hI.out⟩
   | succ k1 =>
    have d1 : decide ((i : Int) < wrap64 v) = true:=decide_eq_true (by have:=hi.out;omega)
    have d2 : ((i : Int) < wrap64 v) = True:=eq_true (by have:=hi.out;omega)
    have hwv : Value.int .i64 (wrap64 ((i : Int) + 1)) = Value.int .i64 ((i + 1 : Nat) : Int):=by have:=hi.out;have:=HV.out;rw [bJ (by omega) (by omega)];rfl
    have HWV:=Aside0.mk hwv
    have hnx : Aside0 (i + 1 + k1 = (wrap64 v).toNat):=⟨by have:=hi.out;omega⟩
    have hce:=HTT.out _ _ hI.out
    have zL:=hR.out
    rw [runN] at zL
    clear hwv hR
    by_cases he : err a = 0
    ·rw [if_pos he] at zL
     obtain ⟨a2,hs,hR2⟩:=Option.bind_eq_some_iff.1 zL
     have HE:=Aside0.mk he
     have HS:=Aside0.mk hs
     have HR2:=Aside0.mk hR2
     have e1 : (err a == 0) = true:=beq_iff_eq.2 he
     clear zL hs hR2
     rw [he] at hce
     clear he
     go_wp2_with (first | (go_at_call 62;refine (HFF.out a a2 _ (by first | exact hI.out | exact HDD.out _ _ _ hI.out) HE.out HS.out).mono ?_;rintro e w4 ⟨rfl,zM⟩))
     go_roundg k1
     case measure=>exact Nat.lt_succ_self k1
     case rel=>exact ⟨i + 1,a2,by first | exact HWV.out | rfl,hnx,HR2,⟨by first | exact zM | exact HDD.out _ _ _ zM⟩⟩
    ·rw [if_neg he] at zL
     have HR2:=Aside0.mk zL
     have e1 : (err a == 0) = false:=beq_eq_false_iff_ne.2 he
     clear zL he
     go_wp2
     go_roundg k1
     case measure=>exact Nat.lt_succ_self k1
     case rel=>exact ⟨i + 1,a,by first | exact HWV.out | rfl,hnx,HR2,⟨by first | exact hI.out | exact HDD.out _ _ _ hI.out⟩⟩
set_option maxHeartbeats 4000000 in
set_option maxRecDepth 100000 in
theorem yh.calls {α : Type} (I : α → World → Prop) (err : α → Int) (gT : Nat) (n most : Int) (c0 c1 c2 : Value) (step : α → Option α) (a1 b : α) (v : Int) (r : Bool) (w : World)
  (hT : ∀ a w,I a w → w.cell? ⟨gT,1,none⟩ = some (.int .i64 (err a))) (hD : ∀ a w m,I a w → I a (w.drewN m)) (hmost : most ≤ 1024)
  (hF : ∀ a b w,I a w → err a = 0 → step a = some b → Calls Tryd.prog 61 #[c0,c1,c2] w fun e w'=>e = .returned (.tuple #[]) ∧ I b w')
  (hk : Calls Tryd.prog 48 #[.pointer (some ⟨gT,0,none⟩),.int .i64 n] w fun e w'=>e = .returned (.int .u64 v) ∧ I a1 w')
  (h : if wrap64 v > most then r = false ∧ b = a1 else r = true ∧ runN step err (wrap64 v).toNat a1 = some b) :
  Calls Tryd.prog 60 #[.pointer (some ⟨gT,0,none⟩),.int .i64 n,.int .i64 most,.func (.func 61) #[] #[c0,c1,c2]] w fun e w'=>e = .returned (.bool r) ∧ I b w':=by
 have HTT:=Aside0.mk hT
 have HDD:=Aside0.mk hD
 have HFF:=Aside0.mk hF
 clear hT hD hF
 go_enter Tryd.func60,Tryd.ntmps60
 by_cases hc : wrap64 v > most
 ·rw [if_pos hc] at h
  obtain ⟨rfl,rfl⟩:=h
  have c1 : (wrap64 v ≤ most) = False:=eq_false (by omega)
  have c2 : decide (wrap64 v > most) = true:=decide_eq_true hc
  clear hc hmost
  go_wp2_with (first | (go_at_call 48;refine hk.mono ?_;rintro e w1 ⟨rfl,hI1⟩))
  go_ret
  exact ⟨rfl,by first | exact hI1 | exact HDD.out _ _ _ hI1⟩
 ·rw [if_neg hc] at h
  obtain ⟨rfl,h⟩:=h
  have c1 : (wrap64 v ≤ most) = True:=eq_true (by omega)
  have c2 : decide (wrap64 v > most) = false:=decide_eq_false hc
  have hv : wrap64 v ≤ 1024:=by omega
  clear hc hmost
  have HV:=Aside0.mk hv
  have HH:=Aside0.mk h
  clear hv h
  go_wp2_with (first | (go_at_call 48;refine hk.mono ?_;rintro e w1 ⟨rfl,hI1⟩))
  have HI1:=Aside0.mk hI1
  clear hI1
  go_loopg [18] (wrap64 v).toNat (fun kq v18 w'=>∃ (i : Nat) (a : α),v18 = .int .i64 (i : Int) ∧ Aside0 (i + kq = (wrap64 v).toNat) ∧ Aside0 (runN step err kq a = some b) ∧ Aside0 (I a w'))
  case atStart=>exact ⟨0,a1,rfl,⟨by omega⟩,HH,HI1⟩
  case round =>
   clear HH HI1
   obtain ⟨i,a,rfl,hi,hR,hI⟩:=hrel
   cases gk with
   | zero =>
    have d1 : decide ((i : Int) < wrap64 v) = false:=decide_eq_false (by have:=hi.out;omega)
    have d2 : ((i : Int) < wrap64 v) = False:=eq_false (by have:=hi.out;omega)
    have hr:=Option.some.inj hR.out
    subst hr
    go_wp2
    go_ret
    exact ⟨rfl,by first | exact hI.out | exact HDD.out _ _ _ hI.out⟩
   | succ k1 =>
    have d1 : decide ((i : Int) < wrap64 v) = true:=decide_eq_true (by have:=hi.out;omega)
    have d2 : ((i : Int) < wrap64 v) = True:=eq_true (by have:=hi.out;omega)
    have hwv : Value.int .i64 (wrap64 ((i : Int) + 1)) = Value.int .i64 ((i + 1 : Nat) : Int):=by have:=hi.out;have:=HV.out;rw [bJ (by omega) (by omega)];rfl
    have HWV:=Aside0.mk hwv
    have hnx : Aside0 (i + 1 + k1 = (wrap64 v).toNat):=⟨by have:=hi.out;omega⟩
    have hce:=HTT.out _ _ hI.out
    have zL:=hR.out
    rw [runN] at zL
    clear hwv hR
    by_cases he : err a = 0
    ·rw [if_pos he] at zL
     obtain ⟨a2,hs,hR2⟩:=Option.bind_eq_some_iff.1 zL
     have HE:=Aside0.mk he
     have HS:=Aside0.mk hs
     have HR2:=Aside0.mk hR2
     have e1 : (err a == 0) = true:=beq_iff_eq.2 he
     clear zL hs hR2
     rw [he] at hce
     clear he
     go_wp2_with (first | (go_at_call 61;refine (HFF.out a a2 _ (by first | exact hI.out | exact HDD.out _ _ _ hI.out) HE.out HS.out).mono ?_;rintro e w4 ⟨rfl,zM⟩))
     go_roundg k1
     case measure=>exact Nat.lt_succ_self k1
     case rel=>exact ⟨i + 1,a2,by first | exact HWV.out | rfl,hnx,HR2,⟨by first | exact zM | exact HDD.out _ _ _ zM⟩⟩
    ·rw [if_neg he] at zL
     have HR2:=Aside0.mk zL
     have e1 : (err a == 0) = false:=beq_eq_false_iff_ne.2 he
     clear zL he
     go_wp2
     go_roundg k1
     case measure=>exact Nat.lt_succ_self k1
     case rel=>exact ⟨i + 1,a,by first | exact HWV.out | rfl,hnx,HR2,⟨by first | exact hI.out | exact HDD.out _ _ _ hI.out⟩⟩
end Go.Proofs.YtpmbdcljphpcnaaDoor.GC2
