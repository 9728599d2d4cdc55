/- Written by this session's own program (wip/gen.py) out of the translation: plain Lean functions of the Go functions, and proofs that the calls come to their answers. No conditions beside those in the statements. -/
import Derived.Test.YtpmbdcljphpcnaaDoorGCkx0
import Derived.Test.YtpmbdcljphpcnaaDoorGCkx2
import Derived.Test.YtpmbdcljphpcnaaDoorGCkx3
import Derived.Test.YtpmbdcljphpcnaaDoorGCkx6
import Derived.Test.YtpmbdcljphpcnaaDoorGCkx9
import Derived.Test.YtpmbdcljphpcnaaDoorGCkx10
import Derived.Test.YtpmbdcljphpcnaaDoorGCkx12
import Derived.Test.YtpmbdcljphpcnaaDoorGCkx13
import Derived.Test.YtpmbdcljphpcnaaDoorGCkx14
import Derived.Test.YtpmbdcljphpcnaaDoorGCkEncode
import Derived.Test.YtpmbdcljphpcnaaDoorGCkSame
namespace Go.Proofs.YtpmbdcljphpcnaaDoor.GCk
open Go.RowKit Go.Proofs.YtpmbdcljphpcnaaDoorW.PrintWords Go.Proofs.YtpmbdcljphpcnaaDoorW.PrintLast
set_option linter.unusedVariables false
set_option linter.unusedSimpArgs false

theorem sB {α : Type _} (l : List α) (i : Nat) (a : α) : l.toArray.setIfInBounds i a = (l.set i a).toArray := List.setIfInBounds_toArray l i a
theorem sZ {α : Type _} {x : α} {xs : List α} {a : α} : (x :: xs).set 0 a = a :: xs := List.set_cons_zero
theorem sS {α : Type _} {x : α} {xs : List α} {n : Nat} {a : α} : (x :: xs).set (n + 1) a = x :: xs.set n a := List.set_cons_succ

/-! ### bosunlaw17_CkoneCodes: function 3 -/
mutual
def bosunlaw17_CkoneCodes.j0 : Nat → ByteArray → Bool → Int → List (S66) → Int → List (S66) → Option (Bool)
 | 0,_,_,_,_,_,_=>none
 | k + 1,x2,x24,x201000,x201001,x202000,x202001=>if x24 = true then ((bosunlaw17_Awake.f k).bind fun t204=>(some t204)) else ((bosunlaw17_Of.f k x201000 x201001).bind fun bt205=>((bosunlaw17_Of.f k x202000 x202001).bind fun bt209=>((bosunref17_Check.f k bt205.1 bt205.2).bind fun t215=>((ckone_Encode.f k x201000 x201001).bind fun bt216=>((ckone_State_Check.f k x201000 x201001).bind fun t218=>(if t218 = t215 then (if bt216.2 = t215 then (if t215 = 0 then ((bosunref17_Bytes.f k bt205.1 bt205.2).bind fun t219=>(if bt216.1.toList = t219.toList then (bosunlaw17_CkoneCodes.j1 k x2 false x201000 x201001 x202000 x202001 bt205.1 bt205.2 bt209.1 bt209.2) else (bosunlaw17_CkoneCodes.j1 k x2 true x201000 x201001 x202000 x202001 bt205.1 bt205.2 bt209.1 bt209.2))) else (bosunlaw17_CkoneCodes.j1 k x2 (bt216.1.toList != ([] : List UInt8)) x201000 x201001 x202000 x202001 bt205.1 bt205.2 bt209.1 bt209.2)) else (bosunlaw17_CkoneCodes.j1 k x2 true x201000 x201001 x202000 x202001 bt205.1 bt205.2 bt209.1 bt209.2)) else (bosunlaw17_CkoneCodes.j1 k x2 true x201000 x201001 x202000 x202001 bt205.1 bt205.2 bt209.1 bt209.2)))))))
def bosunlaw17_CkoneCodes.j1 : Nat → ByteArray → Bool → Int → List (S66) → Int → List (S66) → Int → List (S67) → Int → List (S67) → Option (Bool)
 | 0,_,_,_,_,_,_,_,_,_,_=>none
 | k + 1,x2,x63,x201000,x201001,x202000,x202001,x214000,x214001,x215000,x215001=>if x63 = true then (some false) else ((bosunlaw17_Awake.f k).bind fun t220=>(if t220 = true then ((ckone_State_Same.f x201000 x201001 x202000 x202001).bind fun t221=>((bosunref17_Same.f k x214000 x214001 x215000 x215001).bind fun t222=>(if (t221 == t222) = true then ((ckone_State_Same.f x201000 x201001 x201000 x201001).bind fun t223=>(if t223 = true then ((ckone_File.f k x2).bind fun t224=>((bosunref04_Name.f k x2).bind fun t225=>(some (t224 == t225)))) else (some false))) else (some false)))) else (some false)))
end
def bosunlaw17_CkoneCodes.f (k : Nat) (a0_0 : Int) (l0_1 : List (S66)) (a1_0 : Int) (l1_1 : List (S66)) (a2 : ByteArray) : Option (Bool):=(bosunlaw17_Small.f k a0_0 l0_1).bind fun t202=>(if t202 = true then ((bosunlaw17_Small.f k a1_0 l1_1).bind fun t203=>(if t203 = true then (bosunlaw17_CkoneCodes.j0 k a2 (decide ((a2.size : Int) > 200)) a0_0 l0_1 a1_0 l1_1) else (bosunlaw17_CkoneCodes.j0 k a2 true a0_0 l0_1 a1_0 l1_1))) else (bosunlaw17_CkoneCodes.j0 k a2 true a0_0 l0_1 a1_0 l1_1))
theorem bosunlaw17_CkoneCodes.mono_l : ∀ k,(∀ y0 y1 y2 y3 y4 y5,LeO (bosunlaw17_CkoneCodes.j0 k y0 y1 y2 y3 y4 y5) (bosunlaw17_CkoneCodes.j0 (k + 1) y0 y1 y2 y3 y4 y5)) ∧ (∀ y0 y1 y2 y3 y4 y5 y6 y7 y8 y9,LeO (bosunlaw17_CkoneCodes.j1 k y0 y1 y2 y3 y4 y5 y6 y7 y8 y9) (bosunlaw17_CkoneCodes.j1 (k + 1) y0 y1 y2 y3 y4 y5 y6 y7 y8 y9))
 | 0=>⟨fun _ _ _ _ _ _ r h=>by simp [bosunlaw17_CkoneCodes.j0] at h,fun _ _ _ _ _ _ _ _ _ _ r h=>by simp [bosunlaw17_CkoneCodes.j1] at h⟩
 | k + 1=>by
  obtain ⟨ih0,ih1⟩:=bosunlaw17_CkoneCodes.mono_l k
  refine ⟨?_,?_⟩
  ·intro y0 y1 y2 y3 y4 y5
   unfold bosunlaw17_CkoneCodes.j0
   repeat' first
   | (with_reducible exact ih0 _ _ _ _ _ _)
   | (with_reducible exact ih1 _ _ _ _ _ _ _ _ _ _)
   | (with_reducible exact bosunlaw17_Awake.mono _)
   | (with_reducible exact bosunlaw17_Of.mono _ _ _)
   | (with_reducible exact bosunlaw17_Small.mono _ _ _)
   | (with_reducible exact bosunref04_Name.mono _ _)
   | (with_reducible exact bosunref17_Bytes.mono _ _ _)
   | (with_reducible exact bosunref17_Check.mono _ _ _)
   | (with_reducible exact bosunref17_Same.mono _ _ _ _ _)
   | (with_reducible exact ckone_Encode.mono _ _ _)
   | (with_reducible exact ckone_File.mono _ _)
   | (with_reducible exact ckone_State_Check.mono _ _ _)
   | (with_reducible exact LeO.refl _)
   | (with_reducible exact LeO.none _)
   | (with_reducible refine LeO.ite ?_ ?_)
   | (with_reducible refine LeO.bind ?_ (fun _=>?_))
   | exact ih0 _ _ _ _ _ _
   | exact ih1 _ _ _ _ _ _ _ _ _ _
   | exact bosunlaw17_Awake.mono _
   | exact bosunlaw17_Of.mono _ _ _
   | exact bosunlaw17_Small.mono _ _ _
   | exact bosunref04_Name.mono _ _
   | exact bosunref17_Bytes.mono _ _ _
   | exact bosunref17_Check.mono _ _ _
   | exact bosunref17_Same.mono _ _ _ _ _
   | exact ckone_Encode.mono _ _ _
   | exact ckone_File.mono _ _
   | exact ckone_State_Check.mono _ _ _
   | exact LeO.none _
   | refine LeO.ite ?_ ?_
   | refine LeO.bind ?_ (fun _=>?_)
  ·intro y0 y1 y2 y3 y4 y5 y6 y7 y8 y9
   unfold bosunlaw17_CkoneCodes.j1
   repeat' first
   | (with_reducible exact ih0 _ _ _ _ _ _)
   | (with_reducible exact ih1 _ _ _ _ _ _ _ _ _ _)
   | (with_reducible exact bosunlaw17_Awake.mono _)
   | (with_reducible exact bosunlaw17_Of.mono _ _ _)
   | (with_reducible exact bosunlaw17_Small.mono _ _ _)
   | (with_reducible exact bosunref04_Name.mono _ _)
   | (with_reducible exact bosunref17_Bytes.mono _ _ _)
   | (with_reducible exact bosunref17_Check.mono _ _ _)
   | (with_reducible exact bosunref17_Same.mono _ _ _ _ _)
   | (with_reducible exact ckone_Encode.mono _ _ _)
   | (with_reducible exact ckone_File.mono _ _)
   | (with_reducible exact ckone_State_Check.mono _ _ _)
   | (with_reducible exact LeO.refl _)
   | (with_reducible exact LeO.none _)
   | (with_reducible refine LeO.ite ?_ ?_)
   | (with_reducible refine LeO.bind ?_ (fun _=>?_))
   | exact ih0 _ _ _ _ _ _
   | exact ih1 _ _ _ _ _ _ _ _ _ _
   | exact bosunlaw17_Awake.mono _
   | exact bosunlaw17_Of.mono _ _ _
   | exact bosunlaw17_Small.mono _ _ _
   | exact bosunref04_Name.mono _ _
   | exact bosunref17_Bytes.mono _ _ _
   | exact bosunref17_Check.mono _ _ _
   | exact bosunref17_Same.mono _ _ _ _ _
   | exact ckone_Encode.mono _ _ _
   | exact ckone_File.mono _ _
   | exact ckone_State_Check.mono _ _ _
   | exact LeO.none _
   | refine LeO.ite ?_ ?_
   | refine LeO.bind ?_ (fun _=>?_)
theorem bosunlaw17_CkoneCodes.mono : ∀ a0 a1 a2 a3 a4 k,LeO (bosunlaw17_CkoneCodes.f k a0 a1 a2 a3 a4) (bosunlaw17_CkoneCodes.f (k + 1) a0 a1 a2 a3 a4):=by
 intro a0 a1 a2 a3 a4 k
 obtain ⟨ih0,ih1⟩:=bosunlaw17_CkoneCodes.mono_l k
 unfold bosunlaw17_CkoneCodes.f
 repeat' first
   | (with_reducible exact ih0 _ _ _ _ _ _)
   | (with_reducible exact ih1 _ _ _ _ _ _ _ _ _ _)
   | (with_reducible exact bosunlaw17_Awake.mono _)
   | (with_reducible exact bosunlaw17_Of.mono _ _ _)
   | (with_reducible exact bosunlaw17_Small.mono _ _ _)
   | (with_reducible exact bosunref04_Name.mono _ _)
   | (with_reducible exact bosunref17_Bytes.mono _ _ _)
   | (with_reducible exact bosunref17_Check.mono _ _ _)
   | (with_reducible exact bosunref17_Same.mono _ _ _ _ _)
   | (with_reducible exact ckone_Encode.mono _ _ _)
   | (with_reducible exact ckone_File.mono _ _)
   | (with_reducible exact ckone_State_Check.mono _ _ _)
   | (with_reducible exact LeO.refl _)
   | (with_reducible exact LeO.none _)
   | (with_reducible refine LeO.ite ?_ ?_)
   | (with_reducible refine LeO.bind ?_ (fun _=>?_))
   | exact ih0 _ _ _ _ _ _
   | exact ih1 _ _ _ _ _ _ _ _ _ _
   | exact bosunlaw17_Awake.mono _
   | exact bosunlaw17_Of.mono _ _ _
   | exact bosunlaw17_Small.mono _ _ _
   | exact bosunref04_Name.mono _ _
   | exact bosunref17_Bytes.mono _ _ _
   | exact bosunref17_Check.mono _ _ _
   | exact bosunref17_Same.mono _ _ _ _ _
   | exact ckone_Encode.mono _ _ _
   | exact ckone_File.mono _ _
   | exact ckone_State_Check.mono _ _ _
   | exact LeO.none _
   | refine LeO.ite ?_ ?_
   | refine LeO.bind ?_ (fun _=>?_)
def bosunlaw17_CkoneCodes.T3 : Bool × List (List Nat × List Nat):=(true,[([],[]),([0],[0]),([],[]),([2,1],[2]),([],[]),([],[]),([4,1,3,0,1,4,5],[1,4]),([5,3,6,0,1,2,3,4,5,6],[3,5])])
def bosunlaw17_CkoneCodes.B3 : List Nat:=[0,1,0,7,0,0,63,127]
theorem bosunlaw17_CkoneCodes.tab3 : rtab .any (opsOf Tryd.f3 3) = bosunlaw17_CkoneCodes.T3:=by kernel_rfl
theorem bosunlaw17_CkoneCodes.bits3 : waitsOk bosunlaw17_CkoneCodes.T3.2 bosunlaw17_CkoneCodes.B3 = true:=by kernel_rfl
def bosunlaw17_CkoneCodes.T8 : Bool × List (List Nat × List Nat):=(true,[([],[]),([0,0],[0]),([1],[1]),([1],[1]),([2,3,1,1],[1,2,3]),([1],[1]),([1],[1]),([5,6,4,1],[1,5,6]),([4,7,1],[1,4,7]),([1,8],[1,8]),([9,7],[9]),([10],[10]),([10],[10]),([11,12,10,10],[10,11,12]),([10,13],[10,13]),([14,13],[14]),([15],[15]),([16,15,15],[15,16]),([15],[15]),([18,17,15],[15,18]),([17,19,15],[15,17,19]),([15,20],[15,20]),([21,19,0,1,2,3,4,5,6,7,8,9,10,11,12,13,14,15,16,17,18,19,20,21],[21])])
def bosunlaw17_CkoneCodes.B8 : List Nat:=[0,1,3,3,15,3,3,127,255,511,1023,2047,2047,8191,16383,32767,65535,131071,65535,524287,1048575,2097151,4194303]
theorem bosunlaw17_CkoneCodes.tab8 : rtab .any (opsOf Tryd.f3 8) = bosunlaw17_CkoneCodes.T8:=by kernel_rfl
theorem bosunlaw17_CkoneCodes.bits8 : waitsOk bosunlaw17_CkoneCodes.T8.2 bosunlaw17_CkoneCodes.B8 = true:=by kernel_rfl
end Go.Proofs.YtpmbdcljphpcnaaDoor.GCk
