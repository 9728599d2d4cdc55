/- Written by this session's own program (wip/gen.py) out of the translation: plain Lean functions of the Go functions, and proofs that the calls come to their answers. No conditions beside those in the statements. -/
import Derived.Test.YticabhjmojcfoaaDoorProg
import Derived.Below
import Derived.Deep.Draws
import Derived.Deep.AppendLies
import Derived.Maps.AppendAt
import Derived.OwnWalk
import Derived.Laws.BytesArg
import Derived.Laws.MakeOwn
import Derived.Laws.OwnMore
import Derived.Deep.OwnRows
import Derived.Tactics
import Derived.Lib.ConvBytes
import Derived.Laws.Slices
import Derived.WalkKit
import Derived.KernelRfl
import Derived.RowKit3
import Derived.Deep.LoopGhost
import Derived.Deep.QuietTactic
import Derived.BigQuiet
import Derived.WideLaws
import Derived.Deep.DeepCutAuto
import Derived.Deep.CutBlock
import Derived.Deep.RegionHeld3
import Derived.Laws.Rows
import Derived.Lib.AppendStr
import Derived.ArgAppend
import Derived.Laws.IdiomCopy
import Derived.OrdersHeld
import Derived.Laws.BitsLemmas
import Derived.RowKit
import Derived.Test.YticabhjmojcfoaaDoorWWords
import Derived.Test.YticabhjmojcfoaaDoorWLast
import Derived.Test.YticabhjmojcfoaaDoorWTab
import Derived.Test.YticabhjmojcfoaaDoorWFour
import Derived.Test.YticabhjmojcfoaaDoorWQPut
import Derived.Test.YticabhjmojcfoaaDoorWApart
import Derived.Test.YticabhjmojcfoaaDoorWArr
import Derived.Test.YticabhjmojcfoaaDoorWZeros
import Derived.Test.YticabhjmojcfoaaDoorWFoot
import Derived.Test.YticabhjmojcfoaaDoorWKept
import Derived.Test.YticabhjmojcfoaaDoorWShare
import Derived.Test.YticabhjmojcfoaaDoorWN
import Derived.Test.YticabhjmojcfoaaDoorWFootNe
import Derived.Test.YticabhjmojcfoaaDoorWAt
import Derived.Test.YticabhjmojcfoaaDoorWEqStruct
import Derived.Test.YticabhjmojcfoaaDoorWRepsOne
import Derived.Test.YticabhjmojcfoaaDoorWInv
import Derived.Test.YticabhjmojcfoaaDoorWInvWords
import Derived.Test.YticabhjmojcfoaaDoorWGuard
import Derived.Test.YticabhjmojcfoaaDoorWNEv
import Derived.Test.YticabhjmojcfoaaDoorWMore
namespace Go.Proofs.YticabhjmojcfoaaDoor.GUt
open Go.RowKit Go.Proofs.YticabhjmojcfoaaDoorW.PrintWords Go.Proofs.YticabhjmojcfoaaDoorW.PrintLast Go.Proofs.YticabhjmojcfoaaDoorW.PrintMore
attribute [local go_sem] max2_int min2_int max_two min_two max_three min_three max_four min_four   -- for this text's walks alone
set_option linter.unusedVariables false
set_option linter.unusedSimpArgs false



def errW : Option Int → Value
 | none=>.nilIface
 | some c=>.iface 0 (.int .i64 c)
theorem errW_none : errW none = .nilIface:=rfl
theorem errW_some (c : Int) : errW (some c) = .iface 0 (.int .i64 c):=rfl


theorem u64_id {x : Int} (h0 : 0 ≤ x) (h1 : x ≤ 18446744073709551615) : IntKind.u64.wrap x = x:=by simp [IntKind.wrap,IntKind.bits,IntKind.signed];omega
theorem i64_id {x : Int} (h0 : -9223372036854775808 ≤ x) (h1 : x ≤ 9223372036854775807) : wrap64 x = x:=by unfold wrap64;omega
theorem nil_ne_ (l : List UInt8) : (l != []) = !l.isEmpty:=by cases l <;> rfl
theorem u8_id {x : Int} (h0 : 0 ≤ x) (h1 : x ≤ 255) : x % 256 = x:=by omega
theorem bl_leq : ∀ x y : List UInt8,(Op.bytesLess x y || x == y) = !(Op.bytesLess y x)
 | [],[]=>rfl
 | [],_ :: _=>rfl
 | _ :: _,[]=>rfl
 | a :: x,b :: y=>by
  have ih:=bl_leq x y
  simp only [Op.bytesLess,List.cons_beq_cons]
  rcases Nat.lt_trichotomy a.toNat b.toNat with h|h|h
  ·have h1 : a < b:=h
   have h2 : ¬ b < a:=fun e=>by have : b.toNat < a.toNat:=e;omega
   have h3 : ¬ b = a:=fun e=>by subst e;omega
   simp [h1,h2,h3]
  ·obtain rfl : a = b:=UInt8.toNat_inj.1 h
   simpa using ih
  ·have h1 : b < a:=h
   have h2 : ¬ a < b:=fun e=>by have : a.toNat < b.toNat:=e;omega
   have h3 : ¬ b = a:=fun e=>by subst e;omega
   have h4 : ¬ a = b:=fun e=>by subst e;omega
   simp [h1,h2,h3,h4]
@[go_sem] theorem bin_leq (t : TypeId) (a b : ByteArray) : binOp .leq t (.string a) (.string b) = pure (.bool (!(Op.bytesLess b.toList a.toList))):=by
 rw [← bl_leq];simp [binOp,Op.stringOp]
@[go_sem] theorem bin_gtr (t : TypeId) (a b : ByteArray) : binOp .gtr t (.string a) (.string b) = pure (.bool (Op.bytesLess b.toList a.toList)):=by
 have e : binOp .gtr t (.string a) (.string b) = pure (.bool (!(Op.bytesLess a.toList b.toList || a.toList == b.toList))):=by simp [binOp,Op.stringOp]
 rw [e,bl_leq,Bool.not_not]
@[go_sem] theorem bin_geq (t : TypeId) (a b : ByteArray) : binOp .geq t (.string a) (.string b) = pure (.bool (!(Op.bytesLess a.toList b.toList))):=by simp [binOp,Op.stringOp]

theorem info9 : (Tryd.prog.info? 9).map (fun i=>(i.zero,i.size,i.bytes)) = some (some (.string ⟨#[]⟩),1,16):=by kernel_rfl
theorem info31 : (Tryd.prog.info? 31).map (fun i=>(i.zero,i.size,i.bytes)) = some (some (.agg #[(.int .i64 0),(.int .i64 0),(.bool false),(.string ⟨#[]⟩)]),4,40):=by kernel_rfl
theorem info32 : (Tryd.prog.info? 32).map (fun i=>(i.zero,i.size,i.bytes)) = some (some (.agg #[(.int .i64 0),(.int .i64 0),(.bool false),(.string ⟨#[]⟩)]),4,40):=by kernel_rfl
-- the values' own types
/-! #### struct type 32 -/
structure S32 where
 f0 : Int
 f1 : Int
 f2 : Bool
 f3 : ByteArray
def z32 : S32:=⟨(0 : Int),(0 : Int),false,(⟨#[]⟩ : ByteArray)⟩
def k32 : Kd S32:=Kd.iso (Kd.pair (Kd.int .i64) (Kd.pair (Kd.int .i64) (Kd.pair Kd.bool Kd.string))) (fun x : S32=>(x.f0,x.f1,x.f2,x.f3))
theorem k32_open {w : World} {x : S32} {cs : List Value} (h : k32.K w x cs) : cs = [.int .i64 x.f0,.int .i64 x.f1,.bool x.f2,.string x.f3]:=by
 obtain ⟨_,_,rfl,rfl,⟨_,_,rfl,rfl,⟨_,_,rfl,rfl,rfl⟩⟩⟩:=h
 exact rfl
theorem k32_openM {w : World} {base : Nat} {ok : Nat → Prop} {x : S32} {cs : List Value} (h : k32.M w base ok x cs) : cs = [.int .i64 x.f0,.int .i64 x.f1,.bool x.f2,.string x.f3]:=by
 obtain ⟨_,_,rfl,rfl,⟨_,_,rfl,rfl,⟨_,_,rfl,rfl,rfl⟩⟩⟩:=h
 exact rfl
theorem k32_mk (w : World) (x : S32)  : k32.K w x [.int .i64 x.f0,.int .i64 x.f1,.bool x.f2,.string x.f3]:=⟨[.int .i64 x.f0],[.int .i64 x.f1,.bool x.f2,.string x.f3],rfl,rfl,⟨[.int .i64 x.f1],[.bool x.f2,.string x.f3],rfl,rfl,⟨[.bool x.f2],[.string x.f3],rfl,rfl,rfl⟩⟩⟩
theorem k32_mkM (w : World) (base : Nat) (ok : Nat → Prop) (x : S32)  : k32.M w base ok x [.int .i64 x.f0,.int .i64 x.f1,.bool x.f2,.string x.f3]:=⟨[.int .i64 x.f0],[.int .i64 x.f1,.bool x.f2,.string x.f3],rfl,rfl,⟨[.int .i64 x.f1],[.bool x.f2,.string x.f3],rfl,rfl,⟨[.bool x.f2],[.string x.f3],rfl,rfl,rfl⟩⟩⟩
def rd_T32 (xs : List S32) (i : Int) : S32:=xs.getD i.toNat z32
theorem at_T32 {w : World} {A : Option Addr} {n : Nat} {xs : List S32} (h : Kd.C k32 w A n xs) (i : Int) (h0 : 0 ≤ i) (h1 : i < n) : ∃ ad ,A = some ad ∧ w.cell? (ad.add (i.toNat * 4)) = some (.int .i64 (rd_T32 xs i).f0) ∧ w.cell? ⟨(ad.add (i.toNat * 4)).block,(ad.add (i.toNat * 4)).off + 1,none⟩ = some (.int .i64 (rd_T32 xs i).f1) ∧ w.cell? ⟨(ad.add (i.toNat * 4)).block,(ad.add (i.toNat * 4)).off + 2,none⟩ = some (.bool (rd_T32 xs i).f2) ∧ w.cell? ⟨(ad.add (i.toNat * 4)).block,(ad.add (i.toNat * 4)).off + 3,none⟩ = some (.string (rd_T32 xs i).f3):=by
 obtain ⟨ad,c,e,_,hK,hc0⟩:=Kd.C_get h z32 i h0 h1
 have hc : ∀ j u,c[j]? = some u → w.cell? (ad.add (i.toNat * 4 + j)) = some u:=hc0
 obtain rfl:=k32_open hK
 exact ⟨ad,e,hc 0 _ rfl,by rw [← add_field _ _ 1 (by omega)];exact hc 1 _ rfl,by rw [← add_field _ _ 2 (by omega)];exact hc 2 _ rfl,by rw [← add_field _ _ 3 (by omega)];exact hc 3 _ rfl⟩

/-! #### struct type 31 -/
structure S31 where
 f0 : Int
 f1 : Int
 f2 : Bool
 f3 : ByteArray
def z31 : S31:=⟨(0 : Int),(0 : Int),false,(⟨#[]⟩ : ByteArray)⟩
def k31 : Kd S31:=Kd.iso (Kd.pair (Kd.int .i64) (Kd.pair (Kd.int .i64) (Kd.pair Kd.bool Kd.string))) (fun x : S31=>(x.f0,x.f1,x.f2,x.f3))
theorem k31_open {w : World} {x : S31} {cs : List Value} (h : k31.K w x cs) : cs = [.int .i64 x.f0,.int .i64 x.f1,.bool x.f2,.string x.f3]:=by
 obtain ⟨_,_,rfl,rfl,⟨_,_,rfl,rfl,⟨_,_,rfl,rfl,rfl⟩⟩⟩:=h
 exact rfl
theorem k31_openM {w : World} {base : Nat} {ok : Nat → Prop} {x : S31} {cs : List Value} (h : k31.M w base ok x cs) : cs = [.int .i64 x.f0,.int .i64 x.f1,.bool x.f2,.string x.f3]:=by
 obtain ⟨_,_,rfl,rfl,⟨_,_,rfl,rfl,⟨_,_,rfl,rfl,rfl⟩⟩⟩:=h
 exact rfl
theorem k31_mk (w : World) (x : S31)  : k31.K w x [.int .i64 x.f0,.int .i64 x.f1,.bool x.f2,.string x.f3]:=⟨[.int .i64 x.f0],[.int .i64 x.f1,.bool x.f2,.string x.f3],rfl,rfl,⟨[.int .i64 x.f1],[.bool x.f2,.string x.f3],rfl,rfl,⟨[.bool x.f2],[.string x.f3],rfl,rfl,rfl⟩⟩⟩
theorem k31_mkM (w : World) (base : Nat) (ok : Nat → Prop) (x : S31)  : k31.M w base ok x [.int .i64 x.f0,.int .i64 x.f1,.bool x.f2,.string x.f3]:=⟨[.int .i64 x.f0],[.int .i64 x.f1,.bool x.f2,.string x.f3],rfl,rfl,⟨[.int .i64 x.f1],[.bool x.f2,.string x.f3],rfl,rfl,⟨[.bool x.f2],[.string x.f3],rfl,rfl,rfl⟩⟩⟩
def rd_T31 (xs : List S31) (i : Int) : S31:=xs.getD i.toNat z31
theorem at_T31 {w : World} {A : Option Addr} {n : Nat} {xs : List S31} (h : Kd.C k31 w A n xs) (i : Int) (h0 : 0 ≤ i) (h1 : i < n) : ∃ ad ,A = some ad ∧ w.cell? (ad.add (i.toNat * 4)) = some (.int .i64 (rd_T31 xs i).f0) ∧ w.cell? ⟨(ad.add (i.toNat * 4)).block,(ad.add (i.toNat * 4)).off + 1,none⟩ = some (.int .i64 (rd_T31 xs i).f1) ∧ w.cell? ⟨(ad.add (i.toNat * 4)).block,(ad.add (i.toNat * 4)).off + 2,none⟩ = some (.bool (rd_T31 xs i).f2) ∧ w.cell? ⟨(ad.add (i.toNat * 4)).block,(ad.add (i.toNat * 4)).off + 3,none⟩ = some (.string (rd_T31 xs i).f3):=by
 obtain ⟨ad,c,e,_,hK,hc0⟩:=Kd.C_get h z31 i h0 h1
 have hc : ∀ j u,c[j]? = some u → w.cell? (ad.add (i.toNat * 4 + j)) = some u:=hc0
 obtain rfl:=k31_open hK
 exact ⟨ad,e,hc 0 _ rfl,by rw [← add_field _ _ 1 (by omega)];exact hc 1 _ rfl,by rw [← add_field _ _ 2 (by omega)];exact hc 2 _ rfl,by rw [← add_field _ _ 3 (by omega)];exact hc 3 _ rfl⟩

end Go.Proofs.YticabhjmojcfoaaDoor.GUt
