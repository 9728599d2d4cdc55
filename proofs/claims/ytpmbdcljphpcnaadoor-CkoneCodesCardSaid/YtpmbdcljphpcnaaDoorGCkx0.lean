/- Written by this session's own program (wip/gen.py) out of the translation: plain Lean functions of the Go functions, and proofs that the calls come to their answers. No conditions beside those in the statements. -/
import Derived.Test.YtpmbdcljphpcnaaDoorProg
import Derived.Below
import Derived.Deep.Draws
import Derived.Deep.AppendLies
import Derived.Maps.AppendAt
import Derived.OwnWalk
import Derived.Laws.BytesArg
import Derived.Laws.MakeOwn
import Derived.Laws.OwnMore
import Derived.Deep.OwnRows
import Derived.Tactics
import Derived.Lib.ConvBytes
import Derived.Laws.Slices
import Derived.WalkKit
import Derived.KernelRfl
import Derived.RowKit3
import Derived.Deep.LoopGhost
import Derived.Deep.QuietTactic
import Derived.BigQuiet
import Derived.WideLaws
import Derived.Deep.DeepCutAuto
import Derived.Deep.CutBlock
import Derived.Deep.RegionHeld3
import Derived.Laws.Rows
import Derived.Lib.AppendStr
import Derived.ArgAppend
import Derived.Laws.IdiomCopy
import Derived.OrdersHeld
import Derived.Laws.BitsLemmas
import Derived.RowKit
import Derived.Test.YtpmbdcljphpcnaaDoorLess
import Derived.Test.YtpmbdcljphpcnaaDoorWWords
import Derived.Test.YtpmbdcljphpcnaaDoorWLast
import Derived.Test.YtpmbdcljphpcnaaDoorWTab
import Derived.Test.YtpmbdcljphpcnaaDoorWEqStruct
import Derived.Test.YtpmbdcljphpcnaaDoorWRepsOne
namespace Go.Proofs.YtpmbdcljphpcnaaDoor.GCk
open Go.RowKit Go.Proofs.YtpmbdcljphpcnaaDoorW.PrintWords Go.Proofs.YtpmbdcljphpcnaaDoorW.PrintLast
set_option linter.unusedVariables false
set_option linter.unusedSimpArgs false



def errW : Option Int → Value
 | none=>.nilIface
 | some c=>.iface 0 (.int .i64 c)
theorem errW_none : errW none = .nilIface:=rfl
theorem errW_some (c : Int) : errW (some c) = .iface 0 (.int .i64 c):=rfl


theorem u64_id {x : Int} (h0 : 0 ≤ x) (h1 : x ≤ 18446744073709551615) : IntKind.u64.wrap x = x:=by simp [IntKind.wrap,IntKind.bits,IntKind.signed];omega
theorem i64_id {x : Int} (h0 : -9223372036854775808 ≤ x) (h1 : x ≤ 9223372036854775807) : wrap64 x = x:=by unfold wrap64;omega
theorem u8_id {x : Int} (h0 : 0 ≤ x) (h1 : x ≤ 255) : x % 256 = x:=by omega
theorem bl_leq : ∀ x y : List UInt8,(Op.bytesLess x y || x == y) = !(Op.bytesLess y x)
 | [],[]=>rfl
 | [],_ :: _=>rfl
 | _ :: _,[]=>rfl
 | a :: x,b :: y=>by
  have ih:=bl_leq x y
  simp only [Op.bytesLess,List.cons_beq_cons]
  rcases Nat.lt_trichotomy a.toNat b.toNat with h|h|h
  ·have h1 : a < b:=h
   have h2 : ¬ b < a:=fun e=>by have : b.toNat < a.toNat:=e;omega
   have h3 : ¬ b = a:=fun e=>by subst e;omega
   simp [h1,h2,h3]
  ·obtain rfl : a = b:=UInt8.toNat_inj.1 h
   simpa using ih
  ·have h1 : b < a:=h
   have h2 : ¬ a < b:=fun e=>by have : a.toNat < b.toNat:=e;omega
   have h3 : ¬ b = a:=fun e=>by subst e;omega
   have h4 : ¬ a = b:=fun e=>by subst e;omega
   simp [h1,h2,h3,h4]
@[go_sem] theorem bin_leq (t : TypeId) (a b : ByteArray) : binOp .leq t (.string a) (.string b) = pure (.bool (!(Op.bytesLess b.toList a.toList))):=by
 rw [← bl_leq];simp [binOp,Op.stringOp]
@[go_sem] theorem bin_gtr (t : TypeId) (a b : ByteArray) : binOp .gtr t (.string a) (.string b) = pure (.bool (Op.bytesLess b.toList a.toList)):=by
 have e : binOp .gtr t (.string a) (.string b) = pure (.bool (!(Op.bytesLess a.toList b.toList || a.toList == b.toList))):=by simp [binOp,Op.stringOp]
 rw [e,bl_leq,Bool.not_not]
@[go_sem] theorem bin_geq (t : TypeId) (a b : ByteArray) : binOp .geq t (.string a) (.string b) = pure (.bool (!(Op.bytesLess a.toList b.toList))):=by simp [binOp,Op.stringOp]

theorem info5 : (Tryd.prog.info? 5).map (fun i=>(i.zero,i.size,i.bytes)) = some (some (.int .u8 0),1,1):=by kernel_rfl
theorem info9 : (Tryd.prog.info? 9).map (fun i=>(i.zero,i.size,i.bytes)) = some (some (.string ⟨#[]⟩),1,16):=by kernel_rfl
theorem info67 : (Tryd.prog.info? 67).map (fun i=>(i.zero,i.size,i.bytes)) = some (some (.agg #[(.string ⟨#[]⟩),(.string ⟨#[]⟩),(.string ⟨#[]⟩),(.int .u8 0)]),4,56):=by kernel_rfl
-- the values' own types
/-! #### struct type 66 -/
structure S66 where
 f0 : ByteArray
 f1 : ByteArray
 f2 : ByteArray
 f3 : Int
def z66 : S66:=⟨(⟨#[]⟩ : ByteArray),(⟨#[]⟩ : ByteArray),(⟨#[]⟩ : ByteArray),(0 : Int)⟩
def k66 : Kd S66:=Kd.iso (Kd.pair Kd.string (Kd.pair Kd.string (Kd.pair Kd.string (Kd.int .u8)))) (fun x : S66=>(x.f0,x.f1,x.f2,x.f3))
theorem k66_open {w : World} {x : S66} {cs : List Value} (h : k66.K w x cs) : cs = [.string x.f0,.string x.f1,.string x.f2,.int .u8 x.f3]:=by
 obtain ⟨_,_,rfl,rfl,⟨_,_,rfl,rfl,⟨_,_,rfl,rfl,rfl⟩⟩⟩:=h
 exact rfl
theorem k66_openM {w : World} {base : Nat} {ok : Nat → Prop} {x : S66} {cs : List Value} (h : k66.M w base ok x cs) : cs = [.string x.f0,.string x.f1,.string x.f2,.int .u8 x.f3]:=by
 obtain ⟨_,_,rfl,rfl,⟨_,_,rfl,rfl,⟨_,_,rfl,rfl,rfl⟩⟩⟩:=h
 exact rfl
theorem k66_mk (w : World) (x : S66)  : k66.K w x [.string x.f0,.string x.f1,.string x.f2,.int .u8 x.f3]:=⟨[.string x.f0],[.string x.f1,.string x.f2,.int .u8 x.f3],rfl,rfl,⟨[.string x.f1],[.string x.f2,.int .u8 x.f3],rfl,rfl,⟨[.string x.f2],[.int .u8 x.f3],rfl,rfl,rfl⟩⟩⟩
theorem k66_mkM (w : World) (base : Nat) (ok : Nat → Prop) (x : S66)  : k66.M w base ok x [.string x.f0,.string x.f1,.string x.f2,.int .u8 x.f3]:=⟨[.string x.f0],[.string x.f1,.string x.f2,.int .u8 x.f3],rfl,rfl,⟨[.string x.f1],[.string x.f2,.int .u8 x.f3],rfl,rfl,⟨[.string x.f2],[.int .u8 x.f3],rfl,rfl,rfl⟩⟩⟩
def rd_T66 (xs : List S66) (i : Int) : S66:=xs.getD i.toNat z66
theorem at_T66 {w : World} {A : Option Addr} {n : Nat} {xs : List S66} (h : Kd.C k66 w A n xs) (i : Int) (h0 : 0 ≤ i) (h1 : i < n) : ∃ ad ,A = some ad ∧ w.cell? (ad.add (i.toNat * 4)) = some (.string (rd_T66 xs i).f0) ∧ w.cell? ⟨(ad.add (i.toNat * 4)).block,(ad.add (i.toNat * 4)).off + 1,none⟩ = some (.string (rd_T66 xs i).f1) ∧ w.cell? ⟨(ad.add (i.toNat * 4)).block,(ad.add (i.toNat * 4)).off + 2,none⟩ = some (.string (rd_T66 xs i).f2) ∧ w.cell? ⟨(ad.add (i.toNat * 4)).block,(ad.add (i.toNat * 4)).off + 3,none⟩ = some (.int .u8 (rd_T66 xs i).f3):=by
 obtain ⟨ad,c,e,_,hK,hc0⟩:=Kd.C_get h z66 i h0 h1
 have hc : ∀ j u,c[j]? = some u → w.cell? (ad.add (i.toNat * 4 + j)) = some u:=hc0
 obtain rfl:=k66_open hK
 exact ⟨ad,e,hc 0 _ rfl,by rw [← add_field _ _ 1 (by omega)];exact hc 1 _ rfl,by rw [← add_field _ _ 2 (by omega)];exact hc 2 _ rfl,by rw [← add_field _ _ 3 (by omega)];exact hc 3 _ rfl⟩

def rd_L6 (xs : List (List S66)) (i : Int) : (List S66):=xs.getD i.toNat ([] : List S66)
theorem at_L6 {w : World} {A : Option Addr} {n : Nat} {xs : List (List S66)} (h : Kd.C (Kd.slice 66 k66) w A n xs) (i : Int) (h0 : 0 ≤ i) (h1 : i < n) : ∃ ad A0 c0,A = some ad ∧ w.cell? (ad.add i.toNat) = some (.slice A0 (rd_L6 xs i).length c0) ∧ (rd_L6 xs i).length ≤ c0 ∧ k66.C w A0 (rd_L6 xs i).length (rd_L6 xs i):=by
 obtain ⟨ad,c,e,_,hK,hc0⟩:=Kd.C_get h ([] : List S66) i h0 h1
 have hc : ∀ j u,c[j]? = some u → w.cell? (ad.add (i.toNat * 1 + j)) = some u:=hc0
 obtain ⟨A0,c0,rfl,l0,g0⟩:=hK
 exact ⟨ad,A0,c0,e,by have hq:=hc 0 _ rfl;rwa [Nat.mul_one,Nat.add_zero] at hq,l0,g0⟩

/-! #### struct type 25 -/
structure S25 where
 f0 : Int
 f1 : (List S66)
def z25 : S25:=⟨(0 : Int),([] : List S66)⟩
def k25 : Kd S25:=Kd.iso (Kd.pair (Kd.int .u32) (Kd.slice 66 k66)) (fun x : S25=>(x.f0,x.f1))
theorem k25_open {w : World} {x : S25} {cs : List Value} (h : k25.K w x cs) : ∃ A1 c1,cs = [.int .u32 x.f0,.slice A1 x.f1.length c1] ∧ x.f1.length ≤ c1 ∧ k66.C w A1 x.f1.length x.f1:=by
 obtain ⟨_,_,rfl,rfl,⟨A1,c1,rfl,l1,g1⟩⟩:=h
 exact ⟨A1,c1,rfl,l1,g1⟩
theorem k25_openM {w : World} {base : Nat} {ok : Nat → Prop} {x : S25} {cs : List Value} (h : k25.M w base ok x cs) : ∃ v1,cs = [.int .u32 x.f0,v1] ∧ k66.R 66 w base ok v1 x.f1:=by
 obtain ⟨_,_,rfl,rfl,⟨v1,rfl,g1⟩⟩:=h
 exact ⟨v1,rfl,g1⟩
theorem k25_mk (w : World) (x : S25) {A1 : Option Addr} {c1 : Nat} (l1 : x.f1.length ≤ c1) (g1 : k66.C w A1 x.f1.length x.f1) : k25.K w x [.int .u32 x.f0,.slice A1 x.f1.length c1]:=⟨[.int .u32 x.f0],[.slice A1 x.f1.length c1],rfl,rfl,⟨A1,c1,rfl,l1,g1⟩⟩
theorem k25_mkM (w : World) (base : Nat) (ok : Nat → Prop) (x : S25) {v1 : Value} (g1 : k66.R 66 w base ok v1 x.f1) : k25.M w base ok x [.int .u32 x.f0,v1]:=⟨[.int .u32 x.f0],[v1],rfl,rfl,⟨v1,rfl,g1⟩⟩
def rd_T25 (xs : List S25) (i : Int) : S25:=xs.getD i.toNat z25
theorem at_T25 {w : World} {A : Option Addr} {n : Nat} {xs : List S25} (h : Kd.C k25 w A n xs) (i : Int) (h0 : 0 ≤ i) (h1 : i < n) : ∃ ad A1 c1,A = some ad ∧ w.cell? (ad.add (i.toNat * 2)) = some (.int .u32 (rd_T25 xs i).f0) ∧ w.cell? ⟨(ad.add (i.toNat * 2)).block,(ad.add (i.toNat * 2)).off + 1,none⟩ = some (.slice A1 (rd_T25 xs i).f1.length c1) ∧ (rd_T25 xs i).f1.length ≤ c1 ∧ k66.C w A1 (rd_T25 xs i).f1.length (rd_T25 xs i).f1:=by
 obtain ⟨ad,c,e,_,hK,hc0⟩:=Kd.C_get h z25 i h0 h1
 have hc : ∀ j u,c[j]? = some u → w.cell? (ad.add (i.toNat * 2 + j)) = some u:=hc0
 obtain ⟨A1,c1,rfl,l1,g1⟩:=k25_open hK
 exact ⟨ad,A1,c1,e,hc 0 _ rfl,by rw [← add_field _ _ 1 (by omega)];exact hc 1 _ rfl,l1,g1⟩

/-! #### struct type 67 -/
structure S67 where
 f0 : ByteArray
 f1 : ByteArray
 f2 : ByteArray
 f3 : Int
def z67 : S67:=⟨(⟨#[]⟩ : ByteArray),(⟨#[]⟩ : ByteArray),(⟨#[]⟩ : ByteArray),(0 : Int)⟩
def k67 : Kd S67:=Kd.iso (Kd.pair Kd.string (Kd.pair Kd.string (Kd.pair Kd.string (Kd.int .u8)))) (fun x : S67=>(x.f0,x.f1,x.f2,x.f3))
theorem k67_open {w : World} {x : S67} {cs : List Value} (h : k67.K w x cs) : cs = [.string x.f0,.string x.f1,.string x.f2,.int .u8 x.f3]:=by
 obtain ⟨_,_,rfl,rfl,⟨_,_,rfl,rfl,⟨_,_,rfl,rfl,rfl⟩⟩⟩:=h
 exact rfl
theorem k67_openM {w : World} {base : Nat} {ok : Nat → Prop} {x : S67} {cs : List Value} (h : k67.M w base ok x cs) : cs = [.string x.f0,.string x.f1,.string x.f2,.int .u8 x.f3]:=by
 obtain ⟨_,_,rfl,rfl,⟨_,_,rfl,rfl,⟨_,_,rfl,rfl,rfl⟩⟩⟩:=h
 exact rfl
theorem k67_mk (w : World) (x : S67)  : k67.K w x [.string x.f0,.string x.f1,.string x.f2,.int .u8 x.f3]:=⟨[.string x.f0],[.string x.f1,.string x.f2,.int .u8 x.f3],rfl,rfl,⟨[.string x.f1],[.string x.f2,.int .u8 x.f3],rfl,rfl,⟨[.string x.f2],[.int .u8 x.f3],rfl,rfl,rfl⟩⟩⟩
theorem k67_mkM (w : World) (base : Nat) (ok : Nat → Prop) (x : S67)  : k67.M w base ok x [.string x.f0,.string x.f1,.string x.f2,.int .u8 x.f3]:=⟨[.string x.f0],[.string x.f1,.string x.f2,.int .u8 x.f3],rfl,rfl,⟨[.string x.f1],[.string x.f2,.int .u8 x.f3],rfl,rfl,⟨[.string x.f2],[.int .u8 x.f3],rfl,rfl,rfl⟩⟩⟩
def rd_T67 (xs : List S67) (i : Int) : S67:=xs.getD i.toNat z67
theorem at_T67 {w : World} {A : Option Addr} {n : Nat} {xs : List S67} (h : Kd.C k67 w A n xs) (i : Int) (h0 : 0 ≤ i) (h1 : i < n) : ∃ ad ,A = some ad ∧ w.cell? (ad.add (i.toNat * 4)) = some (.string (rd_T67 xs i).f0) ∧ w.cell? ⟨(ad.add (i.toNat * 4)).block,(ad.add (i.toNat * 4)).off + 1,none⟩ = some (.string (rd_T67 xs i).f1) ∧ w.cell? ⟨(ad.add (i.toNat * 4)).block,(ad.add (i.toNat * 4)).off + 2,none⟩ = some (.string (rd_T67 xs i).f2) ∧ w.cell? ⟨(ad.add (i.toNat * 4)).block,(ad.add (i.toNat * 4)).off + 3,none⟩ = some (.int .u8 (rd_T67 xs i).f3):=by
 obtain ⟨ad,c,e,_,hK,hc0⟩:=Kd.C_get h z67 i h0 h1
 have hc : ∀ j u,c[j]? = some u → w.cell? (ad.add (i.toNat * 4 + j)) = some u:=hc0
 obtain rfl:=k67_open hK
 exact ⟨ad,e,hc 0 _ rfl,by rw [← add_field _ _ 1 (by omega)];exact hc 1 _ rfl,by rw [← add_field _ _ 2 (by omega)];exact hc 2 _ rfl,by rw [← add_field _ _ 3 (by omega)];exact hc 3 _ rfl⟩

end Go.Proofs.YtpmbdcljphpcnaaDoor.GCk
