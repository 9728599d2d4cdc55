/- Written by this session's own program (wip/gen.py) out of the translation: plain Lean functions of the Go functions, and proofs that the calls come to their answers. No conditions beside those in the statements. -/
import Derived.Test.YtpmbdcljphpcnaaDoorProg
import Derived.Below
import Derived.Deep.Draws
import Derived.Deep.AppendLies
import Derived.Maps.AppendAt
import Derived.OwnWalk
import Derived.Laws.BytesArg
import Derived.Laws.MakeOwn
import Derived.Laws.OwnMore
import Derived.Deep.OwnRows
import Derived.Tactics
import Derived.Lib.ConvBytes
import Derived.Laws.Slices
import Derived.WalkKit
import Derived.KernelRfl
import Derived.RowKit3
import Derived.Deep.LoopGhost
import Derived.Deep.QuietTactic
import Derived.BigQuiet
import Derived.WideLaws
import Derived.Deep.DeepCutAuto
import Derived.Deep.CutBlock
import Derived.Deep.RegionHeld3
import Derived.Laws.Rows
import Derived.Lib.AppendStr
import Derived.ArgAppend
import Derived.Laws.IdiomCopy
import Derived.OrdersHeld
import Derived.Laws.BitsLemmas
import Derived.RowKit
import Derived.Test.YtpmbdcljphpcnaaDoorWd
namespace Go.Proofs.YtpmbdcljphpcnaaDoor.GC2
open Go.RowKit Go.Proofs.YtpmbdcljphpcnaaDoorW.PrintWords Go.Proofs.YtpmbdcljphpcnaaDoorW.PrintLast Go.Proofs.YtpmbdcljphpcnaaDoorW.PrintMore
attribute [local go_sem] max2_int min2_int max_two min_two max_three min_three max_four min_four   -- for this text's walks alone
set_option linter.unusedVariables false
set_option linter.unusedSimpArgs false



def errW : Option Int → Value
 | none=>.nilIface
 | some c=>.iface 0 (.int .i64 c)
theorem errW_none : errW none = .nilIface:=rfl
theorem errW_some (c : Int) : errW (some c) = .iface 0 (.int .i64 c):=rfl


theorem u64_id {x : Int} (h0 : 0 ≤ x) (h1 : x ≤ 18446744073709551615) : IntKind.u64.wrap x = x:=by simp [IntKind.wrap,IntKind.bits,IntKind.signed];omega
theorem i64_id {x : Int} (h0 : -9223372036854775808 ≤ x) (h1 : x ≤ 9223372036854775807) : wrap64 x = x:=by unfold wrap64;omega
theorem u8_id {x : Int} (h0 : 0 ≤ x) (h1 : x ≤ 255) : x % 256 = x:=by omega
theorem bl_leq : ∀ x y : List UInt8,(Op.bytesLess x y || x == y) = !(Op.bytesLess y x)
 | [],[]=>rfl
 | [],_ :: _=>rfl
 | _ :: _,[]=>rfl
 | a :: x,b :: y=>by
  have ih:=bl_leq x y
  simp only [Op.bytesLess,List.cons_beq_cons]
  rcases Nat.lt_trichotomy a.toNat b.toNat with h|h|h
  ·have h1 : a < b:=h
   have h2 : ¬ b < a:=fun e=>by have : b.toNat < a.toNat:=e;omega
   have h3 : ¬ b = a:=fun e=>by subst e;omega
   simp [h1,h2,h3]
  ·obtain rfl : a = b:=UInt8.toNat_inj.1 h
   simpa using ih
  ·have h1 : b < a:=h
   have h2 : ¬ a < b:=fun e=>by have : a.toNat < b.toNat:=e;omega
   have h3 : ¬ b = a:=fun e=>by subst e;omega
   have h4 : ¬ a = b:=fun e=>by subst e;omega
   simp [h1,h2,h3,h4]
@[go_sem] theorem bin_leq (t : TypeId) (a b : ByteArray) : binOp .leq t (.string a) (.string b) = pure (.bool (!(Op.bytesLess b.toList a.toList))):=by
 rw [← bl_leq];simp [binOp,Op.stringOp]
@[go_sem] theorem bin_gtr (t : TypeId) (a b : ByteArray) : binOp .gtr t (.string a) (.string b) = pure (.bool (Op.bytesLess b.toList a.toList)):=by
 have e : binOp .gtr t (.string a) (.string b) = pure (.bool (!(Op.bytesLess a.toList b.toList || a.toList == b.toList))):=by simp [binOp,Op.stringOp]
 rw [e,bl_leq,Bool.not_not]
@[go_sem] theorem bin_geq (t : TypeId) (a b : ByteArray) : binOp .geq t (.string a) (.string b) = pure (.bool (!(Op.bytesLess a.toList b.toList))):=by simp [binOp,Op.stringOp]

theorem info5 : (Tryd.prog.info? 5).map (fun i=>(i.zero,i.size,i.bytes)) = some (some (.int .u8 0),1,1):=by kernel_rfl
theorem info103 : (Tryd.prog.info? 103).map (fun i=>(i.zero,i.size,i.bytes)) = some (some (.agg #[(.string ⟨#[]⟩),(.string ⟨#[]⟩),(.string ⟨#[]⟩),(.int .u8 0),(.int .u16 0),(.slice none 0 0)]),6,80):=by kernel_rfl
theorem info104 : (Tryd.prog.info? 104).map (fun i=>(i.zero,i.size,i.bytes)) = some (some (.agg #[(.string ⟨#[]⟩),(.string ⟨#[]⟩)]),2,32):=by kernel_rfl
-- the values' own types
/-! #### struct type 100 -/
structure S100 where
 f0 : ByteArray
 f1 : ByteArray
def z100 : S100:=⟨(⟨#[]⟩ : ByteArray),(⟨#[]⟩ : ByteArray)⟩
def k100 : Kd S100:=Kd.iso (Kd.pair Kd.string Kd.string) (fun x : S100=>(x.f0,x.f1))
theorem k100_open {w : World} {x : S100} {cs : List Value} (h : k100.K w x cs) : cs = [.string x.f0,.string x.f1]:=by
 obtain ⟨_,_,rfl,rfl,rfl⟩:=h
 exact rfl
theorem k100_openM {w : World} {base : Nat} {ok : Nat → Prop} {x : S100} {cs : List Value} (h : k100.M w base ok x cs) : cs = [.string x.f0,.string x.f1]:=by
 obtain ⟨_,_,rfl,rfl,rfl⟩:=h
 exact rfl
theorem k100_mk (w : World) (x : S100)  : k100.K w x [.string x.f0,.string x.f1]:=⟨[.string x.f0],[.string x.f1],rfl,rfl,rfl⟩
theorem k100_mkM (w : World) (base : Nat) (ok : Nat → Prop) (x : S100)  : k100.M w base ok x [.string x.f0,.string x.f1]:=⟨[.string x.f0],[.string x.f1],rfl,rfl,rfl⟩
def rd_T100 (xs : List S100) (i : Int) : S100:=xs.getD i.toNat z100
theorem at_T100 {w : World} {A : Option Addr} {n : Nat} {xs : List S100} (h : Kd.C k100 w A n xs) (i : Int) (h0 : 0 ≤ i) (h1 : i < n) : ∃ ad ,A = some ad ∧ w.cell? (ad.add (i.toNat * 2)) = some (.string (rd_T100 xs i).f0) ∧ w.cell? ⟨(ad.add (i.toNat * 2)).block,(ad.add (i.toNat * 2)).off + 1,none⟩ = some (.string (rd_T100 xs i).f1):=by
 obtain ⟨ad,c,e,_,hK,hc0⟩:=Kd.C_get h z100 i h0 h1
 have hc : ∀ j u,c[j]? = some u → w.cell? (ad.add (i.toNat * 2 + j)) = some u:=hc0
 obtain rfl:=k100_open hK
 exact ⟨ad,e,hc 0 _ rfl,by rw [← add_field _ _ 1 (by omega)];exact hc 1 _ rfl⟩

def rd_L4 (xs : List (List S100)) (i : Int) : (List S100):=xs.getD i.toNat ([] : List S100)
theorem at_L4 {w : World} {A : Option Addr} {n : Nat} {xs : List (List S100)} (h : Kd.C (Kd.slice 100 k100) w A n xs) (i : Int) (h0 : 0 ≤ i) (h1 : i < n) : ∃ ad A0 c0,A = some ad ∧ w.cell? (ad.add i.toNat) = some (.slice A0 (rd_L4 xs i).length c0) ∧ (rd_L4 xs i).length ≤ c0 ∧ k100.C w A0 (rd_L4 xs i).length (rd_L4 xs i):=by
 obtain ⟨ad,c,e,_,hK,hc0⟩:=Kd.C_get h ([] : List S100) i h0 h1
 have hc : ∀ j u,c[j]? = some u → w.cell? (ad.add (i.toNat * 1 + j)) = some u:=hc0
 obtain ⟨A0,c0,rfl,l0,g0⟩:=hK
 exact ⟨ad,A0,c0,e,by have hq:=hc 0 _ rfl;rwa [Nat.mul_one,Nat.add_zero] at hq,l0,g0⟩

/-! #### struct type 98 -/
structure S98 where
 f0 : ByteArray
 f1 : ByteArray
 f2 : ByteArray
 f3 : Int
 f4 : Int
 f5 : (List S100)
def z98 : S98:=⟨(⟨#[]⟩ : ByteArray),(⟨#[]⟩ : ByteArray),(⟨#[]⟩ : ByteArray),(0 : Int),(0 : Int),([] : List S100)⟩
def k98 : Kd S98:=Kd.iso (Kd.pair Kd.string (Kd.pair Kd.string (Kd.pair Kd.string (Kd.pair (Kd.int .u8) (Kd.pair (Kd.int .u16) (Kd.slice 100 k100)))))) (fun x : S98=>(x.f0,x.f1,x.f2,x.f3,x.f4,x.f5))
theorem k98_open {w : World} {x : S98} {cs : List Value} (h : k98.K w x cs) : ∃ A5 c5,cs = [.string x.f0,.string x.f1,.string x.f2,.int .u8 x.f3,.int .u16 x.f4,.slice A5 x.f5.length c5] ∧ x.f5.length ≤ c5 ∧ k100.C w A5 x.f5.length x.f5:=by
 obtain ⟨_,_,rfl,rfl,⟨_,_,rfl,rfl,⟨_,_,rfl,rfl,⟨_,_,rfl,rfl,⟨_,_,rfl,rfl,⟨A5,c5,rfl,l5,g5⟩⟩⟩⟩⟩⟩:=h
 exact ⟨A5,c5,rfl,l5,g5⟩
theorem k98_openM {w : World} {base : Nat} {ok : Nat → Prop} {x : S98} {cs : List Value} (h : k98.M w base ok x cs) : ∃ v5,cs = [.string x.f0,.string x.f1,.string x.f2,.int .u8 x.f3,.int .u16 x.f4,v5] ∧ k100.R 100 w base ok v5 x.f5:=by
 obtain ⟨_,_,rfl,rfl,⟨_,_,rfl,rfl,⟨_,_,rfl,rfl,⟨_,_,rfl,rfl,⟨_,_,rfl,rfl,⟨v5,rfl,g5⟩⟩⟩⟩⟩⟩:=h
 exact ⟨v5,rfl,g5⟩
theorem k98_mk (w : World) (x : S98) {A5 : Option Addr} {c5 : Nat} (l5 : x.f5.length ≤ c5) (g5 : k100.C w A5 x.f5.length x.f5) : k98.K w x [.string x.f0,.string x.f1,.string x.f2,.int .u8 x.f3,.int .u16 x.f4,.slice A5 x.f5.length c5]:=⟨[.string x.f0],[.string x.f1,.string x.f2,.int .u8 x.f3,.int .u16 x.f4,.slice A5 x.f5.length c5],rfl,rfl,⟨[.string x.f1],[.string x.f2,.int .u8 x.f3,.int .u16 x.f4,.slice A5 x.f5.length c5],rfl,rfl,⟨[.string x.f2],[.int .u8 x.f3,.int .u16 x.f4,.slice A5 x.f5.length c5],rfl,rfl,⟨[.int .u8 x.f3],[.int .u16 x.f4,.slice A5 x.f5.length c5],rfl,rfl,⟨[.int .u16 x.f4],[.slice A5 x.f5.length c5],rfl,rfl,⟨A5,c5,rfl,l5,g5⟩⟩⟩⟩⟩⟩
theorem k98_mkM (w : World) (base : Nat) (ok : Nat → Prop) (x : S98) {v5 : Value} (g5 : k100.R 100 w base ok v5 x.f5) : k98.M w base ok x [.string x.f0,.string x.f1,.string x.f2,.int .u8 x.f3,.int .u16 x.f4,v5]:=⟨[.string x.f0],[.string x.f1,.string x.f2,.int .u8 x.f3,.int .u16 x.f4,v5],rfl,rfl,⟨[.string x.f1],[.string x.f2,.int .u8 x.f3,.int .u16 x.f4,v5],rfl,rfl,⟨[.string x.f2],[.int .u8 x.f3,.int .u16 x.f4,v5],rfl,rfl,⟨[.int .u8 x.f3],[.int .u16 x.f4,v5],rfl,rfl,⟨[.int .u16 x.f4],[v5],rfl,rfl,⟨v5,rfl,g5⟩⟩⟩⟩⟩⟩
def rd_T98 (xs : List S98) (i : Int) : S98:=xs.getD i.toNat z98
theorem at_T98 {w : World} {A : Option Addr} {n : Nat} {xs : List S98} (h : Kd.C k98 w A n xs) (i : Int) (h0 : 0 ≤ i) (h1 : i < n) : ∃ ad A5 c5,A = some ad ∧ w.cell? (ad.add (i.toNat * 6)) = some (.string (rd_T98 xs i).f0) ∧ w.cell? ⟨(ad.add (i.toNat * 6)).block,(ad.add (i.toNat * 6)).off + 1,none⟩ = some (.string (rd_T98 xs i).f1) ∧ w.cell? ⟨(ad.add (i.toNat * 6)).block,(ad.add (i.toNat * 6)).off + 2,none⟩ = some (.string (rd_T98 xs i).f2) ∧ w.cell? ⟨(ad.add (i.toNat * 6)).block,(ad.add (i.toNat * 6)).off + 3,none⟩ = some (.int .u8 (rd_T98 xs i).f3) ∧ w.cell? ⟨(ad.add (i.toNat * 6)).block,(ad.add (i.toNat * 6)).off + 4,none⟩ = some (.int .u16 (rd_T98 xs i).f4) ∧ w.cell? ⟨(ad.add (i.toNat * 6)).block,(ad.add (i.toNat * 6)).off + 5,none⟩ = some (.slice A5 (rd_T98 xs i).f5.length c5) ∧ (rd_T98 xs i).f5.length ≤ c5 ∧ k100.C w A5 (rd_T98 xs i).f5.length (rd_T98 xs i).f5:=by
 obtain ⟨ad,c,e,_,hK,hc0⟩:=Kd.C_get h z98 i h0 h1
 have hc : ∀ j u,c[j]? = some u → w.cell? (ad.add (i.toNat * 6 + j)) = some u:=hc0
 obtain ⟨A5,c5,rfl,l5,g5⟩:=k98_open hK
 exact ⟨ad,A5,c5,e,hc 0 _ rfl,by rw [← add_field _ _ 1 (by omega)];exact hc 1 _ rfl,by rw [← add_field _ _ 2 (by omega)];exact hc 2 _ rfl,by rw [← add_field _ _ 3 (by omega)];exact hc 3 _ rfl,by rw [← add_field _ _ 4 (by omega)];exact hc 4 _ rfl,by rw [← add_field _ _ 5 (by omega)];exact hc 5 _ rfl,l5,g5⟩

/-! #### struct type 66 -/
structure S66 where
 f0 : ByteArray
 f1 : ByteArray
 f2 : ByteArray
 f3 : Int
def z66 : S66:=⟨(⟨#[]⟩ : ByteArray),(⟨#[]⟩ : ByteArray),(⟨#[]⟩ : ByteArray),(0 : Int)⟩
def k66 : Kd S66:=Kd.iso (Kd.pair Kd.string (Kd.pair Kd.string (Kd.pair Kd.string (Kd.int .u8)))) (fun x : S66=>(x.f0,x.f1,x.f2,x.f3))
theorem k66_open {w : World} {x : S66} {cs : List Value} (h : k66.K w x cs) : cs = [.string x.f0,.string x.f1,.string x.f2,.int .u8 x.f3]:=by
 obtain ⟨_,_,rfl,rfl,⟨_,_,rfl,rfl,⟨_,_,rfl,rfl,rfl⟩⟩⟩:=h
 exact rfl
theorem k66_openM {w : World} {base : Nat} {ok : Nat → Prop} {x : S66} {cs : List Value} (h : k66.M w base ok x cs) : cs = [.string x.f0,.string x.f1,.string x.f2,.int .u8 x.f3]:=by
 obtain ⟨_,_,rfl,rfl,⟨_,_,rfl,rfl,⟨_,_,rfl,rfl,rfl⟩⟩⟩:=h
 exact rfl
theorem k66_mk (w : World) (x : S66)  : k66.K w x [.string x.f0,.string x.f1,.string x.f2,.int .u8 x.f3]:=⟨[.string x.f0],[.string x.f1,.string x.f2,.int .u8 x.f3],rfl,rfl,⟨[.string x.f1],[.string x.f2,.int .u8 x.f3],rfl,rfl,⟨[.string x.f2],[.int .u8 x.f3],rfl,rfl,rfl⟩⟩⟩
theorem k66_mkM (w : World) (base : Nat) (ok : Nat → Prop) (x : S66)  : k66.M w base ok x [.string x.f0,.string x.f1,.string x.f2,.int .u8 x.f3]:=⟨[.string x.f0],[.string x.f1,.string x.f2,.int .u8 x.f3],rfl,rfl,⟨[.string x.f1],[.string x.f2,.int .u8 x.f3],rfl,rfl,⟨[.string x.f2],[.int .u8 x.f3],rfl,rfl,rfl⟩⟩⟩
def rd_T66 (xs : List S66) (i : Int) : S66:=xs.getD i.toNat z66
theorem at_T66 {w : World} {A : Option Addr} {n : Nat} {xs : List S66} (h : Kd.C k66 w A n xs) (i : Int) (h0 : 0 ≤ i) (h1 : i < n) : ∃ ad ,A = some ad ∧ w.cell? (ad.add (i.toNat * 4)) = some (.string (rd_T66 xs i).f0) ∧ w.cell? ⟨(ad.add (i.toNat * 4)).block,(ad.add (i.toNat * 4)).off + 1,none⟩ = some (.string (rd_T66 xs i).f1) ∧ w.cell? ⟨(ad.add (i.toNat * 4)).block,(ad.add (i.toNat * 4)).off + 2,none⟩ = some (.string (rd_T66 xs i).f2) ∧ w.cell? ⟨(ad.add (i.toNat * 4)).block,(ad.add (i.toNat * 4)).off + 3,none⟩ = some (.int .u8 (rd_T66 xs i).f3):=by
 obtain ⟨ad,c,e,_,hK,hc0⟩:=Kd.C_get h z66 i h0 h1
 have hc : ∀ j u,c[j]? = some u → w.cell? (ad.add (i.toNat * 4 + j)) = some u:=hc0
 obtain rfl:=k66_open hK
 exact ⟨ad,e,hc 0 _ rfl,by rw [← add_field _ _ 1 (by omega)];exact hc 1 _ rfl,by rw [← add_field _ _ 2 (by omega)];exact hc 2 _ rfl,by rw [← add_field _ _ 3 (by omega)];exact hc 3 _ rfl⟩

def rd_L10 (xs : List (List S66)) (i : Int) : (List S66):=xs.getD i.toNat ([] : List S66)
theorem at_L10 {w : World} {A : Option Addr} {n : Nat} {xs : List (List S66)} (h : Kd.C (Kd.slice 66 k66) w A n xs) (i : Int) (h0 : 0 ≤ i) (h1 : i < n) : ∃ ad A0 c0,A = some ad ∧ w.cell? (ad.add i.toNat) = some (.slice A0 (rd_L10 xs i).length c0) ∧ (rd_L10 xs i).length ≤ c0 ∧ k66.C w A0 (rd_L10 xs i).length (rd_L10 xs i):=by
 obtain ⟨ad,c,e,_,hK,hc0⟩:=Kd.C_get h ([] : List S66) i h0 h1
 have hc : ∀ j u,c[j]? = some u → w.cell? (ad.add (i.toNat * 1 + j)) = some u:=hc0
 obtain ⟨A0,c0,rfl,l0,g0⟩:=hK
 exact ⟨ad,A0,c0,e,by have hq:=hc 0 _ rfl;rwa [Nat.mul_one,Nat.add_zero] at hq,l0,g0⟩

/-! #### struct type 25 -/
structure S25 where
 f0 : Int
 f1 : (List S66)
def z25 : S25:=⟨(0 : Int),([] : List S66)⟩
def k25 : Kd S25:=Kd.iso (Kd.pair (Kd.int .u32) (Kd.slice 66 k66)) (fun x : S25=>(x.f0,x.f1))
theorem k25_open {w : World} {x : S25} {cs : List Value} (h : k25.K w x cs) : ∃ A1 c1,cs = [.int .u32 x.f0,.slice A1 x.f1.length c1] ∧ x.f1.length ≤ c1 ∧ k66.C w A1 x.f1.length x.f1:=by
 obtain ⟨_,_,rfl,rfl,⟨A1,c1,rfl,l1,g1⟩⟩:=h
 exact ⟨A1,c1,rfl,l1,g1⟩
theorem k25_openM {w : World} {base : Nat} {ok : Nat → Prop} {x : S25} {cs : List Value} (h : k25.M w base ok x cs) : ∃ v1,cs = [.int .u32 x.f0,v1] ∧ k66.R 66 w base ok v1 x.f1:=by
 obtain ⟨_,_,rfl,rfl,⟨v1,rfl,g1⟩⟩:=h
 exact ⟨v1,rfl,g1⟩
theorem k25_mk (w : World) (x : S25) {A1 : Option Addr} {c1 : Nat} (l1 : x.f1.length ≤ c1) (g1 : k66.C w A1 x.f1.length x.f1) : k25.K w x [.int .u32 x.f0,.slice A1 x.f1.length c1]:=⟨[.int .u32 x.f0],[.slice A1 x.f1.length c1],rfl,rfl,⟨A1,c1,rfl,l1,g1⟩⟩
theorem k25_mkM (w : World) (base : Nat) (ok : Nat → Prop) (x : S25) {v1 : Value} (g1 : k66.R 66 w base ok v1 x.f1) : k25.M w base ok x [.int .u32 x.f0,v1]:=⟨[.int .u32 x.f0],[v1],rfl,rfl,⟨v1,rfl,g1⟩⟩
def rd_T25 (xs : List S25) (i : Int) : S25:=xs.getD i.toNat z25
theorem at_T25 {w : World} {A : Option Addr} {n : Nat} {xs : List S25} (h : Kd.C k25 w A n xs) (i : Int) (h0 : 0 ≤ i) (h1 : i < n) : ∃ ad A1 c1,A = some ad ∧ w.cell? (ad.add (i.toNat * 2)) = some (.int .u32 (rd_T25 xs i).f0) ∧ w.cell? ⟨(ad.add (i.toNat * 2)).block,(ad.add (i.toNat * 2)).off + 1,none⟩ = some (.slice A1 (rd_T25 xs i).f1.length c1) ∧ (rd_T25 xs i).f1.length ≤ c1 ∧ k66.C w A1 (rd_T25 xs i).f1.length (rd_T25 xs i).f1:=by
 obtain ⟨ad,c,e,_,hK,hc0⟩:=Kd.C_get h z25 i h0 h1
 have hc : ∀ j u,c[j]? = some u → w.cell? (ad.add (i.toNat * 2 + j)) = some u:=hc0
 obtain ⟨A1,c1,rfl,l1,g1⟩:=k25_open hK
 exact ⟨ad,A1,c1,e,hc 0 _ rfl,by rw [← add_field _ _ 1 (by omega)];exact hc 1 _ rfl,l1,g1⟩

def rd_L13 (xs : List (List S98)) (i : Int) : (List S98):=xs.getD i.toNat ([] : List S98)
theorem at_L13 {w : World} {A : Option Addr} {n : Nat} {xs : List (List S98)} (h : Kd.C (Kd.slice 98 k98) w A n xs) (i : Int) (h0 : 0 ≤ i) (h1 : i < n) : ∃ ad A0 c0,A = some ad ∧ w.cell? (ad.add i.toNat) = some (.slice A0 (rd_L13 xs i).length c0) ∧ (rd_L13 xs i).length ≤ c0 ∧ k98.C w A0 (rd_L13 xs i).length (rd_L13 xs i):=by
 obtain ⟨ad,c,e,_,hK,hc0⟩:=Kd.C_get h ([] : List S98) i h0 h1
 have hc : ∀ j u,c[j]? = some u → w.cell? (ad.add (i.toNat * 1 + j)) = some u:=hc0
 obtain ⟨A0,c0,rfl,l0,g0⟩:=hK
 exact ⟨ad,A0,c0,e,by have hq:=hc 0 _ rfl;rwa [Nat.mul_one,Nat.add_zero] at hq,l0,g0⟩

/-! #### struct type 49 -/
structure S49 where
 f0 : Int
 f1 : (List S98)
def z49 : S49:=⟨(0 : Int),([] : List S98)⟩
def k49 : Kd S49:=Kd.iso (Kd.pair (Kd.int .u64) (Kd.slice 98 k98)) (fun x : S49=>(x.f0,x.f1))
theorem k49_open {w : World} {x : S49} {cs : List Value} (h : k49.K w x cs) : ∃ A1 c1,cs = [.int .u64 x.f0,.slice A1 x.f1.length c1] ∧ x.f1.length ≤ c1 ∧ k98.C w A1 x.f1.length x.f1:=by
 obtain ⟨_,_,rfl,rfl,⟨A1,c1,rfl,l1,g1⟩⟩:=h
 exact ⟨A1,c1,rfl,l1,g1⟩
theorem k49_openM {w : World} {base : Nat} {ok : Nat → Prop} {x : S49} {cs : List Value} (h : k49.M w base ok x cs) : ∃ v1,cs = [.int .u64 x.f0,v1] ∧ k98.R 98 w base ok v1 x.f1:=by
 obtain ⟨_,_,rfl,rfl,⟨v1,rfl,g1⟩⟩:=h
 exact ⟨v1,rfl,g1⟩
theorem k49_mk (w : World) (x : S49) {A1 : Option Addr} {c1 : Nat} (l1 : x.f1.length ≤ c1) (g1 : k98.C w A1 x.f1.length x.f1) : k49.K w x [.int .u64 x.f0,.slice A1 x.f1.length c1]:=⟨[.int .u64 x.f0],[.slice A1 x.f1.length c1],rfl,rfl,⟨A1,c1,rfl,l1,g1⟩⟩
theorem k49_mkM (w : World) (base : Nat) (ok : Nat → Prop) (x : S49) {v1 : Value} (g1 : k98.R 98 w base ok v1 x.f1) : k49.M w base ok x [.int .u64 x.f0,v1]:=⟨[.int .u64 x.f0],[v1],rfl,rfl,⟨v1,rfl,g1⟩⟩
def rd_T49 (xs : List S49) (i : Int) : S49:=xs.getD i.toNat z49
theorem at_T49 {w : World} {A : Option Addr} {n : Nat} {xs : List S49} (h : Kd.C k49 w A n xs) (i : Int) (h0 : 0 ≤ i) (h1 : i < n) : ∃ ad A1 c1,A = some ad ∧ w.cell? (ad.add (i.toNat * 2)) = some (.int .u64 (rd_T49 xs i).f0) ∧ w.cell? ⟨(ad.add (i.toNat * 2)).block,(ad.add (i.toNat * 2)).off + 1,none⟩ = some (.slice A1 (rd_T49 xs i).f1.length c1) ∧ (rd_T49 xs i).f1.length ≤ c1 ∧ k98.C w A1 (rd_T49 xs i).f1.length (rd_T49 xs i).f1:=by
 obtain ⟨ad,c,e,_,hK,hc0⟩:=Kd.C_get h z49 i h0 h1
 have hc : ∀ j u,c[j]? = some u → w.cell? (ad.add (i.toNat * 2 + j)) = some u:=hc0
 obtain ⟨A1,c1,rfl,l1,g1⟩:=k49_open hK
 exact ⟨ad,A1,c1,e,hc 0 _ rfl,by rw [← add_field _ _ 1 (by omega)];exact hc 1 _ rfl,l1,g1⟩

/-! #### struct type 104 -/
structure S104 where
 f0 : ByteArray
 f1 : ByteArray
def z104 : S104:=⟨(⟨#[]⟩ : ByteArray),(⟨#[]⟩ : ByteArray)⟩
def k104 : Kd S104:=Kd.iso (Kd.pair Kd.string Kd.string) (fun x : S104=>(x.f0,x.f1))
theorem k104_open {w : World} {x : S104} {cs : List Value} (h : k104.K w x cs) : cs = [.string x.f0,.string x.f1]:=by
 obtain ⟨_,_,rfl,rfl,rfl⟩:=h
 exact rfl
theorem k104_openM {w : World} {base : Nat} {ok : Nat → Prop} {x : S104} {cs : List Value} (h : k104.M w base ok x cs) : cs = [.string x.f0,.string x.f1]:=by
 obtain ⟨_,_,rfl,rfl,rfl⟩:=h
 exact rfl
theorem k104_mk (w : World) (x : S104)  : k104.K w x [.string x.f0,.string x.f1]:=⟨[.string x.f0],[.string x.f1],rfl,rfl,rfl⟩
theorem k104_mkM (w : World) (base : Nat) (ok : Nat → Prop) (x : S104)  : k104.M w base ok x [.string x.f0,.string x.f1]:=⟨[.string x.f0],[.string x.f1],rfl,rfl,rfl⟩
def rd_T104 (xs : List S104) (i : Int) : S104:=xs.getD i.toNat z104
theorem at_T104 {w : World} {A : Option Addr} {n : Nat} {xs : List S104} (h : Kd.C k104 w A n xs) (i : Int) (h0 : 0 ≤ i) (h1 : i < n) : ∃ ad ,A = some ad ∧ w.cell? (ad.add (i.toNat * 2)) = some (.string (rd_T104 xs i).f0) ∧ w.cell? ⟨(ad.add (i.toNat * 2)).block,(ad.add (i.toNat * 2)).off + 1,none⟩ = some (.string (rd_T104 xs i).f1):=by
 obtain ⟨ad,c,e,_,hK,hc0⟩:=Kd.C_get h z104 i h0 h1
 have hc : ∀ j u,c[j]? = some u → w.cell? (ad.add (i.toNat * 2 + j)) = some u:=hc0
 obtain rfl:=k104_open hK
 exact ⟨ad,e,hc 0 _ rfl,by rw [← add_field _ _ 1 (by omega)];exact hc 1 _ rfl⟩

def rd_L16 (xs : List (List S104)) (i : Int) : (List S104):=xs.getD i.toNat ([] : List S104)
theorem at_L16 {w : World} {A : Option Addr} {n : Nat} {xs : List (List S104)} (h : Kd.C (Kd.slice 104 k104) w A n xs) (i : Int) (h0 : 0 ≤ i) (h1 : i < n) : ∃ ad A0 c0,A = some ad ∧ w.cell? (ad.add i.toNat) = some (.slice A0 (rd_L16 xs i).length c0) ∧ (rd_L16 xs i).length ≤ c0 ∧ k104.C w A0 (rd_L16 xs i).length (rd_L16 xs i):=by
 obtain ⟨ad,c,e,_,hK,hc0⟩:=Kd.C_get h ([] : List S104) i h0 h1
 have hc : ∀ j u,c[j]? = some u → w.cell? (ad.add (i.toNat * 1 + j)) = some u:=hc0
 obtain ⟨A0,c0,rfl,l0,g0⟩:=hK
 exact ⟨ad,A0,c0,e,by have hq:=hc 0 _ rfl;rwa [Nat.mul_one,Nat.add_zero] at hq,l0,g0⟩

/-! #### struct type 103 -/
structure S103 where
 f0 : ByteArray
 f1 : ByteArray
 f2 : ByteArray
 f3 : Int
 f4 : Int
 f5 : (List S104)
def z103 : S103:=⟨(⟨#[]⟩ : ByteArray),(⟨#[]⟩ : ByteArray),(⟨#[]⟩ : ByteArray),(0 : Int),(0 : Int),([] : List S104)⟩
def k103 : Kd S103:=Kd.iso (Kd.pair Kd.string (Kd.pair Kd.string (Kd.pair Kd.string (Kd.pair (Kd.int .u8) (Kd.pair (Kd.int .u16) (Kd.slice 104 k104)))))) (fun x : S103=>(x.f0,x.f1,x.f2,x.f3,x.f4,x.f5))
theorem k103_open {w : World} {x : S103} {cs : List Value} (h : k103.K w x cs) : ∃ A5 c5,cs = [.string x.f0,.string x.f1,.string x.f2,.int .u8 x.f3,.int .u16 x.f4,.slice A5 x.f5.length c5] ∧ x.f5.length ≤ c5 ∧ k104.C w A5 x.f5.length x.f5:=by
 obtain ⟨_,_,rfl,rfl,⟨_,_,rfl,rfl,⟨_,_,rfl,rfl,⟨_,_,rfl,rfl,⟨_,_,rfl,rfl,⟨A5,c5,rfl,l5,g5⟩⟩⟩⟩⟩⟩:=h
 exact ⟨A5,c5,rfl,l5,g5⟩
theorem k103_openM {w : World} {base : Nat} {ok : Nat → Prop} {x : S103} {cs : List Value} (h : k103.M w base ok x cs) : ∃ v5,cs = [.string x.f0,.string x.f1,.string x.f2,.int .u8 x.f3,.int .u16 x.f4,v5] ∧ k104.R 104 w base ok v5 x.f5:=by
 obtain ⟨_,_,rfl,rfl,⟨_,_,rfl,rfl,⟨_,_,rfl,rfl,⟨_,_,rfl,rfl,⟨_,_,rfl,rfl,⟨v5,rfl,g5⟩⟩⟩⟩⟩⟩:=h
 exact ⟨v5,rfl,g5⟩
theorem k103_mk (w : World) (x : S103) {A5 : Option Addr} {c5 : Nat} (l5 : x.f5.length ≤ c5) (g5 : k104.C w A5 x.f5.length x.f5) : k103.K w x [.string x.f0,.string x.f1,.string x.f2,.int .u8 x.f3,.int .u16 x.f4,.slice A5 x.f5.length c5]:=⟨[.string x.f0],[.string x.f1,.string x.f2,.int .u8 x.f3,.int .u16 x.f4,.slice A5 x.f5.length c5],rfl,rfl,⟨[.string x.f1],[.string x.f2,.int .u8 x.f3,.int .u16 x.f4,.slice A5 x.f5.length c5],rfl,rfl,⟨[.string x.f2],[.int .u8 x.f3,.int .u16 x.f4,.slice A5 x.f5.length c5],rfl,rfl,⟨[.int .u8 x.f3],[.int .u16 x.f4,.slice A5 x.f5.length c5],rfl,rfl,⟨[.int .u16 x.f4],[.slice A5 x.f5.length c5],rfl,rfl,⟨A5,c5,rfl,l5,g5⟩⟩⟩⟩⟩⟩
theorem k103_mkM (w : World) (base : Nat) (ok : Nat → Prop) (x : S103) {v5 : Value} (g5 : k104.R 104 w base ok v5 x.f5) : k103.M w base ok x [.string x.f0,.string x.f1,.string x.f2,.int .u8 x.f3,.int .u16 x.f4,v5]:=⟨[.string x.f0],[.string x.f1,.string x.f2,.int .u8 x.f3,.int .u16 x.f4,v5],rfl,rfl,⟨[.string x.f1],[.string x.f2,.int .u8 x.f3,.int .u16 x.f4,v5],rfl,rfl,⟨[.string x.f2],[.int .u8 x.f3,.int .u16 x.f4,v5],rfl,rfl,⟨[.int .u8 x.f3],[.int .u16 x.f4,v5],rfl,rfl,⟨[.int .u16 x.f4],[v5],rfl,rfl,⟨v5,rfl,g5⟩⟩⟩⟩⟩⟩
def rd_T103 (xs : List S103) (i : Int) : S103:=xs.getD i.toNat z103
theorem at_T103 {w : World} {A : Option Addr} {n : Nat} {xs : List S103} (h : Kd.C k103 w A n xs) (i : Int) (h0 : 0 ≤ i) (h1 : i < n) : ∃ ad A5 c5,A = some ad ∧ w.cell? (ad.add (i.toNat * 6)) = some (.string (rd_T103 xs i).f0) ∧ w.cell? ⟨(ad.add (i.toNat * 6)).block,(ad.add (i.toNat * 6)).off + 1,none⟩ = some (.string (rd_T103 xs i).f1) ∧ w.cell? ⟨(ad.add (i.toNat * 6)).block,(ad.add (i.toNat * 6)).off + 2,none⟩ = some (.string (rd_T103 xs i).f2) ∧ w.cell? ⟨(ad.add (i.toNat * 6)).block,(ad.add (i.toNat * 6)).off + 3,none⟩ = some (.int .u8 (rd_T103 xs i).f3) ∧ w.cell? ⟨(ad.add (i.toNat * 6)).block,(ad.add (i.toNat * 6)).off + 4,none⟩ = some (.int .u16 (rd_T103 xs i).f4) ∧ w.cell? ⟨(ad.add (i.toNat * 6)).block,(ad.add (i.toNat * 6)).off + 5,none⟩ = some (.slice A5 (rd_T103 xs i).f5.length c5) ∧ (rd_T103 xs i).f5.length ≤ c5 ∧ k104.C w A5 (rd_T103 xs i).f5.length (rd_T103 xs i).f5:=by
 obtain ⟨ad,c,e,_,hK,hc0⟩:=Kd.C_get h z103 i h0 h1
 have hc : ∀ j u,c[j]? = some u → w.cell? (ad.add (i.toNat * 6 + j)) = some u:=hc0
 obtain ⟨A5,c5,rfl,l5,g5⟩:=k103_open hK
 exact ⟨ad,A5,c5,e,hc 0 _ rfl,by rw [← add_field _ _ 1 (by omega)];exact hc 1 _ rfl,by rw [← add_field _ _ 2 (by omega)];exact hc 2 _ rfl,by rw [← add_field _ _ 3 (by omega)];exact hc 3 _ rfl,by rw [← add_field _ _ 4 (by omega)];exact hc 4 _ rfl,by rw [← add_field _ _ 5 (by omega)];exact hc 5 _ rfl,l5,g5⟩

def rd_L18 (xs : List (List S103)) (i : Int) : (List S103):=xs.getD i.toNat ([] : List S103)
theorem at_L18 {w : World} {A : Option Addr} {n : Nat} {xs : List (List S103)} (h : Kd.C (Kd.slice 103 k103) w A n xs) (i : Int) (h0 : 0 ≤ i) (h1 : i < n) : ∃ ad A0 c0,A = some ad ∧ w.cell? (ad.add i.toNat) = some (.slice A0 (rd_L18 xs i).length c0) ∧ (rd_L18 xs i).length ≤ c0 ∧ k103.C w A0 (rd_L18 xs i).length (rd_L18 xs i):=by
 obtain ⟨ad,c,e,_,hK,hc0⟩:=Kd.C_get h ([] : List S103) i h0 h1
 have hc : ∀ j u,c[j]? = some u → w.cell? (ad.add (i.toNat * 1 + j)) = some u:=hc0
 obtain ⟨A0,c0,rfl,l0,g0⟩:=hK
 exact ⟨ad,A0,c0,e,by have hq:=hc 0 _ rfl;rwa [Nat.mul_one,Nat.add_zero] at hq,l0,g0⟩

/-! #### struct type 53 -/
structure S53 where
 f0 : Int
 f1 : (List S103)
def z53 : S53:=⟨(0 : Int),([] : List S103)⟩
def k53 : Kd S53:=Kd.iso (Kd.pair (Kd.int .u64) (Kd.slice 103 k103)) (fun x : S53=>(x.f0,x.f1))
theorem k53_open {w : World} {x : S53} {cs : List Value} (h : k53.K w x cs) : ∃ A1 c1,cs = [.int .u64 x.f0,.slice A1 x.f1.length c1] ∧ x.f1.length ≤ c1 ∧ k103.C w A1 x.f1.length x.f1:=by
 obtain ⟨_,_,rfl,rfl,⟨A1,c1,rfl,l1,g1⟩⟩:=h
 exact ⟨A1,c1,rfl,l1,g1⟩
theorem k53_openM {w : World} {base : Nat} {ok : Nat → Prop} {x : S53} {cs : List Value} (h : k53.M w base ok x cs) : ∃ v1,cs = [.int .u64 x.f0,v1] ∧ k103.R 103 w base ok v1 x.f1:=by
 obtain ⟨_,_,rfl,rfl,⟨v1,rfl,g1⟩⟩:=h
 exact ⟨v1,rfl,g1⟩
theorem k53_mk (w : World) (x : S53) {A1 : Option Addr} {c1 : Nat} (l1 : x.f1.length ≤ c1) (g1 : k103.C w A1 x.f1.length x.f1) : k53.K w x [.int .u64 x.f0,.slice A1 x.f1.length c1]:=⟨[.int .u64 x.f0],[.slice A1 x.f1.length c1],rfl,rfl,⟨A1,c1,rfl,l1,g1⟩⟩
theorem k53_mkM (w : World) (base : Nat) (ok : Nat → Prop) (x : S53) {v1 : Value} (g1 : k103.R 103 w base ok v1 x.f1) : k53.M w base ok x [.int .u64 x.f0,v1]:=⟨[.int .u64 x.f0],[v1],rfl,rfl,⟨v1,rfl,g1⟩⟩
def rd_T53 (xs : List S53) (i : Int) : S53:=xs.getD i.toNat z53
theorem at_T53 {w : World} {A : Option Addr} {n : Nat} {xs : List S53} (h : Kd.C k53 w A n xs) (i : Int) (h0 : 0 ≤ i) (h1 : i < n) : ∃ ad A1 c1,A = some ad ∧ w.cell? (ad.add (i.toNat * 2)) = some (.int .u64 (rd_T53 xs i).f0) ∧ w.cell? ⟨(ad.add (i.toNat * 2)).block,(ad.add (i.toNat * 2)).off + 1,none⟩ = some (.slice A1 (rd_T53 xs i).f1.length c1) ∧ (rd_T53 xs i).f1.length ≤ c1 ∧ k103.C w A1 (rd_T53 xs i).f1.length (rd_T53 xs i).f1:=by
 obtain ⟨ad,c,e,_,hK,hc0⟩:=Kd.C_get h z53 i h0 h1
 have hc : ∀ j u,c[j]? = some u → w.cell? (ad.add (i.toNat * 2 + j)) = some u:=hc0
 obtain ⟨A1,c1,rfl,l1,g1⟩:=k53_open hK
 exact ⟨ad,A1,c1,e,hc 0 _ rfl,by rw [← add_field _ _ 1 (by omega)];exact hc 1 _ rfl,l1,g1⟩

end Go.Proofs.YtpmbdcljphpcnaaDoor.GC2
