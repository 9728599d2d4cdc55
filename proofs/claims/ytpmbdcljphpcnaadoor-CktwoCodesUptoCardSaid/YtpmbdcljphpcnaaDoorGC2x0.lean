/- Written by this session's own program (wip/gen.py) out of the translation: plain Lean functions of the Go functions, and proofs that the calls come to their answers. No conditions beside those in the statements. -/
import Derived.Test.YtpmbdcljphpcnaaDoorProg
import Derived.Below
import Derived.Deep.Draws
import Derived.Deep.AppendLies
import Derived.Maps.AppendAt
import Derived.OwnWalk
import Derived.Laws.BytesArg
import Derived.Laws.MakeOwn
import Derived.Laws.OwnMore
import Derived.Deep.OwnRows
import Derived.Tactics
import Derived.Lib.ConvBytes
import Derived.Laws.Slices
import Derived.WalkKit
import Derived.KernelRfl
import Derived.RowKit3
import Derived.Deep.LoopGhost
import Derived.Deep.QuietTactic
import Derived.BigQuiet
import Derived.WideLaws
import Derived.Deep.DeepCutAuto
import Derived.Deep.CutBlock
import Derived.Deep.RegionHeld3
import Derived.Laws.Rows
import Derived.Lib.AppendStr
import Derived.ArgAppend
import Derived.Laws.IdiomCopy
import Derived.OrdersHeld
import Derived.Laws.BitsLemmas
import Derived.RowKit
import Derived.Test.YtpmbdcljphpcnaaDoorWd
namespace Go.Proofs.YtpmbdcljphpcnaaDoor.GC2
open Go.RowKit Go.Proofs.YtpmbdcljphpcnaaDoorW.PrintWords Go.Proofs.YtpmbdcljphpcnaaDoorW.PrintLast Go.Proofs.YtpmbdcljphpcnaaDoorW.PrintMore
attribute [local go_sem] eY eZ fJ fK eP eT fq fu
set_option linter.unusedVariables false
set_option linter.unusedSimpArgs false
def vK : Option Int → Value
 | none=>.nilIface
 | some c=>.iface 0 (.int .i64 c)
theorem aZ : vK none = .nilIface:=rfl
theorem bf (c : Int) : vK (some c) = .iface 0 (.int .i64 c):=rfl
theorem dh {x : Int} (h0 : 0 ≤ x) (h1 : x ≤ 18446744073709551615) : IntKind.u64.wrap x = x:=by simp [IntKind.wrap,IntKind.bits,IntKind.signed];omega
theorem bY {x : Int} (h0 : -9223372036854775808 ≤ x) (h1 : x ≤ 9223372036854775807) : wrap64 x = x:=by unfold wrap64;omega
theorem bZ (l : List UInt8) : (l != []) = !l.isEmpty:=by cases l <;> rfl
theorem dY {x : Int} (h0 : 0 ≤ x) (h1 : x ≤ 255) : x % 256 = x:=by omega
theorem oJ : ∀ x y : List UInt8,(Op.bytesLess x y || x == y) = !(Op.bytesLess y x)
 | [],[]=>rfl
 | [],_ :: _=>rfl
 | _ :: _,[]=>rfl
 | a :: x,b :: y=>by
  have ih:=oJ x y
  simp only [Op.bytesLess,List.cons_beq_cons]
  rcases Nat.lt_trichotomy a.toNat b.toNat with h|h|h
  ·have h1 : a < b:=h
   have h2 : ¬ b < a:=fun e=>by have : b.toNat < a.toNat:=e;omega
   have h3 : ¬ b = a:=fun e=>by subst e;omega
   simp [h1,h2,h3]
  ·obtain rfl : a = b:=UInt8.toNat_inj.1 h
   simpa using ih
  ·have h1 : b < a:=h
   have h2 : ¬ a < b:=fun e=>by have : a.toNat < b.toNat:=e;omega
   have h3 : ¬ b = a:=fun e=>by subst e;omega
   have h4 : ¬ a = b:=fun e=>by subst e;omega
   simp [h1,h2,h3,h4]
@[go_sem] theorem wu (t : TypeId) (a b : ByteArray) : binOp .leq t (.string a) (.string b) = pure (.bool (!(Op.bytesLess b.toList a.toList))):=by
 rw [← oJ];simp [binOp,Op.stringOp]
@[go_sem] theorem wB (t : TypeId) (a b : ByteArray) : binOp .gtr t (.string a) (.string b) = pure (.bool (Op.bytesLess b.toList a.toList)):=by
 have e : binOp .gtr t (.string a) (.string b) = pure (.bool (!(Op.bytesLess a.toList b.toList || a.toList == b.toList))):=by simp [binOp,Op.stringOp]
 rw [e,oJ,Bool.not_not]
@[go_sem] theorem wC (t : TypeId) (a b : ByteArray) : binOp .geq t (.string a) (.string b) = pure (.bool (!(Op.bytesLess a.toList b.toList))):=by simp [binOp,Op.stringOp]
theorem info5 : (Tryd.prog.info? 5).map (fun i=>(i.zero,i.size,i.bytes)) = some (some (.int .u8 0),1,1):=by kernel_rfl
theorem tT : (Tryd.prog.info? 9).map (fun i=>(i.zero,i.size,i.bytes)) = some (some (.string ⟨#[]⟩),1,16):=by kernel_rfl
theorem sS : (Tryd.prog.info? 103).map (fun i=>(i.zero,i.size,i.bytes)) = some (some (.agg #[(.string ⟨#[]⟩),(.string ⟨#[]⟩),(.string ⟨#[]⟩),(.int .u8 0),(.int .u16 0),(.slice none 0 0)]),6,80):=by kernel_rfl
theorem sU : (Tryd.prog.info? 104).map (fun i=>(i.zero,i.size,i.bytes)) = some (some (.agg #[(.string ⟨#[]⟩),(.string ⟨#[]⟩)]),2,32):=by kernel_rfl
structure S100 where
 f0 : ByteArray
 f1 : ByteArray
def vL : S100:=⟨(⟨#[]⟩ : ByteArray),(⟨#[]⟩ : ByteArray)⟩
def iO : Kd S100:=Kd.iso (Kd.pair Kd.string Kd.string) (fun x : S100=>(x.f0,x.f1))
theorem qm {w : World} {x : S100} {cs : List Value} (h : iO.K w x cs) : cs = [.string x.f0,.string x.f1]:=by
 obtain ⟨_,_,rfl,rfl,rfl⟩:=h
 exact rfl
theorem uH {w : World} {base : Nat} {ok : Nat → Prop} {x : S100} {cs : List Value} (h : iO.M w base ok x cs) : cs = [.string x.f0,.string x.f1]:=by
 obtain ⟨_,_,rfl,rfl,rfl⟩:=h
 exact rfl
theorem wD (w : World) (x : S100)  : iO.K w x [.string x.f0,.string x.f1]:=⟨[.string x.f0],[.string x.f1],rfl,rfl,rfl⟩
theorem vM (w : World) (base : Nat) (ok : Nat → Prop) (x : S100)  : iO.M w base ok x [.string x.f0,.string x.f1]:=⟨[.string x.f0],[.string x.f1],rfl,rfl,rfl⟩
def dS (xs : List S100) (i : Int) : S100:=xs.getD i.toNat vL
theorem jl {w : World} {A : Option Addr} {n : Nat} {xs : List S100} (h : Kd.C iO w A n xs) (i : Int) (h0 : 0 ≤ i) (h1 : i < n) : ∃ ad ,A = some ad ∧ w.cell? (ad.add (i.toNat * 2)) = some (.string (dS xs i).f0) ∧ w.cell? ⟨(ad.add (i.toNat * 2)).block,(ad.add (i.toNat * 2)).off + 1,none⟩ = some (.string (dS xs i).f1):=by
 obtain ⟨ad,c,e,_,hK,hc0⟩:=Kd.iN h vL i h0 h1
 have hc : ∀ j u,c[j]? = some u → w.cell? (ad.add (i.toNat * 2 + j)) = some u:=hc0
 obtain rfl:=qm hK
 exact ⟨ad,e,hc 0 _ rfl,by rw [← eF _ _ 1 (by omega)];exact hc 1 _ rfl⟩
def pG (xs : List (List S100)) (i : Int) : (List S100):=xs.getD i.toNat ([] : List S100)
theorem xE {w : World} {A : Option Addr} {n : Nat} {xs : List (List S100)} (h : Kd.C (Kd.slice 100 iO) w A n xs) (i : Int) (h0 : 0 ≤ i) (h1 : i < n) : ∃ ad A0 c0,A = some ad ∧ w.cell? (ad.add i.toNat) = some (.slice A0 (pG xs i).length c0) ∧ (pG xs i).length ≤ c0 ∧ iO.C w A0 (pG xs i).length (pG xs i):=by
 obtain ⟨ad,c,e,_,hK,hc0⟩:=Kd.iN h ([] : List S100) i h0 h1
 have hc : ∀ j u,c[j]? = some u → w.cell? (ad.add (i.toNat * 1 + j)) = some u:=hc0
 obtain ⟨A0,c0,rfl,l0,g0⟩:=hK
 exact ⟨ad,A0,c0,e,by have hq:=hc 0 _ rfl;rwa [Nat.mul_one,Nat.add_zero] at hq,l0,g0⟩
structure S98 where
 f0 : ByteArray
 f1 : ByteArray
 f2 : ByteArray
 f3 : Int
 f4 : Int
 f5 : (List S100)
def z98 : S98:=⟨(⟨#[]⟩ : ByteArray),(⟨#[]⟩ : ByteArray),(⟨#[]⟩ : ByteArray),(0 : Int),(0 : Int),([] : List S100)⟩
def k98 : Kd S98:=Kd.iso (Kd.pair Kd.string (Kd.pair Kd.string (Kd.pair Kd.string (Kd.pair (Kd.int .u8) (Kd.pair (Kd.int .u16) (Kd.slice 100 iO)))))) (fun x : S98=>(x.f0,x.f1,x.f2,x.f3,x.f4,x.f5))
theorem q8 {w : World} {x : S98} {cs : List Value} (h : k98.K w x cs) : ∃ A5 c5,cs = [.string x.f0,.string x.f1,.string x.f2,.int .u8 x.f3,.int .u16 x.f4,.slice A5 x.f5.length c5] ∧ x.f5.length ≤ c5 ∧ iO.C w A5 x.f5.length x.f5:=by
 obtain ⟨_,_,rfl,rfl,⟨_,_,rfl,rfl,⟨_,_,rfl,rfl,⟨_,_,rfl,rfl,⟨_,_,rfl,rfl,⟨A5,c5,rfl,l5,g5⟩⟩⟩⟩⟩⟩:=h
 exact ⟨A5,c5,rfl,l5,g5⟩
theorem vk {w : World} {base : Nat} {ok : Nat → Prop} {x : S98} {cs : List Value} (h : k98.M w base ok x cs) : ∃ v5,cs = [.string x.f0,.string x.f1,.string x.f2,.int .u8 x.f3,.int .u16 x.f4,v5] ∧ iO.R 100 w base ok v5 x.f5:=by
 obtain ⟨_,_,rfl,rfl,⟨_,_,rfl,rfl,⟨_,_,rfl,rfl,⟨_,_,rfl,rfl,⟨_,_,rfl,rfl,⟨v5,rfl,g5⟩⟩⟩⟩⟩⟩:=h
 exact ⟨v5,rfl,g5⟩
theorem wQ (w : World) (x : S98) {A5 : Option Addr} {c5 : Nat} (l5 : x.f5.length ≤ c5) (g5 : iO.C w A5 x.f5.length x.f5) : k98.K w x [.string x.f0,.string x.f1,.string x.f2,.int .u8 x.f3,.int .u16 x.f4,.slice A5 x.f5.length c5]:=⟨[.string x.f0],[.string x.f1,.string x.f2,.int .u8 x.f3,.int .u16 x.f4,.slice A5 x.f5.length c5],rfl,rfl,⟨[.string x.f1],[.string x.f2,.int .u8 x.f3,.int .u16 x.f4,.slice A5 x.f5.length c5],rfl,rfl,⟨[.string x.f2],[.int .u8 x.f3,.int .u16 x.f4,.slice A5 x.f5.length c5],rfl,rfl,⟨[.int .u8 x.f3],[.int .u16 x.f4,.slice A5 x.f5.length c5],rfl,rfl,⟨[.int .u16 x.f4],[.slice A5 x.f5.length c5],rfl,rfl,⟨A5,c5,rfl,l5,g5⟩⟩⟩⟩⟩⟩
theorem wE (w : World) (base : Nat) (ok : Nat → Prop) (x : S98) {v5 : Value} (g5 : iO.R 100 w base ok v5 x.f5) : k98.M w base ok x [.string x.f0,.string x.f1,.string x.f2,.int .u8 x.f3,.int .u16 x.f4,v5]:=⟨[.string x.f0],[.string x.f1,.string x.f2,.int .u8 x.f3,.int .u16 x.f4,v5],rfl,rfl,⟨[.string x.f1],[.string x.f2,.int .u8 x.f3,.int .u16 x.f4,v5],rfl,rfl,⟨[.string x.f2],[.int .u8 x.f3,.int .u16 x.f4,v5],rfl,rfl,⟨[.int .u8 x.f3],[.int .u16 x.f4,v5],rfl,rfl,⟨[.int .u16 x.f4],[v5],rfl,rfl,⟨v5,rfl,g5⟩⟩⟩⟩⟩⟩
def aD (xs : List S98) (i : Int) : S98:=xs.getD i.toNat z98
theorem jD {w : World} {A : Option Addr} {n : Nat} {xs : List S98} (h : Kd.C k98 w A n xs) (i : Int) (h0 : 0 ≤ i) (h1 : i < n) : ∃ ad A5 c5,A = some ad ∧ w.cell? (ad.add (i.toNat * 6)) = some (.string (aD xs i).f0) ∧ w.cell? ⟨(ad.add (i.toNat * 6)).block,(ad.add (i.toNat * 6)).off + 1,none⟩ = some (.string (aD xs i).f1) ∧ w.cell? ⟨(ad.add (i.toNat * 6)).block,(ad.add (i.toNat * 6)).off + 2,none⟩ = some (.string (aD xs i).f2) ∧ w.cell? ⟨(ad.add (i.toNat * 6)).block,(ad.add (i.toNat * 6)).off + 3,none⟩ = some (.int .u8 (aD xs i).f3) ∧ w.cell? ⟨(ad.add (i.toNat * 6)).block,(ad.add (i.toNat * 6)).off + 4,none⟩ = some (.int .u16 (aD xs i).f4) ∧ w.cell? ⟨(ad.add (i.toNat * 6)).block,(ad.add (i.toNat * 6)).off + 5,none⟩ = some (.slice A5 (aD xs i).f5.length c5) ∧ (aD xs i).f5.length ≤ c5 ∧ iO.C w A5 (aD xs i).f5.length (aD xs i).f5:=by
 obtain ⟨ad,c,e,_,hK,hc0⟩:=Kd.iN h z98 i h0 h1
 have hc : ∀ j u,c[j]? = some u → w.cell? (ad.add (i.toNat * 6 + j)) = some u:=hc0
 obtain ⟨A5,c5,rfl,l5,g5⟩:=q8 hK
 exact ⟨ad,A5,c5,e,hc 0 _ rfl,by rw [← eF _ _ 1 (by omega)];exact hc 1 _ rfl,by rw [← eF _ _ 2 (by omega)];exact hc 2 _ rfl,by rw [← eF _ _ 3 (by omega)];exact hc 3 _ rfl,by rw [← eF _ _ 4 (by omega)];exact hc 4 _ rfl,by rw [← eF _ _ 5 (by omega)];exact hc 5 _ rfl,l5,g5⟩
structure S66 where
 f0 : ByteArray
 f1 : ByteArray
 f2 : ByteArray
 f3 : Int
def z66 : S66:=⟨(⟨#[]⟩ : ByteArray),(⟨#[]⟩ : ByteArray),(⟨#[]⟩ : ByteArray),(0 : Int)⟩
def k66 : Kd S66:=Kd.iso (Kd.pair Kd.string (Kd.pair Kd.string (Kd.pair Kd.string (Kd.int .u8)))) (fun x : S66=>(x.f0,x.f1,x.f2,x.f3))
theorem ru {w : World} {x : S66} {cs : List Value} (h : k66.K w x cs) : cs = [.string x.f0,.string x.f1,.string x.f2,.int .u8 x.f3]:=by
 obtain ⟨_,_,rfl,rfl,⟨_,_,rfl,rfl,⟨_,_,rfl,rfl,rfl⟩⟩⟩:=h
 exact rfl
theorem vo {w : World} {base : Nat} {ok : Nat → Prop} {x : S66} {cs : List Value} (h : k66.M w base ok x cs) : cs = [.string x.f0,.string x.f1,.string x.f2,.int .u8 x.f3]:=by
 obtain ⟨_,_,rfl,rfl,⟨_,_,rfl,rfl,⟨_,_,rfl,rfl,rfl⟩⟩⟩:=h
 exact rfl
theorem wR (w : World) (x : S66)  : k66.K w x [.string x.f0,.string x.f1,.string x.f2,.int .u8 x.f3]:=⟨[.string x.f0],[.string x.f1,.string x.f2,.int .u8 x.f3],rfl,rfl,⟨[.string x.f1],[.string x.f2,.int .u8 x.f3],rfl,rfl,⟨[.string x.f2],[.int .u8 x.f3],rfl,rfl,rfl⟩⟩⟩
theorem wF (w : World) (base : Nat) (ok : Nat → Prop) (x : S66)  : k66.M w base ok x [.string x.f0,.string x.f1,.string x.f2,.int .u8 x.f3]:=⟨[.string x.f0],[.string x.f1,.string x.f2,.int .u8 x.f3],rfl,rfl,⟨[.string x.f1],[.string x.f2,.int .u8 x.f3],rfl,rfl,⟨[.string x.f2],[.int .u8 x.f3],rfl,rfl,rfl⟩⟩⟩
def mZ (xs : List S66) (i : Int) : S66:=xs.getD i.toNat z66
theorem wS {w : World} {A : Option Addr} {n : Nat} {xs : List S66} (h : Kd.C k66 w A n xs) (i : Int) (h0 : 0 ≤ i) (h1 : i < n) : ∃ ad ,A = some ad ∧ w.cell? (ad.add (i.toNat * 4)) = some (.string (mZ xs i).f0) ∧ w.cell? ⟨(ad.add (i.toNat * 4)).block,(ad.add (i.toNat * 4)).off + 1,none⟩ = some (.string (mZ xs i).f1) ∧ w.cell? ⟨(ad.add (i.toNat * 4)).block,(ad.add (i.toNat * 4)).off + 2,none⟩ = some (.string (mZ xs i).f2) ∧ w.cell? ⟨(ad.add (i.toNat * 4)).block,(ad.add (i.toNat * 4)).off + 3,none⟩ = some (.int .u8 (mZ xs i).f3):=by
 obtain ⟨ad,c,e,_,hK,hc0⟩:=Kd.iN h z66 i h0 h1
 have hc : ∀ j u,c[j]? = some u → w.cell? (ad.add (i.toNat * 4 + j)) = some u:=hc0
 obtain rfl:=ru hK
 exact ⟨ad,e,hc 0 _ rfl,by rw [← eF _ _ 1 (by omega)];exact hc 1 _ rfl,by rw [← eF _ _ 2 (by omega)];exact hc 2 _ rfl,by rw [← eF _ _ 3 (by omega)];exact hc 3 _ rfl⟩
def pI (xs : List (List S66)) (i : Int) : (List S66):=xs.getD i.toNat ([] : List S66)
theorem xG {w : World} {A : Option Addr} {n : Nat} {xs : List (List S66)} (h : Kd.C (Kd.slice 66 k66) w A n xs) (i : Int) (h0 : 0 ≤ i) (h1 : i < n) : ∃ ad A0 c0,A = some ad ∧ w.cell? (ad.add i.toNat) = some (.slice A0 (pI xs i).length c0) ∧ (pI xs i).length ≤ c0 ∧ k66.C w A0 (pI xs i).length (pI xs i):=by
 obtain ⟨ad,c,e,_,hK,hc0⟩:=Kd.iN h ([] : List S66) i h0 h1
 have hc : ∀ j u,c[j]? = some u → w.cell? (ad.add (i.toNat * 1 + j)) = some u:=hc0
 obtain ⟨A0,c0,rfl,l0,g0⟩:=hK
 exact ⟨ad,A0,c0,e,by have hq:=hc 0 _ rfl;rwa [Nat.mul_one,Nat.add_zero] at hq,l0,g0⟩
structure S25 where
 f0 : Int
 f1 : (List S66)
def z25 : S25:=⟨(0 : Int),([] : List S66)⟩
def k25 : Kd S25:=Kd.iso (Kd.pair (Kd.int .u32) (Kd.slice 66 k66)) (fun x : S25=>(x.f0,x.f1))
theorem rz {w : World} {x : S25} {cs : List Value} (h : k25.K w x cs) : ∃ A1 c1,cs = [.int .u32 x.f0,.slice A1 x.f1.length c1] ∧ x.f1.length ≤ c1 ∧ k66.C w A1 x.f1.length x.f1:=by
 obtain ⟨_,_,rfl,rfl,⟨A1,c1,rfl,l1,g1⟩⟩:=h
 exact ⟨A1,c1,rfl,l1,g1⟩
theorem vv {w : World} {base : Nat} {ok : Nat → Prop} {x : S25} {cs : List Value} (h : k25.M w base ok x cs) : ∃ v1,cs = [.int .u32 x.f0,v1] ∧ k66.R 66 w base ok v1 x.f1:=by
 obtain ⟨_,_,rfl,rfl,⟨v1,rfl,g1⟩⟩:=h
 exact ⟨v1,rfl,g1⟩
theorem wT (w : World) (x : S25) {A1 : Option Addr} {c1 : Nat} (l1 : x.f1.length ≤ c1) (g1 : k66.C w A1 x.f1.length x.f1) : k25.K w x [.int .u32 x.f0,.slice A1 x.f1.length c1]:=⟨[.int .u32 x.f0],[.slice A1 x.f1.length c1],rfl,rfl,⟨A1,c1,rfl,l1,g1⟩⟩
theorem wG (w : World) (base : Nat) (ok : Nat → Prop) (x : S25) {v1 : Value} (g1 : k66.R 66 w base ok v1 x.f1) : k25.M w base ok x [.int .u32 x.f0,v1]:=⟨[.int .u32 x.f0],[v1],rfl,rfl,⟨v1,rfl,g1⟩⟩
def lD (xs : List S25) (i : Int) : S25:=xs.getD i.toNat z25
theorem wU {w : World} {A : Option Addr} {n : Nat} {xs : List S25} (h : Kd.C k25 w A n xs) (i : Int) (h0 : 0 ≤ i) (h1 : i < n) : ∃ ad A1 c1,A = some ad ∧ w.cell? (ad.add (i.toNat * 2)) = some (.int .u32 (lD xs i).f0) ∧ w.cell? ⟨(ad.add (i.toNat * 2)).block,(ad.add (i.toNat * 2)).off + 1,none⟩ = some (.slice A1 (lD xs i).f1.length c1) ∧ (lD xs i).f1.length ≤ c1 ∧ k66.C w A1 (lD xs i).f1.length (lD xs i).f1:=by
 obtain ⟨ad,c,e,_,hK,hc0⟩:=Kd.iN h z25 i h0 h1
 have hc : ∀ j u,c[j]? = some u → w.cell? (ad.add (i.toNat * 2 + j)) = some u:=hc0
 obtain ⟨A1,c1,rfl,l1,g1⟩:=rz hK
 exact ⟨ad,A1,c1,e,hc 0 _ rfl,by rw [← eF _ _ 1 (by omega)];exact hc 1 _ rfl,l1,g1⟩
def ng (xs : List (List S98)) (i : Int) : (List S98):=xs.getD i.toNat ([] : List S98)
theorem wV {w : World} {A : Option Addr} {n : Nat} {xs : List (List S98)} (h : Kd.C (Kd.slice 98 k98) w A n xs) (i : Int) (h0 : 0 ≤ i) (h1 : i < n) : ∃ ad A0 c0,A = some ad ∧ w.cell? (ad.add i.toNat) = some (.slice A0 (ng xs i).length c0) ∧ (ng xs i).length ≤ c0 ∧ k98.C w A0 (ng xs i).length (ng xs i):=by
 obtain ⟨ad,c,e,_,hK,hc0⟩:=Kd.iN h ([] : List S98) i h0 h1
 have hc : ∀ j u,c[j]? = some u → w.cell? (ad.add (i.toNat * 1 + j)) = some u:=hc0
 obtain ⟨A0,c0,rfl,l0,g0⟩:=hK
 exact ⟨ad,A0,c0,e,by have hq:=hc 0 _ rfl;rwa [Nat.mul_one,Nat.add_zero] at hq,l0,g0⟩
structure S49 where
 f0 : Int
 f1 : (List S98)
def z49 : S49:=⟨(0 : Int),([] : List S98)⟩
def k49 : Kd S49:=Kd.iso (Kd.pair (Kd.int .u64) (Kd.slice 98 k98)) (fun x : S49=>(x.f0,x.f1))
theorem lF {w : World} {x : S49} {cs : List Value} (h : k49.K w x cs) : ∃ A1 c1,cs = [.int .u64 x.f0,.slice A1 x.f1.length c1] ∧ x.f1.length ≤ c1 ∧ k98.C w A1 x.f1.length x.f1:=by
 obtain ⟨_,_,rfl,rfl,⟨A1,c1,rfl,l1,g1⟩⟩:=h
 exact ⟨A1,c1,rfl,l1,g1⟩
theorem vw {w : World} {base : Nat} {ok : Nat → Prop} {x : S49} {cs : List Value} (h : k49.M w base ok x cs) : ∃ v1,cs = [.int .u64 x.f0,v1] ∧ k98.R 98 w base ok v1 x.f1:=by
 obtain ⟨_,_,rfl,rfl,⟨v1,rfl,g1⟩⟩:=h
 exact ⟨v1,rfl,g1⟩
theorem wW (w : World) (x : S49) {A1 : Option Addr} {c1 : Nat} (l1 : x.f1.length ≤ c1) (g1 : k98.C w A1 x.f1.length x.f1) : k49.K w x [.int .u64 x.f0,.slice A1 x.f1.length c1]:=⟨[.int .u64 x.f0],[.slice A1 x.f1.length c1],rfl,rfl,⟨A1,c1,rfl,l1,g1⟩⟩
theorem wH (w : World) (base : Nat) (ok : Nat → Prop) (x : S49) {v1 : Value} (g1 : k98.R 98 w base ok v1 x.f1) : k49.M w base ok x [.int .u64 x.f0,v1]:=⟨[.int .u64 x.f0],[v1],rfl,rfl,⟨v1,rfl,g1⟩⟩
def lG (xs : List S49) (i : Int) : S49:=xs.getD i.toNat z49
theorem wX {w : World} {A : Option Addr} {n : Nat} {xs : List S49} (h : Kd.C k49 w A n xs) (i : Int) (h0 : 0 ≤ i) (h1 : i < n) : ∃ ad A1 c1,A = some ad ∧ w.cell? (ad.add (i.toNat * 2)) = some (.int .u64 (lG xs i).f0) ∧ w.cell? ⟨(ad.add (i.toNat * 2)).block,(ad.add (i.toNat * 2)).off + 1,none⟩ = some (.slice A1 (lG xs i).f1.length c1) ∧ (lG xs i).f1.length ≤ c1 ∧ k98.C w A1 (lG xs i).f1.length (lG xs i).f1:=by
 obtain ⟨ad,c,e,_,hK,hc0⟩:=Kd.iN h z49 i h0 h1
 have hc : ∀ j u,c[j]? = some u → w.cell? (ad.add (i.toNat * 2 + j)) = some u:=hc0
 obtain ⟨A1,c1,rfl,l1,g1⟩:=lF hK
 exact ⟨ad,A1,c1,e,hc 0 _ rfl,by rw [← eF _ _ 1 (by omega)];exact hc 1 _ rfl,l1,g1⟩
structure S104 where
 f0 : ByteArray
 f1 : ByteArray
def vN : S104:=⟨(⟨#[]⟩ : ByteArray),(⟨#[]⟩ : ByteArray)⟩
def jE : Kd S104:=Kd.iso (Kd.pair Kd.string Kd.string) (fun x : S104=>(x.f0,x.f1))
theorem qo {w : World} {x : S104} {cs : List Value} (h : jE.K w x cs) : cs = [.string x.f0,.string x.f1]:=by
 obtain ⟨_,_,rfl,rfl,rfl⟩:=h
 exact rfl
theorem uI {w : World} {base : Nat} {ok : Nat → Prop} {x : S104} {cs : List Value} (h : jE.M w base ok x cs) : cs = [.string x.f0,.string x.f1]:=by
 obtain ⟨_,_,rfl,rfl,rfl⟩:=h
 exact rfl
theorem wI (w : World) (x : S104)  : jE.K w x [.string x.f0,.string x.f1]:=⟨[.string x.f0],[.string x.f1],rfl,rfl,rfl⟩
theorem rA (w : World) (base : Nat) (ok : Nat → Prop) (x : S104)  : jE.M w base ok x [.string x.f0,.string x.f1]:=⟨[.string x.f0],[.string x.f1],rfl,rfl,rfl⟩
def dD (xs : List S104) (i : Int) : S104:=xs.getD i.toNat vN
theorem gK {w : World} {A : Option Addr} {n : Nat} {xs : List S104} (h : Kd.C jE w A n xs) (i : Int) (h0 : 0 ≤ i) (h1 : i < n) : ∃ ad ,A = some ad ∧ w.cell? (ad.add (i.toNat * 2)) = some (.string (dD xs i).f0) ∧ w.cell? ⟨(ad.add (i.toNat * 2)).block,(ad.add (i.toNat * 2)).off + 1,none⟩ = some (.string (dD xs i).f1):=by
 obtain ⟨ad,c,e,_,hK,hc0⟩:=Kd.iN h vN i h0 h1
 have hc : ∀ j u,c[j]? = some u → w.cell? (ad.add (i.toNat * 2 + j)) = some u:=hc0
 obtain rfl:=qo hK
 exact ⟨ad,e,hc 0 _ rfl,by rw [← eF _ _ 1 (by omega)];exact hc 1 _ rfl⟩
def ni (xs : List (List S104)) (i : Int) : (List S104):=xs.getD i.toNat ([] : List S104)
theorem wY {w : World} {A : Option Addr} {n : Nat} {xs : List (List S104)} (h : Kd.C (Kd.slice 104 jE) w A n xs) (i : Int) (h0 : 0 ≤ i) (h1 : i < n) : ∃ ad A0 c0,A = some ad ∧ w.cell? (ad.add i.toNat) = some (.slice A0 (ni xs i).length c0) ∧ (ni xs i).length ≤ c0 ∧ jE.C w A0 (ni xs i).length (ni xs i):=by
 obtain ⟨ad,c,e,_,hK,hc0⟩:=Kd.iN h ([] : List S104) i h0 h1
 have hc : ∀ j u,c[j]? = some u → w.cell? (ad.add (i.toNat * 1 + j)) = some u:=hc0
 obtain ⟨A0,c0,rfl,l0,g0⟩:=hK
 exact ⟨ad,A0,c0,e,by have hq:=hc 0 _ rfl;rwa [Nat.mul_one,Nat.add_zero] at hq,l0,g0⟩
structure S103 where
 f0 : ByteArray
 f1 : ByteArray
 f2 : ByteArray
 f3 : Int
 f4 : Int
 f5 : (List S104)
def vO : S103:=⟨(⟨#[]⟩ : ByteArray),(⟨#[]⟩ : ByteArray),(⟨#[]⟩ : ByteArray),(0 : Int),(0 : Int),([] : List S104)⟩
def fA : Kd S103:=Kd.iso (Kd.pair Kd.string (Kd.pair Kd.string (Kd.pair Kd.string (Kd.pair (Kd.int .u8) (Kd.pair (Kd.int .u16) (Kd.slice 104 jE)))))) (fun x : S103=>(x.f0,x.f1,x.f2,x.f3,x.f4,x.f5))
theorem qp {w : World} {x : S103} {cs : List Value} (h : fA.K w x cs) : ∃ A5 c5,cs = [.string x.f0,.string x.f1,.string x.f2,.int .u8 x.f3,.int .u16 x.f4,.slice A5 x.f5.length c5] ∧ x.f5.length ≤ c5 ∧ jE.C w A5 x.f5.length x.f5:=by
 obtain ⟨_,_,rfl,rfl,⟨_,_,rfl,rfl,⟨_,_,rfl,rfl,⟨_,_,rfl,rfl,⟨_,_,rfl,rfl,⟨A5,c5,rfl,l5,g5⟩⟩⟩⟩⟩⟩:=h
 exact ⟨A5,c5,rfl,l5,g5⟩
theorem uJ {w : World} {base : Nat} {ok : Nat → Prop} {x : S103} {cs : List Value} (h : fA.M w base ok x cs) : ∃ v5,cs = [.string x.f0,.string x.f1,.string x.f2,.int .u8 x.f3,.int .u16 x.f4,v5] ∧ jE.R 104 w base ok v5 x.f5:=by
 obtain ⟨_,_,rfl,rfl,⟨_,_,rfl,rfl,⟨_,_,rfl,rfl,⟨_,_,rfl,rfl,⟨_,_,rfl,rfl,⟨v5,rfl,g5⟩⟩⟩⟩⟩⟩:=h
 exact ⟨v5,rfl,g5⟩
theorem wJ (w : World) (x : S103) {A5 : Option Addr} {c5 : Nat} (l5 : x.f5.length ≤ c5) (g5 : jE.C w A5 x.f5.length x.f5) : fA.K w x [.string x.f0,.string x.f1,.string x.f2,.int .u8 x.f3,.int .u16 x.f4,.slice A5 x.f5.length c5]:=⟨[.string x.f0],[.string x.f1,.string x.f2,.int .u8 x.f3,.int .u16 x.f4,.slice A5 x.f5.length c5],rfl,rfl,⟨[.string x.f1],[.string x.f2,.int .u8 x.f3,.int .u16 x.f4,.slice A5 x.f5.length c5],rfl,rfl,⟨[.string x.f2],[.int .u8 x.f3,.int .u16 x.f4,.slice A5 x.f5.length c5],rfl,rfl,⟨[.int .u8 x.f3],[.int .u16 x.f4,.slice A5 x.f5.length c5],rfl,rfl,⟨[.int .u16 x.f4],[.slice A5 x.f5.length c5],rfl,rfl,⟨A5,c5,rfl,l5,g5⟩⟩⟩⟩⟩⟩
theorem rC (w : World) (base : Nat) (ok : Nat → Prop) (x : S103) {v5 : Value} (g5 : jE.R 104 w base ok v5 x.f5) : fA.M w base ok x [.string x.f0,.string x.f1,.string x.f2,.int .u8 x.f3,.int .u16 x.f4,v5]:=⟨[.string x.f0],[.string x.f1,.string x.f2,.int .u8 x.f3,.int .u16 x.f4,v5],rfl,rfl,⟨[.string x.f1],[.string x.f2,.int .u8 x.f3,.int .u16 x.f4,v5],rfl,rfl,⟨[.string x.f2],[.int .u8 x.f3,.int .u16 x.f4,v5],rfl,rfl,⟨[.int .u8 x.f3],[.int .u16 x.f4,v5],rfl,rfl,⟨[.int .u16 x.f4],[v5],rfl,rfl,⟨v5,rfl,g5⟩⟩⟩⟩⟩⟩
def ah (xs : List S103) (i : Int) : S103:=xs.getD i.toNat vO
theorem jM {w : World} {A : Option Addr} {n : Nat} {xs : List S103} (h : Kd.C fA w A n xs) (i : Int) (h0 : 0 ≤ i) (h1 : i < n) : ∃ ad A5 c5,A = some ad ∧ w.cell? (ad.add (i.toNat * 6)) = some (.string (ah xs i).f0) ∧ w.cell? ⟨(ad.add (i.toNat * 6)).block,(ad.add (i.toNat * 6)).off + 1,none⟩ = some (.string (ah xs i).f1) ∧ w.cell? ⟨(ad.add (i.toNat * 6)).block,(ad.add (i.toNat * 6)).off + 2,none⟩ = some (.string (ah xs i).f2) ∧ w.cell? ⟨(ad.add (i.toNat * 6)).block,(ad.add (i.toNat * 6)).off + 3,none⟩ = some (.int .u8 (ah xs i).f3) ∧ w.cell? ⟨(ad.add (i.toNat * 6)).block,(ad.add (i.toNat * 6)).off + 4,none⟩ = some (.int .u16 (ah xs i).f4) ∧ w.cell? ⟨(ad.add (i.toNat * 6)).block,(ad.add (i.toNat * 6)).off + 5,none⟩ = some (.slice A5 (ah xs i).f5.length c5) ∧ (ah xs i).f5.length ≤ c5 ∧ jE.C w A5 (ah xs i).f5.length (ah xs i).f5:=by
 obtain ⟨ad,c,e,_,hK,hc0⟩:=Kd.iN h vO i h0 h1
 have hc : ∀ j u,c[j]? = some u → w.cell? (ad.add (i.toNat * 6 + j)) = some u:=hc0
 obtain ⟨A5,c5,rfl,l5,g5⟩:=qp hK
 exact ⟨ad,A5,c5,e,hc 0 _ rfl,by rw [← eF _ _ 1 (by omega)];exact hc 1 _ rfl,by rw [← eF _ _ 2 (by omega)];exact hc 2 _ rfl,by rw [← eF _ _ 3 (by omega)];exact hc 3 _ rfl,by rw [← eF _ _ 4 (by omega)];exact hc 4 _ rfl,by rw [← eF _ _ 5 (by omega)];exact hc 5 _ rfl,l5,g5⟩
def nk (xs : List (List S103)) (i : Int) : (List S103):=xs.getD i.toNat ([] : List S103)
theorem wZ {w : World} {A : Option Addr} {n : Nat} {xs : List (List S103)} (h : Kd.C (Kd.slice 103 fA) w A n xs) (i : Int) (h0 : 0 ≤ i) (h1 : i < n) : ∃ ad A0 c0,A = some ad ∧ w.cell? (ad.add i.toNat) = some (.slice A0 (nk xs i).length c0) ∧ (nk xs i).length ≤ c0 ∧ fA.C w A0 (nk xs i).length (nk xs i):=by
 obtain ⟨ad,c,e,_,hK,hc0⟩:=Kd.iN h ([] : List S103) i h0 h1
 have hc : ∀ j u,c[j]? = some u → w.cell? (ad.add (i.toNat * 1 + j)) = some u:=hc0
 obtain ⟨A0,c0,rfl,l0,g0⟩:=hK
 exact ⟨ad,A0,c0,e,by have hq:=hc 0 _ rfl;rwa [Nat.mul_one,Nat.add_zero] at hq,l0,g0⟩
structure S53 where
 f0 : Int
 f1 : (List S103)
def z53 : S53:=⟨(0 : Int),([] : List S103)⟩
def k53 : Kd S53:=Kd.iso (Kd.pair (Kd.int .u64) (Kd.slice 103 fA)) (fun x : S53=>(x.f0,x.f1))
theorem rD {w : World} {x : S53} {cs : List Value} (h : k53.K w x cs) : ∃ A1 c1,cs = [.int .u64 x.f0,.slice A1 x.f1.length c1] ∧ x.f1.length ≤ c1 ∧ fA.C w A1 x.f1.length x.f1:=by
 obtain ⟨_,_,rfl,rfl,⟨A1,c1,rfl,l1,g1⟩⟩:=h
 exact ⟨A1,c1,rfl,l1,g1⟩
theorem vB {w : World} {base : Nat} {ok : Nat → Prop} {x : S53} {cs : List Value} (h : k53.M w base ok x cs) : ∃ v1,cs = [.int .u64 x.f0,v1] ∧ fA.R 103 w base ok v1 x.f1:=by
 obtain ⟨_,_,rfl,rfl,⟨v1,rfl,g1⟩⟩:=h
 exact ⟨v1,rfl,g1⟩
theorem xg (w : World) (x : S53) {A1 : Option Addr} {c1 : Nat} (l1 : x.f1.length ≤ c1) (g1 : fA.C w A1 x.f1.length x.f1) : k53.K w x [.int .u64 x.f0,.slice A1 x.f1.length c1]:=⟨[.int .u64 x.f0],[.slice A1 x.f1.length c1],rfl,rfl,⟨A1,c1,rfl,l1,g1⟩⟩
theorem wK (w : World) (base : Nat) (ok : Nat → Prop) (x : S53) {v1 : Value} (g1 : fA.R 103 w base ok v1 x.f1) : k53.M w base ok x [.int .u64 x.f0,v1]:=⟨[.int .u64 x.f0],[v1],rfl,rfl,⟨v1,rfl,g1⟩⟩
def lH (xs : List S53) (i : Int) : S53:=xs.getD i.toNat z53
theorem xk {w : World} {A : Option Addr} {n : Nat} {xs : List S53} (h : Kd.C k53 w A n xs) (i : Int) (h0 : 0 ≤ i) (h1 : i < n) : ∃ ad A1 c1,A = some ad ∧ w.cell? (ad.add (i.toNat * 2)) = some (.int .u64 (lH xs i).f0) ∧ w.cell? ⟨(ad.add (i.toNat * 2)).block,(ad.add (i.toNat * 2)).off + 1,none⟩ = some (.slice A1 (lH xs i).f1.length c1) ∧ (lH xs i).f1.length ≤ c1 ∧ fA.C w A1 (lH xs i).f1.length (lH xs i).f1:=by
 obtain ⟨ad,c,e,_,hK,hc0⟩:=Kd.iN h z53 i h0 h1
 have hc : ∀ j u,c[j]? = some u → w.cell? (ad.add (i.toNat * 2 + j)) = some u:=hc0
 obtain ⟨A1,c1,rfl,l1,g1⟩:=rD hK
 exact ⟨ad,A1,c1,e,hc 0 _ rfl,by rw [← eF _ _ 1 (by omega)];exact hc 1 _ rfl,l1,g1⟩
end Go.Proofs.YtpmbdcljphpcnaaDoor.GC2
