/- Written by this session's own program (wip/gen.py) out of the translation: plain Lean functions of the Go functions, and proofs that the calls come to their answers. No conditions beside those in the statements. -/
import Derived.Test.YtpmbdcljphpcnaaDoorProg
import Derived.Below
import Derived.Deep.Draws
import Derived.Deep.AppendLies
import Derived.Maps.AppendAt
import Derived.OwnWalk
import Derived.Laws.BytesArg
import Derived.Laws.MakeOwn
import Derived.Laws.OwnMore
import Derived.Deep.OwnRows
import Derived.Tactics
import Derived.Lib.ConvBytes
import Derived.Laws.Slices
import Derived.WalkKit
import Derived.KernelRfl
import Derived.RowKit3
import Derived.Deep.LoopGhost
import Derived.Deep.QuietTactic
import Derived.BigQuiet
import Derived.WideLaws
import Derived.Deep.DeepCutAuto
import Derived.Deep.CutBlock
import Derived.Deep.RegionHeld3
import Derived.Laws.Rows
import Derived.Lib.AppendStr
import Derived.ArgAppend
import Derived.Laws.IdiomCopy
import Derived.OrdersHeld
import Derived.Laws.BitsLemmas
import Derived.RowKit
import Derived.Test.YtpmbdcljphpcnaaDoorWd
namespace Go.Proofs.YtpmbdcljphpcnaaDoor.GC2
open Go.RowKit Go.Proofs.YtpmbdcljphpcnaaDoorW.PrintWords Go.Proofs.YtpmbdcljphpcnaaDoorW.PrintLast Go.Proofs.YtpmbdcljphpcnaaDoorW.PrintMore
attribute [local go_sem] fO fP gI gJ fF fG fQ fT
set_option linter.unusedVariables false
set_option linter.unusedSimpArgs false
def xX : Option Int → Value
 | none=>.nilIface
 | some c=>.iface 0 (.int .i64 c)
theorem aY : xX none = .nilIface:=rfl
theorem aZ (c : Int) : xX (some c) = .iface 0 (.int .i64 c):=rfl
theorem bY {x : Int} (h0 : 0 ≤ x) (h1 : x ≤ 18446744073709551615) : IntKind.u64.wrap x = x:=by simp [IntKind.wrap,IntKind.bits,IntKind.signed];omega
theorem bJ {x : Int} (h0 : -9223372036854775808 ≤ x) (h1 : x ≤ 9223372036854775807) : wrap64 x = x:=by unfold wrap64;omega
theorem dF {x : Int} (h0 : 0 ≤ x) (h1 : x ≤ 255) : x % 256 = x:=by omega
theorem qG : ∀ x y : List UInt8,(Op.bytesLess x y || x == y) = !(Op.bytesLess y x)
 | [],[]=>rfl
 | [],_ :: _=>rfl
 | _ :: _,[]=>rfl
 | a :: x,b :: y=>by
  have ih:=qG x y
  simp only [Op.bytesLess,List.cons_beq_cons]
  rcases Nat.lt_trichotomy a.toNat b.toNat with h|h|h
  ·have h1 : a < b:=h
   have h2 : ¬ b < a:=fun e=>by have : b.toNat < a.toNat:=e;omega
   have h3 : ¬ b = a:=fun e=>by subst e;omega
   simp [h1,h2,h3]
  ·obtain rfl : a = b:=UInt8.toNat_inj.1 h
   simpa using ih
  ·have h1 : b < a:=h
   have h2 : ¬ a < b:=fun e=>by have : a.toNat < b.toNat:=e;omega
   have h3 : ¬ b = a:=fun e=>by subst e;omega
   have h4 : ¬ a = b:=fun e=>by subst e;omega
   simp [h1,h2,h3,h4]
@[go_sem] theorem yG (t : TypeId) (a b : ByteArray) : binOp .leq t (.string a) (.string b) = pure (.bool (!(Op.bytesLess b.toList a.toList))):=by
 rw [← qG];simp [binOp,Op.stringOp]
@[go_sem] theorem yH (t : TypeId) (a b : ByteArray) : binOp .gtr t (.string a) (.string b) = pure (.bool (Op.bytesLess b.toList a.toList)):=by
 have e : binOp .gtr t (.string a) (.string b) = pure (.bool (!(Op.bytesLess a.toList b.toList || a.toList == b.toList))):=by simp [binOp,Op.stringOp]
 rw [e,qG,Bool.not_not]
@[go_sem] theorem yI (t : TypeId) (a b : ByteArray) : binOp .geq t (.string a) (.string b) = pure (.bool (!(Op.bytesLess a.toList b.toList))):=by simp [binOp,Op.stringOp]
theorem info5 : (Tryd.prog.info? 5).map (fun i=>(i.zero,i.size,i.bytes)) = some (some (.int .u8 0),1,1):=by kernel_rfl
theorem vV : (Tryd.prog.info? 9).map (fun i=>(i.zero,i.size,i.bytes)) = some (some (.string ⟨#[]⟩),1,16):=by kernel_rfl
theorem q8 : (Tryd.prog.info? 103).map (fun i=>(i.zero,i.size,i.bytes)) = some (some (.agg #[(.string ⟨#[]⟩),(.string ⟨#[]⟩),(.string ⟨#[]⟩),(.int .u8 0),(.int .u16 0),(.slice none 0 0)]),6,80):=by kernel_rfl
theorem ru : (Tryd.prog.info? 104).map (fun i=>(i.zero,i.size,i.bytes)) = some (some (.agg #[(.string ⟨#[]⟩),(.string ⟨#[]⟩)]),2,32):=by kernel_rfl
structure S66 where
 f0 : ByteArray
 f1 : ByteArray
 f2 : ByteArray
 f3 : Int
def z66 : S66:=⟨(⟨#[]⟩ : ByteArray),(⟨#[]⟩ : ByteArray),(⟨#[]⟩ : ByteArray),(0 : Int)⟩
def k66 : Kd S66:=Kd.iso (Kd.pair Kd.string (Kd.pair Kd.string (Kd.pair Kd.string (Kd.int .u8)))) (fun x : S66=>(x.f0,x.f1,x.f2,x.f3))
theorem tT {w : World} {x : S66} {cs : List Value} (h : k66.K w x cs) : cs = [.string x.f0,.string x.f1,.string x.f2,.int .u8 x.f3]:=by
 obtain ⟨_,_,rfl,rfl,⟨_,_,rfl,rfl,⟨_,_,rfl,rfl,rfl⟩⟩⟩:=h
 exact rfl
theorem xD {w : World} {base : Nat} {ok : Nat → Prop} {x : S66} {cs : List Value} (h : k66.M w base ok x cs) : cs = [.string x.f0,.string x.f1,.string x.f2,.int .u8 x.f3]:=by
 obtain ⟨_,_,rfl,rfl,⟨_,_,rfl,rfl,⟨_,_,rfl,rfl,rfl⟩⟩⟩:=h
 exact rfl
theorem ze (w : World) (x : S66)  : k66.K w x [.string x.f0,.string x.f1,.string x.f2,.int .u8 x.f3]:=⟨[.string x.f0],[.string x.f1,.string x.f2,.int .u8 x.f3],rfl,rfl,⟨[.string x.f1],[.string x.f2,.int .u8 x.f3],rfl,rfl,⟨[.string x.f2],[.int .u8 x.f3],rfl,rfl,rfl⟩⟩⟩
theorem yJ (w : World) (base : Nat) (ok : Nat → Prop) (x : S66)  : k66.M w base ok x [.string x.f0,.string x.f1,.string x.f2,.int .u8 x.f3]:=⟨[.string x.f0],[.string x.f1,.string x.f2,.int .u8 x.f3],rfl,rfl,⟨[.string x.f1],[.string x.f2,.int .u8 x.f3],rfl,rfl,⟨[.string x.f2],[.int .u8 x.f3],rfl,rfl,rfl⟩⟩⟩
def oP (xs : List S66) (i : Int) : S66:=xs.getD i.toNat z66
theorem zf {w : World} {A : Option Addr} {n : Nat} {xs : List S66} (h : Kd.C k66 w A n xs) (i : Int) (h0 : 0 ≤ i) (h1 : i < n) : ∃ ad ,A = some ad ∧ w.cell? (ad.add (i.toNat * 4)) = some (.string (oP xs i).f0) ∧ w.cell? ⟨(ad.add (i.toNat * 4)).block,(ad.add (i.toNat * 4)).off + 1,none⟩ = some (.string (oP xs i).f1) ∧ w.cell? ⟨(ad.add (i.toNat * 4)).block,(ad.add (i.toNat * 4)).off + 2,none⟩ = some (.string (oP xs i).f2) ∧ w.cell? ⟨(ad.add (i.toNat * 4)).block,(ad.add (i.toNat * 4)).off + 3,none⟩ = some (.int .u8 (oP xs i).f3):=by
 obtain ⟨ad,c,e,_,hK,hc0⟩:=Kd.jm h z66 i h0 h1
 have hc : ∀ j u,c[j]? = some u → w.cell? (ad.add (i.toNat * 4 + j)) = some u:=hc0
 obtain rfl:=tT hK
 exact ⟨ad,e,hc 0 _ rfl,by rw [← eX _ _ 1 (by omega)];exact hc 1 _ rfl,by rw [← eX _ _ 2 (by omega)];exact hc 2 _ rfl,by rw [← eX _ _ 3 (by omega)];exact hc 3 _ rfl⟩
def rz (xs : List (List S66)) (i : Int) : (List S66):=xs.getD i.toNat ([] : List S66)
theorem zJ {w : World} {A : Option Addr} {n : Nat} {xs : List (List S66)} (h : Kd.C (Kd.slice 66 k66) w A n xs) (i : Int) (h0 : 0 ≤ i) (h1 : i < n) : ∃ ad A0 c0,A = some ad ∧ w.cell? (ad.add i.toNat) = some (.slice A0 (rz xs i).length c0) ∧ (rz xs i).length ≤ c0 ∧ k66.C w A0 (rz xs i).length (rz xs i):=by
 obtain ⟨ad,c,e,_,hK,hc0⟩:=Kd.jm h ([] : List S66) i h0 h1
 have hc : ∀ j u,c[j]? = some u → w.cell? (ad.add (i.toNat * 1 + j)) = some u:=hc0
 obtain ⟨A0,c0,rfl,l0,g0⟩:=hK
 exact ⟨ad,A0,c0,e,by have hq:=hc 0 _ rfl;rwa [Nat.mul_one,Nat.add_zero] at hq,l0,g0⟩
structure S25 where
 f0 : Int
 f1 : (List S66)
def z25 : S25:=⟨(0 : Int),([] : List S66)⟩
def k25 : Kd S25:=Kd.iso (Kd.pair (Kd.int .u32) (Kd.slice 66 k66)) (fun x : S25=>(x.f0,x.f1))
theorem tV {w : World} {x : S25} {cs : List Value} (h : k25.K w x cs) : ∃ A1 c1,cs = [.int .u32 x.f0,.slice A1 x.f1.length c1] ∧ x.f1.length ≤ c1 ∧ k66.C w A1 x.f1.length x.f1:=by
 obtain ⟨_,_,rfl,rfl,⟨A1,c1,rfl,l1,g1⟩⟩:=h
 exact ⟨A1,c1,rfl,l1,g1⟩
theorem xE {w : World} {base : Nat} {ok : Nat → Prop} {x : S25} {cs : List Value} (h : k25.M w base ok x cs) : ∃ v1,cs = [.int .u32 x.f0,v1] ∧ k66.R 66 w base ok v1 x.f1:=by
 obtain ⟨_,_,rfl,rfl,⟨v1,rfl,g1⟩⟩:=h
 exact ⟨v1,rfl,g1⟩
theorem zh (w : World) (x : S25) {A1 : Option Addr} {c1 : Nat} (l1 : x.f1.length ≤ c1) (g1 : k66.C w A1 x.f1.length x.f1) : k25.K w x [.int .u32 x.f0,.slice A1 x.f1.length c1]:=⟨[.int .u32 x.f0],[.slice A1 x.f1.length c1],rfl,rfl,⟨A1,c1,rfl,l1,g1⟩⟩
theorem yK (w : World) (base : Nat) (ok : Nat → Prop) (x : S25) {v1 : Value} (g1 : k66.R 66 w base ok v1 x.f1) : k25.M w base ok x [.int .u32 x.f0,v1]:=⟨[.int .u32 x.f0],[v1],rfl,rfl,⟨v1,rfl,g1⟩⟩
def mZ (xs : List S25) (i : Int) : S25:=xs.getD i.toNat z25
theorem zi {w : World} {A : Option Addr} {n : Nat} {xs : List S25} (h : Kd.C k25 w A n xs) (i : Int) (h0 : 0 ≤ i) (h1 : i < n) : ∃ ad A1 c1,A = some ad ∧ w.cell? (ad.add (i.toNat * 2)) = some (.int .u32 (mZ xs i).f0) ∧ w.cell? ⟨(ad.add (i.toNat * 2)).block,(ad.add (i.toNat * 2)).off + 1,none⟩ = some (.slice A1 (mZ xs i).f1.length c1) ∧ (mZ xs i).f1.length ≤ c1 ∧ k66.C w A1 (mZ xs i).f1.length (mZ xs i).f1:=by
 obtain ⟨ad,c,e,_,hK,hc0⟩:=Kd.jm h z25 i h0 h1
 have hc : ∀ j u,c[j]? = some u → w.cell? (ad.add (i.toNat * 2 + j)) = some u:=hc0
 obtain ⟨A1,c1,rfl,l1,g1⟩:=tV hK
 exact ⟨ad,A1,c1,e,hc 0 _ rfl,by rw [← eX _ _ 1 (by omega)];exact hc 1 _ rfl,l1,g1⟩
structure S100 where
 f0 : ByteArray
 f1 : ByteArray
def xY : S100:=⟨(⟨#[]⟩ : ByteArray),(⟨#[]⟩ : ByteArray)⟩
def jJ : Kd S100:=Kd.iso (Kd.pair Kd.string Kd.string) (fun x : S100=>(x.f0,x.f1))
theorem rX {w : World} {x : S100} {cs : List Value} (h : jJ.K w x cs) : cs = [.string x.f0,.string x.f1]:=by
 obtain ⟨_,_,rfl,rfl,rfl⟩:=h
 exact rfl
theorem wR {w : World} {base : Nat} {ok : Nat → Prop} {x : S100} {cs : List Value} (h : jJ.M w base ok x cs) : cs = [.string x.f0,.string x.f1]:=by
 obtain ⟨_,_,rfl,rfl,rfl⟩:=h
 exact rfl
theorem yL (w : World) (x : S100)  : jJ.K w x [.string x.f0,.string x.f1]:=⟨[.string x.f0],[.string x.f1],rfl,rfl,rfl⟩
theorem tX (w : World) (base : Nat) (ok : Nat → Prop) (x : S100)  : jJ.M w base ok x [.string x.f0,.string x.f1]:=⟨[.string x.f0],[.string x.f1],rfl,rfl,rfl⟩
def eU (xs : List S100) (i : Int) : S100:=xs.getD i.toNat xY
theorem oQ {w : World} {A : Option Addr} {n : Nat} {xs : List S100} (h : Kd.C jJ w A n xs) (i : Int) (h0 : 0 ≤ i) (h1 : i < n) : ∃ ad ,A = some ad ∧ w.cell? (ad.add (i.toNat * 2)) = some (.string (eU xs i).f0) ∧ w.cell? ⟨(ad.add (i.toNat * 2)).block,(ad.add (i.toNat * 2)).off + 1,none⟩ = some (.string (eU xs i).f1):=by
 obtain ⟨ad,c,e,_,hK,hc0⟩:=Kd.jm h xY i h0 h1
 have hc : ∀ j u,c[j]? = some u → w.cell? (ad.add (i.toNat * 2 + j)) = some u:=hc0
 obtain rfl:=rX hK
 exact ⟨ad,e,hc 0 _ rfl,by rw [← eX _ _ 1 (by omega)];exact hc 1 _ rfl⟩
def oU (xs : List (List S100)) (i : Int) : (List S100):=xs.getD i.toNat ([] : List S100)
theorem zk {w : World} {A : Option Addr} {n : Nat} {xs : List (List S100)} (h : Kd.C (Kd.slice 100 jJ) w A n xs) (i : Int) (h0 : 0 ≤ i) (h1 : i < n) : ∃ ad A0 c0,A = some ad ∧ w.cell? (ad.add i.toNat) = some (.slice A0 (oU xs i).length c0) ∧ (oU xs i).length ≤ c0 ∧ jJ.C w A0 (oU xs i).length (oU xs i):=by
 obtain ⟨ad,c,e,_,hK,hc0⟩:=Kd.jm h ([] : List S100) i h0 h1
 have hc : ∀ j u,c[j]? = some u → w.cell? (ad.add (i.toNat * 1 + j)) = some u:=hc0
 obtain ⟨A0,c0,rfl,l0,g0⟩:=hK
 exact ⟨ad,A0,c0,e,by have hq:=hc 0 _ rfl;rwa [Nat.mul_one,Nat.add_zero] at hq,l0,g0⟩
structure S98 where
 f0 : ByteArray
 f1 : ByteArray
 f2 : ByteArray
 f3 : Int
 f4 : Int
 f5 : (List S100)
def z98 : S98:=⟨(⟨#[]⟩ : ByteArray),(⟨#[]⟩ : ByteArray),(⟨#[]⟩ : ByteArray),(0 : Int),(0 : Int),([] : List S100)⟩
def k98 : Kd S98:=Kd.iso (Kd.pair Kd.string (Kd.pair Kd.string (Kd.pair Kd.string (Kd.pair (Kd.int .u8) (Kd.pair (Kd.int .u16) (Kd.slice 100 jJ)))))) (fun x : S98=>(x.f0,x.f1,x.f2,x.f3,x.f4,x.f5))
theorem tY {w : World} {x : S98} {cs : List Value} (h : k98.K w x cs) : ∃ A5 c5,cs = [.string x.f0,.string x.f1,.string x.f2,.int .u8 x.f3,.int .u16 x.f4,.slice A5 x.f5.length c5] ∧ x.f5.length ≤ c5 ∧ jJ.C w A5 x.f5.length x.f5:=by
 obtain ⟨_,_,rfl,rfl,⟨_,_,rfl,rfl,⟨_,_,rfl,rfl,⟨_,_,rfl,rfl,⟨_,_,rfl,rfl,⟨A5,c5,rfl,l5,g5⟩⟩⟩⟩⟩⟩:=h
 exact ⟨A5,c5,rfl,l5,g5⟩
theorem xG {w : World} {base : Nat} {ok : Nat → Prop} {x : S98} {cs : List Value} (h : k98.M w base ok x cs) : ∃ v5,cs = [.string x.f0,.string x.f1,.string x.f2,.int .u8 x.f3,.int .u16 x.f4,v5] ∧ jJ.R 100 w base ok v5 x.f5:=by
 obtain ⟨_,_,rfl,rfl,⟨_,_,rfl,rfl,⟨_,_,rfl,rfl,⟨_,_,rfl,rfl,⟨_,_,rfl,rfl,⟨v5,rfl,g5⟩⟩⟩⟩⟩⟩:=h
 exact ⟨v5,rfl,g5⟩
theorem zl (w : World) (x : S98) {A5 : Option Addr} {c5 : Nat} (l5 : x.f5.length ≤ c5) (g5 : jJ.C w A5 x.f5.length x.f5) : k98.K w x [.string x.f0,.string x.f1,.string x.f2,.int .u8 x.f3,.int .u16 x.f4,.slice A5 x.f5.length c5]:=⟨[.string x.f0],[.string x.f1,.string x.f2,.int .u8 x.f3,.int .u16 x.f4,.slice A5 x.f5.length c5],rfl,rfl,⟨[.string x.f1],[.string x.f2,.int .u8 x.f3,.int .u16 x.f4,.slice A5 x.f5.length c5],rfl,rfl,⟨[.string x.f2],[.int .u8 x.f3,.int .u16 x.f4,.slice A5 x.f5.length c5],rfl,rfl,⟨[.int .u8 x.f3],[.int .u16 x.f4,.slice A5 x.f5.length c5],rfl,rfl,⟨[.int .u16 x.f4],[.slice A5 x.f5.length c5],rfl,rfl,⟨A5,c5,rfl,l5,g5⟩⟩⟩⟩⟩⟩
theorem vB (w : World) (base : Nat) (ok : Nat → Prop) (x : S98) {v5 : Value} (g5 : jJ.R 100 w base ok v5 x.f5) : k98.M w base ok x [.string x.f0,.string x.f1,.string x.f2,.int .u8 x.f3,.int .u16 x.f4,v5]:=⟨[.string x.f0],[.string x.f1,.string x.f2,.int .u8 x.f3,.int .u16 x.f4,v5],rfl,rfl,⟨[.string x.f1],[.string x.f2,.int .u8 x.f3,.int .u16 x.f4,v5],rfl,rfl,⟨[.string x.f2],[.int .u8 x.f3,.int .u16 x.f4,v5],rfl,rfl,⟨[.int .u8 x.f3],[.int .u16 x.f4,v5],rfl,rfl,⟨[.int .u16 x.f4],[v5],rfl,rfl,⟨v5,rfl,g5⟩⟩⟩⟩⟩⟩
def aH (xs : List S98) (i : Int) : S98:=xs.getD i.toNat z98
theorem oV {w : World} {A : Option Addr} {n : Nat} {xs : List S98} (h : Kd.C k98 w A n xs) (i : Int) (h0 : 0 ≤ i) (h1 : i < n) : ∃ ad A5 c5,A = some ad ∧ w.cell? (ad.add (i.toNat * 6)) = some (.string (aH xs i).f0) ∧ w.cell? ⟨(ad.add (i.toNat * 6)).block,(ad.add (i.toNat * 6)).off + 1,none⟩ = some (.string (aH xs i).f1) ∧ w.cell? ⟨(ad.add (i.toNat * 6)).block,(ad.add (i.toNat * 6)).off + 2,none⟩ = some (.string (aH xs i).f2) ∧ w.cell? ⟨(ad.add (i.toNat * 6)).block,(ad.add (i.toNat * 6)).off + 3,none⟩ = some (.int .u8 (aH xs i).f3) ∧ w.cell? ⟨(ad.add (i.toNat * 6)).block,(ad.add (i.toNat * 6)).off + 4,none⟩ = some (.int .u16 (aH xs i).f4) ∧ w.cell? ⟨(ad.add (i.toNat * 6)).block,(ad.add (i.toNat * 6)).off + 5,none⟩ = some (.slice A5 (aH xs i).f5.length c5) ∧ (aH xs i).f5.length ≤ c5 ∧ jJ.C w A5 (aH xs i).f5.length (aH xs i).f5:=by
 obtain ⟨ad,c,e,_,hK,hc0⟩:=Kd.jm h z98 i h0 h1
 have hc : ∀ j u,c[j]? = some u → w.cell? (ad.add (i.toNat * 6 + j)) = some u:=hc0
 obtain ⟨A5,c5,rfl,l5,g5⟩:=tY hK
 exact ⟨ad,A5,c5,e,hc 0 _ rfl,by rw [← eX _ _ 1 (by omega)];exact hc 1 _ rfl,by rw [← eX _ _ 2 (by omega)];exact hc 2 _ rfl,by rw [← eX _ _ 3 (by omega)];exact hc 3 _ rfl,by rw [← eX _ _ 4 (by omega)];exact hc 4 _ rfl,by rw [← eX _ _ 5 (by omega)];exact hc 5 _ rfl,l5,g5⟩
def oW (xs : List (List S98)) (i : Int) : (List S98):=xs.getD i.toNat ([] : List S98)
theorem zm {w : World} {A : Option Addr} {n : Nat} {xs : List (List S98)} (h : Kd.C (Kd.slice 98 k98) w A n xs) (i : Int) (h0 : 0 ≤ i) (h1 : i < n) : ∃ ad A0 c0,A = some ad ∧ w.cell? (ad.add i.toNat) = some (.slice A0 (oW xs i).length c0) ∧ (oW xs i).length ≤ c0 ∧ k98.C w A0 (oW xs i).length (oW xs i):=by
 obtain ⟨ad,c,e,_,hK,hc0⟩:=Kd.jm h ([] : List S98) i h0 h1
 have hc : ∀ j u,c[j]? = some u → w.cell? (ad.add (i.toNat * 1 + j)) = some u:=hc0
 obtain ⟨A0,c0,rfl,l0,g0⟩:=hK
 exact ⟨ad,A0,c0,e,by have hq:=hc 0 _ rfl;rwa [Nat.mul_one,Nat.add_zero] at hq,l0,g0⟩
structure S49 where
 f0 : Int
 f1 : (List S98)
def z49 : S49:=⟨(0 : Int),([] : List S98)⟩
def k49 : Kd S49:=Kd.iso (Kd.pair (Kd.int .u64) (Kd.slice 98 k98)) (fun x : S49=>(x.f0,x.f1))
theorem tZ {w : World} {x : S49} {cs : List Value} (h : k49.K w x cs) : ∃ A1 c1,cs = [.int .u64 x.f0,.slice A1 x.f1.length c1] ∧ x.f1.length ≤ c1 ∧ k98.C w A1 x.f1.length x.f1:=by
 obtain ⟨_,_,rfl,rfl,⟨A1,c1,rfl,l1,g1⟩⟩:=h
 exact ⟨A1,c1,rfl,l1,g1⟩
theorem xH {w : World} {base : Nat} {ok : Nat → Prop} {x : S49} {cs : List Value} (h : k49.M w base ok x cs) : ∃ v1,cs = [.int .u64 x.f0,v1] ∧ k98.R 98 w base ok v1 x.f1:=by
 obtain ⟨_,_,rfl,rfl,⟨v1,rfl,g1⟩⟩:=h
 exact ⟨v1,rfl,g1⟩
theorem zn (w : World) (x : S49) {A1 : Option Addr} {c1 : Nat} (l1 : x.f1.length ≤ c1) (g1 : k98.C w A1 x.f1.length x.f1) : k49.K w x [.int .u64 x.f0,.slice A1 x.f1.length c1]:=⟨[.int .u64 x.f0],[.slice A1 x.f1.length c1],rfl,rfl,⟨A1,c1,rfl,l1,g1⟩⟩
theorem yM (w : World) (base : Nat) (ok : Nat → Prop) (x : S49) {v1 : Value} (g1 : k98.R 98 w base ok v1 x.f1) : k49.M w base ok x [.int .u64 x.f0,v1]:=⟨[.int .u64 x.f0],[v1],rfl,rfl,⟨v1,rfl,g1⟩⟩
def ng (xs : List S49) (i : Int) : S49:=xs.getD i.toNat z49
theorem zo {w : World} {A : Option Addr} {n : Nat} {xs : List S49} (h : Kd.C k49 w A n xs) (i : Int) (h0 : 0 ≤ i) (h1 : i < n) : ∃ ad A1 c1,A = some ad ∧ w.cell? (ad.add (i.toNat * 2)) = some (.int .u64 (ng xs i).f0) ∧ w.cell? ⟨(ad.add (i.toNat * 2)).block,(ad.add (i.toNat * 2)).off + 1,none⟩ = some (.slice A1 (ng xs i).f1.length c1) ∧ (ng xs i).f1.length ≤ c1 ∧ k98.C w A1 (ng xs i).f1.length (ng xs i).f1:=by
 obtain ⟨ad,c,e,_,hK,hc0⟩:=Kd.jm h z49 i h0 h1
 have hc : ∀ j u,c[j]? = some u → w.cell? (ad.add (i.toNat * 2 + j)) = some u:=hc0
 obtain ⟨A1,c1,rfl,l1,g1⟩:=tZ hK
 exact ⟨ad,A1,c1,e,hc 0 _ rfl,by rw [← eX _ _ 1 (by omega)];exact hc 1 _ rfl,l1,g1⟩
structure S104 where
 f0 : ByteArray
 f1 : ByteArray
def xZ : S104:=⟨(⟨#[]⟩ : ByteArray),(⟨#[]⟩ : ByteArray)⟩
def jK : Kd S104:=Kd.iso (Kd.pair Kd.string Kd.string) (fun x : S104=>(x.f0,x.f1))
theorem rY {w : World} {x : S104} {cs : List Value} (h : jK.K w x cs) : cs = [.string x.f0,.string x.f1]:=by
 obtain ⟨_,_,rfl,rfl,rfl⟩:=h
 exact rfl
theorem wS {w : World} {base : Nat} {ok : Nat → Prop} {x : S104} {cs : List Value} (h : jK.M w base ok x cs) : cs = [.string x.f0,.string x.f1]:=by
 obtain ⟨_,_,rfl,rfl,rfl⟩:=h
 exact rfl
theorem yN (w : World) (x : S104)  : jK.K w x [.string x.f0,.string x.f1]:=⟨[.string x.f0],[.string x.f1],rfl,rfl,rfl⟩
theorem pO (w : World) (base : Nat) (ok : Nat → Prop) (x : S104)  : jK.M w base ok x [.string x.f0,.string x.f1]:=⟨[.string x.f0],[.string x.f1],rfl,rfl,rfl⟩
def d9 (xs : List S104) (i : Int) : S104:=xs.getD i.toNat xZ
theorem iJ {w : World} {A : Option Addr} {n : Nat} {xs : List S104} (h : Kd.C jK w A n xs) (i : Int) (h0 : 0 ≤ i) (h1 : i < n) : ∃ ad ,A = some ad ∧ w.cell? (ad.add (i.toNat * 2)) = some (.string (d9 xs i).f0) ∧ w.cell? ⟨(ad.add (i.toNat * 2)).block,(ad.add (i.toNat * 2)).off + 1,none⟩ = some (.string (d9 xs i).f1):=by
 obtain ⟨ad,c,e,_,hK,hc0⟩:=Kd.jm h xZ i h0 h1
 have hc : ∀ j u,c[j]? = some u → w.cell? (ad.add (i.toNat * 2 + j)) = some u:=hc0
 obtain rfl:=rY hK
 exact ⟨ad,e,hc 0 _ rfl,by rw [← eX _ _ 1 (by omega)];exact hc 1 _ rfl⟩
def oZ (xs : List (List S104)) (i : Int) : (List S104):=xs.getD i.toNat ([] : List S104)
theorem zq {w : World} {A : Option Addr} {n : Nat} {xs : List (List S104)} (h : Kd.C (Kd.slice 104 jK) w A n xs) (i : Int) (h0 : 0 ≤ i) (h1 : i < n) : ∃ ad A0 c0,A = some ad ∧ w.cell? (ad.add i.toNat) = some (.slice A0 (oZ xs i).length c0) ∧ (oZ xs i).length ≤ c0 ∧ jK.C w A0 (oZ xs i).length (oZ xs i):=by
 obtain ⟨ad,c,e,_,hK,hc0⟩:=Kd.jm h ([] : List S104) i h0 h1
 have hc : ∀ j u,c[j]? = some u → w.cell? (ad.add (i.toNat * 1 + j)) = some u:=hc0
 obtain ⟨A0,c0,rfl,l0,g0⟩:=hK
 exact ⟨ad,A0,c0,e,by have hq:=hc 0 _ rfl;rwa [Nat.mul_one,Nat.add_zero] at hq,l0,g0⟩
structure S103 where
 f0 : ByteArray
 f1 : ByteArray
 f2 : ByteArray
 f3 : Int
 f4 : Int
 f5 : (List S104)
def x9 : S103:=⟨(⟨#[]⟩ : ByteArray),(⟨#[]⟩ : ByteArray),(⟨#[]⟩ : ByteArray),(0 : Int),(0 : Int),([] : List S104)⟩
def iC : Kd S103:=Kd.iso (Kd.pair Kd.string (Kd.pair Kd.string (Kd.pair Kd.string (Kd.pair (Kd.int .u8) (Kd.pair (Kd.int .u16) (Kd.slice 104 jK)))))) (fun x : S103=>(x.f0,x.f1,x.f2,x.f3,x.f4,x.f5))
theorem rZ {w : World} {x : S103} {cs : List Value} (h : iC.K w x cs) : ∃ A5 c5,cs = [.string x.f0,.string x.f1,.string x.f2,.int .u8 x.f3,.int .u16 x.f4,.slice A5 x.f5.length c5] ∧ x.f5.length ≤ c5 ∧ jK.C w A5 x.f5.length x.f5:=by
 obtain ⟨_,_,rfl,rfl,⟨_,_,rfl,rfl,⟨_,_,rfl,rfl,⟨_,_,rfl,rfl,⟨_,_,rfl,rfl,⟨A5,c5,rfl,l5,g5⟩⟩⟩⟩⟩⟩:=h
 exact ⟨A5,c5,rfl,l5,g5⟩
theorem wT {w : World} {base : Nat} {ok : Nat → Prop} {x : S103} {cs : List Value} (h : iC.M w base ok x cs) : ∃ v5,cs = [.string x.f0,.string x.f1,.string x.f2,.int .u8 x.f3,.int .u16 x.f4,v5] ∧ jK.R 104 w base ok v5 x.f5:=by
 obtain ⟨_,_,rfl,rfl,⟨_,_,rfl,rfl,⟨_,_,rfl,rfl,⟨_,_,rfl,rfl,⟨_,_,rfl,rfl,⟨v5,rfl,g5⟩⟩⟩⟩⟩⟩:=h
 exact ⟨v5,rfl,g5⟩
theorem yO (w : World) (x : S103) {A5 : Option Addr} {c5 : Nat} (l5 : x.f5.length ≤ c5) (g5 : jK.C w A5 x.f5.length x.f5) : iC.K w x [.string x.f0,.string x.f1,.string x.f2,.int .u8 x.f3,.int .u16 x.f4,.slice A5 x.f5.length c5]:=⟨[.string x.f0],[.string x.f1,.string x.f2,.int .u8 x.f3,.int .u16 x.f4,.slice A5 x.f5.length c5],rfl,rfl,⟨[.string x.f1],[.string x.f2,.int .u8 x.f3,.int .u16 x.f4,.slice A5 x.f5.length c5],rfl,rfl,⟨[.string x.f2],[.int .u8 x.f3,.int .u16 x.f4,.slice A5 x.f5.length c5],rfl,rfl,⟨[.int .u8 x.f3],[.int .u16 x.f4,.slice A5 x.f5.length c5],rfl,rfl,⟨[.int .u16 x.f4],[.slice A5 x.f5.length c5],rfl,rfl,⟨A5,c5,rfl,l5,g5⟩⟩⟩⟩⟩⟩
theorem pQ (w : World) (base : Nat) (ok : Nat → Prop) (x : S103) {v5 : Value} (g5 : jK.R 104 w base ok v5 x.f5) : iC.M w base ok x [.string x.f0,.string x.f1,.string x.f2,.int .u8 x.f3,.int .u16 x.f4,v5]:=⟨[.string x.f0],[.string x.f1,.string x.f2,.int .u8 x.f3,.int .u16 x.f4,v5],rfl,rfl,⟨[.string x.f1],[.string x.f2,.int .u8 x.f3,.int .u16 x.f4,v5],rfl,rfl,⟨[.string x.f2],[.int .u8 x.f3,.int .u16 x.f4,v5],rfl,rfl,⟨[.int .u8 x.f3],[.int .u16 x.f4,v5],rfl,rfl,⟨[.int .u16 x.f4],[v5],rfl,rfl,⟨v5,rfl,g5⟩⟩⟩⟩⟩⟩
def aG (xs : List S103) (i : Int) : S103:=xs.getD i.toNat x9
theorem mG {w : World} {A : Option Addr} {n : Nat} {xs : List S103} (h : Kd.C iC w A n xs) (i : Int) (h0 : 0 ≤ i) (h1 : i < n) : ∃ ad A5 c5,A = some ad ∧ w.cell? (ad.add (i.toNat * 6)) = some (.string (aG xs i).f0) ∧ w.cell? ⟨(ad.add (i.toNat * 6)).block,(ad.add (i.toNat * 6)).off + 1,none⟩ = some (.string (aG xs i).f1) ∧ w.cell? ⟨(ad.add (i.toNat * 6)).block,(ad.add (i.toNat * 6)).off + 2,none⟩ = some (.string (aG xs i).f2) ∧ w.cell? ⟨(ad.add (i.toNat * 6)).block,(ad.add (i.toNat * 6)).off + 3,none⟩ = some (.int .u8 (aG xs i).f3) ∧ w.cell? ⟨(ad.add (i.toNat * 6)).block,(ad.add (i.toNat * 6)).off + 4,none⟩ = some (.int .u16 (aG xs i).f4) ∧ w.cell? ⟨(ad.add (i.toNat * 6)).block,(ad.add (i.toNat * 6)).off + 5,none⟩ = some (.slice A5 (aG xs i).f5.length c5) ∧ (aG xs i).f5.length ≤ c5 ∧ jK.C w A5 (aG xs i).f5.length (aG xs i).f5:=by
 obtain ⟨ad,c,e,_,hK,hc0⟩:=Kd.jm h x9 i h0 h1
 have hc : ∀ j u,c[j]? = some u → w.cell? (ad.add (i.toNat * 6 + j)) = some u:=hc0
 obtain ⟨A5,c5,rfl,l5,g5⟩:=rZ hK
 exact ⟨ad,A5,c5,e,hc 0 _ rfl,by rw [← eX _ _ 1 (by omega)];exact hc 1 _ rfl,by rw [← eX _ _ 2 (by omega)];exact hc 2 _ rfl,by rw [← eX _ _ 3 (by omega)];exact hc 3 _ rfl,by rw [← eX _ _ 4 (by omega)];exact hc 4 _ rfl,by rw [← eX _ _ 5 (by omega)];exact hc 5 _ rfl,l5,g5⟩
def o7 (xs : List (List S103)) (i : Int) : (List S103):=xs.getD i.toNat ([] : List S103)
theorem zu {w : World} {A : Option Addr} {n : Nat} {xs : List (List S103)} (h : Kd.C (Kd.slice 103 iC) w A n xs) (i : Int) (h0 : 0 ≤ i) (h1 : i < n) : ∃ ad A0 c0,A = some ad ∧ w.cell? (ad.add i.toNat) = some (.slice A0 (o7 xs i).length c0) ∧ (o7 xs i).length ≤ c0 ∧ iC.C w A0 (o7 xs i).length (o7 xs i):=by
 obtain ⟨ad,c,e,_,hK,hc0⟩:=Kd.jm h ([] : List S103) i h0 h1
 have hc : ∀ j u,c[j]? = some u → w.cell? (ad.add (i.toNat * 1 + j)) = some u:=hc0
 obtain ⟨A0,c0,rfl,l0,g0⟩:=hK
 exact ⟨ad,A0,c0,e,by have hq:=hc 0 _ rfl;rwa [Nat.mul_one,Nat.add_zero] at hq,l0,g0⟩
structure S53 where
 f0 : Int
 f1 : (List S103)
def z53 : S53:=⟨(0 : Int),([] : List S103)⟩
def k53 : Kd S53:=Kd.iso (Kd.pair (Kd.int .u64) (Kd.slice 103 iC)) (fun x : S53=>(x.f0,x.f1))
theorem uf {w : World} {x : S53} {cs : List Value} (h : k53.K w x cs) : ∃ A1 c1,cs = [.int .u64 x.f0,.slice A1 x.f1.length c1] ∧ x.f1.length ≤ c1 ∧ iC.C w A1 x.f1.length x.f1:=by
 obtain ⟨_,_,rfl,rfl,⟨A1,c1,rfl,l1,g1⟩⟩:=h
 exact ⟨A1,c1,rfl,l1,g1⟩
theorem xI {w : World} {base : Nat} {ok : Nat → Prop} {x : S53} {cs : List Value} (h : k53.M w base ok x cs) : ∃ v1,cs = [.int .u64 x.f0,v1] ∧ iC.R 103 w base ok v1 x.f1:=by
 obtain ⟨_,_,rfl,rfl,⟨v1,rfl,g1⟩⟩:=h
 exact ⟨v1,rfl,g1⟩
theorem zw (w : World) (x : S53) {A1 : Option Addr} {c1 : Nat} (l1 : x.f1.length ≤ c1) (g1 : iC.C w A1 x.f1.length x.f1) : k53.K w x [.int .u64 x.f0,.slice A1 x.f1.length c1]:=⟨[.int .u64 x.f0],[.slice A1 x.f1.length c1],rfl,rfl,⟨A1,c1,rfl,l1,g1⟩⟩
theorem yP (w : World) (base : Nat) (ok : Nat → Prop) (x : S53) {v1 : Value} (g1 : iC.R 103 w base ok v1 x.f1) : k53.M w base ok x [.int .u64 x.f0,v1]:=⟨[.int .u64 x.f0],[v1],rfl,rfl,⟨v1,rfl,g1⟩⟩
def ni (xs : List S53) (i : Int) : S53:=xs.getD i.toNat z53
theorem zx {w : World} {A : Option Addr} {n : Nat} {xs : List S53} (h : Kd.C k53 w A n xs) (i : Int) (h0 : 0 ≤ i) (h1 : i < n) : ∃ ad A1 c1,A = some ad ∧ w.cell? (ad.add (i.toNat * 2)) = some (.int .u64 (ni xs i).f0) ∧ w.cell? ⟨(ad.add (i.toNat * 2)).block,(ad.add (i.toNat * 2)).off + 1,none⟩ = some (.slice A1 (ni xs i).f1.length c1) ∧ (ni xs i).f1.length ≤ c1 ∧ iC.C w A1 (ni xs i).f1.length (ni xs i).f1:=by
 obtain ⟨ad,c,e,_,hK,hc0⟩:=Kd.jm h z53 i h0 h1
 have hc : ∀ j u,c[j]? = some u → w.cell? (ad.add (i.toNat * 2 + j)) = some u:=hc0
 obtain ⟨A1,c1,rfl,l1,g1⟩:=uf hK
 exact ⟨ad,A1,c1,e,hc 0 _ rfl,by rw [← eX _ _ 1 (by omega)];exact hc 1 _ rfl,l1,g1⟩
end Go.Proofs.YtpmbdcljphpcnaaDoor.GC2
