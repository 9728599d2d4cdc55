/- Written by this session's own program (wip/gen.py) out of the translation: plain Lean functions of the Go functions, and proofs that the calls come to their answers. No conditions beside those in the statements. -/
import Derived.Test.YtpflenjhmeaeoaaDoorProg
import Derived.Below
import Derived.Deep.Draws
import Derived.Deep.AppendLies
import Derived.Maps.AppendAt
import Derived.OwnWalk
import Derived.Laws.BytesArg
import Derived.Laws.MakeOwn
import Derived.Laws.OwnMore
import Derived.Deep.OwnRows
import Derived.Tactics
import Derived.Lib.ConvBytes
import Derived.Laws.Slices
import Derived.WalkKit
import Derived.KernelRfl
import Derived.RowKit3
import Derived.Deep.LoopGhost
import Derived.Deep.QuietTactic
import Derived.BigQuiet
import Derived.WideLaws
import Derived.Deep.DeepCutAuto
import Derived.Deep.CutBlock
import Derived.Deep.RegionHeld3
import Derived.Laws.Rows
import Derived.Lib.AppendStr
import Derived.ArgAppend
import Derived.Laws.IdiomCopy
import Derived.OrdersHeld
import Derived.Laws.BitsLemmas
import Derived.RowKit
import Derived.Test.YtpflenjhmeaeoaaDoorWd
namespace Go.Proofs.YtpflenjhmeaeoaaDoor.GUt
open Go.RowKit Go.Proofs.YtpflenjhmeaeoaaDoorW.PrintWords Go.Proofs.YtpflenjhmeaeoaaDoorW.PrintLast Go.Proofs.YtpflenjhmeaeoaaDoorW.PrintMore
attribute [local go_sem] fC fD gu gD eP eT fE fF
set_option linter.unusedVariables false
set_option linter.unusedSimpArgs false
def zA : Option Int → Value
 | none=>.nilIface
 | some c=>.iface 0 (.int .i64 c)
theorem aV : zA none = .nilIface:=rfl
theorem aW (c : Int) : zA (some c) = .iface 0 (.int .i64 c):=rfl
theorem cZ {x : Int} (h0 : 0 ≤ x) (h1 : x ≤ 18446744073709551615) : IntKind.u64.wrap x = x:=by simp [IntKind.wrap,IntKind.bits,IntKind.signed];omega
theorem bS {x : Int} (h0 : -9223372036854775808 ≤ x) (h1 : x ≤ 9223372036854775807) : wrap64 x = x:=by unfold wrap64;omega
theorem dh (l : List UInt8) : (l != []) = !l.isEmpty:=by cases l <;> rfl
theorem dQ {x : Int} (h0 : 0 ≤ x) (h1 : x ≤ 255) : x % 256 = x:=by omega
theorem rH : ∀ x y : List UInt8,(Op.bytesLess x y || x == y) = !(Op.bytesLess y x)
 | [],[]=>rfl
 | [],_ :: _=>rfl
 | _ :: _,[]=>rfl
 | a :: x,b :: y=>by
  have ih:=rH x y
  simp only [Op.bytesLess,List.cons_beq_cons]
  rcases Nat.lt_trichotomy a.toNat b.toNat with h|h|h
  ·have h1 : a < b:=h
   have h2 : ¬ b < a:=fun e=>by have : b.toNat < a.toNat:=e;omega
   have h3 : ¬ b = a:=fun e=>by subst e;omega
   simp [h1,h2,h3]
  ·obtain rfl : a = b:=UInt8.toNat_inj.1 h
   simpa using ih
  ·have h1 : b < a:=h
   have h2 : ¬ a < b:=fun e=>by have : a.toNat < b.toNat:=e;omega
   have h3 : ¬ b = a:=fun e=>by subst e;omega
   have h4 : ¬ a = b:=fun e=>by subst e;omega
   simp [h1,h2,h3,h4]
@[go_sem] theorem zT (t : TypeId) (a b : ByteArray) : binOp .leq t (.string a) (.string b) = pure (.bool (!(Op.bytesLess b.toList a.toList))):=by
 rw [← rH];simp [binOp,Op.stringOp]
@[go_sem] theorem zU (t : TypeId) (a b : ByteArray) : binOp .gtr t (.string a) (.string b) = pure (.bool (Op.bytesLess b.toList a.toList)):=by
 have e : binOp .gtr t (.string a) (.string b) = pure (.bool (!(Op.bytesLess a.toList b.toList || a.toList == b.toList))):=by simp [binOp,Op.stringOp]
 rw [e,rH,Bool.not_not]
@[go_sem] theorem zV (t : TypeId) (a b : ByteArray) : binOp .geq t (.string a) (.string b) = pure (.bool (!(Op.bytesLess a.toList b.toList))):=by simp [binOp,Op.stringOp]
theorem info5 : (Tryd.prog.info? 5).map (fun i=>(i.zero,i.size,i.bytes)) = some (some (.int .u8 0),1,1):=by kernel_rfl
theorem rJ : (Tryd.prog.info? 65).map (fun i=>(i.zero,i.size,i.bytes)) = some (some (.agg #[(.int .i64 0),(.string ⟨#[]⟩),(.string ⟨#[]⟩)]),3,40):=by kernel_rfl
theorem kS : (Tryd.prog.info? 102).map (fun i=>(i.zero,i.size,i.bytes)) = some (some (.agg #[(.string ⟨#[]⟩),(.string ⟨#[]⟩),(.string ⟨#[]⟩),(.int .i64 0),(.int .i64 0),(.bool false),(.slice none 0 0)]),7,96):=by kernel_rfl
structure S80 where
 f0 : Int
 f1 : Int
def z80 : S80:=⟨(0 : Int),(0 : Int)⟩
def k80 : Kd S80:=Kd.iso (Kd.pair (Kd.int .i64) (Kd.int .i64)) (fun x : S80=>(x.f0,x.f1))
theorem uZ {w : World} {x : S80} {cs : List Value} (h : k80.K w x cs) : cs = [.int .i64 x.f0,.int .i64 x.f1]:=by
 obtain ⟨_,_,rfl,rfl,rfl⟩:=h
 exact rfl
theorem wS (w : World) (base : Nat) (ok : Nat → Prop) (x : S80)  : k80.M w base ok x [.int .i64 x.f0,.int .i64 x.f1]:=⟨[.int .i64 x.f0],[.int .i64 x.f1],rfl,rfl,rfl⟩
def kG (xs : List S80) (i : Int) : S80:=xs.getD i.toNat z80
theorem vk {w : World} {A : Option Addr} {n : Nat} {xs : List S80} (h : Kd.C k80 w A n xs) (i : Int) (h0 : 0 ≤ i) (h1 : i < n) : ∃ ad ,A = some ad ∧ w.cell? (ad.add (i.toNat * 2)) = some (.int .i64 (kG xs i).f0) ∧ w.cell? ⟨(ad.add (i.toNat * 2)).block,(ad.add (i.toNat * 2)).off + 1,none⟩ = some (.int .i64 (kG xs i).f1):=by
 obtain ⟨ad,c,e,_,hK,hc0⟩:=Kd.kg h z80 i h0 h1
 have hc : ∀ j u,c[j]? = some u → w.cell? (ad.add (i.toNat * 2 + j)) = some u:=hc0
 obtain rfl:=uZ hK
 exact ⟨ad,e,hc 0 _ rfl,by rw [← bM _ _ 1 (by omega)];exact hc 1 _ rfl⟩
structure S83 where
 f0 : ByteArray
 f1 : ByteArray
def z83 : S83:=⟨(⟨#[]⟩ : ByteArray),(⟨#[]⟩ : ByteArray)⟩
def k83 : Kd S83:=Kd.iso (Kd.pair Kd.string Kd.string) (fun x : S83=>(x.f0,x.f1))
theorem vo {w : World} {x : S83} {cs : List Value} (h : k83.K w x cs) : cs = [.string x.f0,.string x.f1]:=by
 obtain ⟨_,_,rfl,rfl,rfl⟩:=h
 exact rfl
theorem wT (w : World) (base : Nat) (ok : Nat → Prop) (x : S83)  : k83.M w base ok x [.string x.f0,.string x.f1]:=⟨[.string x.f0],[.string x.f1],rfl,rfl,rfl⟩
def kH (xs : List S83) (i : Int) : S83:=xs.getD i.toNat z83
theorem vv {w : World} {A : Option Addr} {n : Nat} {xs : List S83} (h : Kd.C k83 w A n xs) (i : Int) (h0 : 0 ≤ i) (h1 : i < n) : ∃ ad ,A = some ad ∧ w.cell? (ad.add (i.toNat * 2)) = some (.string (kH xs i).f0) ∧ w.cell? ⟨(ad.add (i.toNat * 2)).block,(ad.add (i.toNat * 2)).off + 1,none⟩ = some (.string (kH xs i).f1):=by
 obtain ⟨ad,c,e,_,hK,hc0⟩:=Kd.kg h z83 i h0 h1
 have hc : ∀ j u,c[j]? = some u → w.cell? (ad.add (i.toNat * 2 + j)) = some u:=hc0
 obtain rfl:=vo hK
 exact ⟨ad,e,hc 0 _ rfl,by rw [← bM _ _ 1 (by omega)];exact hc 1 _ rfl⟩
structure S78 where
 f0 : ByteArray
 f1 : ByteArray
 f2 : (List ByteArray)
 f3 : (List S80)
 f4 : Int
 f5 : Int
 f6 : (List S83)
def z78 : S78:=⟨(⟨#[]⟩ : ByteArray),(⟨#[]⟩ : ByteArray),([] : List ByteArray),([] : List S80),(0 : Int),(0 : Int),([] : List S83)⟩
def k78 : Kd S78:=Kd.iso (Kd.pair Kd.string (Kd.pair Kd.string (Kd.pair (Kd.slice 9 Kd.string) (Kd.pair (Kd.slice 80 k80) (Kd.pair (Kd.int .i64) (Kd.pair (Kd.int .i64) (Kd.slice 83 k83))))))) (fun x : S78=>(x.f0,x.f1,x.f2,x.f3,x.f4,x.f5,x.f6))
theorem vw {w : World} {x : S78} {cs : List Value} (h : k78.K w x cs) : ∃ A2 c2 A3 c3 A6 c6,cs = [.string x.f0,.string x.f1,.slice A2 x.f2.length c2,.slice A3 x.f3.length c3,.int .i64 x.f4,.int .i64 x.f5,.slice A6 x.f6.length c6] ∧ x.f2.length ≤ c2 ∧ Kd.string.C w A2 x.f2.length x.f2 ∧ x.f3.length ≤ c3 ∧ k80.C w A3 x.f3.length x.f3 ∧ x.f6.length ≤ c6 ∧ k83.C w A6 x.f6.length x.f6:=by
 obtain ⟨_,_,rfl,rfl,⟨_,_,rfl,rfl,⟨_,_,rfl,⟨A2,c2,rfl,l2,g2⟩,⟨_,_,rfl,⟨A3,c3,rfl,l3,g3⟩,⟨_,_,rfl,rfl,⟨_,_,rfl,rfl,⟨A6,c6,rfl,l6,g6⟩⟩⟩⟩⟩⟩⟩:=h
 exact ⟨A2,c2,A3,c3,A6,c6,rfl,l2,g2,l3,g3,l6,g6⟩
theorem yx (w : World) (x : S78) {A2 : Option Addr} {c2 : Nat} (l2 : x.f2.length ≤ c2) (g2 : Kd.string.C w A2 x.f2.length x.f2) {A3 : Option Addr} {c3 : Nat} (l3 : x.f3.length ≤ c3) (g3 : k80.C w A3 x.f3.length x.f3) {A6 : Option Addr} {c6 : Nat} (l6 : x.f6.length ≤ c6) (g6 : k83.C w A6 x.f6.length x.f6) : k78.K w x [.string x.f0,.string x.f1,.slice A2 x.f2.length c2,.slice A3 x.f3.length c3,.int .i64 x.f4,.int .i64 x.f5,.slice A6 x.f6.length c6]:=⟨[.string x.f0],[.string x.f1,.slice A2 x.f2.length c2,.slice A3 x.f3.length c3,.int .i64 x.f4,.int .i64 x.f5,.slice A6 x.f6.length c6],rfl,rfl,⟨[.string x.f1],[.slice A2 x.f2.length c2,.slice A3 x.f3.length c3,.int .i64 x.f4,.int .i64 x.f5,.slice A6 x.f6.length c6],rfl,rfl,⟨[.slice A2 x.f2.length c2],[.slice A3 x.f3.length c3,.int .i64 x.f4,.int .i64 x.f5,.slice A6 x.f6.length c6],rfl,⟨A2,c2,rfl,l2,g2⟩,⟨[.slice A3 x.f3.length c3],[.int .i64 x.f4,.int .i64 x.f5,.slice A6 x.f6.length c6],rfl,⟨A3,c3,rfl,l3,g3⟩,⟨[.int .i64 x.f4],[.int .i64 x.f5,.slice A6 x.f6.length c6],rfl,rfl,⟨[.int .i64 x.f5],[.slice A6 x.f6.length c6],rfl,rfl,⟨A6,c6,rfl,l6,g6⟩⟩⟩⟩⟩⟩⟩
theorem wU (W : World) (ok : Nat → Prop) (x : S78) {A2 : Option Addr} {c2 : Nat} (l2 : x.f2.length ≤ c2) (g2 : Kd.F Kd.string W ok A2 x.f2.length x.f2) {A3 : Option Addr} {c3 : Nat} (l3 : x.f3.length ≤ c3) (g3 : Kd.F k80 W ok A3 x.f3.length x.f3) {A6 : Option Addr} {c6 : Nat} (l6 : x.f6.length ≤ c6) (g6 : Kd.F k83 W ok A6 x.f6.length x.f6) : Kd.FK k78 W ok x [.string x.f0,.string x.f1,.slice A2 x.f2.length c2,.slice A3 x.f3.length c3,.int .i64 x.f4,.int .i64 x.f5,.slice A6 x.f6.length c6]:=fun W2 hW=>yx W2 x l2 (g2 W2 hW) l3 (g3 W2 hW) l6 (g6 W2 hW)
def gT (xs : List S78) (i : Int) : S78:=xs.getD i.toNat z78
theorem vB {w : World} {A : Option Addr} {n : Nat} {xs : List S78} (h : Kd.C k78 w A n xs) (i : Int) (h0 : 0 ≤ i) (h1 : i < n) : ∃ ad A2 c2 A3 c3 A6 c6,A = some ad ∧ w.cell? (ad.add (i.toNat * 7)) = some (.string (gT xs i).f0) ∧ w.cell? ⟨(ad.add (i.toNat * 7)).block,(ad.add (i.toNat * 7)).off + 1,none⟩ = some (.string (gT xs i).f1) ∧ w.cell? ⟨(ad.add (i.toNat * 7)).block,(ad.add (i.toNat * 7)).off + 2,none⟩ = some (.slice A2 (gT xs i).f2.length c2) ∧ w.cell? ⟨(ad.add (i.toNat * 7)).block,(ad.add (i.toNat * 7)).off + 3,none⟩ = some (.slice A3 (gT xs i).f3.length c3) ∧ w.cell? ⟨(ad.add (i.toNat * 7)).block,(ad.add (i.toNat * 7)).off + 4,none⟩ = some (.int .i64 (gT xs i).f4) ∧ w.cell? ⟨(ad.add (i.toNat * 7)).block,(ad.add (i.toNat * 7)).off + 5,none⟩ = some (.int .i64 (gT xs i).f5) ∧ w.cell? ⟨(ad.add (i.toNat * 7)).block,(ad.add (i.toNat * 7)).off + 6,none⟩ = some (.slice A6 (gT xs i).f6.length c6) ∧ (gT xs i).f2.length ≤ c2 ∧ Kd.string.C w A2 (gT xs i).f2.length (gT xs i).f2 ∧ (gT xs i).f3.length ≤ c3 ∧ k80.C w A3 (gT xs i).f3.length (gT xs i).f3 ∧ (gT xs i).f6.length ≤ c6 ∧ k83.C w A6 (gT xs i).f6.length (gT xs i).f6:=by
 obtain ⟨ad,c,e,_,hK,hc0⟩:=Kd.kg h z78 i h0 h1
 have hc : ∀ j u,c[j]? = some u → w.cell? (ad.add (i.toNat * 7 + j)) = some u:=hc0
 obtain ⟨A2,c2,A3,c3,A6,c6,rfl,l2,g2,l3,g3,l6,g6⟩:=vw hK
 exact ⟨ad,A2,c2,A3,c3,A6,c6,e,hc 0 _ rfl,by rw [← bM _ _ 1 (by omega)];exact hc 1 _ rfl,by rw [← bM _ _ 2 (by omega)];exact hc 2 _ rfl,by rw [← bM _ _ 3 (by omega)];exact hc 3 _ rfl,by rw [← bM _ _ 4 (by omega)];exact hc 4 _ rfl,by rw [← bM _ _ 5 (by omega)];exact hc 5 _ rfl,by rw [← bM _ _ 6 (by omega)];exact hc 6 _ rfl,l2,g2,l3,g3,l6,g6⟩
structure S30 where
 f0 : ByteArray
 f1 : ByteArray
 f2 : Int
 f3 : Int
 f4 : Bool
 f5 : (List S78)
def z30 : S30:=⟨(⟨#[]⟩ : ByteArray),(⟨#[]⟩ : ByteArray),(0 : Int),(0 : Int),false,([] : List S78)⟩
def k30 : Kd S30:=Kd.iso (Kd.pair Kd.string (Kd.pair Kd.string (Kd.pair (Kd.int .i64) (Kd.pair (Kd.int .i64) (Kd.pair Kd.bool (Kd.slice 78 k78)))))) (fun x : S30=>(x.f0,x.f1,x.f2,x.f3,x.f4,x.f5))
theorem vC {w : World} {x : S30} {cs : List Value} (h : k30.K w x cs) : ∃ A5 c5,cs = [.string x.f0,.string x.f1,.int .i64 x.f2,.int .i64 x.f3,.bool x.f4,.slice A5 x.f5.length c5] ∧ x.f5.length ≤ c5 ∧ k78.C w A5 x.f5.length x.f5:=by
 obtain ⟨_,_,rfl,rfl,⟨_,_,rfl,rfl,⟨_,_,rfl,rfl,⟨_,_,rfl,rfl,⟨_,_,rfl,rfl,⟨A5,c5,rfl,l5,g5⟩⟩⟩⟩⟩⟩:=h
 exact ⟨A5,c5,rfl,l5,g5⟩
theorem yA (w : World) (x : S30) {A5 : Option Addr} {c5 : Nat} (l5 : x.f5.length ≤ c5) (g5 : k78.C w A5 x.f5.length x.f5) : k30.K w x [.string x.f0,.string x.f1,.int .i64 x.f2,.int .i64 x.f3,.bool x.f4,.slice A5 x.f5.length c5]:=⟨[.string x.f0],[.string x.f1,.int .i64 x.f2,.int .i64 x.f3,.bool x.f4,.slice A5 x.f5.length c5],rfl,rfl,⟨[.string x.f1],[.int .i64 x.f2,.int .i64 x.f3,.bool x.f4,.slice A5 x.f5.length c5],rfl,rfl,⟨[.int .i64 x.f2],[.int .i64 x.f3,.bool x.f4,.slice A5 x.f5.length c5],rfl,rfl,⟨[.int .i64 x.f3],[.bool x.f4,.slice A5 x.f5.length c5],rfl,rfl,⟨[.bool x.f4],[.slice A5 x.f5.length c5],rfl,rfl,⟨A5,c5,rfl,l5,g5⟩⟩⟩⟩⟩⟩
structure S46 where
 f0 : Int
 f1 : Int
def z46 : S46:=⟨(0 : Int),(0 : Int)⟩
def k46 : Kd S46:=Kd.iso (Kd.pair (Kd.int .i64) (Kd.int .i64)) (fun x : S46=>(x.f0,x.f1))
theorem vD : Kd.Heap k46:=Kd.jq _ (Kd.eF (Kd.iN .i64) (Kd.iN .i64))
theorem vE {w : World} {x : S46} {cs : List Value} (h : k46.K w x cs) : cs = [.int .i64 x.f0,.int .i64 x.f1]:=by
 obtain ⟨_,_,rfl,rfl,rfl⟩:=h
 exact rfl
def gN (xs : List S46) (i : Int) : S46:=xs.getD i.toNat z46
theorem nZ {w : World} {A : Option Addr} {n : Nat} {xs : List S46} (h : Kd.C k46 w A n xs) (i : Int) (h0 : 0 ≤ i) (h1 : i < n) : ∃ ad ,A = some ad ∧ w.cell? (ad.add (i.toNat * 2)) = some (.int .i64 (gN xs i).f0) ∧ w.cell? ⟨(ad.add (i.toNat * 2)).block,(ad.add (i.toNat * 2)).off + 1,none⟩ = some (.int .i64 (gN xs i).f1):=by
 obtain ⟨ad,c,e,_,hK,hc0⟩:=Kd.kg h z46 i h0 h1
 have hc : ∀ j u,c[j]? = some u → w.cell? (ad.add (i.toNat * 2 + j)) = some u:=hc0
 obtain rfl:=vE hK
 exact ⟨ad,e,hc 0 _ rfl,by rw [← bM _ _ 1 (by omega)];exact hc 1 _ rfl⟩
structure S82 where
 f0 : ByteArray
 f1 : ByteArray
def z82 : S82:=⟨(⟨#[]⟩ : ByteArray),(⟨#[]⟩ : ByteArray)⟩
def k82 : Kd S82:=Kd.iso (Kd.pair Kd.string Kd.string) (fun x : S82=>(x.f0,x.f1))
theorem vF : Kd.Heap k82:=Kd.jq _ (Kd.eF Kd.fJ Kd.fJ)
theorem vG {w : World} {x : S82} {cs : List Value} (h : k82.K w x cs) : cs = [.string x.f0,.string x.f1]:=by
 obtain ⟨_,_,rfl,rfl,rfl⟩:=h
 exact rfl
def fT (xs : List S82) (i : Int) : S82:=xs.getD i.toNat z82
theorem mH {w : World} {A : Option Addr} {n : Nat} {xs : List S82} (h : Kd.C k82 w A n xs) (i : Int) (h0 : 0 ≤ i) (h1 : i < n) : ∃ ad ,A = some ad ∧ w.cell? (ad.add (i.toNat * 2)) = some (.string (fT xs i).f0) ∧ w.cell? ⟨(ad.add (i.toNat * 2)).block,(ad.add (i.toNat * 2)).off + 1,none⟩ = some (.string (fT xs i).f1):=by
 obtain ⟨ad,c,e,_,hK,hc0⟩:=Kd.kg h z82 i h0 h1
 have hc : ∀ j u,c[j]? = some u → w.cell? (ad.add (i.toNat * 2 + j)) = some u:=hc0
 obtain rfl:=vG hK
 exact ⟨ad,e,hc 0 _ rfl,by rw [← bM _ _ 1 (by omega)];exact hc 1 _ rfl⟩
structure S43 where
 f0 : ByteArray
 f1 : ByteArray
 f2 : (List ByteArray)
 f3 : (List S46)
 f4 : Int
 f5 : Int
 f6 : (List S82)
def z43 : S43:=⟨(⟨#[]⟩ : ByteArray),(⟨#[]⟩ : ByteArray),([] : List ByteArray),([] : List S46),(0 : Int),(0 : Int),([] : List S82)⟩
def k43 : Kd S43:=Kd.iso (Kd.pair Kd.string (Kd.pair Kd.string (Kd.pair (Kd.slice 9 Kd.string) (Kd.pair (Kd.slice 46 k46) (Kd.pair (Kd.int .i64) (Kd.pair (Kd.int .i64) (Kd.slice 82 k82))))))) (fun x : S43=>(x.f0,x.f1,x.f2,x.f3,x.f4,x.f5,x.f6))
theorem vH : Kd.Heap k43:=Kd.jq _ (Kd.eF Kd.fJ (Kd.eF Kd.fJ (Kd.eF (Kd.iU 9 Kd.fJ) (Kd.eF (Kd.iU 46 vD) (Kd.eF (Kd.iN .i64) (Kd.eF (Kd.iN .i64) (Kd.iU 82 vF)))))))
theorem kI {w : World} {x : S43} {cs : List Value} (h : k43.K w x cs) : ∃ A2 c2 A3 c3 A6 c6,cs = [.string x.f0,.string x.f1,.slice A2 x.f2.length c2,.slice A3 x.f3.length c3,.int .i64 x.f4,.int .i64 x.f5,.slice A6 x.f6.length c6] ∧ x.f2.length ≤ c2 ∧ Kd.string.C w A2 x.f2.length x.f2 ∧ x.f3.length ≤ c3 ∧ k46.C w A3 x.f3.length x.f3 ∧ x.f6.length ≤ c6 ∧ k82.C w A6 x.f6.length x.f6:=by
 obtain ⟨_,_,rfl,rfl,⟨_,_,rfl,rfl,⟨_,_,rfl,⟨A2,c2,rfl,l2,g2⟩,⟨_,_,rfl,⟨A3,c3,rfl,l3,g3⟩,⟨_,_,rfl,rfl,⟨_,_,rfl,rfl,⟨A6,c6,rfl,l6,g6⟩⟩⟩⟩⟩⟩⟩:=h
 exact ⟨A2,c2,A3,c3,A6,c6,rfl,l2,g2,l3,g3,l6,g6⟩
theorem yB (w : World) (x : S43) {A2 : Option Addr} {c2 : Nat} (l2 : x.f2.length ≤ c2) (g2 : Kd.string.C w A2 x.f2.length x.f2) {A3 : Option Addr} {c3 : Nat} (l3 : x.f3.length ≤ c3) (g3 : k46.C w A3 x.f3.length x.f3) {A6 : Option Addr} {c6 : Nat} (l6 : x.f6.length ≤ c6) (g6 : k82.C w A6 x.f6.length x.f6) : k43.K w x [.string x.f0,.string x.f1,.slice A2 x.f2.length c2,.slice A3 x.f3.length c3,.int .i64 x.f4,.int .i64 x.f5,.slice A6 x.f6.length c6]:=⟨[.string x.f0],[.string x.f1,.slice A2 x.f2.length c2,.slice A3 x.f3.length c3,.int .i64 x.f4,.int .i64 x.f5,.slice A6 x.f6.length c6],rfl,rfl,⟨[.string x.f1],[.slice A2 x.f2.length c2,.slice A3 x.f3.length c3,.int .i64 x.f4,.int .i64 x.f5,.slice A6 x.f6.length c6],rfl,rfl,⟨[.slice A2 x.f2.length c2],[.slice A3 x.f3.length c3,.int .i64 x.f4,.int .i64 x.f5,.slice A6 x.f6.length c6],rfl,⟨A2,c2,rfl,l2,g2⟩,⟨[.slice A3 x.f3.length c3],[.int .i64 x.f4,.int .i64 x.f5,.slice A6 x.f6.length c6],rfl,⟨A3,c3,rfl,l3,g3⟩,⟨[.int .i64 x.f4],[.int .i64 x.f5,.slice A6 x.f6.length c6],rfl,rfl,⟨[.int .i64 x.f5],[.slice A6 x.f6.length c6],rfl,rfl,⟨A6,c6,rfl,l6,g6⟩⟩⟩⟩⟩⟩⟩
theorem wV (w : World) (base : Nat) (ok : Nat → Prop) (x : S43) {v2 : Value} (g2 : Kd.string.R 9 w base ok v2 x.f2) {v3 : Value} (g3 : k46.R 46 w base ok v3 x.f3) {v6 : Value} (g6 : k82.R 82 w base ok v6 x.f6) : k43.M w base ok x [.string x.f0,.string x.f1,v2,v3,.int .i64 x.f4,.int .i64 x.f5,v6]:=⟨[.string x.f0],[.string x.f1,v2,v3,.int .i64 x.f4,.int .i64 x.f5,v6],rfl,rfl,⟨[.string x.f1],[v2,v3,.int .i64 x.f4,.int .i64 x.f5,v6],rfl,rfl,⟨[v2],[v3,.int .i64 x.f4,.int .i64 x.f5,v6],rfl,⟨v2,rfl,g2⟩,⟨[v3],[.int .i64 x.f4,.int .i64 x.f5,v6],rfl,⟨v3,rfl,g3⟩,⟨[.int .i64 x.f4],[.int .i64 x.f5,v6],rfl,rfl,⟨[.int .i64 x.f5],[v6],rfl,rfl,⟨v6,rfl,g6⟩⟩⟩⟩⟩⟩⟩
theorem kT {W : World} {ok : Nat → Prop} {x : S43} {cs : List Value} (h : Kd.FK k43 W ok x cs) : ∃ A2 c2 A3 c3 A6 c6,cs = [.string x.f0,.string x.f1,.slice A2 x.f2.length c2,.slice A3 x.f3.length c3,.int .i64 x.f4,.int .i64 x.f5,.slice A6 x.f6.length c6] ∧ x.f2.length ≤ c2 ∧ Kd.F Kd.string W ok A2 x.f2.length x.f2 ∧ x.f3.length ≤ c3 ∧ Kd.F k46 W ok A3 x.f3.length x.f3 ∧ x.f6.length ≤ c6 ∧ Kd.F k82 W ok A6 x.f6.length x.f6:=by
 obtain ⟨A2,c2,A3,c3,A6,c6,rfl,l2,_,l3,_,l6,_⟩:=kI (Kd.jc h)
 exact ⟨A2,c2,A3,c3,A6,c6,rfl,l2,(fun W' hW=>by obtain ⟨Aq,Au,Aw,Ay,Al,Am,he,AB,Az,AJ,AA,Ap,Ao⟩:=kI (h W' hW);injection (Option.some.inj (show some (Value.slice A2 x.f2.length c2) = some (Value.slice Aq x.f2.length Au) from congrArg (fun l=>l[2]?) he)) with ha_ _ _;rw [ha_];exact Az),l3,(fun W' hW=>by obtain ⟨Aq,Au,Aw,Ay,Al,Am,he,AB,Az,AJ,AA,Ap,Ao⟩:=kI (h W' hW);injection (Option.some.inj (show some (Value.slice A3 x.f3.length c3) = some (Value.slice Aw x.f3.length Ay) from congrArg (fun l=>l[3]?) he)) with ha_ _ _;rw [ha_];exact AA),l6,(fun W' hW=>by obtain ⟨Aq,Au,Aw,Ay,Al,Am,he,AB,Az,AJ,AA,Ap,Ao⟩:=kI (h W' hW);injection (Option.some.inj (show some (Value.slice A6 x.f6.length c6) = some (Value.slice Al x.f6.length Am) from congrArg (fun l=>l[6]?) he)) with ha_ _ _;rw [ha_];exact Ao)⟩
def aj (xs : List S43) (i : Int) : S43:=xs.getD i.toNat z43
theorem lJ {w : World} {A : Option Addr} {n : Nat} {xs : List S43} (h : Kd.C k43 w A n xs) (i : Int) (h0 : 0 ≤ i) (h1 : i < n) : ∃ ad A2 c2 A3 c3 A6 c6,A = some ad ∧ w.cell? (ad.add (i.toNat * 7)) = some (.string (aj xs i).f0) ∧ w.cell? ⟨(ad.add (i.toNat * 7)).block,(ad.add (i.toNat * 7)).off + 1,none⟩ = some (.string (aj xs i).f1) ∧ w.cell? ⟨(ad.add (i.toNat * 7)).block,(ad.add (i.toNat * 7)).off + 2,none⟩ = some (.slice A2 (aj xs i).f2.length c2) ∧ w.cell? ⟨(ad.add (i.toNat * 7)).block,(ad.add (i.toNat * 7)).off + 3,none⟩ = some (.slice A3 (aj xs i).f3.length c3) ∧ w.cell? ⟨(ad.add (i.toNat * 7)).block,(ad.add (i.toNat * 7)).off + 4,none⟩ = some (.int .i64 (aj xs i).f4) ∧ w.cell? ⟨(ad.add (i.toNat * 7)).block,(ad.add (i.toNat * 7)).off + 5,none⟩ = some (.int .i64 (aj xs i).f5) ∧ w.cell? ⟨(ad.add (i.toNat * 7)).block,(ad.add (i.toNat * 7)).off + 6,none⟩ = some (.slice A6 (aj xs i).f6.length c6) ∧ (aj xs i).f2.length ≤ c2 ∧ Kd.string.C w A2 (aj xs i).f2.length (aj xs i).f2 ∧ (aj xs i).f3.length ≤ c3 ∧ k46.C w A3 (aj xs i).f3.length (aj xs i).f3 ∧ (aj xs i).f6.length ≤ c6 ∧ k82.C w A6 (aj xs i).f6.length (aj xs i).f6:=by
 obtain ⟨ad,c,e,_,hK,hc0⟩:=Kd.kg h z43 i h0 h1
 have hc : ∀ j u,c[j]? = some u → w.cell? (ad.add (i.toNat * 7 + j)) = some u:=hc0
 obtain ⟨A2,c2,A3,c3,A6,c6,rfl,l2,g2,l3,g3,l6,g6⟩:=kI hK
 exact ⟨ad,A2,c2,A3,c3,A6,c6,e,hc 0 _ rfl,by rw [← bM _ _ 1 (by omega)];exact hc 1 _ rfl,by rw [← bM _ _ 2 (by omega)];exact hc 2 _ rfl,by rw [← bM _ _ 3 (by omega)];exact hc 3 _ rfl,by rw [← bM _ _ 4 (by omega)];exact hc 4 _ rfl,by rw [← bM _ _ 5 (by omega)];exact hc 5 _ rfl,by rw [← bM _ _ 6 (by omega)];exact hc 6 _ rfl,l2,g2,l3,g3,l6,g6⟩
structure S25 where
 f0 : ByteArray
 f1 : ByteArray
 f2 : Int
 f3 : Int
 f4 : Bool
 f5 : (List S43)
def z25 : S25:=⟨(⟨#[]⟩ : ByteArray),(⟨#[]⟩ : ByteArray),(0 : Int),(0 : Int),false,([] : List S43)⟩
def k25 : Kd S25:=Kd.iso (Kd.pair Kd.string (Kd.pair Kd.string (Kd.pair (Kd.int .i64) (Kd.pair (Kd.int .i64) (Kd.pair Kd.bool (Kd.slice 43 k43)))))) (fun x : S25=>(x.f0,x.f1,x.f2,x.f3,x.f4,x.f5))
theorem vI : Kd.Heap k25:=Kd.jq _ (Kd.eF Kd.fJ (Kd.eF Kd.fJ (Kd.eF (Kd.iN .i64) (Kd.eF (Kd.iN .i64) (Kd.eF Kd.tO (Kd.iU 43 vH))))))
theorem vJ {w : World} {x : S25} {cs : List Value} (h : k25.K w x cs) : ∃ A5 c5,cs = [.string x.f0,.string x.f1,.int .i64 x.f2,.int .i64 x.f3,.bool x.f4,.slice A5 x.f5.length c5] ∧ x.f5.length ≤ c5 ∧ k43.C w A5 x.f5.length x.f5:=by
 obtain ⟨_,_,rfl,rfl,⟨_,_,rfl,rfl,⟨_,_,rfl,rfl,⟨_,_,rfl,rfl,⟨_,_,rfl,rfl,⟨A5,c5,rfl,l5,g5⟩⟩⟩⟩⟩⟩:=h
 exact ⟨A5,c5,rfl,l5,g5⟩
theorem yC (w : World) (x : S25) {A5 : Option Addr} {c5 : Nat} (l5 : x.f5.length ≤ c5) (g5 : k43.C w A5 x.f5.length x.f5) : k25.K w x [.string x.f0,.string x.f1,.int .i64 x.f2,.int .i64 x.f3,.bool x.f4,.slice A5 x.f5.length c5]:=⟨[.string x.f0],[.string x.f1,.int .i64 x.f2,.int .i64 x.f3,.bool x.f4,.slice A5 x.f5.length c5],rfl,rfl,⟨[.string x.f1],[.int .i64 x.f2,.int .i64 x.f3,.bool x.f4,.slice A5 x.f5.length c5],rfl,rfl,⟨[.int .i64 x.f2],[.int .i64 x.f3,.bool x.f4,.slice A5 x.f5.length c5],rfl,rfl,⟨[.int .i64 x.f3],[.bool x.f4,.slice A5 x.f5.length c5],rfl,rfl,⟨[.bool x.f4],[.slice A5 x.f5.length c5],rfl,rfl,⟨A5,c5,rfl,l5,g5⟩⟩⟩⟩⟩⟩
structure S102 where
 f0 : ByteArray
 f1 : S25
def kJ : S102:=⟨(⟨#[]⟩ : ByteArray),z25⟩
def fP : Kd S102:=Kd.iso (Kd.pair Kd.string k25) (fun x : S102=>(x.f0,x.f1))
theorem iE : Kd.Heap fP:=Kd.jq _ (Kd.eF Kd.fJ vI)
theorem mI {w : World} {x : S102} {cs : List Value} (h : fP.K w x cs) : ∃ A6 c6,cs = [.string x.f0,.string x.f1.f0,.string x.f1.f1,.int .i64 x.f1.f2,.int .i64 x.f1.f3,.bool x.f1.f4,.slice A6 x.f1.f5.length c6] ∧ x.f1.f5.length ≤ c6 ∧ k43.C w A6 x.f1.f5.length x.f1.f5:=by
 obtain ⟨_,_,rfl,rfl,s1⟩:=h
 obtain ⟨A6,c6,rfl,l6,g6⟩:=vJ s1
 exact ⟨A6,c6,rfl,l6,g6⟩
theorem wW (w : World) (x : S102) {A6 : Option Addr} {c6 : Nat} (l6 : x.f1.f5.length ≤ c6) (g6 : k43.C w A6 x.f1.f5.length x.f1.f5) : fP.K w x [.string x.f0,.string x.f1.f0,.string x.f1.f1,.int .i64 x.f1.f2,.int .i64 x.f1.f3,.bool x.f1.f4,.slice A6 x.f1.f5.length c6]:=⟨[.string x.f0],[.string x.f1.f0,.string x.f1.f1,.int .i64 x.f1.f2,.int .i64 x.f1.f3,.bool x.f1.f4,.slice A6 x.f1.f5.length c6],rfl,rfl,(yC w x.f1 l6 g6)⟩
theorem fH {W : World} {ok : Nat → Prop} {x : S102} {cs : List Value} (h : Kd.FK fP W ok x cs) : ∃ A6 c6,cs = [.string x.f0,.string x.f1.f0,.string x.f1.f1,.int .i64 x.f1.f2,.int .i64 x.f1.f3,.bool x.f1.f4,.slice A6 x.f1.f5.length c6] ∧ x.f1.f5.length ≤ c6 ∧ Kd.F k43 W ok A6 x.f1.f5.length x.f1.f5:=by
 obtain ⟨A6,c6,rfl,l6,_⟩:=mI (Kd.jc h)
 exact ⟨A6,c6,rfl,l6,(fun W' hW=>by obtain ⟨Al,Am,he,Ap,Ao⟩:=mI (h W' hW);injection (Option.some.inj (show some (Value.slice A6 x.f1.f5.length c6) = some (Value.slice Al x.f1.f5.length Am) from congrArg (fun l=>l[6]?) he)) with ha_ _ _;rw [ha_];exact Ao)⟩
theorem oh (W : World) (ok : Nat → Prop) (x : S102) {A6 : Option Addr} {c6 : Nat} (l6 : x.f1.f5.length ≤ c6) (g6 : Kd.F k43 W ok A6 x.f1.f5.length x.f1.f5) : Kd.FK fP W ok x [.string x.f0,.string x.f1.f0,.string x.f1.f1,.int .i64 x.f1.f2,.int .i64 x.f1.f3,.bool x.f1.f4,.slice A6 x.f1.f5.length c6]:=fun W2 hW=>wW W2 x l6 (g6 W2 hW)
def ay (xs : List S102) (i : Int) : S102:=xs.getD i.toNat kJ
theorem gF {w : World} {A : Option Addr} {n : Nat} {xs : List S102} (h : Kd.C fP w A n xs) (i : Int) (h0 : 0 ≤ i) (h1 : i < n) : ∃ ad A6 c6,A = some ad ∧ w.cell? (ad.add (i.toNat * 7)) = some (.string (ay xs i).f0) ∧ w.cell? ⟨(ad.add (i.toNat * 7)).block,(ad.add (i.toNat * 7)).off + 1,none⟩ = some (.string (ay xs i).f1.f0) ∧ w.cell? ⟨(ad.add (i.toNat * 7)).block,(ad.add (i.toNat * 7)).off + 2,none⟩ = some (.string (ay xs i).f1.f1) ∧ w.cell? ⟨(ad.add (i.toNat * 7)).block,(ad.add (i.toNat * 7)).off + 3,none⟩ = some (.int .i64 (ay xs i).f1.f2) ∧ w.cell? ⟨(ad.add (i.toNat * 7)).block,(ad.add (i.toNat * 7)).off + 4,none⟩ = some (.int .i64 (ay xs i).f1.f3) ∧ w.cell? ⟨(ad.add (i.toNat * 7)).block,(ad.add (i.toNat * 7)).off + 5,none⟩ = some (.bool (ay xs i).f1.f4) ∧ w.cell? ⟨(ad.add (i.toNat * 7)).block,(ad.add (i.toNat * 7)).off + 6,none⟩ = some (.slice A6 (ay xs i).f1.f5.length c6) ∧ (ay xs i).f1.f5.length ≤ c6 ∧ k43.C w A6 (ay xs i).f1.f5.length (ay xs i).f1.f5:=by
 obtain ⟨ad,c,e,_,hK,hc0⟩:=Kd.kg h kJ i h0 h1
 have hc : ∀ j u,c[j]? = some u → w.cell? (ad.add (i.toNat * 7 + j)) = some u:=hc0
 obtain ⟨A6,c6,rfl,l6,g6⟩:=mI hK
 exact ⟨ad,A6,c6,e,hc 0 _ rfl,by rw [← bM _ _ 1 (by omega)];exact hc 1 _ rfl,by rw [← bM _ _ 2 (by omega)];exact hc 2 _ rfl,by rw [← bM _ _ 3 (by omega)];exact hc 3 _ rfl,by rw [← bM _ _ 4 (by omega)];exact hc 4 _ rfl,by rw [← bM _ _ 5 (by omega)];exact hc 5 _ rfl,by rw [← bM _ _ 6 (by omega)];exact hc 6 _ rfl,l6,g6⟩
structure S65 where
 f0 : Int
 f1 : ByteArray
 f2 : ByteArray
def z65 : S65:=⟨(0 : Int),(⟨#[]⟩ : ByteArray),(⟨#[]⟩ : ByteArray)⟩
def k65 : Kd S65:=Kd.iso (Kd.pair (Kd.int .i64) (Kd.pair Kd.string Kd.string)) (fun x : S65=>(x.f0,x.f1,x.f2))
theorem vK {w : World} {x : S65} {cs : List Value} (h : k65.K w x cs) : cs = [.int .i64 x.f0,.string x.f1,.string x.f2]:=by
 obtain ⟨_,_,rfl,rfl,⟨_,_,rfl,rfl,rfl⟩⟩:=h
 exact rfl
theorem qx (w : World) (base : Nat) (ok : Nat → Prop) (x : S65)  : k65.M w base ok x [.int .i64 x.f0,.string x.f1,.string x.f2]:=⟨[.int .i64 x.f0],[.string x.f1,.string x.f2],rfl,rfl,⟨[.string x.f1],[.string x.f2],rfl,rfl,rfl⟩⟩
def dB (xs : List S65) (i : Int) : S65:=xs.getD i.toNat z65
theorem oo {w : World} {A : Option Addr} {n : Nat} {xs : List S65} (h : Kd.C k65 w A n xs) (i : Int) (h0 : 0 ≤ i) (h1 : i < n) : ∃ ad ,A = some ad ∧ w.cell? (ad.add (i.toNat * 3)) = some (.int .i64 (dB xs i).f0) ∧ w.cell? ⟨(ad.add (i.toNat * 3)).block,(ad.add (i.toNat * 3)).off + 1,none⟩ = some (.string (dB xs i).f1) ∧ w.cell? ⟨(ad.add (i.toNat * 3)).block,(ad.add (i.toNat * 3)).off + 2,none⟩ = some (.string (dB xs i).f2):=by
 obtain ⟨ad,c,e,_,hK,hc0⟩:=Kd.kg h z65 i h0 h1
 have hc : ∀ j u,c[j]? = some u → w.cell? (ad.add (i.toNat * 3 + j)) = some u:=hc0
 obtain rfl:=vK hK
 exact ⟨ad,e,hc 0 _ rfl,by rw [← bM _ _ 1 (by omega)];exact hc 1 _ rfl,by rw [← bM _ _ 2 (by omega)];exact hc 2 _ rfl⟩
structure S59 where
 f0 : Int
 f1 : (List S102)
def k59 : Kd S59:=Kd.iso (Kd.pair (Kd.int .u64) (Kd.slice 102 fP)) (fun x : S59=>(x.f0,x.f1))
theorem qN {w : World} {x : S59} {cs : List Value} (h : k59.K w x cs) : ∃ A1 c1,cs = [.int .u64 x.f0,.slice A1 x.f1.length c1] ∧ x.f1.length ≤ c1 ∧ fP.C w A1 x.f1.length x.f1:=by
 obtain ⟨_,_,rfl,rfl,⟨A1,c1,rfl,l1,g1⟩⟩:=h
 exact ⟨A1,c1,rfl,l1,g1⟩
structure S158 where
 f0 : ByteArray
 f1 : ByteArray
 f2 : ByteArray
 f3 : Int
def zZ : Kd S158:=Kd.iso (Kd.pair Kd.string (Kd.pair Kd.string (Kd.pair Kd.string (Kd.int .u8)))) (fun x : S158=>(x.f0,x.f1,x.f2,x.f3))
structure S152 where
 f0 : Int
 f1 : (List S158)
structure S71 where
 f0 : ByteArray
 f1 : S30
def z71 : S71:=⟨(⟨#[]⟩ : ByteArray),z30⟩
def k71 : Kd S71:=Kd.iso (Kd.pair Kd.string k30) (fun x : S71=>(x.f0,x.f1))
theorem oq {w : World} {x : S71} {cs : List Value} (h : k71.K w x cs) : ∃ A6 c6,cs = [.string x.f0,.string x.f1.f0,.string x.f1.f1,.int .i64 x.f1.f2,.int .i64 x.f1.f3,.bool x.f1.f4,.slice A6 x.f1.f5.length c6] ∧ x.f1.f5.length ≤ c6 ∧ k78.C w A6 x.f1.f5.length x.f1.f5:=by
 obtain ⟨_,_,rfl,rfl,s1⟩:=h
 obtain ⟨A6,c6,rfl,l6,g6⟩:=vC s1
 exact ⟨A6,c6,rfl,l6,g6⟩
theorem yD (w : World) (x : S71) {A6 : Option Addr} {c6 : Nat} (l6 : x.f1.f5.length ≤ c6) (g6 : k78.C w A6 x.f1.f5.length x.f1.f5) : k71.K w x [.string x.f0,.string x.f1.f0,.string x.f1.f1,.int .i64 x.f1.f2,.int .i64 x.f1.f3,.bool x.f1.f4,.slice A6 x.f1.f5.length c6]:=⟨[.string x.f0],[.string x.f1.f0,.string x.f1.f1,.int .i64 x.f1.f2,.int .i64 x.f1.f3,.bool x.f1.f4,.slice A6 x.f1.f5.length c6],rfl,rfl,(yA w x.f1 l6 g6)⟩
theorem jB {W : World} {ok : Nat → Prop} {x : S71} {cs : List Value} (h : Kd.FK k71 W ok x cs) : ∃ A6 c6,cs = [.string x.f0,.string x.f1.f0,.string x.f1.f1,.int .i64 x.f1.f2,.int .i64 x.f1.f3,.bool x.f1.f4,.slice A6 x.f1.f5.length c6] ∧ x.f1.f5.length ≤ c6 ∧ Kd.F k78 W ok A6 x.f1.f5.length x.f1.f5:=by
 obtain ⟨A6,c6,rfl,l6,_⟩:=oq (Kd.jc h)
 exact ⟨A6,c6,rfl,l6,(fun W' hW=>by obtain ⟨Al,Am,he,Ap,Ao⟩:=oq (h W' hW);injection (Option.some.inj (show some (Value.slice A6 x.f1.f5.length c6) = some (Value.slice Al x.f1.f5.length Am) from congrArg (fun l=>l[6]?) he)) with ha_ _ _;rw [ha_];exact Ao)⟩
theorem wX (W : World) (ok : Nat → Prop) (x : S71) {A6 : Option Addr} {c6 : Nat} (l6 : x.f1.f5.length ≤ c6) (g6 : Kd.F k78 W ok A6 x.f1.f5.length x.f1.f5) : Kd.FK k71 W ok x [.string x.f0,.string x.f1.f0,.string x.f1.f1,.int .i64 x.f1.f2,.int .i64 x.f1.f3,.bool x.f1.f4,.slice A6 x.f1.f5.length c6]:=fun W2 hW=>yD W2 x l6 (g6 W2 hW)
def aK (xs : List S71) (i : Int) : S71:=xs.getD i.toNat z71
theorem iM {w : World} {A : Option Addr} {n : Nat} {xs : List S71} (h : Kd.C k71 w A n xs) (i : Int) (h0 : 0 ≤ i) (h1 : i < n) : ∃ ad A6 c6,A = some ad ∧ w.cell? (ad.add (i.toNat * 7)) = some (.string (aK xs i).f0) ∧ w.cell? ⟨(ad.add (i.toNat * 7)).block,(ad.add (i.toNat * 7)).off + 1,none⟩ = some (.string (aK xs i).f1.f0) ∧ w.cell? ⟨(ad.add (i.toNat * 7)).block,(ad.add (i.toNat * 7)).off + 2,none⟩ = some (.string (aK xs i).f1.f1) ∧ w.cell? ⟨(ad.add (i.toNat * 7)).block,(ad.add (i.toNat * 7)).off + 3,none⟩ = some (.int .i64 (aK xs i).f1.f2) ∧ w.cell? ⟨(ad.add (i.toNat * 7)).block,(ad.add (i.toNat * 7)).off + 4,none⟩ = some (.int .i64 (aK xs i).f1.f3) ∧ w.cell? ⟨(ad.add (i.toNat * 7)).block,(ad.add (i.toNat * 7)).off + 5,none⟩ = some (.bool (aK xs i).f1.f4) ∧ w.cell? ⟨(ad.add (i.toNat * 7)).block,(ad.add (i.toNat * 7)).off + 6,none⟩ = some (.slice A6 (aK xs i).f1.f5.length c6) ∧ (aK xs i).f1.f5.length ≤ c6 ∧ k78.C w A6 (aK xs i).f1.f5.length (aK xs i).f1.f5:=by
 obtain ⟨ad,c,e,_,hK,hc0⟩:=Kd.kg h z71 i h0 h1
 have hc : ∀ j u,c[j]? = some u → w.cell? (ad.add (i.toNat * 7 + j)) = some u:=hc0
 obtain ⟨A6,c6,rfl,l6,g6⟩:=oq hK
 exact ⟨ad,A6,c6,e,hc 0 _ rfl,by rw [← bM _ _ 1 (by omega)];exact hc 1 _ rfl,by rw [← bM _ _ 2 (by omega)];exact hc 2 _ rfl,by rw [← bM _ _ 3 (by omega)];exact hc 3 _ rfl,by rw [← bM _ _ 4 (by omega)];exact hc 4 _ rfl,by rw [← bM _ _ 5 (by omega)];exact hc 5 _ rfl,by rw [← bM _ _ 6 (by omega)];exact hc 6 _ rfl,l6,g6⟩
structure S68 where
 f0 : Int
 f1 : (List S71)
end Go.Proofs.YtpflenjhmeaeoaaDoor.GUt
