/- Written by this session's own program (wip/gen.py) out of the translation: plain Lean functions of the Go functions, and proofs that the calls come to their answers. No conditions beside those in the statements. -/
import Derived.Test.YtpflenjhmeaeoaaDoorProg
import Derived.Below
import Derived.Deep.Draws
import Derived.Deep.AppendLies
import Derived.Maps.AppendAt
import Derived.OwnWalk
import Derived.Laws.BytesArg
import Derived.Laws.MakeOwn
import Derived.Laws.OwnMore
import Derived.Deep.OwnRows
import Derived.Tactics
import Derived.Lib.ConvBytes
import Derived.Laws.Slices
import Derived.WalkKit
import Derived.KernelRfl
import Derived.RowKit3
import Derived.Deep.LoopGhost
import Derived.Deep.QuietTactic
import Derived.BigQuiet
import Derived.WideLaws
import Derived.Deep.DeepCutAuto
import Derived.Deep.CutBlock
import Derived.Deep.RegionHeld3
import Derived.Laws.Rows
import Derived.Lib.AppendStr
import Derived.ArgAppend
import Derived.Laws.IdiomCopy
import Derived.OrdersHeld
import Derived.Laws.BitsLemmas
import Derived.RowKit
import Derived.Test.YtpflenjhmeaeoaaDoorWd
namespace Go.Proofs.YtpflenjhmeaeoaaDoor.GUt
open Go.RowKit Go.Proofs.YtpflenjhmeaeoaaDoorW.PrintWords Go.Proofs.YtpflenjhmeaeoaaDoorW.PrintLast Go.Proofs.YtpflenjhmeaeoaaDoorW.PrintMore
attribute [local go_sem] dS dU eG eH dI dJ dV dW
set_option linter.unusedVariables false
set_option linter.unusedSimpArgs false
def qR : Option Int → Value
 | none=>.nilIface
 | some c=>.iface 0 (.int .i64 c)
theorem aP : qR none = .nilIface:=rfl
theorem aQ (c : Int) : qR (some c) = .iface 0 (.int .i64 c):=rfl
theorem bF {x : Int} (h0 : 0 ≤ x) (h1 : x ≤ 18446744073709551615) : IntKind.u64.wrap x = x:=by simp [IntKind.wrap,IntKind.bits,IntKind.signed];omega
theorem bg {x : Int} (h0 : -9223372036854775808 ≤ x) (h1 : x ≤ 9223372036854775807) : wrap64 x = x:=by unfold wrap64;omega
theorem bL (l : List UInt8) : (l != []) = !l.isEmpty:=by cases l <;> rfl
theorem bU {x : Int} (h0 : 0 ≤ x) (h1 : x ≤ 255) : x % 256 = x:=by omega
theorem lU : ∀ x y : List UInt8,(Op.bytesLess x y || x == y) = !(Op.bytesLess y x)
 | [],[]=>rfl
 | [],_ :: _=>rfl
 | _ :: _,[]=>rfl
 | a :: x,b :: y=>by
  have ih:=lU x y
  simp only [Op.bytesLess,List.cons_beq_cons]
  rcases Nat.lt_trichotomy a.toNat b.toNat with h|h|h
  ·have h1 : a < b:=h
   have h2 : ¬ b < a:=fun e=>by have : b.toNat < a.toNat:=e;omega
   have h3 : ¬ b = a:=fun e=>by subst e;omega
   simp [h1,h2,h3]
  ·obtain rfl : a = b:=UInt8.toNat_inj.1 h
   simpa using ih
  ·have h1 : b < a:=h
   have h2 : ¬ a < b:=fun e=>by have : a.toNat < b.toNat:=e;omega
   have h3 : ¬ b = a:=fun e=>by subst e;omega
   have h4 : ¬ a = b:=fun e=>by subst e;omega
   simp [h1,h2,h3,h4]
@[go_sem] theorem ru (t : TypeId) (a b : ByteArray) : binOp .leq t (.string a) (.string b) = pure (.bool (!(Op.bytesLess b.toList a.toList))):=by
 rw [← lU];simp [binOp,Op.stringOp]
@[go_sem] theorem rz (t : TypeId) (a b : ByteArray) : binOp .gtr t (.string a) (.string b) = pure (.bool (Op.bytesLess b.toList a.toList)):=by
 have e : binOp .gtr t (.string a) (.string b) = pure (.bool (!(Op.bytesLess a.toList b.toList || a.toList == b.toList))):=by simp [binOp,Op.stringOp]
 rw [e,lU,Bool.not_not]
@[go_sem] theorem rA (t : TypeId) (a b : ByteArray) : binOp .geq t (.string a) (.string b) = pure (.bool (!(Op.bytesLess a.toList b.toList))):=by simp [binOp,Op.stringOp]
theorem r9 : (Tryd.prog.info? 9).map (fun i=>(i.zero,i.size,i.bytes)) = some (some (.string ⟨#[]⟩),1,16):=by kernel_rfl
theorem rP : (Tryd.prog.info? 43).map (fun i=>(i.zero,i.size,i.bytes)) = some (some (.agg #[(.string ⟨#[]⟩),(.string ⟨#[]⟩),(.slice none 0 0),(.slice none 0 0),(.int .i64 0),(.int .i64 0),(.slice none 0 0)]),7,120):=by kernel_rfl
def mF (xs : List (List ByteArray)) (i : Int) : (List ByteArray):=xs.getD i.toNat ([] : List ByteArray)
theorem sj {w : World} {A : Option Addr} {n : Nat} {xs : List (List ByteArray)} (h : Kd.C (Kd.slice 9 Kd.string) w A n xs) (i : Int) (h0 : 0 ≤ i) (h1 : i < n) : ∃ ad A0 c0,A = some ad ∧ w.cell? (ad.add i.toNat) = some (.slice A0 (mF xs i).length c0) ∧ (mF xs i).length ≤ c0 ∧ Kd.string.C w A0 (mF xs i).length (mF xs i):=by
 obtain ⟨ad,c,e,_,hK,hc0⟩:=Kd.gX h ([] : List ByteArray) i h0 h1
 have hc : ∀ j u,c[j]? = some u → w.cell? (ad.add (i.toNat * 1 + j)) = some u:=hc0
 obtain ⟨A0,c0,rfl,l0,g0⟩:=hK
 exact ⟨ad,A0,c0,e,by have hq:=hc 0 _ rfl;rwa [Nat.mul_one,Nat.add_zero] at hq,l0,g0⟩
structure S46 where
 f0 : Int
 f1 : Int
def z46 : S46:=⟨(0 : Int),(0 : Int)⟩
def k46 : Kd S46:=Kd.iso (Kd.pair (Kd.int .i64) (Kd.int .i64)) (fun x : S46=>(x.f0,x.f1))
theorem nM {w : World} {x : S46} {cs : List Value} (h : k46.K w x cs) : cs = [.int .i64 x.f0,.int .i64 x.f1]:=by
 obtain ⟨_,_,rfl,rfl,rfl⟩:=h
 exact rfl
theorem qE {w : World} {base : Nat} {ok : Nat → Prop} {x : S46} {cs : List Value} (h : k46.M w base ok x cs) : cs = [.int .i64 x.f0,.int .i64 x.f1]:=by
 obtain ⟨_,_,rfl,rfl,rfl⟩:=h
 exact rfl
theorem qg (w : World) (x : S46)  : k46.K w x [.int .i64 x.f0,.int .i64 x.f1]:=⟨[.int .i64 x.f0],[.int .i64 x.f1],rfl,rfl,rfl⟩
theorem rC (w : World) (base : Nat) (ok : Nat → Prop) (x : S46)  : k46.M w base ok x [.int .i64 x.f0,.int .i64 x.f1]:=⟨[.int .i64 x.f0],[.int .i64 x.f1],rfl,rfl,rfl⟩
theorem rD (W : World) (ok : Nat → Prop) (x : S46) : Kd.FK k46 W ok x [.int .i64 x.f0,.int .i64 x.f1]:=fun W2 _=>qg W2 x
def nN (xs : List S46) (i : Int) : S46:=xs.getD i.toNat z46
theorem rQ {w : World} {A : Option Addr} {n : Nat} {xs : List S46} (h : Kd.C k46 w A n xs) (i : Int) (h0 : 0 ≤ i) (h1 : i < n) : ∃ ad ,A = some ad ∧ w.cell? (ad.add (i.toNat * 2)) = some (.int .i64 (nN xs i).f0) ∧ w.cell? ⟨(ad.add (i.toNat * 2)).block,(ad.add (i.toNat * 2)).off + 1,none⟩ = some (.int .i64 (nN xs i).f1):=by
 obtain ⟨ad,c,e,_,hK,hc0⟩:=Kd.gX h z46 i h0 h1
 have hc : ∀ j u,c[j]? = some u → w.cell? (ad.add (i.toNat * 2 + j)) = some u:=hc0
 obtain rfl:=nM hK
 exact ⟨ad,e,hc 0 _ rfl,by rw [← bX _ _ 1 (by omega)];exact hc 1 _ rfl⟩
def mG (xs : List (List S46)) (i : Int) : (List S46):=xs.getD i.toNat ([] : List S46)
theorem su {w : World} {A : Option Addr} {n : Nat} {xs : List (List S46)} (h : Kd.C (Kd.slice 46 k46) w A n xs) (i : Int) (h0 : 0 ≤ i) (h1 : i < n) : ∃ ad A0 c0,A = some ad ∧ w.cell? (ad.add i.toNat) = some (.slice A0 (mG xs i).length c0) ∧ (mG xs i).length ≤ c0 ∧ k46.C w A0 (mG xs i).length (mG xs i):=by
 obtain ⟨ad,c,e,_,hK,hc0⟩:=Kd.gX h ([] : List S46) i h0 h1
 have hc : ∀ j u,c[j]? = some u → w.cell? (ad.add (i.toNat * 1 + j)) = some u:=hc0
 obtain ⟨A0,c0,rfl,l0,g0⟩:=hK
 exact ⟨ad,A0,c0,e,by have hq:=hc 0 _ rfl;rwa [Nat.mul_one,Nat.add_zero] at hq,l0,g0⟩
structure S82 where
 f0 : ByteArray
 f1 : ByteArray
def z82 : S82:=⟨(⟨#[]⟩ : ByteArray),(⟨#[]⟩ : ByteArray)⟩
def k82 : Kd S82:=Kd.iso (Kd.pair Kd.string Kd.string) (fun x : S82=>(x.f0,x.f1))
theorem nO {w : World} {x : S82} {cs : List Value} (h : k82.K w x cs) : cs = [.string x.f0,.string x.f1]:=by
 obtain ⟨_,_,rfl,rfl,rfl⟩:=h
 exact rfl
theorem qF {w : World} {base : Nat} {ok : Nat → Prop} {x : S82} {cs : List Value} (h : k82.M w base ok x cs) : cs = [.string x.f0,.string x.f1]:=by
 obtain ⟨_,_,rfl,rfl,rfl⟩:=h
 exact rfl
theorem qh (w : World) (x : S82)  : k82.K w x [.string x.f0,.string x.f1]:=⟨[.string x.f0],[.string x.f1],rfl,rfl,rfl⟩
theorem rE (w : World) (base : Nat) (ok : Nat → Prop) (x : S82)  : k82.M w base ok x [.string x.f0,.string x.f1]:=⟨[.string x.f0],[.string x.f1],rfl,rfl,rfl⟩
theorem rF (W : World) (ok : Nat → Prop) (x : S82) : Kd.FK k82 W ok x [.string x.f0,.string x.f1]:=fun W2 _=>qh W2 x
def nP (xs : List S82) (i : Int) : S82:=xs.getD i.toNat z82
theorem rR {w : World} {A : Option Addr} {n : Nat} {xs : List S82} (h : Kd.C k82 w A n xs) (i : Int) (h0 : 0 ≤ i) (h1 : i < n) : ∃ ad ,A = some ad ∧ w.cell? (ad.add (i.toNat * 2)) = some (.string (nP xs i).f0) ∧ w.cell? ⟨(ad.add (i.toNat * 2)).block,(ad.add (i.toNat * 2)).off + 1,none⟩ = some (.string (nP xs i).f1):=by
 obtain ⟨ad,c,e,_,hK,hc0⟩:=Kd.gX h z82 i h0 h1
 have hc : ∀ j u,c[j]? = some u → w.cell? (ad.add (i.toNat * 2 + j)) = some u:=hc0
 obtain rfl:=nO hK
 exact ⟨ad,e,hc 0 _ rfl,by rw [← bX _ _ 1 (by omega)];exact hc 1 _ rfl⟩
def mH (xs : List (List S82)) (i : Int) : (List S82):=xs.getD i.toNat ([] : List S82)
theorem sw {w : World} {A : Option Addr} {n : Nat} {xs : List (List S82)} (h : Kd.C (Kd.slice 82 k82) w A n xs) (i : Int) (h0 : 0 ≤ i) (h1 : i < n) : ∃ ad A0 c0,A = some ad ∧ w.cell? (ad.add i.toNat) = some (.slice A0 (mH xs i).length c0) ∧ (mH xs i).length ≤ c0 ∧ k82.C w A0 (mH xs i).length (mH xs i):=by
 obtain ⟨ad,c,e,_,hK,hc0⟩:=Kd.gX h ([] : List S82) i h0 h1
 have hc : ∀ j u,c[j]? = some u → w.cell? (ad.add (i.toNat * 1 + j)) = some u:=hc0
 obtain ⟨A0,c0,rfl,l0,g0⟩:=hK
 exact ⟨ad,A0,c0,e,by have hq:=hc 0 _ rfl;rwa [Nat.mul_one,Nat.add_zero] at hq,l0,g0⟩
structure S43 where
 f0 : ByteArray
 f1 : ByteArray
 f2 : (List ByteArray)
 f3 : (List S46)
 f4 : Int
 f5 : Int
 f6 : (List S82)
def z43 : S43:=⟨(⟨#[]⟩ : ByteArray),(⟨#[]⟩ : ByteArray),([] : List ByteArray),([] : List S46),(0 : Int),(0 : Int),([] : List S82)⟩
def k43 : Kd S43:=Kd.iso (Kd.pair Kd.string (Kd.pair Kd.string (Kd.pair (Kd.slice 9 Kd.string) (Kd.pair (Kd.slice 46 k46) (Kd.pair (Kd.int .i64) (Kd.pair (Kd.int .i64) (Kd.slice 82 k82))))))) (fun x : S43=>(x.f0,x.f1,x.f2,x.f3,x.f4,x.f5,x.f6))
theorem ig {w : World} {x : S43} {cs : List Value} (h : k43.K w x cs) : ∃ A2 c2 A3 c3 A6 c6,cs = [.string x.f0,.string x.f1,.slice A2 x.f2.length c2,.slice A3 x.f3.length c3,.int .i64 x.f4,.int .i64 x.f5,.slice A6 x.f6.length c6] ∧ x.f2.length ≤ c2 ∧ Kd.string.C w A2 x.f2.length x.f2 ∧ x.f3.length ≤ c3 ∧ k46.C w A3 x.f3.length x.f3 ∧ x.f6.length ≤ c6 ∧ k82.C w A6 x.f6.length x.f6:=by
 obtain ⟨_,_,rfl,rfl,⟨_,_,rfl,rfl,⟨_,_,rfl,⟨A2,c2,rfl,l2,g2⟩,⟨_,_,rfl,⟨A3,c3,rfl,l3,g3⟩,⟨_,_,rfl,rfl,⟨_,_,rfl,rfl,⟨A6,c6,rfl,l6,g6⟩⟩⟩⟩⟩⟩⟩:=h
 exact ⟨A2,c2,A3,c3,A6,c6,rfl,l2,g2,l3,g3,l6,g6⟩
theorem qG {w : World} {base : Nat} {ok : Nat → Prop} {x : S43} {cs : List Value} (h : k43.M w base ok x cs) : ∃ v2 v3 v6,cs = [.string x.f0,.string x.f1,v2,v3,.int .i64 x.f4,.int .i64 x.f5,v6] ∧ Kd.string.R 9 w base ok v2 x.f2 ∧ k46.R 46 w base ok v3 x.f3 ∧ k82.R 82 w base ok v6 x.f6:=by
 obtain ⟨_,_,rfl,rfl,⟨_,_,rfl,rfl,⟨_,_,rfl,⟨v2,rfl,g2⟩,⟨_,_,rfl,⟨v3,rfl,g3⟩,⟨_,_,rfl,rfl,⟨_,_,rfl,rfl,⟨v6,rfl,g6⟩⟩⟩⟩⟩⟩⟩:=h
 exact ⟨v2,v3,v6,rfl,g2,g3,g6⟩
theorem nQ (w : World) (x : S43) {A2 : Option Addr} {c2 : Nat} (l2 : x.f2.length ≤ c2) (g2 : Kd.string.C w A2 x.f2.length x.f2) {A3 : Option Addr} {c3 : Nat} (l3 : x.f3.length ≤ c3) (g3 : k46.C w A3 x.f3.length x.f3) {A6 : Option Addr} {c6 : Nat} (l6 : x.f6.length ≤ c6) (g6 : k82.C w A6 x.f6.length x.f6) : k43.K w x [.string x.f0,.string x.f1,.slice A2 x.f2.length c2,.slice A3 x.f3.length c3,.int .i64 x.f4,.int .i64 x.f5,.slice A6 x.f6.length c6]:=⟨[.string x.f0],[.string x.f1,.slice A2 x.f2.length c2,.slice A3 x.f3.length c3,.int .i64 x.f4,.int .i64 x.f5,.slice A6 x.f6.length c6],rfl,rfl,⟨[.string x.f1],[.slice A2 x.f2.length c2,.slice A3 x.f3.length c3,.int .i64 x.f4,.int .i64 x.f5,.slice A6 x.f6.length c6],rfl,rfl,⟨[.slice A2 x.f2.length c2],[.slice A3 x.f3.length c3,.int .i64 x.f4,.int .i64 x.f5,.slice A6 x.f6.length c6],rfl,⟨A2,c2,rfl,l2,g2⟩,⟨[.slice A3 x.f3.length c3],[.int .i64 x.f4,.int .i64 x.f5,.slice A6 x.f6.length c6],rfl,⟨A3,c3,rfl,l3,g3⟩,⟨[.int .i64 x.f4],[.int .i64 x.f5,.slice A6 x.f6.length c6],rfl,rfl,⟨[.int .i64 x.f5],[.slice A6 x.f6.length c6],rfl,rfl,⟨A6,c6,rfl,l6,g6⟩⟩⟩⟩⟩⟩⟩
theorem oM (w : World) (base : Nat) (ok : Nat → Prop) (x : S43) {v2 : Value} (g2 : Kd.string.R 9 w base ok v2 x.f2) {v3 : Value} (g3 : k46.R 46 w base ok v3 x.f3) {v6 : Value} (g6 : k82.R 82 w base ok v6 x.f6) : k43.M w base ok x [.string x.f0,.string x.f1,v2,v3,.int .i64 x.f4,.int .i64 x.f5,v6]:=⟨[.string x.f0],[.string x.f1,v2,v3,.int .i64 x.f4,.int .i64 x.f5,v6],rfl,rfl,⟨[.string x.f1],[v2,v3,.int .i64 x.f4,.int .i64 x.f5,v6],rfl,rfl,⟨[v2],[v3,.int .i64 x.f4,.int .i64 x.f5,v6],rfl,⟨v2,rfl,g2⟩,⟨[v3],[.int .i64 x.f4,.int .i64 x.f5,v6],rfl,⟨v3,rfl,g3⟩,⟨[.int .i64 x.f4],[.int .i64 x.f5,v6],rfl,rfl,⟨[.int .i64 x.f5],[v6],rfl,rfl,⟨v6,rfl,g6⟩⟩⟩⟩⟩⟩⟩
theorem gB {W : World} {ok : Nat → Prop} {x : S43} {cs : List Value} (h : Kd.FK k43 W ok x cs) : ∃ A2 c2 A3 c3 A6 c6,cs = [.string x.f0,.string x.f1,.slice A2 x.f2.length c2,.slice A3 x.f3.length c3,.int .i64 x.f4,.int .i64 x.f5,.slice A6 x.f6.length c6] ∧ x.f2.length ≤ c2 ∧ Kd.F Kd.string W ok A2 x.f2.length x.f2 ∧ x.f3.length ≤ c3 ∧ Kd.F k46 W ok A3 x.f3.length x.f3 ∧ x.f6.length ≤ c6 ∧ Kd.F k82 W ok A6 x.f6.length x.f6:=by
 obtain ⟨A2,c2,A3,c3,A6,c6,rfl,l2,_,l3,_,l6,_⟩:=ig (Kd.iN h)
 exact ⟨A2,c2,A3,c3,A6,c6,rfl,l2,(fun W' hW=>by obtain ⟨sD,sF,sG,sH,sI,sJ,he,sO,sK,sP,sM,sQ,sN⟩:=ig (h W' hW);injection (Option.some.inj (show some (Value.slice A2 x.f2.length c2) = some (Value.slice sD x.f2.length sF) from congrArg (fun l=>l[2]?) he)) with ha_ _ _;rw [ha_];exact sK),l3,(fun W' hW=>by obtain ⟨sD,sF,sG,sH,sI,sJ,he,sO,sK,sP,sM,sQ,sN⟩:=ig (h W' hW);injection (Option.some.inj (show some (Value.slice A3 x.f3.length c3) = some (Value.slice sG x.f3.length sH) from congrArg (fun l=>l[3]?) he)) with ha_ _ _;rw [ha_];exact sM),l6,(fun W' hW=>by obtain ⟨sD,sF,sG,sH,sI,sJ,he,sO,sK,sP,sM,sQ,sN⟩:=ig (h W' hW);injection (Option.some.inj (show some (Value.slice A6 x.f6.length c6) = some (Value.slice sI x.f6.length sJ) from congrArg (fun l=>l[6]?) he)) with ha_ _ _;rw [ha_];exact sN)⟩
theorem rG (W : World) (ok : Nat → Prop) (x : S43) {A2 : Option Addr} {c2 : Nat} (l2 : x.f2.length ≤ c2) (g2 : Kd.F Kd.string W ok A2 x.f2.length x.f2) {A3 : Option Addr} {c3 : Nat} (l3 : x.f3.length ≤ c3) (g3 : Kd.F k46 W ok A3 x.f3.length x.f3) {A6 : Option Addr} {c6 : Nat} (l6 : x.f6.length ≤ c6) (g6 : Kd.F k82 W ok A6 x.f6.length x.f6) : Kd.FK k43 W ok x [.string x.f0,.string x.f1,.slice A2 x.f2.length c2,.slice A3 x.f3.length c3,.int .i64 x.f4,.int .i64 x.f5,.slice A6 x.f6.length c6]:=fun W2 hW=>nQ W2 x l2 (g2 W2 hW) l3 (g3 W2 hW) l6 (g6 W2 hW)
def ah (xs : List S43) (i : Int) : S43:=xs.getD i.toNat z43
theorem iY {w : World} {A : Option Addr} {n : Nat} {xs : List S43} (h : Kd.C k43 w A n xs) (i : Int) (h0 : 0 ≤ i) (h1 : i < n) : ∃ ad A2 c2 A3 c3 A6 c6,A = some ad ∧ w.cell? (ad.add (i.toNat * 7)) = some (.string (ah xs i).f0) ∧ w.cell? ⟨(ad.add (i.toNat * 7)).block,(ad.add (i.toNat * 7)).off + 1,none⟩ = some (.string (ah xs i).f1) ∧ w.cell? ⟨(ad.add (i.toNat * 7)).block,(ad.add (i.toNat * 7)).off + 2,none⟩ = some (.slice A2 (ah xs i).f2.length c2) ∧ w.cell? ⟨(ad.add (i.toNat * 7)).block,(ad.add (i.toNat * 7)).off + 3,none⟩ = some (.slice A3 (ah xs i).f3.length c3) ∧ w.cell? ⟨(ad.add (i.toNat * 7)).block,(ad.add (i.toNat * 7)).off + 4,none⟩ = some (.int .i64 (ah xs i).f4) ∧ w.cell? ⟨(ad.add (i.toNat * 7)).block,(ad.add (i.toNat * 7)).off + 5,none⟩ = some (.int .i64 (ah xs i).f5) ∧ w.cell? ⟨(ad.add (i.toNat * 7)).block,(ad.add (i.toNat * 7)).off + 6,none⟩ = some (.slice A6 (ah xs i).f6.length c6) ∧ (ah xs i).f2.length ≤ c2 ∧ Kd.string.C w A2 (ah xs i).f2.length (ah xs i).f2 ∧ (ah xs i).f3.length ≤ c3 ∧ k46.C w A3 (ah xs i).f3.length (ah xs i).f3 ∧ (ah xs i).f6.length ≤ c6 ∧ k82.C w A6 (ah xs i).f6.length (ah xs i).f6:=by
 obtain ⟨ad,c,e,_,hK,hc0⟩:=Kd.gX h z43 i h0 h1
 have hc : ∀ j u,c[j]? = some u → w.cell? (ad.add (i.toNat * 7 + j)) = some u:=hc0
 obtain ⟨A2,c2,A3,c3,A6,c6,rfl,l2,g2,l3,g3,l6,g6⟩:=ig hK
 exact ⟨ad,A2,c2,A3,c3,A6,c6,e,hc 0 _ rfl,by rw [← bX _ _ 1 (by omega)];exact hc 1 _ rfl,by rw [← bX _ _ 2 (by omega)];exact hc 2 _ rfl,by rw [← bX _ _ 3 (by omega)];exact hc 3 _ rfl,by rw [← bX _ _ 4 (by omega)];exact hc 4 _ rfl,by rw [← bX _ _ 5 (by omega)];exact hc 5 _ rfl,by rw [← bX _ _ 6 (by omega)];exact hc 6 _ rfl,l2,g2,l3,g3,l6,g6⟩
def kM (xs : List (List S43)) (i : Int) : (List S43):=xs.getD i.toNat ([] : List S43)
theorem rT {w : World} {A : Option Addr} {n : Nat} {xs : List (List S43)} (h : Kd.C (Kd.slice 43 k43) w A n xs) (i : Int) (h0 : 0 ≤ i) (h1 : i < n) : ∃ ad A0 c0,A = some ad ∧ w.cell? (ad.add i.toNat) = some (.slice A0 (kM xs i).length c0) ∧ (kM xs i).length ≤ c0 ∧ k43.C w A0 (kM xs i).length (kM xs i):=by
 obtain ⟨ad,c,e,_,hK,hc0⟩:=Kd.gX h ([] : List S43) i h0 h1
 have hc : ∀ j u,c[j]? = some u → w.cell? (ad.add (i.toNat * 1 + j)) = some u:=hc0
 obtain ⟨A0,c0,rfl,l0,g0⟩:=hK
 exact ⟨ad,A0,c0,e,by have hq:=hc 0 _ rfl;rwa [Nat.mul_one,Nat.add_zero] at hq,l0,g0⟩
structure S25 where
 f0 : ByteArray
 f1 : ByteArray
 f2 : Int
 f3 : Int
 f4 : Bool
 f5 : (List S43)
def z25 : S25:=⟨(⟨#[]⟩ : ByteArray),(⟨#[]⟩ : ByteArray),(0 : Int),(0 : Int),false,([] : List S43)⟩
def k25 : Kd S25:=Kd.iso (Kd.pair Kd.string (Kd.pair Kd.string (Kd.pair (Kd.int .i64) (Kd.pair (Kd.int .i64) (Kd.pair Kd.bool (Kd.slice 43 k43)))))) (fun x : S25=>(x.f0,x.f1,x.f2,x.f3,x.f4,x.f5))
theorem jJ {w : World} {x : S25} {cs : List Value} (h : k25.K w x cs) : ∃ A5 c5,cs = [.string x.f0,.string x.f1,.int .i64 x.f2,.int .i64 x.f3,.bool x.f4,.slice A5 x.f5.length c5] ∧ x.f5.length ≤ c5 ∧ k43.C w A5 x.f5.length x.f5:=by
 obtain ⟨_,_,rfl,rfl,⟨_,_,rfl,rfl,⟨_,_,rfl,rfl,⟨_,_,rfl,rfl,⟨_,_,rfl,rfl,⟨A5,c5,rfl,l5,g5⟩⟩⟩⟩⟩⟩:=h
 exact ⟨A5,c5,rfl,l5,g5⟩
theorem qH {w : World} {base : Nat} {ok : Nat → Prop} {x : S25} {cs : List Value} (h : k25.M w base ok x cs) : ∃ v5,cs = [.string x.f0,.string x.f1,.int .i64 x.f2,.int .i64 x.f3,.bool x.f4,v5] ∧ k43.R 43 w base ok v5 x.f5:=by
 obtain ⟨_,_,rfl,rfl,⟨_,_,rfl,rfl,⟨_,_,rfl,rfl,⟨_,_,rfl,rfl,⟨_,_,rfl,rfl,⟨v5,rfl,g5⟩⟩⟩⟩⟩⟩:=h
 exact ⟨v5,rfl,g5⟩
theorem qj (w : World) (x : S25) {A5 : Option Addr} {c5 : Nat} (l5 : x.f5.length ≤ c5) (g5 : k43.C w A5 x.f5.length x.f5) : k25.K w x [.string x.f0,.string x.f1,.int .i64 x.f2,.int .i64 x.f3,.bool x.f4,.slice A5 x.f5.length c5]:=⟨[.string x.f0],[.string x.f1,.int .i64 x.f2,.int .i64 x.f3,.bool x.f4,.slice A5 x.f5.length c5],rfl,rfl,⟨[.string x.f1],[.int .i64 x.f2,.int .i64 x.f3,.bool x.f4,.slice A5 x.f5.length c5],rfl,rfl,⟨[.int .i64 x.f2],[.int .i64 x.f3,.bool x.f4,.slice A5 x.f5.length c5],rfl,rfl,⟨[.int .i64 x.f3],[.bool x.f4,.slice A5 x.f5.length c5],rfl,rfl,⟨[.bool x.f4],[.slice A5 x.f5.length c5],rfl,rfl,⟨A5,c5,rfl,l5,g5⟩⟩⟩⟩⟩⟩
theorem rH (w : World) (base : Nat) (ok : Nat → Prop) (x : S25) {v5 : Value} (g5 : k43.R 43 w base ok v5 x.f5) : k25.M w base ok x [.string x.f0,.string x.f1,.int .i64 x.f2,.int .i64 x.f3,.bool x.f4,v5]:=⟨[.string x.f0],[.string x.f1,.int .i64 x.f2,.int .i64 x.f3,.bool x.f4,v5],rfl,rfl,⟨[.string x.f1],[.int .i64 x.f2,.int .i64 x.f3,.bool x.f4,v5],rfl,rfl,⟨[.int .i64 x.f2],[.int .i64 x.f3,.bool x.f4,v5],rfl,rfl,⟨[.int .i64 x.f3],[.bool x.f4,v5],rfl,rfl,⟨[.bool x.f4],[v5],rfl,rfl,⟨v5,rfl,g5⟩⟩⟩⟩⟩⟩
theorem qI {W : World} {ok : Nat → Prop} {x : S25} {cs : List Value} (h : Kd.FK k25 W ok x cs) : ∃ A5 c5,cs = [.string x.f0,.string x.f1,.int .i64 x.f2,.int .i64 x.f3,.bool x.f4,.slice A5 x.f5.length c5] ∧ x.f5.length ≤ c5 ∧ Kd.F k43 W ok A5 x.f5.length x.f5:=by
 obtain ⟨A5,c5,rfl,l5,_⟩:=jJ (Kd.iN h)
 exact ⟨A5,c5,rfl,l5,(fun W' hW=>by obtain ⟨sS,sU,he,sW,sV⟩:=jJ (h W' hW);injection (Option.some.inj (show some (Value.slice A5 x.f5.length c5) = some (Value.slice sS x.f5.length sU) from congrArg (fun l=>l[5]?) he)) with ha_ _ _;rw [ha_];exact sV)⟩
theorem rJ (W : World) (ok : Nat → Prop) (x : S25) {A5 : Option Addr} {c5 : Nat} (l5 : x.f5.length ≤ c5) (g5 : Kd.F k43 W ok A5 x.f5.length x.f5) : Kd.FK k25 W ok x [.string x.f0,.string x.f1,.int .i64 x.f2,.int .i64 x.f3,.bool x.f4,.slice A5 x.f5.length c5]:=fun W2 hW=>qj W2 x l5 (g5 W2 hW)
def gU (xs : List S25) (i : Int) : S25:=xs.getD i.toNat z25
theorem rU {w : World} {A : Option Addr} {n : Nat} {xs : List S25} (h : Kd.C k25 w A n xs) (i : Int) (h0 : 0 ≤ i) (h1 : i < n) : ∃ ad A5 c5,A = some ad ∧ w.cell? (ad.add (i.toNat * 6)) = some (.string (gU xs i).f0) ∧ w.cell? ⟨(ad.add (i.toNat * 6)).block,(ad.add (i.toNat * 6)).off + 1,none⟩ = some (.string (gU xs i).f1) ∧ w.cell? ⟨(ad.add (i.toNat * 6)).block,(ad.add (i.toNat * 6)).off + 2,none⟩ = some (.int .i64 (gU xs i).f2) ∧ w.cell? ⟨(ad.add (i.toNat * 6)).block,(ad.add (i.toNat * 6)).off + 3,none⟩ = some (.int .i64 (gU xs i).f3) ∧ w.cell? ⟨(ad.add (i.toNat * 6)).block,(ad.add (i.toNat * 6)).off + 4,none⟩ = some (.bool (gU xs i).f4) ∧ w.cell? ⟨(ad.add (i.toNat * 6)).block,(ad.add (i.toNat * 6)).off + 5,none⟩ = some (.slice A5 (gU xs i).f5.length c5) ∧ (gU xs i).f5.length ≤ c5 ∧ k43.C w A5 (gU xs i).f5.length (gU xs i).f5:=by
 obtain ⟨ad,c,e,_,hK,hc0⟩:=Kd.gX h z25 i h0 h1
 have hc : ∀ j u,c[j]? = some u → w.cell? (ad.add (i.toNat * 6 + j)) = some u:=hc0
 obtain ⟨A5,c5,rfl,l5,g5⟩:=jJ hK
 exact ⟨ad,A5,c5,e,hc 0 _ rfl,by rw [← bX _ _ 1 (by omega)];exact hc 1 _ rfl,by rw [← bX _ _ 2 (by omega)];exact hc 2 _ rfl,by rw [← bX _ _ 3 (by omega)];exact hc 3 _ rfl,by rw [← bX _ _ 4 (by omega)];exact hc 4 _ rfl,by rw [← bX _ _ 5 (by omega)];exact hc 5 _ rfl,l5,g5⟩
end Go.Proofs.YtpflenjhmeaeoaaDoor.GUt
