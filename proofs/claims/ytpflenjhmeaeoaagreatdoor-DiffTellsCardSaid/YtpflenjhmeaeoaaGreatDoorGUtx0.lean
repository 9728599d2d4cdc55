/- Written by this session's own program (wip/gen.py) out of the translation: plain Lean functions of the Go functions, and proofs that the calls come to their answers. No conditions beside those in the statements. -/
import Derived.Test.YtpflenjhmeaeoaaGreatDoorProg
import Derived.Below
import Derived.Deep.Draws
import Derived.Deep.AppendLies
import Derived.Maps.AppendAt
import Derived.OwnWalk
import Derived.Laws.BytesArg
import Derived.Laws.MakeOwn
import Derived.Laws.OwnMore
import Derived.Deep.OwnRows
import Derived.Tactics
import Derived.Lib.ConvBytes
import Derived.Laws.Slices
import Derived.WalkKit
import Derived.KernelRfl
import Derived.RowKit3
import Derived.Deep.LoopGhost
import Derived.Deep.QuietTactic
import Derived.BigQuiet
import Derived.WideLaws
import Derived.Deep.DeepCutAuto
import Derived.Deep.CutBlock
import Derived.Deep.RegionHeld3
import Derived.Laws.Rows
import Derived.Lib.AppendStr
import Derived.ArgAppend
import Derived.Laws.IdiomCopy
import Derived.OrdersHeld
import Derived.Laws.BitsLemmas
import Derived.RowKit
import Derived.Test.YtpflenjhmeaeoaaGreatDoorWd
namespace Go.Proofs.YtpflenjhmeaeoaaGreatDoor.GUt
open Go.RowKit Go.Proofs.YtpflenjhmeaeoaaGreatDoorW.PrintWords Go.Proofs.YtpflenjhmeaeoaaGreatDoorW.PrintLast Go.Proofs.YtpflenjhmeaeoaaGreatDoorW.PrintMore
attribute [local go_sem] fJ fK gH gI eO eP fM fO
set_option linter.unusedVariables false
set_option linter.unusedSimpArgs false
def zZ : Option Int → Value
 | none=>.nilIface
 | some c=>.iface 0 (.int .i64 c)
theorem aY : zZ none = .nilIface:=rfl
theorem aZ (c : Int) : zZ (some c) = .iface 0 (.int .i64 c):=rfl
theorem dO {x : Int} (h0 : 0 ≤ x) (h1 : x ≤ 18446744073709551615) : IntKind.u64.wrap x = x:=by simp [IntKind.wrap,IntKind.bits,IntKind.signed];omega
theorem dG {x : Int} (h0 : -9223372036854775808 ≤ x) (h1 : x ≤ 9223372036854775807) : wrap64 x = x:=by unfold wrap64;omega
theorem dL (l : List UInt8) : (l != []) = !l.isEmpty:=by cases l <;> rfl
theorem eH {x : Int} (h0 : 0 ≤ x) (h1 : x ≤ 255) : x % 256 = x:=by omega
theorem su : ∀ x y : List UInt8,(Op.bytesLess x y || x == y) = !(Op.bytesLess y x)
 | [],[]=>rfl
 | [],_ :: _=>rfl
 | _ :: _,[]=>rfl
 | a :: x,b :: y=>by
  have ih:=su x y
  simp only [Op.bytesLess,List.cons_beq_cons]
  rcases Nat.lt_trichotomy a.toNat b.toNat with h|h|h
  ·have h1 : a < b:=h
   have h2 : ¬ b < a:=fun e=>by have : b.toNat < a.toNat:=e;omega
   have h3 : ¬ b = a:=fun e=>by subst e;omega
   simp [h1,h2,h3]
  ·obtain rfl : a = b:=UInt8.toNat_inj.1 h
   simpa using ih
  ·have h1 : b < a:=h
   have h2 : ¬ a < b:=fun e=>by have : a.toNat < b.toNat:=e;omega
   have h3 : ¬ b = a:=fun e=>by subst e;omega
   have h4 : ¬ a = b:=fun e=>by subst e;omega
   simp [h1,h2,h3,h4]
@[go_sem] theorem Au (t : TypeId) (a b : ByteArray) : binOp .leq t (.string a) (.string b) = pure (.bool (!(Op.bytesLess b.toList a.toList))):=by
 rw [← su];simp [binOp,Op.stringOp]
@[go_sem] theorem Aw (t : TypeId) (a b : ByteArray) : binOp .gtr t (.string a) (.string b) = pure (.bool (Op.bytesLess b.toList a.toList)):=by
 have e : binOp .gtr t (.string a) (.string b) = pure (.bool (!(Op.bytesLess a.toList b.toList || a.toList == b.toList))):=by simp [binOp,Op.stringOp]
 rw [e,su,Bool.not_not]
@[go_sem] theorem Ay (t : TypeId) (a b : ByteArray) : binOp .geq t (.string a) (.string b) = pure (.bool (!(Op.bytesLess a.toList b.toList))):=by simp [binOp,Op.stringOp]
theorem info5 : (Tryz.prog.info? 5).map (fun i=>(i.zero,i.size,i.bytes)) = some (some (.int .u8 0),1,1):=by kernel_rfl
theorem sw : (Tryz.prog.info? 30).map (fun i=>(i.zero,i.size,i.bytes)) = some (some (.agg #[(.int .i64 0),(.string ⟨#[]⟩),(.string ⟨#[]⟩)]),3,40):=by kernel_rfl
theorem iy : (Tryz.prog.info? 43).map (fun i=>(i.zero,i.size,i.bytes)) = some (some (.agg #[(.int .i64 0),(.string ⟨#[]⟩),(.string ⟨#[]⟩)]),3,40):=by kernel_rfl
theorem mP : (Tryz.prog.info? 51).map (fun i=>(i.zero,i.size,i.bytes)) = some (some (.agg #[(.string ⟨#[]⟩),(.string ⟨#[]⟩),(.string ⟨#[]⟩),(.int .i64 0),(.int .i64 0),(.bool false),(.slice none 0 0)]),7,96):=by kernel_rfl
structure S88 where
 f0 : Int
 f1 : Int
def z88 : S88:=⟨(0 : Int),(0 : Int)⟩
def k88 : Kd S88:=Kd.iso (Kd.pair (Kd.int .i64) (Kd.int .i64)) (fun x : S88=>(x.f0,x.f1))
theorem vI : Kd.Heap k88:=Kd.jF _ (Kd.fq (Kd.iU .i64) (Kd.iU .i64))
theorem vJ {w : World} {x : S88} {cs : List Value} (h : k88.K w x cs) : cs = [.int .i64 x.f0,.int .i64 x.f1]:=by
 obtain ⟨_,_,rfl,rfl,rfl⟩:=h
 exact rfl
def gU (xs : List S88) (i : Int) : S88:=xs.getD i.toNat z88
theorem ow {w : World} {A : Option Addr} {n : Nat} {xs : List S88} (h : Kd.C k88 w A n xs) (i : Int) (h0 : 0 ≤ i) (h1 : i < n) : ∃ ad ,A = some ad ∧ w.cell? (ad.add (i.toNat * 2)) = some (.int .i64 (gU xs i).f0) ∧ w.cell? ⟨(ad.add (i.toNat * 2)).block,(ad.add (i.toNat * 2)).off + 1,none⟩ = some (.int .i64 (gU xs i).f1):=by
 obtain ⟨ad,c,e,_,hK,hc0⟩:=Kd.kr h z88 i h0 h1
 have hc : ∀ j u,c[j]? = some u → w.cell? (ad.add (i.toNat * 2 + j)) = some u:=hc0
 obtain rfl:=vJ hK
 exact ⟨ad,e,hc 0 _ rfl,by rw [← bT _ _ 1 (by omega)];exact hc 1 _ rfl⟩
structure S71 where
 f0 : ByteArray
 f1 : ByteArray
def z71 : S71:=⟨(⟨#[]⟩ : ByteArray),(⟨#[]⟩ : ByteArray)⟩
def k71 : Kd S71:=Kd.iso (Kd.pair Kd.string Kd.string) (fun x : S71=>(x.f0,x.f1))
theorem vK : Kd.Heap k71:=Kd.jF _ (Kd.fq Kd.gu Kd.gu)
theorem vL {w : World} {x : S71} {cs : List Value} (h : k71.K w x cs) : cs = [.string x.f0,.string x.f1]:=by
 obtain ⟨_,_,rfl,rfl,rfl⟩:=h
 exact rfl
def gJ (xs : List S71) (i : Int) : S71:=xs.getD i.toNat z71
theorem mQ {w : World} {A : Option Addr} {n : Nat} {xs : List S71} (h : Kd.C k71 w A n xs) (i : Int) (h0 : 0 ≤ i) (h1 : i < n) : ∃ ad ,A = some ad ∧ w.cell? (ad.add (i.toNat * 2)) = some (.string (gJ xs i).f0) ∧ w.cell? ⟨(ad.add (i.toNat * 2)).block,(ad.add (i.toNat * 2)).off + 1,none⟩ = some (.string (gJ xs i).f1):=by
 obtain ⟨ad,c,e,_,hK,hc0⟩:=Kd.kr h z71 i h0 h1
 have hc : ∀ j u,c[j]? = some u → w.cell? (ad.add (i.toNat * 2 + j)) = some u:=hc0
 obtain rfl:=vL hK
 exact ⟨ad,e,hc 0 _ rfl,by rw [← bT _ _ 1 (by omega)];exact hc 1 _ rfl⟩
structure S69 where
 f0 : ByteArray
 f1 : ByteArray
 f2 : (List ByteArray)
 f3 : (List S88)
 f4 : Int
 f5 : Int
 f6 : (List S71)
def z69 : S69:=⟨(⟨#[]⟩ : ByteArray),(⟨#[]⟩ : ByteArray),([] : List ByteArray),([] : List S88),(0 : Int),(0 : Int),([] : List S71)⟩
def k69 : Kd S69:=Kd.iso (Kd.pair Kd.string (Kd.pair Kd.string (Kd.pair (Kd.slice 9 Kd.string) (Kd.pair (Kd.slice 88 k88) (Kd.pair (Kd.int .i64) (Kd.pair (Kd.int .i64) (Kd.slice 71 k71))))))) (fun x : S69=>(x.f0,x.f1,x.f2,x.f3,x.f4,x.f5,x.f6))
theorem vM : Kd.Heap k69:=Kd.jF _ (Kd.fq Kd.gu (Kd.fq Kd.gu (Kd.fq (Kd.jd 9 Kd.gu) (Kd.fq (Kd.jd 88 vI) (Kd.fq (Kd.iU .i64) (Kd.fq (Kd.iU .i64) (Kd.jd 71 vK)))))))
theorem kP {w : World} {x : S69} {cs : List Value} (h : k69.K w x cs) : ∃ A2 c2 A3 c3 A6 c6,cs = [.string x.f0,.string x.f1,.slice A2 x.f2.length c2,.slice A3 x.f3.length c3,.int .i64 x.f4,.int .i64 x.f5,.slice A6 x.f6.length c6] ∧ x.f2.length ≤ c2 ∧ Kd.string.C w A2 x.f2.length x.f2 ∧ x.f3.length ≤ c3 ∧ k88.C w A3 x.f3.length x.f3 ∧ x.f6.length ≤ c6 ∧ k71.C w A6 x.f6.length x.f6:=by
 obtain ⟨_,_,rfl,rfl,⟨_,_,rfl,rfl,⟨_,_,rfl,⟨A2,c2,rfl,l2,g2⟩,⟨_,_,rfl,⟨A3,c3,rfl,l3,g3⟩,⟨_,_,rfl,rfl,⟨_,_,rfl,rfl,⟨A6,c6,rfl,l6,g6⟩⟩⟩⟩⟩⟩⟩:=h
 exact ⟨A2,c2,A3,c3,A6,c6,rfl,l2,g2,l3,g3,l6,g6⟩
theorem yV (w : World) (x : S69) {A2 : Option Addr} {c2 : Nat} (l2 : x.f2.length ≤ c2) (g2 : Kd.string.C w A2 x.f2.length x.f2) {A3 : Option Addr} {c3 : Nat} (l3 : x.f3.length ≤ c3) (g3 : k88.C w A3 x.f3.length x.f3) {A6 : Option Addr} {c6 : Nat} (l6 : x.f6.length ≤ c6) (g6 : k71.C w A6 x.f6.length x.f6) : k69.K w x [.string x.f0,.string x.f1,.slice A2 x.f2.length c2,.slice A3 x.f3.length c3,.int .i64 x.f4,.int .i64 x.f5,.slice A6 x.f6.length c6]:=⟨[.string x.f0],[.string x.f1,.slice A2 x.f2.length c2,.slice A3 x.f3.length c3,.int .i64 x.f4,.int .i64 x.f5,.slice A6 x.f6.length c6],rfl,rfl,⟨[.string x.f1],[.slice A2 x.f2.length c2,.slice A3 x.f3.length c3,.int .i64 x.f4,.int .i64 x.f5,.slice A6 x.f6.length c6],rfl,rfl,⟨[.slice A2 x.f2.length c2],[.slice A3 x.f3.length c3,.int .i64 x.f4,.int .i64 x.f5,.slice A6 x.f6.length c6],rfl,⟨A2,c2,rfl,l2,g2⟩,⟨[.slice A3 x.f3.length c3],[.int .i64 x.f4,.int .i64 x.f5,.slice A6 x.f6.length c6],rfl,⟨A3,c3,rfl,l3,g3⟩,⟨[.int .i64 x.f4],[.int .i64 x.f5,.slice A6 x.f6.length c6],rfl,rfl,⟨[.int .i64 x.f5],[.slice A6 x.f6.length c6],rfl,rfl,⟨A6,c6,rfl,l6,g6⟩⟩⟩⟩⟩⟩⟩
theorem xE (w : World) (base : Nat) (ok : Nat → Prop) (x : S69) {v2 : Value} (g2 : Kd.string.R 9 w base ok v2 x.f2) {v3 : Value} (g3 : k88.R 88 w base ok v3 x.f3) {v6 : Value} (g6 : k71.R 71 w base ok v6 x.f6) : k69.M w base ok x [.string x.f0,.string x.f1,v2,v3,.int .i64 x.f4,.int .i64 x.f5,v6]:=⟨[.string x.f0],[.string x.f1,v2,v3,.int .i64 x.f4,.int .i64 x.f5,v6],rfl,rfl,⟨[.string x.f1],[v2,v3,.int .i64 x.f4,.int .i64 x.f5,v6],rfl,rfl,⟨[v2],[v3,.int .i64 x.f4,.int .i64 x.f5,v6],rfl,⟨v2,rfl,g2⟩,⟨[v3],[.int .i64 x.f4,.int .i64 x.f5,v6],rfl,⟨v3,rfl,g3⟩,⟨[.int .i64 x.f4],[.int .i64 x.f5,v6],rfl,rfl,⟨[.int .i64 x.f5],[v6],rfl,rfl,⟨v6,rfl,g6⟩⟩⟩⟩⟩⟩⟩
theorem kY {W : World} {ok : Nat → Prop} {x : S69} {cs : List Value} (h : Kd.FK k69 W ok x cs) : ∃ A2 c2 A3 c3 A6 c6,cs = [.string x.f0,.string x.f1,.slice A2 x.f2.length c2,.slice A3 x.f3.length c3,.int .i64 x.f4,.int .i64 x.f5,.slice A6 x.f6.length c6] ∧ x.f2.length ≤ c2 ∧ Kd.F Kd.string W ok A2 x.f2.length x.f2 ∧ x.f3.length ≤ c3 ∧ Kd.F k88 W ok A3 x.f3.length x.f3 ∧ x.f6.length ≤ c6 ∧ Kd.F k71 W ok A6 x.f6.length x.f6:=by
 obtain ⟨A2,c2,A3,c3,A6,c6,rfl,l2,_,l3,_,l6,_⟩:=kP (Kd.jq h)
 exact ⟨A2,c2,A3,c3,A6,c6,rfl,l2,(fun W' hW=>by obtain ⟨Bh,Bj,Bl,Bn,AZ,Bf,he,Br,Bo,Bt,Bp,Bq,Bg⟩:=kP (h W' hW);injection (Option.some.inj (show some (Value.slice A2 x.f2.length c2) = some (Value.slice Bh x.f2.length Bj) from congrArg (fun l=>l[2]?) he)) with ha_ _ _;rw [ha_];exact Bo),l3,(fun W' hW=>by obtain ⟨Bh,Bj,Bl,Bn,AZ,Bf,he,Br,Bo,Bt,Bp,Bq,Bg⟩:=kP (h W' hW);injection (Option.some.inj (show some (Value.slice A3 x.f3.length c3) = some (Value.slice Bl x.f3.length Bn) from congrArg (fun l=>l[3]?) he)) with ha_ _ _;rw [ha_];exact Bp),l6,(fun W' hW=>by obtain ⟨Bh,Bj,Bl,Bn,AZ,Bf,he,Br,Bo,Bt,Bp,Bq,Bg⟩:=kP (h W' hW);injection (Option.some.inj (show some (Value.slice A6 x.f6.length c6) = some (Value.slice AZ x.f6.length Bf) from congrArg (fun l=>l[6]?) he)) with ha_ _ _;rw [ha_];exact Bg)⟩
def aj (xs : List S69) (i : Int) : S69:=xs.getD i.toNat z69
theorem lM {w : World} {A : Option Addr} {n : Nat} {xs : List S69} (h : Kd.C k69 w A n xs) (i : Int) (h0 : 0 ≤ i) (h1 : i < n) : ∃ ad A2 c2 A3 c3 A6 c6,A = some ad ∧ w.cell? (ad.add (i.toNat * 7)) = some (.string (aj xs i).f0) ∧ w.cell? ⟨(ad.add (i.toNat * 7)).block,(ad.add (i.toNat * 7)).off + 1,none⟩ = some (.string (aj xs i).f1) ∧ w.cell? ⟨(ad.add (i.toNat * 7)).block,(ad.add (i.toNat * 7)).off + 2,none⟩ = some (.slice A2 (aj xs i).f2.length c2) ∧ w.cell? ⟨(ad.add (i.toNat * 7)).block,(ad.add (i.toNat * 7)).off + 3,none⟩ = some (.slice A3 (aj xs i).f3.length c3) ∧ w.cell? ⟨(ad.add (i.toNat * 7)).block,(ad.add (i.toNat * 7)).off + 4,none⟩ = some (.int .i64 (aj xs i).f4) ∧ w.cell? ⟨(ad.add (i.toNat * 7)).block,(ad.add (i.toNat * 7)).off + 5,none⟩ = some (.int .i64 (aj xs i).f5) ∧ w.cell? ⟨(ad.add (i.toNat * 7)).block,(ad.add (i.toNat * 7)).off + 6,none⟩ = some (.slice A6 (aj xs i).f6.length c6) ∧ (aj xs i).f2.length ≤ c2 ∧ Kd.string.C w A2 (aj xs i).f2.length (aj xs i).f2 ∧ (aj xs i).f3.length ≤ c3 ∧ k88.C w A3 (aj xs i).f3.length (aj xs i).f3 ∧ (aj xs i).f6.length ≤ c6 ∧ k71.C w A6 (aj xs i).f6.length (aj xs i).f6:=by
 obtain ⟨ad,c,e,_,hK,hc0⟩:=Kd.kr h z69 i h0 h1
 have hc : ∀ j u,c[j]? = some u → w.cell? (ad.add (i.toNat * 7 + j)) = some u:=hc0
 obtain ⟨A2,c2,A3,c3,A6,c6,rfl,l2,g2,l3,g3,l6,g6⟩:=kP hK
 exact ⟨ad,A2,c2,A3,c3,A6,c6,e,hc 0 _ rfl,by rw [← bT _ _ 1 (by omega)];exact hc 1 _ rfl,by rw [← bT _ _ 2 (by omega)];exact hc 2 _ rfl,by rw [← bT _ _ 3 (by omega)];exact hc 3 _ rfl,by rw [← bT _ _ 4 (by omega)];exact hc 4 _ rfl,by rw [← bT _ _ 5 (by omega)];exact hc 5 _ rfl,by rw [← bT _ _ 6 (by omega)];exact hc 6 _ rfl,l2,g2,l3,g3,l6,g6⟩
structure S49 where
 f0 : ByteArray
 f1 : ByteArray
 f2 : Int
 f3 : Int
 f4 : Bool
 f5 : (List S69)
def z49 : S49:=⟨(⟨#[]⟩ : ByteArray),(⟨#[]⟩ : ByteArray),(0 : Int),(0 : Int),false,([] : List S69)⟩
def k49 : Kd S49:=Kd.iso (Kd.pair Kd.string (Kd.pair Kd.string (Kd.pair (Kd.int .i64) (Kd.pair (Kd.int .i64) (Kd.pair Kd.bool (Kd.slice 69 k69)))))) (fun x : S49=>(x.f0,x.f1,x.f2,x.f3,x.f4,x.f5))
theorem vN : Kd.Heap k49:=Kd.jF _ (Kd.fq Kd.gu (Kd.fq Kd.gu (Kd.fq (Kd.iU .i64) (Kd.fq (Kd.iU .i64) (Kd.fq Kd.uy (Kd.jd 69 vM))))))
theorem vO {w : World} {x : S49} {cs : List Value} (h : k49.K w x cs) : ∃ A5 c5,cs = [.string x.f0,.string x.f1,.int .i64 x.f2,.int .i64 x.f3,.bool x.f4,.slice A5 x.f5.length c5] ∧ x.f5.length ≤ c5 ∧ k69.C w A5 x.f5.length x.f5:=by
 obtain ⟨_,_,rfl,rfl,⟨_,_,rfl,rfl,⟨_,_,rfl,rfl,⟨_,_,rfl,rfl,⟨_,_,rfl,rfl,⟨A5,c5,rfl,l5,g5⟩⟩⟩⟩⟩⟩:=h
 exact ⟨A5,c5,rfl,l5,g5⟩
theorem yX (w : World) (x : S49) {A5 : Option Addr} {c5 : Nat} (l5 : x.f5.length ≤ c5) (g5 : k69.C w A5 x.f5.length x.f5) : k49.K w x [.string x.f0,.string x.f1,.int .i64 x.f2,.int .i64 x.f3,.bool x.f4,.slice A5 x.f5.length c5]:=⟨[.string x.f0],[.string x.f1,.int .i64 x.f2,.int .i64 x.f3,.bool x.f4,.slice A5 x.f5.length c5],rfl,rfl,⟨[.string x.f1],[.int .i64 x.f2,.int .i64 x.f3,.bool x.f4,.slice A5 x.f5.length c5],rfl,rfl,⟨[.int .i64 x.f2],[.int .i64 x.f3,.bool x.f4,.slice A5 x.f5.length c5],rfl,rfl,⟨[.int .i64 x.f3],[.bool x.f4,.slice A5 x.f5.length c5],rfl,rfl,⟨[.bool x.f4],[.slice A5 x.f5.length c5],rfl,rfl,⟨A5,c5,rfl,l5,g5⟩⟩⟩⟩⟩⟩
structure S51 where
 f0 : ByteArray
 f1 : S49
def z51 : S51:=⟨(⟨#[]⟩ : ByteArray),z49⟩
def k51 : Kd S51:=Kd.iso (Kd.pair Kd.string k49) (fun x : S51=>(x.f0,x.f1))
theorem mD : Kd.Heap k51:=Kd.jF _ (Kd.fq Kd.gu vN)
theorem oz {w : World} {x : S51} {cs : List Value} (h : k51.K w x cs) : ∃ A6 c6,cs = [.string x.f0,.string x.f1.f0,.string x.f1.f1,.int .i64 x.f1.f2,.int .i64 x.f1.f3,.bool x.f1.f4,.slice A6 x.f1.f5.length c6] ∧ x.f1.f5.length ≤ c6 ∧ k69.C w A6 x.f1.f5.length x.f1.f5:=by
 obtain ⟨_,_,rfl,rfl,s1⟩:=h
 obtain ⟨A6,c6,rfl,l6,g6⟩:=vO s1
 exact ⟨A6,c6,rfl,l6,g6⟩
theorem yY (w : World) (x : S51) {A6 : Option Addr} {c6 : Nat} (l6 : x.f1.f5.length ≤ c6) (g6 : k69.C w A6 x.f1.f5.length x.f1.f5) : k51.K w x [.string x.f0,.string x.f1.f0,.string x.f1.f1,.int .i64 x.f1.f2,.int .i64 x.f1.f3,.bool x.f1.f4,.slice A6 x.f1.f5.length c6]:=⟨[.string x.f0],[.string x.f1.f0,.string x.f1.f1,.int .i64 x.f1.f2,.int .i64 x.f1.f3,.bool x.f1.f4,.slice A6 x.f1.f5.length c6],rfl,rfl,(yX w x.f1 l6 g6)⟩
theorem gN {W : World} {ok : Nat → Prop} {x : S51} {cs : List Value} (h : Kd.FK k51 W ok x cs) : ∃ A6 c6,cs = [.string x.f0,.string x.f1.f0,.string x.f1.f1,.int .i64 x.f1.f2,.int .i64 x.f1.f3,.bool x.f1.f4,.slice A6 x.f1.f5.length c6] ∧ x.f1.f5.length ≤ c6 ∧ Kd.F k69 W ok A6 x.f1.f5.length x.f1.f5:=by
 obtain ⟨A6,c6,rfl,l6,_⟩:=oz (Kd.jq h)
 exact ⟨A6,c6,rfl,l6,(fun W' hW=>by obtain ⟨AZ,Bf,he,Bq,Bg⟩:=oz (h W' hW);injection (Option.some.inj (show some (Value.slice A6 x.f1.f5.length c6) = some (Value.slice AZ x.f1.f5.length Bf) from congrArg (fun l=>l[6]?) he)) with ha_ _ _;rw [ha_];exact Bg)⟩
theorem tH (W : World) (ok : Nat → Prop) (x : S51) {A6 : Option Addr} {c6 : Nat} (l6 : x.f1.f5.length ≤ c6) (g6 : Kd.F k69 W ok A6 x.f1.f5.length x.f1.f5) : Kd.FK k51 W ok x [.string x.f0,.string x.f1.f0,.string x.f1.f1,.int .i64 x.f1.f2,.int .i64 x.f1.f3,.bool x.f1.f4,.slice A6 x.f1.f5.length c6]:=fun W2 hW=>yY W2 x l6 (g6 W2 hW)
def aC (xs : List S51) (i : Int) : S51:=xs.getD i.toNat z51
theorem iA {w : World} {A : Option Addr} {n : Nat} {xs : List S51} (h : Kd.C k51 w A n xs) (i : Int) (h0 : 0 ≤ i) (h1 : i < n) : ∃ ad A6 c6,A = some ad ∧ w.cell? (ad.add (i.toNat * 7)) = some (.string (aC xs i).f0) ∧ w.cell? ⟨(ad.add (i.toNat * 7)).block,(ad.add (i.toNat * 7)).off + 1,none⟩ = some (.string (aC xs i).f1.f0) ∧ w.cell? ⟨(ad.add (i.toNat * 7)).block,(ad.add (i.toNat * 7)).off + 2,none⟩ = some (.string (aC xs i).f1.f1) ∧ w.cell? ⟨(ad.add (i.toNat * 7)).block,(ad.add (i.toNat * 7)).off + 3,none⟩ = some (.int .i64 (aC xs i).f1.f2) ∧ w.cell? ⟨(ad.add (i.toNat * 7)).block,(ad.add (i.toNat * 7)).off + 4,none⟩ = some (.int .i64 (aC xs i).f1.f3) ∧ w.cell? ⟨(ad.add (i.toNat * 7)).block,(ad.add (i.toNat * 7)).off + 5,none⟩ = some (.bool (aC xs i).f1.f4) ∧ w.cell? ⟨(ad.add (i.toNat * 7)).block,(ad.add (i.toNat * 7)).off + 6,none⟩ = some (.slice A6 (aC xs i).f1.f5.length c6) ∧ (aC xs i).f1.f5.length ≤ c6 ∧ k69.C w A6 (aC xs i).f1.f5.length (aC xs i).f1.f5:=by
 obtain ⟨ad,c,e,_,hK,hc0⟩:=Kd.kr h z51 i h0 h1
 have hc : ∀ j u,c[j]? = some u → w.cell? (ad.add (i.toNat * 7 + j)) = some u:=hc0
 obtain ⟨A6,c6,rfl,l6,g6⟩:=oz hK
 exact ⟨ad,A6,c6,e,hc 0 _ rfl,by rw [← bT _ _ 1 (by omega)];exact hc 1 _ rfl,by rw [← bT _ _ 2 (by omega)];exact hc 2 _ rfl,by rw [← bT _ _ 3 (by omega)];exact hc 3 _ rfl,by rw [← bT _ _ 4 (by omega)];exact hc 4 _ rfl,by rw [← bT _ _ 5 (by omega)];exact hc 5 _ rfl,by rw [← bT _ _ 6 (by omega)];exact hc 6 _ rfl,l6,g6⟩
structure S30 where
 f0 : Int
 f1 : ByteArray
 f2 : ByteArray
def z30 : S30:=⟨(0 : Int),(⟨#[]⟩ : ByteArray),(⟨#[]⟩ : ByteArray)⟩
def k30 : Kd S30:=Kd.iso (Kd.pair (Kd.int .i64) (Kd.pair Kd.string Kd.string)) (fun x : S30=>(x.f0,x.f1,x.f2))
theorem vP {w : World} {x : S30} {cs : List Value} (h : k30.K w x cs) : cs = [.int .i64 x.f0,.string x.f1,.string x.f2]:=by
 obtain ⟨_,_,rfl,rfl,⟨_,_,rfl,rfl,rfl⟩⟩:=h
 exact rfl
theorem qF (w : World) (base : Nat) (ok : Nat → Prop) (x : S30)  : k30.M w base ok x [.int .i64 x.f0,.string x.f1,.string x.f2]:=⟨[.int .i64 x.f0],[.string x.f1,.string x.f2],rfl,rfl,⟨[.string x.f1],[.string x.f2],rfl,rfl,rfl⟩⟩
def eT (xs : List S30) (i : Int) : S30:=xs.getD i.toNat z30
theorem lN {w : World} {A : Option Addr} {n : Nat} {xs : List S30} (h : Kd.C k30 w A n xs) (i : Int) (h0 : 0 ≤ i) (h1 : i < n) : ∃ ad ,A = some ad ∧ w.cell? (ad.add (i.toNat * 3)) = some (.int .i64 (eT xs i).f0) ∧ w.cell? ⟨(ad.add (i.toNat * 3)).block,(ad.add (i.toNat * 3)).off + 1,none⟩ = some (.string (eT xs i).f1) ∧ w.cell? ⟨(ad.add (i.toNat * 3)).block,(ad.add (i.toNat * 3)).off + 2,none⟩ = some (.string (eT xs i).f2):=by
 obtain ⟨ad,c,e,_,hK,hc0⟩:=Kd.kr h z30 i h0 h1
 have hc : ∀ j u,c[j]? = some u → w.cell? (ad.add (i.toNat * 3 + j)) = some u:=hc0
 obtain rfl:=vP hK
 exact ⟨ad,e,hc 0 _ rfl,by rw [← bT _ _ 1 (by omega)];exact hc 1 _ rfl,by rw [← bT _ _ 2 (by omega)];exact hc 2 _ rfl⟩
structure S25 where
 f0 : Int
 f1 : (List S51)
def k25 : Kd S25:=Kd.iso (Kd.pair (Kd.int .u64) (Kd.slice 51 k51)) (fun x : S25=>(x.f0,x.f1))
theorem rC {w : World} {x : S25} {cs : List Value} (h : k25.K w x cs) : ∃ A1 c1,cs = [.int .u64 x.f0,.slice A1 x.f1.length c1] ∧ x.f1.length ≤ c1 ∧ k51.C w A1 x.f1.length x.f1:=by
 obtain ⟨_,_,rfl,rfl,⟨A1,c1,rfl,l1,g1⟩⟩:=h
 exact ⟨A1,c1,rfl,l1,g1⟩
structure S131 where
 f0 : ByteArray
 f1 : ByteArray
 f2 : ByteArray
 f3 : Int
def AJ : Kd S131:=Kd.iso (Kd.pair Kd.string (Kd.pair Kd.string (Kd.pair Kd.string (Kd.int .u8)))) (fun x : S131=>(x.f0,x.f1,x.f2,x.f3))
structure S109 where
 f0 : Int
 f1 : (List S131)
structure S43 where
 f0 : Int
 f1 : ByteArray
 f2 : ByteArray
def z43 : S43:=⟨(0 : Int),(⟨#[]⟩ : ByteArray),(⟨#[]⟩ : ByteArray)⟩
def k43 : Kd S43:=Kd.iso (Kd.pair (Kd.int .i64) (Kd.pair Kd.string Kd.string)) (fun x : S43=>(x.f0,x.f1,x.f2))
theorem vQ {w : World} {x : S43} {cs : List Value} (h : k43.K w x cs) : cs = [.int .i64 x.f0,.string x.f1,.string x.f2]:=by
 obtain ⟨_,_,rfl,rfl,⟨_,_,rfl,rfl,rfl⟩⟩:=h
 exact rfl
theorem jM (w : World) (base : Nat) (ok : Nat → Prop) (x : S43)  : k43.M w base ok x [.int .i64 x.f0,.string x.f1,.string x.f2]:=⟨[.int .i64 x.f0],[.string x.f1,.string x.f2],rfl,rfl,⟨[.string x.f1],[.string x.f2],rfl,rfl,rfl⟩⟩
def dU (xs : List S43) (i : Int) : S43:=xs.getD i.toNat z43
theorem oC {w : World} {A : Option Addr} {n : Nat} {xs : List S43} (h : Kd.C k43 w A n xs) (i : Int) (h0 : 0 ≤ i) (h1 : i < n) : ∃ ad ,A = some ad ∧ w.cell? (ad.add (i.toNat * 3)) = some (.int .i64 (dU xs i).f0) ∧ w.cell? ⟨(ad.add (i.toNat * 3)).block,(ad.add (i.toNat * 3)).off + 1,none⟩ = some (.string (dU xs i).f1) ∧ w.cell? ⟨(ad.add (i.toNat * 3)).block,(ad.add (i.toNat * 3)).off + 2,none⟩ = some (.string (dU xs i).f2):=by
 obtain ⟨ad,c,e,_,hK,hc0⟩:=Kd.kr h z43 i h0 h1
 have hc : ∀ j u,c[j]? = some u → w.cell? (ad.add (i.toNat * 3 + j)) = some u:=hc0
 obtain rfl:=vQ hK
 exact ⟨ad,e,hc 0 _ rfl,by rw [← bT _ _ 1 (by omega)];exact hc 1 _ rfl,by rw [← bT _ _ 2 (by omega)];exact hc 2 _ rfl⟩
structure S84 where
 f0 : Int
 f1 : Int
def z84 : S84:=⟨(0 : Int),(0 : Int)⟩
def k84 : Kd S84:=Kd.iso (Kd.pair (Kd.int .i64) (Kd.int .i64)) (fun x : S84=>(x.f0,x.f1))
theorem vR {w : World} {x : S84} {cs : List Value} (h : k84.K w x cs) : cs = [.int .i64 x.f0,.int .i64 x.f1]:=by
 obtain ⟨_,_,rfl,rfl,rfl⟩:=h
 exact rfl
theorem xG (w : World) (base : Nat) (ok : Nat → Prop) (x : S84)  : k84.M w base ok x [.int .i64 x.f0,.int .i64 x.f1]:=⟨[.int .i64 x.f0],[.int .i64 x.f1],rfl,rfl,rfl⟩
def kQ (xs : List S84) (i : Int) : S84:=xs.getD i.toNat z84
theorem vS {w : World} {A : Option Addr} {n : Nat} {xs : List S84} (h : Kd.C k84 w A n xs) (i : Int) (h0 : 0 ≤ i) (h1 : i < n) : ∃ ad ,A = some ad ∧ w.cell? (ad.add (i.toNat * 2)) = some (.int .i64 (kQ xs i).f0) ∧ w.cell? ⟨(ad.add (i.toNat * 2)).block,(ad.add (i.toNat * 2)).off + 1,none⟩ = some (.int .i64 (kQ xs i).f1):=by
 obtain ⟨ad,c,e,_,hK,hc0⟩:=Kd.kr h z84 i h0 h1
 have hc : ∀ j u,c[j]? = some u → w.cell? (ad.add (i.toNat * 2 + j)) = some u:=hc0
 obtain rfl:=vR hK
 exact ⟨ad,e,hc 0 _ rfl,by rw [← bT _ _ 1 (by omega)];exact hc 1 _ rfl⟩
structure S85 where
 f0 : ByteArray
 f1 : ByteArray
def z85 : S85:=⟨(⟨#[]⟩ : ByteArray),(⟨#[]⟩ : ByteArray)⟩
def k85 : Kd S85:=Kd.iso (Kd.pair Kd.string Kd.string) (fun x : S85=>(x.f0,x.f1))
theorem vT {w : World} {x : S85} {cs : List Value} (h : k85.K w x cs) : cs = [.string x.f0,.string x.f1]:=by
 obtain ⟨_,_,rfl,rfl,rfl⟩:=h
 exact rfl
theorem xH (w : World) (base : Nat) (ok : Nat → Prop) (x : S85)  : k85.M w base ok x [.string x.f0,.string x.f1]:=⟨[.string x.f0],[.string x.f1],rfl,rfl,rfl⟩
def kR (xs : List S85) (i : Int) : S85:=xs.getD i.toNat z85
theorem vU {w : World} {A : Option Addr} {n : Nat} {xs : List S85} (h : Kd.C k85 w A n xs) (i : Int) (h0 : 0 ≤ i) (h1 : i < n) : ∃ ad ,A = some ad ∧ w.cell? (ad.add (i.toNat * 2)) = some (.string (kR xs i).f0) ∧ w.cell? ⟨(ad.add (i.toNat * 2)).block,(ad.add (i.toNat * 2)).off + 1,none⟩ = some (.string (kR xs i).f1):=by
 obtain ⟨ad,c,e,_,hK,hc0⟩:=Kd.kr h z85 i h0 h1
 have hc : ∀ j u,c[j]? = some u → w.cell? (ad.add (i.toNat * 2 + j)) = some u:=hc0
 obtain rfl:=vT hK
 exact ⟨ad,e,hc 0 _ rfl,by rw [← bT _ _ 1 (by omega)];exact hc 1 _ rfl⟩
structure S81 where
 f0 : ByteArray
 f1 : ByteArray
 f2 : (List ByteArray)
 f3 : (List S84)
 f4 : Int
 f5 : Int
 f6 : (List S85)
def z81 : S81:=⟨(⟨#[]⟩ : ByteArray),(⟨#[]⟩ : ByteArray),([] : List ByteArray),([] : List S84),(0 : Int),(0 : Int),([] : List S85)⟩
def k81 : Kd S81:=Kd.iso (Kd.pair Kd.string (Kd.pair Kd.string (Kd.pair (Kd.slice 9 Kd.string) (Kd.pair (Kd.slice 84 k84) (Kd.pair (Kd.int .i64) (Kd.pair (Kd.int .i64) (Kd.slice 85 k85))))))) (fun x : S81=>(x.f0,x.f1,x.f2,x.f3,x.f4,x.f5,x.f6))
theorem vV {w : World} {x : S81} {cs : List Value} (h : k81.K w x cs) : ∃ A2 c2 A3 c3 A6 c6,cs = [.string x.f0,.string x.f1,.slice A2 x.f2.length c2,.slice A3 x.f3.length c3,.int .i64 x.f4,.int .i64 x.f5,.slice A6 x.f6.length c6] ∧ x.f2.length ≤ c2 ∧ Kd.string.C w A2 x.f2.length x.f2 ∧ x.f3.length ≤ c3 ∧ k84.C w A3 x.f3.length x.f3 ∧ x.f6.length ≤ c6 ∧ k85.C w A6 x.f6.length x.f6:=by
 obtain ⟨_,_,rfl,rfl,⟨_,_,rfl,rfl,⟨_,_,rfl,⟨A2,c2,rfl,l2,g2⟩,⟨_,_,rfl,⟨A3,c3,rfl,l3,g3⟩,⟨_,_,rfl,rfl,⟨_,_,rfl,rfl,⟨A6,c6,rfl,l6,g6⟩⟩⟩⟩⟩⟩⟩:=h
 exact ⟨A2,c2,A3,c3,A6,c6,rfl,l2,g2,l3,g3,l6,g6⟩
theorem yZ (w : World) (x : S81) {A2 : Option Addr} {c2 : Nat} (l2 : x.f2.length ≤ c2) (g2 : Kd.string.C w A2 x.f2.length x.f2) {A3 : Option Addr} {c3 : Nat} (l3 : x.f3.length ≤ c3) (g3 : k84.C w A3 x.f3.length x.f3) {A6 : Option Addr} {c6 : Nat} (l6 : x.f6.length ≤ c6) (g6 : k85.C w A6 x.f6.length x.f6) : k81.K w x [.string x.f0,.string x.f1,.slice A2 x.f2.length c2,.slice A3 x.f3.length c3,.int .i64 x.f4,.int .i64 x.f5,.slice A6 x.f6.length c6]:=⟨[.string x.f0],[.string x.f1,.slice A2 x.f2.length c2,.slice A3 x.f3.length c3,.int .i64 x.f4,.int .i64 x.f5,.slice A6 x.f6.length c6],rfl,rfl,⟨[.string x.f1],[.slice A2 x.f2.length c2,.slice A3 x.f3.length c3,.int .i64 x.f4,.int .i64 x.f5,.slice A6 x.f6.length c6],rfl,rfl,⟨[.slice A2 x.f2.length c2],[.slice A3 x.f3.length c3,.int .i64 x.f4,.int .i64 x.f5,.slice A6 x.f6.length c6],rfl,⟨A2,c2,rfl,l2,g2⟩,⟨[.slice A3 x.f3.length c3],[.int .i64 x.f4,.int .i64 x.f5,.slice A6 x.f6.length c6],rfl,⟨A3,c3,rfl,l3,g3⟩,⟨[.int .i64 x.f4],[.int .i64 x.f5,.slice A6 x.f6.length c6],rfl,rfl,⟨[.int .i64 x.f5],[.slice A6 x.f6.length c6],rfl,rfl,⟨A6,c6,rfl,l6,g6⟩⟩⟩⟩⟩⟩⟩
theorem xI (W : World) (ok : Nat → Prop) (x : S81) {A2 : Option Addr} {c2 : Nat} (l2 : x.f2.length ≤ c2) (g2 : Kd.F Kd.string W ok A2 x.f2.length x.f2) {A3 : Option Addr} {c3 : Nat} (l3 : x.f3.length ≤ c3) (g3 : Kd.F k84 W ok A3 x.f3.length x.f3) {A6 : Option Addr} {c6 : Nat} (l6 : x.f6.length ≤ c6) (g6 : Kd.F k85 W ok A6 x.f6.length x.f6) : Kd.FK k81 W ok x [.string x.f0,.string x.f1,.slice A2 x.f2.length c2,.slice A3 x.f3.length c3,.int .i64 x.f4,.int .i64 x.f5,.slice A6 x.f6.length c6]:=fun W2 hW=>yZ W2 x l2 (g2 W2 hW) l3 (g3 W2 hW) l6 (g6 W2 hW)
def gX (xs : List S81) (i : Int) : S81:=xs.getD i.toNat z81
theorem vW {w : World} {A : Option Addr} {n : Nat} {xs : List S81} (h : Kd.C k81 w A n xs) (i : Int) (h0 : 0 ≤ i) (h1 : i < n) : ∃ ad A2 c2 A3 c3 A6 c6,A = some ad ∧ w.cell? (ad.add (i.toNat * 7)) = some (.string (gX xs i).f0) ∧ w.cell? ⟨(ad.add (i.toNat * 7)).block,(ad.add (i.toNat * 7)).off + 1,none⟩ = some (.string (gX xs i).f1) ∧ w.cell? ⟨(ad.add (i.toNat * 7)).block,(ad.add (i.toNat * 7)).off + 2,none⟩ = some (.slice A2 (gX xs i).f2.length c2) ∧ w.cell? ⟨(ad.add (i.toNat * 7)).block,(ad.add (i.toNat * 7)).off + 3,none⟩ = some (.slice A3 (gX xs i).f3.length c3) ∧ w.cell? ⟨(ad.add (i.toNat * 7)).block,(ad.add (i.toNat * 7)).off + 4,none⟩ = some (.int .i64 (gX xs i).f4) ∧ w.cell? ⟨(ad.add (i.toNat * 7)).block,(ad.add (i.toNat * 7)).off + 5,none⟩ = some (.int .i64 (gX xs i).f5) ∧ w.cell? ⟨(ad.add (i.toNat * 7)).block,(ad.add (i.toNat * 7)).off + 6,none⟩ = some (.slice A6 (gX xs i).f6.length c6) ∧ (gX xs i).f2.length ≤ c2 ∧ Kd.string.C w A2 (gX xs i).f2.length (gX xs i).f2 ∧ (gX xs i).f3.length ≤ c3 ∧ k84.C w A3 (gX xs i).f3.length (gX xs i).f3 ∧ (gX xs i).f6.length ≤ c6 ∧ k85.C w A6 (gX xs i).f6.length (gX xs i).f6:=by
 obtain ⟨ad,c,e,_,hK,hc0⟩:=Kd.kr h z81 i h0 h1
 have hc : ∀ j u,c[j]? = some u → w.cell? (ad.add (i.toNat * 7 + j)) = some u:=hc0
 obtain ⟨A2,c2,A3,c3,A6,c6,rfl,l2,g2,l3,g3,l6,g6⟩:=vV hK
 exact ⟨ad,A2,c2,A3,c3,A6,c6,e,hc 0 _ rfl,by rw [← bT _ _ 1 (by omega)];exact hc 1 _ rfl,by rw [← bT _ _ 2 (by omega)];exact hc 2 _ rfl,by rw [← bT _ _ 3 (by omega)];exact hc 3 _ rfl,by rw [← bT _ _ 4 (by omega)];exact hc 4 _ rfl,by rw [← bT _ _ 5 (by omega)];exact hc 5 _ rfl,by rw [← bT _ _ 6 (by omega)];exact hc 6 _ rfl,l2,g2,l3,g3,l6,g6⟩
structure S57 where
 f0 : ByteArray
 f1 : ByteArray
 f2 : Int
 f3 : Int
 f4 : Bool
 f5 : (List S81)
def z57 : S57:=⟨(⟨#[]⟩ : ByteArray),(⟨#[]⟩ : ByteArray),(0 : Int),(0 : Int),false,([] : List S81)⟩
def k57 : Kd S57:=Kd.iso (Kd.pair Kd.string (Kd.pair Kd.string (Kd.pair (Kd.int .i64) (Kd.pair (Kd.int .i64) (Kd.pair Kd.bool (Kd.slice 81 k81)))))) (fun x : S57=>(x.f0,x.f1,x.f2,x.f3,x.f4,x.f5))
theorem vX {w : World} {x : S57} {cs : List Value} (h : k57.K w x cs) : ∃ A5 c5,cs = [.string x.f0,.string x.f1,.int .i64 x.f2,.int .i64 x.f3,.bool x.f4,.slice A5 x.f5.length c5] ∧ x.f5.length ≤ c5 ∧ k81.C w A5 x.f5.length x.f5:=by
 obtain ⟨_,_,rfl,rfl,⟨_,_,rfl,rfl,⟨_,_,rfl,rfl,⟨_,_,rfl,rfl,⟨_,_,rfl,rfl,⟨A5,c5,rfl,l5,g5⟩⟩⟩⟩⟩⟩:=h
 exact ⟨A5,c5,rfl,l5,g5⟩
theorem za (w : World) (x : S57) {A5 : Option Addr} {c5 : Nat} (l5 : x.f5.length ≤ c5) (g5 : k81.C w A5 x.f5.length x.f5) : k57.K w x [.string x.f0,.string x.f1,.int .i64 x.f2,.int .i64 x.f3,.bool x.f4,.slice A5 x.f5.length c5]:=⟨[.string x.f0],[.string x.f1,.int .i64 x.f2,.int .i64 x.f3,.bool x.f4,.slice A5 x.f5.length c5],rfl,rfl,⟨[.string x.f1],[.int .i64 x.f2,.int .i64 x.f3,.bool x.f4,.slice A5 x.f5.length c5],rfl,rfl,⟨[.int .i64 x.f2],[.int .i64 x.f3,.bool x.f4,.slice A5 x.f5.length c5],rfl,rfl,⟨[.int .i64 x.f3],[.bool x.f4,.slice A5 x.f5.length c5],rfl,rfl,⟨[.bool x.f4],[.slice A5 x.f5.length c5],rfl,rfl,⟨A5,c5,rfl,l5,g5⟩⟩⟩⟩⟩⟩
structure S59 where
 f0 : ByteArray
 f1 : S57
def z59 : S59:=⟨(⟨#[]⟩ : ByteArray),z57⟩
def k59 : Kd S59:=Kd.iso (Kd.pair Kd.string k57) (fun x : S59=>(x.f0,x.f1))
theorem vY {w : World} {x : S59} {cs : List Value} (h : k59.K w x cs) : ∃ A6 c6,cs = [.string x.f0,.string x.f1.f0,.string x.f1.f1,.int .i64 x.f1.f2,.int .i64 x.f1.f3,.bool x.f1.f4,.slice A6 x.f1.f5.length c6] ∧ x.f1.f5.length ≤ c6 ∧ k81.C w A6 x.f1.f5.length x.f1.f5:=by
 obtain ⟨_,_,rfl,rfl,s1⟩:=h
 obtain ⟨A6,c6,rfl,l6,g6⟩:=vX s1
 exact ⟨A6,c6,rfl,l6,g6⟩
theorem ze (w : World) (x : S59) {A6 : Option Addr} {c6 : Nat} (l6 : x.f1.f5.length ≤ c6) (g6 : k81.C w A6 x.f1.f5.length x.f1.f5) : k59.K w x [.string x.f0,.string x.f1.f0,.string x.f1.f1,.int .i64 x.f1.f2,.int .i64 x.f1.f3,.bool x.f1.f4,.slice A6 x.f1.f5.length c6]:=⟨[.string x.f0],[.string x.f1.f0,.string x.f1.f1,.int .i64 x.f1.f2,.int .i64 x.f1.f3,.bool x.f1.f4,.slice A6 x.f1.f5.length c6],rfl,rfl,(za w x.f1 l6 g6)⟩
theorem xJ (W : World) (ok : Nat → Prop) (x : S59) {A6 : Option Addr} {c6 : Nat} (l6 : x.f1.f5.length ≤ c6) (g6 : Kd.F k81 W ok A6 x.f1.f5.length x.f1.f5) : Kd.FK k59 W ok x [.string x.f0,.string x.f1.f0,.string x.f1.f1,.int .i64 x.f1.f2,.int .i64 x.f1.f3,.bool x.f1.f4,.slice A6 x.f1.f5.length c6]:=fun W2 hW=>ze W2 x l6 (g6 W2 hW)
def aJ (xs : List S59) (i : Int) : S59:=xs.getD i.toNat z59
theorem jR {w : World} {A : Option Addr} {n : Nat} {xs : List S59} (h : Kd.C k59 w A n xs) (i : Int) (h0 : 0 ≤ i) (h1 : i < n) : ∃ ad A6 c6,A = some ad ∧ w.cell? (ad.add (i.toNat * 7)) = some (.string (aJ xs i).f0) ∧ w.cell? ⟨(ad.add (i.toNat * 7)).block,(ad.add (i.toNat * 7)).off + 1,none⟩ = some (.string (aJ xs i).f1.f0) ∧ w.cell? ⟨(ad.add (i.toNat * 7)).block,(ad.add (i.toNat * 7)).off + 2,none⟩ = some (.string (aJ xs i).f1.f1) ∧ w.cell? ⟨(ad.add (i.toNat * 7)).block,(ad.add (i.toNat * 7)).off + 3,none⟩ = some (.int .i64 (aJ xs i).f1.f2) ∧ w.cell? ⟨(ad.add (i.toNat * 7)).block,(ad.add (i.toNat * 7)).off + 4,none⟩ = some (.int .i64 (aJ xs i).f1.f3) ∧ w.cell? ⟨(ad.add (i.toNat * 7)).block,(ad.add (i.toNat * 7)).off + 5,none⟩ = some (.bool (aJ xs i).f1.f4) ∧ w.cell? ⟨(ad.add (i.toNat * 7)).block,(ad.add (i.toNat * 7)).off + 6,none⟩ = some (.slice A6 (aJ xs i).f1.f5.length c6) ∧ (aJ xs i).f1.f5.length ≤ c6 ∧ k81.C w A6 (aJ xs i).f1.f5.length (aJ xs i).f1.f5:=by
 obtain ⟨ad,c,e,_,hK,hc0⟩:=Kd.kr h z59 i h0 h1
 have hc : ∀ j u,c[j]? = some u → w.cell? (ad.add (i.toNat * 7 + j)) = some u:=hc0
 obtain ⟨A6,c6,rfl,l6,g6⟩:=vY hK
 exact ⟨ad,A6,c6,e,hc 0 _ rfl,by rw [← bT _ _ 1 (by omega)];exact hc 1 _ rfl,by rw [← bT _ _ 2 (by omega)];exact hc 2 _ rfl,by rw [← bT _ _ 3 (by omega)];exact hc 3 _ rfl,by rw [← bT _ _ 4 (by omega)];exact hc 4 _ rfl,by rw [← bT _ _ 5 (by omega)];exact hc 5 _ rfl,by rw [← bT _ _ 6 (by omega)];exact hc 6 _ rfl,l6,g6⟩
structure S38 where
 f0 : Int
 f1 : (List S59)
end Go.Proofs.YtpflenjhmeaeoaaGreatDoor.GUt
