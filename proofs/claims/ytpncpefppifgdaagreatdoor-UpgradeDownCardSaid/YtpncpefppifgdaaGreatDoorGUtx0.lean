/- Written by this session's own program (wip/gen.py) out of the translation: plain Lean functions of the Go functions, and proofs that the calls come to their answers. No conditions beside those in the statements. -/
import Derived.Test.YtpncpefppifgdaaGreatDoorProg
import Derived.Below
import Derived.Deep.Draws
import Derived.Deep.AppendLies
import Derived.Maps.AppendAt
import Derived.OwnWalk
import Derived.Laws.BytesArg
import Derived.Laws.MakeOwn
import Derived.Laws.OwnMore
import Derived.Deep.OwnRows
import Derived.Tactics
import Derived.Lib.ConvBytes
import Derived.Laws.Slices
import Derived.WalkKit
import Derived.KernelRfl
import Derived.RowKit3
import Derived.Deep.LoopGhost
import Derived.Deep.QuietTactic
import Derived.BigQuiet
import Derived.WideLaws
import Derived.Deep.DeepCutAuto
import Derived.Deep.CutBlock
import Derived.Deep.RegionHeld3
import Derived.Laws.Rows
import Derived.Lib.AppendStr
import Derived.ArgAppend
import Derived.Laws.IdiomCopy
import Derived.OrdersHeld
import Derived.Laws.BitsLemmas
import Derived.RowKit
import Derived.Test.YtpncpefppifgdaaGreatDoorWd
namespace Go.Proofs.YtpncpefppifgdaaGreatDoor.GUt
open Go.RowKit Go.Proofs.YtpncpefppifgdaaGreatDoorW.PrintWords Go.Proofs.YtpncpefppifgdaaGreatDoorW.PrintLast Go.Proofs.YtpncpefppifgdaaGreatDoorW.PrintMore
attribute [local go_sem] fH fI gF gG eZ fq fJ fK
set_option linter.unusedVariables false
set_option linter.unusedSimpArgs false
def Ah : Option Int → Value
 | none=>.nilIface
 | some c=>.iface 0 (.int .i64 c)
theorem bg : Ah none = .nilIface:=rfl
theorem bA (c : Int) : Ah (some c) = .iface 0 (.int .i64 c):=rfl
theorem dK {x : Int} (h0 : 0 ≤ x) (h1 : x ≤ 18446744073709551615) : IntKind.u64.wrap x = x:=by simp [IntKind.wrap,IntKind.bits,IntKind.signed];omega
theorem bW {x : Int} (h0 : -9223372036854775808 ≤ x) (h1 : x ≤ 9223372036854775807) : wrap64 x = x:=by unfold wrap64;omega
theorem cZ (l : List UInt8) : (l != []) = !l.isEmpty:=by cases l <;> rfl
theorem eG {x : Int} (h0 : 0 ≤ x) (h1 : x ≤ 255) : x % 256 = x:=by omega
theorem rU : ∀ x y : List UInt8,(Op.bytesLess x y || x == y) = !(Op.bytesLess y x)
 | [],[]=>rfl
 | [],_ :: _=>rfl
 | _ :: _,[]=>rfl
 | a :: x,b :: y=>by
  have ih:=rU x y
  simp only [Op.bytesLess,List.cons_beq_cons]
  rcases Nat.lt_trichotomy a.toNat b.toNat with h|h|h
  ·have h1 : a < b:=h
   have h2 : ¬ b < a:=fun e=>by have : b.toNat < a.toNat:=e;omega
   have h3 : ¬ b = a:=fun e=>by subst e;omega
   simp [h1,h2,h3]
  ·obtain rfl : a = b:=UInt8.toNat_inj.1 h
   simpa using ih
  ·have h1 : b < a:=h
   have h2 : ¬ a < b:=fun e=>by have : a.toNat < b.toNat:=e;omega
   have h3 : ¬ b = a:=fun e=>by subst e;omega
   have h4 : ¬ a = b:=fun e=>by subst e;omega
   simp [h1,h2,h3,h4]
@[go_sem] theorem AV (t : TypeId) (a b : ByteArray) : binOp .leq t (.string a) (.string b) = pure (.bool (!(Op.bytesLess b.toList a.toList))):=by
 rw [← rU];simp [binOp,Op.stringOp]
@[go_sem] theorem AX (t : TypeId) (a b : ByteArray) : binOp .gtr t (.string a) (.string b) = pure (.bool (Op.bytesLess b.toList a.toList)):=by
 have e : binOp .gtr t (.string a) (.string b) = pure (.bool (!(Op.bytesLess a.toList b.toList || a.toList == b.toList))):=by simp [binOp,Op.stringOp]
 rw [e,rU,Bool.not_not]
@[go_sem] theorem AY (t : TypeId) (a b : ByteArray) : binOp .geq t (.string a) (.string b) = pure (.bool (!(Op.bytesLess a.toList b.toList))):=by simp [binOp,Op.stringOp]
theorem info5 : (Tryz.prog.info? 5).map (fun i=>(i.zero,i.size,i.bytes)) = some (some (.int .u8 0),1,1):=by kernel_rfl
theorem vH : (Tryz.prog.info? 88).map (fun i=>(i.zero,i.size,i.bytes)) = some (some (.agg #[(.string ⟨#[]⟩),(.string ⟨#[]⟩),(.string ⟨#[]⟩),(.int .u8 0),(.int .u16 0),(.slice none 0 0)]),6,80):=by kernel_rfl
theorem vI : (Tryz.prog.info? 89).map (fun i=>(i.zero,i.size,i.bytes)) = some (some (.agg #[(.string ⟨#[]⟩),(.string ⟨#[]⟩)]),2,32):=by kernel_rfl
structure S67 where
 f0 : ByteArray
 f1 : ByteArray
 f2 : ByteArray
 f3 : Int
def z67 : S67:=⟨(⟨#[]⟩ : ByteArray),(⟨#[]⟩ : ByteArray),(⟨#[]⟩ : ByteArray),(0 : Int)⟩
def k67 : Kd S67:=Kd.iso (Kd.pair Kd.string (Kd.pair Kd.string (Kd.pair Kd.string (Kd.int .u8)))) (fun x : S67=>(x.f0,x.f1,x.f2,x.f3))
theorem vJ {w : World} {x : S67} {cs : List Value} (h : k67.K w x cs) : cs = [.string x.f0,.string x.f1,.string x.f2,.int .u8 x.f3]:=by
 obtain ⟨_,_,rfl,rfl,⟨_,_,rfl,rfl,⟨_,_,rfl,rfl,rfl⟩⟩⟩:=h
 exact rfl
theorem xC (w : World) (base : Nat) (ok : Nat → Prop) (x : S67)  : k67.M w base ok x [.string x.f0,.string x.f1,.string x.f2,.int .u8 x.f3]:=⟨[.string x.f0],[.string x.f1,.string x.f2,.int .u8 x.f3],rfl,rfl,⟨[.string x.f1],[.string x.f2,.int .u8 x.f3],rfl,rfl,⟨[.string x.f2],[.int .u8 x.f3],rfl,rfl,rfl⟩⟩⟩
def jU (xs : List S67) (i : Int) : S67:=xs.getD i.toNat z67
theorem zi {w : World} {A : Option Addr} {n : Nat} {xs : List S67} (h : Kd.C k67 w A n xs) (i : Int) (h0 : 0 ≤ i) (h1 : i < n) : ∃ ad ,A = some ad ∧ w.cell? (ad.add (i.toNat * 4)) = some (.string (jU xs i).f0) ∧ w.cell? ⟨(ad.add (i.toNat * 4)).block,(ad.add (i.toNat * 4)).off + 1,none⟩ = some (.string (jU xs i).f1) ∧ w.cell? ⟨(ad.add (i.toNat * 4)).block,(ad.add (i.toNat * 4)).off + 2,none⟩ = some (.string (jU xs i).f2) ∧ w.cell? ⟨(ad.add (i.toNat * 4)).block,(ad.add (i.toNat * 4)).off + 3,none⟩ = some (.int .u8 (jU xs i).f3):=by
 obtain ⟨ad,c,e,_,hK,hc0⟩:=Kd.jN h z67 i h0 h1
 have hc : ∀ j u,c[j]? = some u → w.cell? (ad.add (i.toNat * 4 + j)) = some u:=hc0
 obtain rfl:=vJ hK
 exact ⟨ad,e,hc 0 _ rfl,by rw [← bM _ _ 1 (by omega)];exact hc 1 _ rfl,by rw [← bM _ _ 2 (by omega)];exact hc 2 _ rfl,by rw [← bM _ _ 3 (by omega)];exact hc 3 _ rfl⟩
structure S25 where
 f0 : Int
 f1 : (List S67)
structure S126 where
 f0 : Int
 f1 : Int
def Ai : S126:=⟨(0 : Int),(0 : Int)⟩
def jG : Kd S126:=Kd.iso (Kd.pair (Kd.int .i64) (Kd.int .i64)) (fun x : S126=>(x.f0,x.f1))
theorem uy : Kd.Heap jG:=Kd.jv _ (Kd.eO (Kd.iN .i64) (Kd.iN .i64))
theorem uz {w : World} {x : S126} {cs : List Value} (h : jG.K w x cs) : cs = [.int .i64 x.f0,.int .i64 x.f1]:=by
 obtain ⟨_,_,rfl,rfl,rfl⟩:=h
 exact rfl
def gu (xs : List S126) (i : Int) : S126:=xs.getD i.toNat Ai
theorem mI {w : World} {A : Option Addr} {n : Nat} {xs : List S126} (h : Kd.C jG w A n xs) (i : Int) (h0 : 0 ≤ i) (h1 : i < n) : ∃ ad ,A = some ad ∧ w.cell? (ad.add (i.toNat * 2)) = some (.int .i64 (gu xs i).f0) ∧ w.cell? ⟨(ad.add (i.toNat * 2)).block,(ad.add (i.toNat * 2)).off + 1,none⟩ = some (.int .i64 (gu xs i).f1):=by
 obtain ⟨ad,c,e,_,hK,hc0⟩:=Kd.jN h Ai i h0 h1
 have hc : ∀ j u,c[j]? = some u → w.cell? (ad.add (i.toNat * 2 + j)) = some u:=hc0
 obtain rfl:=uz hK
 exact ⟨ad,e,hc 0 _ rfl,by rw [← bM _ _ 1 (by omega)];exact hc 1 _ rfl⟩
structure S127 where
 f0 : ByteArray
 f1 : ByteArray
def z127 : S127:=⟨(⟨#[]⟩ : ByteArray),(⟨#[]⟩ : ByteArray)⟩
def jH : Kd S127:=Kd.iso (Kd.pair Kd.string Kd.string) (fun x : S127=>(x.f0,x.f1))
theorem uD : Kd.Heap jH:=Kd.jv _ (Kd.eO Kd.fG Kd.fG)
theorem uE {w : World} {x : S127} {cs : List Value} (h : jH.K w x cs) : cs = [.string x.f0,.string x.f1]:=by
 obtain ⟨_,_,rfl,rfl,rfl⟩:=h
 exact rfl
def fC (xs : List S127) (i : Int) : S127:=xs.getD i.toNat z127
theorem lJ {w : World} {A : Option Addr} {n : Nat} {xs : List S127} (h : Kd.C jH w A n xs) (i : Int) (h0 : 0 ≤ i) (h1 : i < n) : ∃ ad ,A = some ad ∧ w.cell? (ad.add (i.toNat * 2)) = some (.string (fC xs i).f0) ∧ w.cell? ⟨(ad.add (i.toNat * 2)).block,(ad.add (i.toNat * 2)).off + 1,none⟩ = some (.string (fC xs i).f1):=by
 obtain ⟨ad,c,e,_,hK,hc0⟩:=Kd.jN h z127 i h0 h1
 have hc : ∀ j u,c[j]? = some u → w.cell? (ad.add (i.toNat * 2 + j)) = some u:=hc0
 obtain rfl:=uE hK
 exact ⟨ad,e,hc 0 _ rfl,by rw [← bM _ _ 1 (by omega)];exact hc 1 _ rfl⟩
structure S84 where
 f0 : ByteArray
 f1 : ByteArray
 f2 : (List ByteArray)
 f3 : (List S126)
 f4 : Int
 f5 : Int
 f6 : (List S127)
def z84 : S84:=⟨(⟨#[]⟩ : ByteArray),(⟨#[]⟩ : ByteArray),([] : List ByteArray),([] : List S126),(0 : Int),(0 : Int),([] : List S127)⟩
def k84 : Kd S84:=Kd.iso (Kd.pair Kd.string (Kd.pair Kd.string (Kd.pair (Kd.slice 9 Kd.string) (Kd.pair (Kd.slice 126 jG) (Kd.pair (Kd.int .i64) (Kd.pair (Kd.int .i64) (Kd.slice 127 jH))))))) (fun x : S84=>(x.f0,x.f1,x.f2,x.f3,x.f4,x.f5,x.f6))
theorem vK : Kd.Heap k84:=Kd.jv _ (Kd.eO Kd.fG (Kd.eO Kd.fG (Kd.eO (Kd.iW 9 Kd.fG) (Kd.eO (Kd.iW 126 uy) (Kd.eO (Kd.iN .i64) (Kd.eO (Kd.iN .i64) (Kd.iW 127 uD)))))))
theorem kS {w : World} {x : S84} {cs : List Value} (h : k84.K w x cs) : ∃ A2 c2 A3 c3 A6 c6,cs = [.string x.f0,.string x.f1,.slice A2 x.f2.length c2,.slice A3 x.f3.length c3,.int .i64 x.f4,.int .i64 x.f5,.slice A6 x.f6.length c6] ∧ x.f2.length ≤ c2 ∧ Kd.string.C w A2 x.f2.length x.f2 ∧ x.f3.length ≤ c3 ∧ jG.C w A3 x.f3.length x.f3 ∧ x.f6.length ≤ c6 ∧ jH.C w A6 x.f6.length x.f6:=by
 obtain ⟨_,_,rfl,rfl,⟨_,_,rfl,rfl,⟨_,_,rfl,⟨A2,c2,rfl,l2,g2⟩,⟨_,_,rfl,⟨A3,c3,rfl,l3,g3⟩,⟨_,_,rfl,rfl,⟨_,_,rfl,rfl,⟨A6,c6,rfl,l6,g6⟩⟩⟩⟩⟩⟩⟩:=h
 exact ⟨A2,c2,A3,c3,A6,c6,rfl,l2,g2,l3,g3,l6,g6⟩
theorem vL (w : World) (x : S84) {A2 : Option Addr} {c2 : Nat} (l2 : x.f2.length ≤ c2) (g2 : Kd.string.C w A2 x.f2.length x.f2) {A3 : Option Addr} {c3 : Nat} (l3 : x.f3.length ≤ c3) (g3 : jG.C w A3 x.f3.length x.f3) {A6 : Option Addr} {c6 : Nat} (l6 : x.f6.length ≤ c6) (g6 : jH.C w A6 x.f6.length x.f6) : k84.K w x [.string x.f0,.string x.f1,.slice A2 x.f2.length c2,.slice A3 x.f3.length c3,.int .i64 x.f4,.int .i64 x.f5,.slice A6 x.f6.length c6]:=⟨[.string x.f0],[.string x.f1,.slice A2 x.f2.length c2,.slice A3 x.f3.length c3,.int .i64 x.f4,.int .i64 x.f5,.slice A6 x.f6.length c6],rfl,rfl,⟨[.string x.f1],[.slice A2 x.f2.length c2,.slice A3 x.f3.length c3,.int .i64 x.f4,.int .i64 x.f5,.slice A6 x.f6.length c6],rfl,rfl,⟨[.slice A2 x.f2.length c2],[.slice A3 x.f3.length c3,.int .i64 x.f4,.int .i64 x.f5,.slice A6 x.f6.length c6],rfl,⟨A2,c2,rfl,l2,g2⟩,⟨[.slice A3 x.f3.length c3],[.int .i64 x.f4,.int .i64 x.f5,.slice A6 x.f6.length c6],rfl,⟨A3,c3,rfl,l3,g3⟩,⟨[.int .i64 x.f4],[.int .i64 x.f5,.slice A6 x.f6.length c6],rfl,rfl,⟨[.int .i64 x.f5],[.slice A6 x.f6.length c6],rfl,rfl,⟨A6,c6,rfl,l6,g6⟩⟩⟩⟩⟩⟩⟩
theorem xD (w : World) (base : Nat) (ok : Nat → Prop) (x : S84) {v2 : Value} (g2 : Kd.string.R 9 w base ok v2 x.f2) {v3 : Value} (g3 : jG.R 126 w base ok v3 x.f3) {v6 : Value} (g6 : jH.R 127 w base ok v6 x.f6) : k84.M w base ok x [.string x.f0,.string x.f1,v2,v3,.int .i64 x.f4,.int .i64 x.f5,v6]:=⟨[.string x.f0],[.string x.f1,v2,v3,.int .i64 x.f4,.int .i64 x.f5,v6],rfl,rfl,⟨[.string x.f1],[v2,v3,.int .i64 x.f4,.int .i64 x.f5,v6],rfl,rfl,⟨[v2],[v3,.int .i64 x.f4,.int .i64 x.f5,v6],rfl,⟨v2,rfl,g2⟩,⟨[v3],[.int .i64 x.f4,.int .i64 x.f5,v6],rfl,⟨v3,rfl,g3⟩,⟨[.int .i64 x.f4],[.int .i64 x.f5,v6],rfl,rfl,⟨[.int .i64 x.f5],[v6],rfl,rfl,⟨v6,rfl,g6⟩⟩⟩⟩⟩⟩⟩
theorem j6 {W : World} {ok : Nat → Prop} {x : S84} {cs : List Value} (h : Kd.FK k84 W ok x cs) : ∃ A2 c2 A3 c3 A6 c6,cs = [.string x.f0,.string x.f1,.slice A2 x.f2.length c2,.slice A3 x.f3.length c3,.int .i64 x.f4,.int .i64 x.f5,.slice A6 x.f6.length c6] ∧ x.f2.length ≤ c2 ∧ Kd.F Kd.string W ok A2 x.f2.length x.f2 ∧ x.f3.length ≤ c3 ∧ Kd.F jG W ok A3 x.f3.length x.f3 ∧ x.f6.length ≤ c6 ∧ Kd.F jH W ok A6 x.f6.length x.f6:=by
 obtain ⟨A2,c2,A3,c3,A6,c6,rfl,l2,_,l3,_,l6,_⟩:=kS (Kd.jg h)
 exact ⟨A2,c2,A3,c3,A6,c6,rfl,l2,(fun W' hW=>by obtain ⟨BF,BG,BH,BI,Bw,Bz,he,BN,BJ,BO,BK,BL,BD⟩:=kS (h W' hW);injection (Option.some.inj (show some (Value.slice A2 x.f2.length c2) = some (Value.slice BF x.f2.length BG) from congrArg (fun l=>l[2]?) he)) with ha_ _ _;rw [ha_];exact BJ),l3,(fun W' hW=>by obtain ⟨BF,BG,BH,BI,Bw,Bz,he,BN,BJ,BO,BK,BL,BD⟩:=kS (h W' hW);injection (Option.some.inj (show some (Value.slice A3 x.f3.length c3) = some (Value.slice BH x.f3.length BI) from congrArg (fun l=>l[3]?) he)) with ha_ _ _;rw [ha_];exact BK),l6,(fun W' hW=>by obtain ⟨BF,BG,BH,BI,Bw,Bz,he,BN,BJ,BO,BK,BL,BD⟩:=kS (h W' hW);injection (Option.some.inj (show some (Value.slice A6 x.f6.length c6) = some (Value.slice Bw x.f6.length Bz) from congrArg (fun l=>l[6]?) he)) with ha_ _ _;rw [ha_];exact BD)⟩
theorem xE (W : World) (ok : Nat → Prop) (x : S84) {A2 : Option Addr} {c2 : Nat} (l2 : x.f2.length ≤ c2) (g2 : Kd.F Kd.string W ok A2 x.f2.length x.f2) {A3 : Option Addr} {c3 : Nat} (l3 : x.f3.length ≤ c3) (g3 : Kd.F jG W ok A3 x.f3.length x.f3) {A6 : Option Addr} {c6 : Nat} (l6 : x.f6.length ≤ c6) (g6 : Kd.F jH W ok A6 x.f6.length x.f6) : Kd.FK k84 W ok x [.string x.f0,.string x.f1,.slice A2 x.f2.length c2,.slice A3 x.f3.length c3,.int .i64 x.f4,.int .i64 x.f5,.slice A6 x.f6.length c6]:=fun W2 hW=>vL W2 x l2 (g2 W2 hW) l3 (g3 W2 hW) l6 (g6 W2 hW)
def au (xs : List S84) (i : Int) : S84:=xs.getD i.toNat z84
theorem kF {w : World} {A : Option Addr} {n : Nat} {xs : List S84} (h : Kd.C k84 w A n xs) (i : Int) (h0 : 0 ≤ i) (h1 : i < n) : ∃ ad A2 c2 A3 c3 A6 c6,A = some ad ∧ w.cell? (ad.add (i.toNat * 7)) = some (.string (au xs i).f0) ∧ w.cell? ⟨(ad.add (i.toNat * 7)).block,(ad.add (i.toNat * 7)).off + 1,none⟩ = some (.string (au xs i).f1) ∧ w.cell? ⟨(ad.add (i.toNat * 7)).block,(ad.add (i.toNat * 7)).off + 2,none⟩ = some (.slice A2 (au xs i).f2.length c2) ∧ w.cell? ⟨(ad.add (i.toNat * 7)).block,(ad.add (i.toNat * 7)).off + 3,none⟩ = some (.slice A3 (au xs i).f3.length c3) ∧ w.cell? ⟨(ad.add (i.toNat * 7)).block,(ad.add (i.toNat * 7)).off + 4,none⟩ = some (.int .i64 (au xs i).f4) ∧ w.cell? ⟨(ad.add (i.toNat * 7)).block,(ad.add (i.toNat * 7)).off + 5,none⟩ = some (.int .i64 (au xs i).f5) ∧ w.cell? ⟨(ad.add (i.toNat * 7)).block,(ad.add (i.toNat * 7)).off + 6,none⟩ = some (.slice A6 (au xs i).f6.length c6) ∧ (au xs i).f2.length ≤ c2 ∧ Kd.string.C w A2 (au xs i).f2.length (au xs i).f2 ∧ (au xs i).f3.length ≤ c3 ∧ jG.C w A3 (au xs i).f3.length (au xs i).f3 ∧ (au xs i).f6.length ≤ c6 ∧ jH.C w A6 (au xs i).f6.length (au xs i).f6:=by
 obtain ⟨ad,c,e,_,hK,hc0⟩:=Kd.jN h z84 i h0 h1
 have hc : ∀ j u,c[j]? = some u → w.cell? (ad.add (i.toNat * 7 + j)) = some u:=hc0
 obtain ⟨A2,c2,A3,c3,A6,c6,rfl,l2,g2,l3,g3,l6,g6⟩:=kS hK
 exact ⟨ad,A2,c2,A3,c3,A6,c6,e,hc 0 _ rfl,by rw [← bM _ _ 1 (by omega)];exact hc 1 _ rfl,by rw [← bM _ _ 2 (by omega)];exact hc 2 _ rfl,by rw [← bM _ _ 3 (by omega)];exact hc 3 _ rfl,by rw [← bM _ _ 4 (by omega)];exact hc 4 _ rfl,by rw [← bM _ _ 5 (by omega)];exact hc 5 _ rfl,by rw [← bM _ _ 6 (by omega)];exact hc 6 _ rfl,l2,g2,l3,g3,l6,g6⟩
structure S77 where
 f0 : ByteArray
 f1 : ByteArray
 f2 : Int
 f3 : Int
 f4 : Bool
 f5 : (List S84)
def z77 : S77:=⟨(⟨#[]⟩ : ByteArray),(⟨#[]⟩ : ByteArray),(0 : Int),(0 : Int),false,([] : List S84)⟩
def k77 : Kd S77:=Kd.iso (Kd.pair Kd.string (Kd.pair Kd.string (Kd.pair (Kd.int .i64) (Kd.pair (Kd.int .i64) (Kd.pair Kd.bool (Kd.slice 84 k84)))))) (fun x : S77=>(x.f0,x.f1,x.f2,x.f3,x.f4,x.f5))
theorem vM : Kd.Heap k77:=Kd.jv _ (Kd.eO Kd.fG (Kd.eO Kd.fG (Kd.eO (Kd.iN .i64) (Kd.eO (Kd.iN .i64) (Kd.eO Kd.uo (Kd.iW 84 vK))))))
theorem vN {w : World} {x : S77} {cs : List Value} (h : k77.K w x cs) : ∃ A5 c5,cs = [.string x.f0,.string x.f1,.int .i64 x.f2,.int .i64 x.f3,.bool x.f4,.slice A5 x.f5.length c5] ∧ x.f5.length ≤ c5 ∧ k84.C w A5 x.f5.length x.f5:=by
 obtain ⟨_,_,rfl,rfl,⟨_,_,rfl,rfl,⟨_,_,rfl,rfl,⟨_,_,rfl,rfl,⟨_,_,rfl,rfl,⟨A5,c5,rfl,l5,g5⟩⟩⟩⟩⟩⟩:=h
 exact ⟨A5,c5,rfl,l5,g5⟩
theorem zk (w : World) (x : S77) {A5 : Option Addr} {c5 : Nat} (l5 : x.f5.length ≤ c5) (g5 : k84.C w A5 x.f5.length x.f5) : k77.K w x [.string x.f0,.string x.f1,.int .i64 x.f2,.int .i64 x.f3,.bool x.f4,.slice A5 x.f5.length c5]:=⟨[.string x.f0],[.string x.f1,.int .i64 x.f2,.int .i64 x.f3,.bool x.f4,.slice A5 x.f5.length c5],rfl,rfl,⟨[.string x.f1],[.int .i64 x.f2,.int .i64 x.f3,.bool x.f4,.slice A5 x.f5.length c5],rfl,rfl,⟨[.int .i64 x.f2],[.int .i64 x.f3,.bool x.f4,.slice A5 x.f5.length c5],rfl,rfl,⟨[.int .i64 x.f3],[.bool x.f4,.slice A5 x.f5.length c5],rfl,rfl,⟨[.bool x.f4],[.slice A5 x.f5.length c5],rfl,rfl,⟨A5,c5,rfl,l5,g5⟩⟩⟩⟩⟩⟩
structure S79 where
 f0 : ByteArray
 f1 : S77
def z79 : S79:=⟨(⟨#[]⟩ : ByteArray),z77⟩
def k79 : Kd S79:=Kd.iso (Kd.pair Kd.string k77) (fun x : S79=>(x.f0,x.f1))
theorem qW : Kd.Heap k79:=Kd.jv _ (Kd.eO Kd.fG vM)
theorem oD {w : World} {x : S79} {cs : List Value} (h : k79.K w x cs) : ∃ A6 c6,cs = [.string x.f0,.string x.f1.f0,.string x.f1.f1,.int .i64 x.f1.f2,.int .i64 x.f1.f3,.bool x.f1.f4,.slice A6 x.f1.f5.length c6] ∧ x.f1.f5.length ≤ c6 ∧ k84.C w A6 x.f1.f5.length x.f1.f5:=by
 obtain ⟨_,_,rfl,rfl,s1⟩:=h
 obtain ⟨A6,c6,rfl,l6,g6⟩:=vN s1
 exact ⟨A6,c6,rfl,l6,g6⟩
theorem zl (w : World) (x : S79) {A6 : Option Addr} {c6 : Nat} (l6 : x.f1.f5.length ≤ c6) (g6 : k84.C w A6 x.f1.f5.length x.f1.f5) : k79.K w x [.string x.f0,.string x.f1.f0,.string x.f1.f1,.int .i64 x.f1.f2,.int .i64 x.f1.f3,.bool x.f1.f4,.slice A6 x.f1.f5.length c6]:=⟨[.string x.f0],[.string x.f1.f0,.string x.f1.f1,.int .i64 x.f1.f2,.int .i64 x.f1.f3,.bool x.f1.f4,.slice A6 x.f1.f5.length c6],rfl,rfl,(zk w x.f1 l6 g6)⟩
theorem pU {W : World} {ok : Nat → Prop} {x : S79} {cs : List Value} (h : Kd.FK k79 W ok x cs) : ∃ A6 c6,cs = [.string x.f0,.string x.f1.f0,.string x.f1.f1,.int .i64 x.f1.f2,.int .i64 x.f1.f3,.bool x.f1.f4,.slice A6 x.f1.f5.length c6] ∧ x.f1.f5.length ≤ c6 ∧ Kd.F k84 W ok A6 x.f1.f5.length x.f1.f5:=by
 obtain ⟨A6,c6,rfl,l6,_⟩:=oD (Kd.jg h)
 exact ⟨A6,c6,rfl,l6,(fun W' hW=>by obtain ⟨Bw,Bz,he,BL,BD⟩:=oD (h W' hW);injection (Option.some.inj (show some (Value.slice A6 x.f1.f5.length c6) = some (Value.slice Bw x.f1.f5.length Bz) from congrArg (fun l=>l[6]?) he)) with ha_ _ _;rw [ha_];exact BD)⟩
theorem xG (W : World) (ok : Nat → Prop) (x : S79) {A6 : Option Addr} {c6 : Nat} (l6 : x.f1.f5.length ≤ c6) (g6 : Kd.F k84 W ok A6 x.f1.f5.length x.f1.f5) : Kd.FK k79 W ok x [.string x.f0,.string x.f1.f0,.string x.f1.f1,.int .i64 x.f1.f2,.int .i64 x.f1.f3,.bool x.f1.f4,.slice A6 x.f1.f5.length c6]:=fun W2 hW=>zl W2 x l6 (g6 W2 hW)
def aG (xs : List S79) (i : Int) : S79:=xs.getD i.toNat z79
theorem kT {w : World} {A : Option Addr} {n : Nat} {xs : List S79} (h : Kd.C k79 w A n xs) (i : Int) (h0 : 0 ≤ i) (h1 : i < n) : ∃ ad A6 c6,A = some ad ∧ w.cell? (ad.add (i.toNat * 7)) = some (.string (aG xs i).f0) ∧ w.cell? ⟨(ad.add (i.toNat * 7)).block,(ad.add (i.toNat * 7)).off + 1,none⟩ = some (.string (aG xs i).f1.f0) ∧ w.cell? ⟨(ad.add (i.toNat * 7)).block,(ad.add (i.toNat * 7)).off + 2,none⟩ = some (.string (aG xs i).f1.f1) ∧ w.cell? ⟨(ad.add (i.toNat * 7)).block,(ad.add (i.toNat * 7)).off + 3,none⟩ = some (.int .i64 (aG xs i).f1.f2) ∧ w.cell? ⟨(ad.add (i.toNat * 7)).block,(ad.add (i.toNat * 7)).off + 4,none⟩ = some (.int .i64 (aG xs i).f1.f3) ∧ w.cell? ⟨(ad.add (i.toNat * 7)).block,(ad.add (i.toNat * 7)).off + 5,none⟩ = some (.bool (aG xs i).f1.f4) ∧ w.cell? ⟨(ad.add (i.toNat * 7)).block,(ad.add (i.toNat * 7)).off + 6,none⟩ = some (.slice A6 (aG xs i).f1.f5.length c6) ∧ (aG xs i).f1.f5.length ≤ c6 ∧ k84.C w A6 (aG xs i).f1.f5.length (aG xs i).f1.f5:=by
 obtain ⟨ad,c,e,_,hK,hc0⟩:=Kd.jN h z79 i h0 h1
 have hc : ∀ j u,c[j]? = some u → w.cell? (ad.add (i.toNat * 7 + j)) = some u:=hc0
 obtain ⟨A6,c6,rfl,l6,g6⟩:=oD hK
 exact ⟨ad,A6,c6,e,hc 0 _ rfl,by rw [← bM _ _ 1 (by omega)];exact hc 1 _ rfl,by rw [← bM _ _ 2 (by omega)];exact hc 2 _ rfl,by rw [← bM _ _ 3 (by omega)];exact hc 3 _ rfl,by rw [← bM _ _ 4 (by omega)];exact hc 4 _ rfl,by rw [← bM _ _ 5 (by omega)];exact hc 5 _ rfl,by rw [← bM _ _ 6 (by omega)];exact hc 6 _ rfl,l6,g6⟩
structure S51 where
 f0 : Int
 f1 : (List S79)
def k51 : Kd S51:=Kd.iso (Kd.pair (Kd.int .u64) (Kd.slice 79 k79)) (fun x : S51=>(x.f0,x.f1))
theorem vO {w : World} {x : S51} {cs : List Value} (h : k51.K w x cs) : ∃ A1 c1,cs = [.int .u64 x.f0,.slice A1 x.f1.length c1] ∧ x.f1.length ≤ c1 ∧ k79.C w A1 x.f1.length x.f1:=by
 obtain ⟨_,_,rfl,rfl,⟨A1,c1,rfl,l1,g1⟩⟩:=h
 exact ⟨A1,c1,rfl,l1,g1⟩
structure S73 where
 f0 : ByteArray
 f1 : ByteArray
def z73 : S73:=⟨(⟨#[]⟩ : ByteArray),(⟨#[]⟩ : ByteArray)⟩
def k73 : Kd S73:=Kd.iso (Kd.pair Kd.string Kd.string) (fun x : S73=>(x.f0,x.f1))
theorem vP {w : World} {x : S73} {cs : List Value} (h : k73.K w x cs) : cs = [.string x.f0,.string x.f1]:=by
 obtain ⟨_,_,rfl,rfl,rfl⟩:=h
 exact rfl
theorem zn (w : World) (x : S73)  : k73.K w x [.string x.f0,.string x.f1]:=⟨[.string x.f0],[.string x.f1],rfl,rfl,rfl⟩
theorem tu (W : World) (ok : Nat → Prop) (x : S73) : Kd.FK k73 W ok x [.string x.f0,.string x.f1]:=fun W2 _=>zn W2 x
def fZ (xs : List S73) (i : Int) : S73:=xs.getD i.toNat z73
theorem vQ {w : World} {A : Option Addr} {n : Nat} {xs : List S73} (h : Kd.C k73 w A n xs) (i : Int) (h0 : 0 ≤ i) (h1 : i < n) : ∃ ad ,A = some ad ∧ w.cell? (ad.add (i.toNat * 2)) = some (.string (fZ xs i).f0) ∧ w.cell? ⟨(ad.add (i.toNat * 2)).block,(ad.add (i.toNat * 2)).off + 1,none⟩ = some (.string (fZ xs i).f1):=by
 obtain ⟨ad,c,e,_,hK,hc0⟩:=Kd.jN h z73 i h0 h1
 have hc : ∀ j u,c[j]? = some u → w.cell? (ad.add (i.toNat * 2 + j)) = some u:=hc0
 obtain rfl:=vP hK
 exact ⟨ad,e,hc 0 _ rfl,by rw [← bM _ _ 1 (by omega)];exact hc 1 _ rfl⟩
structure S71 where
 f0 : ByteArray
 f1 : ByteArray
 f2 : ByteArray
 f3 : Int
 f4 : Int
 f5 : (List S73)
def z71 : S71:=⟨(⟨#[]⟩ : ByteArray),(⟨#[]⟩ : ByteArray),(⟨#[]⟩ : ByteArray),(0 : Int),(0 : Int),([] : List S73)⟩
def k71 : Kd S71:=Kd.iso (Kd.pair Kd.string (Kd.pair Kd.string (Kd.pair Kd.string (Kd.pair (Kd.int .u8) (Kd.pair (Kd.int .u16) (Kd.slice 73 k73)))))) (fun x : S71=>(x.f0,x.f1,x.f2,x.f3,x.f4,x.f5))
theorem vR {w : World} {x : S71} {cs : List Value} (h : k71.K w x cs) : ∃ A5 c5,cs = [.string x.f0,.string x.f1,.string x.f2,.int .u8 x.f3,.int .u16 x.f4,.slice A5 x.f5.length c5] ∧ x.f5.length ≤ c5 ∧ k73.C w A5 x.f5.length x.f5:=by
 obtain ⟨_,_,rfl,rfl,⟨_,_,rfl,rfl,⟨_,_,rfl,rfl,⟨_,_,rfl,rfl,⟨_,_,rfl,rfl,⟨A5,c5,rfl,l5,g5⟩⟩⟩⟩⟩⟩:=h
 exact ⟨A5,c5,rfl,l5,g5⟩
theorem zo (w : World) (x : S71) {A5 : Option Addr} {c5 : Nat} (l5 : x.f5.length ≤ c5) (g5 : k73.C w A5 x.f5.length x.f5) : k71.K w x [.string x.f0,.string x.f1,.string x.f2,.int .u8 x.f3,.int .u16 x.f4,.slice A5 x.f5.length c5]:=⟨[.string x.f0],[.string x.f1,.string x.f2,.int .u8 x.f3,.int .u16 x.f4,.slice A5 x.f5.length c5],rfl,rfl,⟨[.string x.f1],[.string x.f2,.int .u8 x.f3,.int .u16 x.f4,.slice A5 x.f5.length c5],rfl,rfl,⟨[.string x.f2],[.int .u8 x.f3,.int .u16 x.f4,.slice A5 x.f5.length c5],rfl,rfl,⟨[.int .u8 x.f3],[.int .u16 x.f4,.slice A5 x.f5.length c5],rfl,rfl,⟨[.int .u16 x.f4],[.slice A5 x.f5.length c5],rfl,rfl,⟨A5,c5,rfl,l5,g5⟩⟩⟩⟩⟩⟩
theorem tC (W : World) (ok : Nat → Prop) (x : S71) {A5 : Option Addr} {c5 : Nat} (l5 : x.f5.length ≤ c5) (g5 : Kd.F k73 W ok A5 x.f5.length x.f5) : Kd.FK k71 W ok x [.string x.f0,.string x.f1,.string x.f2,.int .u8 x.f3,.int .u16 x.f4,.slice A5 x.f5.length c5]:=fun W2 hW=>zo W2 x l5 (g5 W2 hW)
def aK (xs : List S71) (i : Int) : S71:=xs.getD i.toNat z71
theorem vS {w : World} {A : Option Addr} {n : Nat} {xs : List S71} (h : Kd.C k71 w A n xs) (i : Int) (h0 : 0 ≤ i) (h1 : i < n) : ∃ ad A5 c5,A = some ad ∧ w.cell? (ad.add (i.toNat * 6)) = some (.string (aK xs i).f0) ∧ w.cell? ⟨(ad.add (i.toNat * 6)).block,(ad.add (i.toNat * 6)).off + 1,none⟩ = some (.string (aK xs i).f1) ∧ w.cell? ⟨(ad.add (i.toNat * 6)).block,(ad.add (i.toNat * 6)).off + 2,none⟩ = some (.string (aK xs i).f2) ∧ w.cell? ⟨(ad.add (i.toNat * 6)).block,(ad.add (i.toNat * 6)).off + 3,none⟩ = some (.int .u8 (aK xs i).f3) ∧ w.cell? ⟨(ad.add (i.toNat * 6)).block,(ad.add (i.toNat * 6)).off + 4,none⟩ = some (.int .u16 (aK xs i).f4) ∧ w.cell? ⟨(ad.add (i.toNat * 6)).block,(ad.add (i.toNat * 6)).off + 5,none⟩ = some (.slice A5 (aK xs i).f5.length c5) ∧ (aK xs i).f5.length ≤ c5 ∧ k73.C w A5 (aK xs i).f5.length (aK xs i).f5:=by
 obtain ⟨ad,c,e,_,hK,hc0⟩:=Kd.jN h z71 i h0 h1
 have hc : ∀ j u,c[j]? = some u → w.cell? (ad.add (i.toNat * 6 + j)) = some u:=hc0
 obtain ⟨A5,c5,rfl,l5,g5⟩:=vR hK
 exact ⟨ad,A5,c5,e,hc 0 _ rfl,by rw [← bM _ _ 1 (by omega)];exact hc 1 _ rfl,by rw [← bM _ _ 2 (by omega)];exact hc 2 _ rfl,by rw [← bM _ _ 3 (by omega)];exact hc 3 _ rfl,by rw [← bM _ _ 4 (by omega)];exact hc 4 _ rfl,by rw [← bM _ _ 5 (by omega)];exact hc 5 _ rfl,l5,g5⟩
structure S29 where
 f0 : Int
 f1 : (List S71)
structure S89 where
 f0 : ByteArray
 f1 : ByteArray
def z89 : S89:=⟨(⟨#[]⟩ : ByteArray),(⟨#[]⟩ : ByteArray)⟩
def k89 : Kd S89:=Kd.iso (Kd.pair Kd.string Kd.string) (fun x : S89=>(x.f0,x.f1))
theorem vT {w : World} {x : S89} {cs : List Value} (h : k89.K w x cs) : cs = [.string x.f0,.string x.f1]:=by
 obtain ⟨_,_,rfl,rfl,rfl⟩:=h
 exact rfl
theorem tF (w : World) (base : Nat) (ok : Nat → Prop) (x : S89)  : k89.M w base ok x [.string x.f0,.string x.f1]:=⟨[.string x.f0],[.string x.f1],rfl,rfl,rfl⟩
def kU (xs : List S89) (i : Int) : S89:=xs.getD i.toNat z89
theorem vU {w : World} {A : Option Addr} {n : Nat} {xs : List S89} (h : Kd.C k89 w A n xs) (i : Int) (h0 : 0 ≤ i) (h1 : i < n) : ∃ ad ,A = some ad ∧ w.cell? (ad.add (i.toNat * 2)) = some (.string (kU xs i).f0) ∧ w.cell? ⟨(ad.add (i.toNat * 2)).block,(ad.add (i.toNat * 2)).off + 1,none⟩ = some (.string (kU xs i).f1):=by
 obtain ⟨ad,c,e,_,hK,hc0⟩:=Kd.jN h z89 i h0 h1
 have hc : ∀ j u,c[j]? = some u → w.cell? (ad.add (i.toNat * 2 + j)) = some u:=hc0
 obtain rfl:=vT hK
 exact ⟨ad,e,hc 0 _ rfl,by rw [← bM _ _ 1 (by omega)];exact hc 1 _ rfl⟩
structure S88 where
 f0 : ByteArray
 f1 : ByteArray
 f2 : ByteArray
 f3 : Int
 f4 : Int
 f5 : (List S89)
def z88 : S88:=⟨(⟨#[]⟩ : ByteArray),(⟨#[]⟩ : ByteArray),(⟨#[]⟩ : ByteArray),(0 : Int),(0 : Int),([] : List S89)⟩
def k88 : Kd S88:=Kd.iso (Kd.pair Kd.string (Kd.pair Kd.string (Kd.pair Kd.string (Kd.pair (Kd.int .u8) (Kd.pair (Kd.int .u16) (Kd.slice 89 k89)))))) (fun x : S88=>(x.f0,x.f1,x.f2,x.f3,x.f4,x.f5))
theorem vV {w : World} {x : S88} {cs : List Value} (h : k88.K w x cs) : ∃ A5 c5,cs = [.string x.f0,.string x.f1,.string x.f2,.int .u8 x.f3,.int .u16 x.f4,.slice A5 x.f5.length c5] ∧ x.f5.length ≤ c5 ∧ k89.C w A5 x.f5.length x.f5:=by
 obtain ⟨_,_,rfl,rfl,⟨_,_,rfl,rfl,⟨_,_,rfl,rfl,⟨_,_,rfl,rfl,⟨_,_,rfl,rfl,⟨A5,c5,rfl,l5,g5⟩⟩⟩⟩⟩⟩:=h
 exact ⟨A5,c5,rfl,l5,g5⟩
theorem tH (w : World) (base : Nat) (ok : Nat → Prop) (x : S88) {v5 : Value} (g5 : k89.R 89 w base ok v5 x.f5) : k88.M w base ok x [.string x.f0,.string x.f1,.string x.f2,.int .u8 x.f3,.int .u16 x.f4,v5]:=⟨[.string x.f0],[.string x.f1,.string x.f2,.int .u8 x.f3,.int .u16 x.f4,v5],rfl,rfl,⟨[.string x.f1],[.string x.f2,.int .u8 x.f3,.int .u16 x.f4,v5],rfl,rfl,⟨[.string x.f2],[.int .u8 x.f3,.int .u16 x.f4,v5],rfl,rfl,⟨[.int .u8 x.f3],[.int .u16 x.f4,v5],rfl,rfl,⟨[.int .u16 x.f4],[v5],rfl,rfl,⟨v5,rfl,g5⟩⟩⟩⟩⟩⟩
def iX (xs : List S88) (i : Int) : S88:=xs.getD i.toNat z88
theorem vW {w : World} {A : Option Addr} {n : Nat} {xs : List S88} (h : Kd.C k88 w A n xs) (i : Int) (h0 : 0 ≤ i) (h1 : i < n) : ∃ ad A5 c5,A = some ad ∧ w.cell? (ad.add (i.toNat * 6)) = some (.string (iX xs i).f0) ∧ w.cell? ⟨(ad.add (i.toNat * 6)).block,(ad.add (i.toNat * 6)).off + 1,none⟩ = some (.string (iX xs i).f1) ∧ w.cell? ⟨(ad.add (i.toNat * 6)).block,(ad.add (i.toNat * 6)).off + 2,none⟩ = some (.string (iX xs i).f2) ∧ w.cell? ⟨(ad.add (i.toNat * 6)).block,(ad.add (i.toNat * 6)).off + 3,none⟩ = some (.int .u8 (iX xs i).f3) ∧ w.cell? ⟨(ad.add (i.toNat * 6)).block,(ad.add (i.toNat * 6)).off + 4,none⟩ = some (.int .u16 (iX xs i).f4) ∧ w.cell? ⟨(ad.add (i.toNat * 6)).block,(ad.add (i.toNat * 6)).off + 5,none⟩ = some (.slice A5 (iX xs i).f5.length c5) ∧ (iX xs i).f5.length ≤ c5 ∧ k89.C w A5 (iX xs i).f5.length (iX xs i).f5:=by
 obtain ⟨ad,c,e,_,hK,hc0⟩:=Kd.jN h z88 i h0 h1
 have hc : ∀ j u,c[j]? = some u → w.cell? (ad.add (i.toNat * 6 + j)) = some u:=hc0
 obtain ⟨A5,c5,rfl,l5,g5⟩:=vV hK
 exact ⟨ad,A5,c5,e,hc 0 _ rfl,by rw [← bM _ _ 1 (by omega)];exact hc 1 _ rfl,by rw [← bM _ _ 2 (by omega)];exact hc 2 _ rfl,by rw [← bM _ _ 3 (by omega)];exact hc 3 _ rfl,by rw [← bM _ _ 4 (by omega)];exact hc 4 _ rfl,by rw [← bM _ _ 5 (by omega)];exact hc 5 _ rfl,l5,g5⟩
structure S39 where
 f0 : Int
 f1 : (List S88)
structure S121 where
 f0 : Int
 f1 : Int
def o8 : Kd S121:=Kd.iso (Kd.pair (Kd.int .i64) (Kd.int .i64)) (fun x : S121=>(x.f0,x.f1))
theorem vX (w : World) (base : Nat) (ok : Nat → Prop) (x : S121)  : o8.M w base ok x [.int .i64 x.f0,.int .i64 x.f1]:=⟨[.int .i64 x.f0],[.int .i64 x.f1],rfl,rfl,rfl⟩
structure S123 where
 f0 : ByteArray
 f1 : ByteArray
def o9 : Kd S123:=Kd.iso (Kd.pair Kd.string Kd.string) (fun x : S123=>(x.f0,x.f1))
theorem vY (w : World) (base : Nat) (ok : Nat → Prop) (x : S123)  : o9.M w base ok x [.string x.f0,.string x.f1]:=⟨[.string x.f0],[.string x.f1],rfl,rfl,rfl⟩
structure S106 where
 f0 : ByteArray
 f1 : ByteArray
 f2 : (List ByteArray)
 f3 : (List S121)
 f4 : Int
 f5 : Int
 f6 : (List S123)
def Aj : S106:=⟨(⟨#[]⟩ : ByteArray),(⟨#[]⟩ : ByteArray),([] : List ByteArray),([] : List S121),(0 : Int),(0 : Int),([] : List S123)⟩
def kV : Kd S106:=Kd.iso (Kd.pair Kd.string (Kd.pair Kd.string (Kd.pair (Kd.slice 9 Kd.string) (Kd.pair (Kd.slice 121 o8) (Kd.pair (Kd.int .i64) (Kd.pair (Kd.int .i64) (Kd.slice 123 o9))))))) (fun x : S106=>(x.f0,x.f1,x.f2,x.f3,x.f4,x.f5,x.f6))
theorem uF {w : World} {x : S106} {cs : List Value} (h : kV.K w x cs) : ∃ A2 c2 A3 c3 A6 c6,cs = [.string x.f0,.string x.f1,.slice A2 x.f2.length c2,.slice A3 x.f3.length c3,.int .i64 x.f4,.int .i64 x.f5,.slice A6 x.f6.length c6] ∧ x.f2.length ≤ c2 ∧ Kd.string.C w A2 x.f2.length x.f2 ∧ x.f3.length ≤ c3 ∧ o8.C w A3 x.f3.length x.f3 ∧ x.f6.length ≤ c6 ∧ o9.C w A6 x.f6.length x.f6:=by
 obtain ⟨_,_,rfl,rfl,⟨_,_,rfl,rfl,⟨_,_,rfl,⟨A2,c2,rfl,l2,g2⟩,⟨_,_,rfl,⟨A3,c3,rfl,l3,g3⟩,⟨_,_,rfl,rfl,⟨_,_,rfl,rfl,⟨A6,c6,rfl,l6,g6⟩⟩⟩⟩⟩⟩⟩:=h
 exact ⟨A2,c2,A3,c3,A6,c6,rfl,l2,g2,l3,g3,l6,g6⟩
theorem xH (w : World) (x : S106) {A2 : Option Addr} {c2 : Nat} (l2 : x.f2.length ≤ c2) (g2 : Kd.string.C w A2 x.f2.length x.f2) {A3 : Option Addr} {c3 : Nat} (l3 : x.f3.length ≤ c3) (g3 : o8.C w A3 x.f3.length x.f3) {A6 : Option Addr} {c6 : Nat} (l6 : x.f6.length ≤ c6) (g6 : o9.C w A6 x.f6.length x.f6) : kV.K w x [.string x.f0,.string x.f1,.slice A2 x.f2.length c2,.slice A3 x.f3.length c3,.int .i64 x.f4,.int .i64 x.f5,.slice A6 x.f6.length c6]:=⟨[.string x.f0],[.string x.f1,.slice A2 x.f2.length c2,.slice A3 x.f3.length c3,.int .i64 x.f4,.int .i64 x.f5,.slice A6 x.f6.length c6],rfl,rfl,⟨[.string x.f1],[.slice A2 x.f2.length c2,.slice A3 x.f3.length c3,.int .i64 x.f4,.int .i64 x.f5,.slice A6 x.f6.length c6],rfl,rfl,⟨[.slice A2 x.f2.length c2],[.slice A3 x.f3.length c3,.int .i64 x.f4,.int .i64 x.f5,.slice A6 x.f6.length c6],rfl,⟨A2,c2,rfl,l2,g2⟩,⟨[.slice A3 x.f3.length c3],[.int .i64 x.f4,.int .i64 x.f5,.slice A6 x.f6.length c6],rfl,⟨A3,c3,rfl,l3,g3⟩,⟨[.int .i64 x.f4],[.int .i64 x.f5,.slice A6 x.f6.length c6],rfl,rfl,⟨[.int .i64 x.f5],[.slice A6 x.f6.length c6],rfl,rfl,⟨A6,c6,rfl,l6,g6⟩⟩⟩⟩⟩⟩⟩
theorem vZ (W : World) (ok : Nat → Prop) (x : S106) {A2 : Option Addr} {c2 : Nat} (l2 : x.f2.length ≤ c2) (g2 : Kd.F Kd.string W ok A2 x.f2.length x.f2) {A3 : Option Addr} {c3 : Nat} (l3 : x.f3.length ≤ c3) (g3 : Kd.F o8 W ok A3 x.f3.length x.f3) {A6 : Option Addr} {c6 : Nat} (l6 : x.f6.length ≤ c6) (g6 : Kd.F o9 W ok A6 x.f6.length x.f6) : Kd.FK kV W ok x [.string x.f0,.string x.f1,.slice A2 x.f2.length c2,.slice A3 x.f3.length c3,.int .i64 x.f4,.int .i64 x.f5,.slice A6 x.f6.length c6]:=fun W2 hW=>xH W2 x l2 (g2 W2 hW) l3 (g3 W2 hW) l6 (g6 W2 hW)
def bE (xs : List S106) (i : Int) : S106:=xs.getD i.toNat Aj
theorem lK {w : World} {A : Option Addr} {n : Nat} {xs : List S106} (h : Kd.C kV w A n xs) (i : Int) (h0 : 0 ≤ i) (h1 : i < n) : ∃ ad A2 c2 A3 c3 A6 c6,A = some ad ∧ w.cell? (ad.add (i.toNat * 7)) = some (.string (bE xs i).f0) ∧ w.cell? ⟨(ad.add (i.toNat * 7)).block,(ad.add (i.toNat * 7)).off + 1,none⟩ = some (.string (bE xs i).f1) ∧ w.cell? ⟨(ad.add (i.toNat * 7)).block,(ad.add (i.toNat * 7)).off + 2,none⟩ = some (.slice A2 (bE xs i).f2.length c2) ∧ w.cell? ⟨(ad.add (i.toNat * 7)).block,(ad.add (i.toNat * 7)).off + 3,none⟩ = some (.slice A3 (bE xs i).f3.length c3) ∧ w.cell? ⟨(ad.add (i.toNat * 7)).block,(ad.add (i.toNat * 7)).off + 4,none⟩ = some (.int .i64 (bE xs i).f4) ∧ w.cell? ⟨(ad.add (i.toNat * 7)).block,(ad.add (i.toNat * 7)).off + 5,none⟩ = some (.int .i64 (bE xs i).f5) ∧ w.cell? ⟨(ad.add (i.toNat * 7)).block,(ad.add (i.toNat * 7)).off + 6,none⟩ = some (.slice A6 (bE xs i).f6.length c6) ∧ (bE xs i).f2.length ≤ c2 ∧ Kd.string.C w A2 (bE xs i).f2.length (bE xs i).f2 ∧ (bE xs i).f3.length ≤ c3 ∧ o8.C w A3 (bE xs i).f3.length (bE xs i).f3 ∧ (bE xs i).f6.length ≤ c6 ∧ o9.C w A6 (bE xs i).f6.length (bE xs i).f6:=by
 obtain ⟨ad,c,e,_,hK,hc0⟩:=Kd.jN h Aj i h0 h1
 have hc : ∀ j u,c[j]? = some u → w.cell? (ad.add (i.toNat * 7 + j)) = some u:=hc0
 obtain ⟨A2,c2,A3,c3,A6,c6,rfl,l2,g2,l3,g3,l6,g6⟩:=uF hK
 exact ⟨ad,A2,c2,A3,c3,A6,c6,e,hc 0 _ rfl,by rw [← bM _ _ 1 (by omega)];exact hc 1 _ rfl,by rw [← bM _ _ 2 (by omega)];exact hc 2 _ rfl,by rw [← bM _ _ 3 (by omega)];exact hc 3 _ rfl,by rw [← bM _ _ 4 (by omega)];exact hc 4 _ rfl,by rw [← bM _ _ 5 (by omega)];exact hc 5 _ rfl,by rw [← bM _ _ 6 (by omega)];exact hc 6 _ rfl,l2,g2,l3,g3,l6,g6⟩
structure S94 where
 f0 : ByteArray
 f1 : ByteArray
 f2 : Int
 f3 : Int
 f4 : Bool
 f5 : (List S106)
def z94 : S94:=⟨(⟨#[]⟩ : ByteArray),(⟨#[]⟩ : ByteArray),(0 : Int),(0 : Int),false,([] : List S106)⟩
def k94 : Kd S94:=Kd.iso (Kd.pair Kd.string (Kd.pair Kd.string (Kd.pair (Kd.int .i64) (Kd.pair (Kd.int .i64) (Kd.pair Kd.bool (Kd.slice 106 kV)))))) (fun x : S94=>(x.f0,x.f1,x.f2,x.f3,x.f4,x.f5))
theorem wh {w : World} {x : S94} {cs : List Value} (h : k94.K w x cs) : ∃ A5 c5,cs = [.string x.f0,.string x.f1,.int .i64 x.f2,.int .i64 x.f3,.bool x.f4,.slice A5 x.f5.length c5] ∧ x.f5.length ≤ c5 ∧ kV.C w A5 x.f5.length x.f5:=by
 obtain ⟨_,_,rfl,rfl,⟨_,_,rfl,rfl,⟨_,_,rfl,rfl,⟨_,_,rfl,rfl,⟨_,_,rfl,rfl,⟨A5,c5,rfl,l5,g5⟩⟩⟩⟩⟩⟩:=h
 exact ⟨A5,c5,rfl,l5,g5⟩
theorem zq (w : World) (x : S94) {A5 : Option Addr} {c5 : Nat} (l5 : x.f5.length ≤ c5) (g5 : kV.C w A5 x.f5.length x.f5) : k94.K w x [.string x.f0,.string x.f1,.int .i64 x.f2,.int .i64 x.f3,.bool x.f4,.slice A5 x.f5.length c5]:=⟨[.string x.f0],[.string x.f1,.int .i64 x.f2,.int .i64 x.f3,.bool x.f4,.slice A5 x.f5.length c5],rfl,rfl,⟨[.string x.f1],[.int .i64 x.f2,.int .i64 x.f3,.bool x.f4,.slice A5 x.f5.length c5],rfl,rfl,⟨[.int .i64 x.f2],[.int .i64 x.f3,.bool x.f4,.slice A5 x.f5.length c5],rfl,rfl,⟨[.int .i64 x.f3],[.bool x.f4,.slice A5 x.f5.length c5],rfl,rfl,⟨[.bool x.f4],[.slice A5 x.f5.length c5],rfl,rfl,⟨A5,c5,rfl,l5,g5⟩⟩⟩⟩⟩⟩
structure S96 where
 f0 : ByteArray
 f1 : S94
def z96 : S96:=⟨(⟨#[]⟩ : ByteArray),z94⟩
def k96 : Kd S96:=Kd.iso (Kd.pair Kd.string k94) (fun x : S96=>(x.f0,x.f1))
theorem wm {w : World} {x : S96} {cs : List Value} (h : k96.K w x cs) : ∃ A6 c6,cs = [.string x.f0,.string x.f1.f0,.string x.f1.f1,.int .i64 x.f1.f2,.int .i64 x.f1.f3,.bool x.f1.f4,.slice A6 x.f1.f5.length c6] ∧ x.f1.f5.length ≤ c6 ∧ kV.C w A6 x.f1.f5.length x.f1.f5:=by
 obtain ⟨_,_,rfl,rfl,s1⟩:=h
 obtain ⟨A6,c6,rfl,l6,g6⟩:=wh s1
 exact ⟨A6,c6,rfl,l6,g6⟩
theorem zu (w : World) (x : S96) {A6 : Option Addr} {c6 : Nat} (l6 : x.f1.f5.length ≤ c6) (g6 : kV.C w A6 x.f1.f5.length x.f1.f5) : k96.K w x [.string x.f0,.string x.f1.f0,.string x.f1.f1,.int .i64 x.f1.f2,.int .i64 x.f1.f3,.bool x.f1.f4,.slice A6 x.f1.f5.length c6]:=⟨[.string x.f0],[.string x.f1.f0,.string x.f1.f1,.int .i64 x.f1.f2,.int .i64 x.f1.f3,.bool x.f1.f4,.slice A6 x.f1.f5.length c6],rfl,rfl,(zq w x.f1 l6 g6)⟩
theorem xI (W : World) (ok : Nat → Prop) (x : S96) {A6 : Option Addr} {c6 : Nat} (l6 : x.f1.f5.length ≤ c6) (g6 : Kd.F kV W ok A6 x.f1.f5.length x.f1.f5) : Kd.FK k96 W ok x [.string x.f0,.string x.f1.f0,.string x.f1.f1,.int .i64 x.f1.f2,.int .i64 x.f1.f3,.bool x.f1.f4,.slice A6 x.f1.f5.length c6]:=fun W2 hW=>zu W2 x l6 (g6 W2 hW)
def aA (xs : List S96) (i : Int) : S96:=xs.getD i.toNat z96
theorem wo {w : World} {A : Option Addr} {n : Nat} {xs : List S96} (h : Kd.C k96 w A n xs) (i : Int) (h0 : 0 ≤ i) (h1 : i < n) : ∃ ad A6 c6,A = some ad ∧ w.cell? (ad.add (i.toNat * 7)) = some (.string (aA xs i).f0) ∧ w.cell? ⟨(ad.add (i.toNat * 7)).block,(ad.add (i.toNat * 7)).off + 1,none⟩ = some (.string (aA xs i).f1.f0) ∧ w.cell? ⟨(ad.add (i.toNat * 7)).block,(ad.add (i.toNat * 7)).off + 2,none⟩ = some (.string (aA xs i).f1.f1) ∧ w.cell? ⟨(ad.add (i.toNat * 7)).block,(ad.add (i.toNat * 7)).off + 3,none⟩ = some (.int .i64 (aA xs i).f1.f2) ∧ w.cell? ⟨(ad.add (i.toNat * 7)).block,(ad.add (i.toNat * 7)).off + 4,none⟩ = some (.int .i64 (aA xs i).f1.f3) ∧ w.cell? ⟨(ad.add (i.toNat * 7)).block,(ad.add (i.toNat * 7)).off + 5,none⟩ = some (.bool (aA xs i).f1.f4) ∧ w.cell? ⟨(ad.add (i.toNat * 7)).block,(ad.add (i.toNat * 7)).off + 6,none⟩ = some (.slice A6 (aA xs i).f1.f5.length c6) ∧ (aA xs i).f1.f5.length ≤ c6 ∧ kV.C w A6 (aA xs i).f1.f5.length (aA xs i).f1.f5:=by
 obtain ⟨ad,c,e,_,hK,hc0⟩:=Kd.jN h z96 i h0 h1
 have hc : ∀ j u,c[j]? = some u → w.cell? (ad.add (i.toNat * 7 + j)) = some u:=hc0
 obtain ⟨A6,c6,rfl,l6,g6⟩:=wm hK
 exact ⟨ad,A6,c6,e,hc 0 _ rfl,by rw [← bM _ _ 1 (by omega)];exact hc 1 _ rfl,by rw [← bM _ _ 2 (by omega)];exact hc 2 _ rfl,by rw [← bM _ _ 3 (by omega)];exact hc 3 _ rfl,by rw [← bM _ _ 4 (by omega)];exact hc 4 _ rfl,by rw [← bM _ _ 5 (by omega)];exact hc 5 _ rfl,by rw [← bM _ _ 6 (by omega)];exact hc 6 _ rfl,l6,g6⟩
structure S47 where
 f0 : Int
 f1 : (List S96)
end Go.Proofs.YtpncpefppifgdaaGreatDoor.GUt
