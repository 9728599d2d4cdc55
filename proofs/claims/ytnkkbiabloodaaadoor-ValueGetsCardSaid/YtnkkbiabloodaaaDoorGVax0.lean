/- Written by this session's own program (wip/gen.py) out of the translation: plain Lean functions of the Go functions, and proofs that the calls come to their answers. No conditions beside those in the statements. -/
import Derived.Test.YtnkkbiabloodaaaDoorProg
import Derived.Below
import Derived.Deep.Draws
import Derived.Deep.AppendLies
import Derived.Maps.AppendAt
import Derived.OwnWalk
import Derived.Laws.BytesArg
import Derived.Laws.MakeOwn
import Derived.Laws.OwnMore
import Derived.Deep.OwnRows
import Derived.Tactics
import Derived.Lib.ConvBytes
import Derived.Laws.Slices
import Derived.WalkKit
import Derived.KernelRfl
import Derived.RowKit3
import Derived.Deep.LoopGhost
import Derived.Deep.QuietTactic
import Derived.BigQuiet
import Derived.WideLaws
import Derived.Deep.DeepCutAuto
import Derived.Deep.CutBlock
import Derived.Deep.RegionHeld3
import Derived.Laws.Rows
import Derived.Lib.AppendStr
import Derived.ArgAppend
import Derived.Laws.IdiomCopy
import Derived.OrdersHeld
import Derived.Laws.BitsLemmas
import Derived.RowKit
import Derived.Test.YtnkkbiabloodaaaDoorWd
namespace Go.Proofs.YtnkkbiabloodaaaDoor.GVa
open Go.RowKit Go.Proofs.YtnkkbiabloodaaaDoorW.PrintWords Go.Proofs.YtnkkbiabloodaaaDoorW.PrintLast Go.Proofs.YtnkkbiabloodaaaDoorW.PrintMore
attribute [local go_sem] fG fH fV fZ eO eP fI fJ
set_option linter.unusedVariables false
set_option linter.unusedSimpArgs false
def wG : Option Int → Value
 | none=>.nilIface
 | some c=>.iface 0 (.int .i64 c)
theorem aX : wG none = .nilIface:=rfl
theorem aY (c : Int) : wG (some c) = .iface 0 (.int .i64 c):=rfl
theorem eD {x : Int} (h0 : 0 ≤ x) (h1 : x ≤ 18446744073709551615) : IntKind.u64.wrap x = x:=by simp [IntKind.wrap,IntKind.bits,IntKind.signed];omega
theorem eB {x : Int} (h0 : -9223372036854775808 ≤ x) (h1 : x ≤ 9223372036854775807) : wrap64 x = x:=by unfold wrap64;omega
theorem xg (l : List UInt8) : (l != []) = !l.isEmpty:=by cases l <;> rfl
theorem fU {x : Int} (h0 : 0 ≤ x) (h1 : x ≤ 255) : x % 256 = x:=by omega
theorem qb : ∀ x y : List UInt8,(Op.bytesLess x y || x == y) = !(Op.bytesLess y x)
 | [],[]=>rfl
 | [],_ :: _=>rfl
 | _ :: _,[]=>rfl
 | a :: x,b :: y=>by
  have ih:=qb x y
  simp only [Op.bytesLess,List.cons_beq_cons]
  rcases Nat.lt_trichotomy a.toNat b.toNat with h|h|h
  ·have h1 : a < b:=h
   have h2 : ¬ b < a:=fun e=>by have : b.toNat < a.toNat:=e;omega
   have h3 : ¬ b = a:=fun e=>by subst e;omega
   simp [h1,h2,h3]
  ·obtain rfl : a = b:=UInt8.toNat_inj.1 h
   simpa using ih
  ·have h1 : b < a:=h
   have h2 : ¬ a < b:=fun e=>by have : a.toNat < b.toNat:=e;omega
   have h3 : ¬ b = a:=fun e=>by subst e;omega
   have h4 : ¬ a = b:=fun e=>by subst e;omega
   simp [h1,h2,h3,h4]
@[go_sem] theorem xk (t : TypeId) (a b : ByteArray) : binOp .leq t (.string a) (.string b) = pure (.bool (!(Op.bytesLess b.toList a.toList))):=by
 rw [← qb];simp [binOp,Op.stringOp]
@[go_sem] theorem xq (t : TypeId) (a b : ByteArray) : binOp .gtr t (.string a) (.string b) = pure (.bool (Op.bytesLess b.toList a.toList)):=by
 have e : binOp .gtr t (.string a) (.string b) = pure (.bool (!(Op.bytesLess a.toList b.toList || a.toList == b.toList))):=by simp [binOp,Op.stringOp]
 rw [e,qb,Bool.not_not]
@[go_sem] theorem xu (t : TypeId) (a b : ByteArray) : binOp .geq t (.string a) (.string b) = pure (.bool (!(Op.bytesLess a.toList b.toList))):=by simp [binOp,Op.stringOp]
theorem info5 : (Tryd.prog.info? 5).map (fun i=>(i.zero,i.size,i.bytes)) = some (some (.int .u8 0),1,1):=by kernel_rfl
theorem jD : (Tryd.prog.info? 29).map (fun i=>(i.zero,i.size,i.bytes)) = some (some (.agg #[(.int .i64 0),(.bool false),(.int .i64 0),(.string ⟨#[]⟩),(.slice none 0 0),(.slice none 0 0)]),6,88):=by kernel_rfl
theorem oC : (Tryd.prog.info? 33).map (fun i=>(i.zero,i.size,i.bytes)) = some (some (.agg #[(.int .i64 0),(.bool false),(.int .i64 0),(.string ⟨#[]⟩),(.slice none 0 0),(.slice none 0 0)]),6,88):=by kernel_rfl
theorem xJ : (Tryd.prog.info? 48).map (fun i=>(i.zero,i.size,i.bytes)) = some (some (.agg #[(.string ⟨#[]⟩),(.int .i64 0),(.bool false),(.int .i64 0),(.string ⟨#[]⟩),(.slice none 0 0),(.slice none 0 0)]),7,104):=by kernel_rfl
theorem vI : (Tryd.prog.info? 50).map (fun i=>(i.zero,i.size,i.bytes)) = some (some (.agg #[(.string ⟨#[]⟩),(.int .i64 0),(.bool false),(.int .i64 0),(.string ⟨#[]⟩),(.slice none 0 0),(.slice none 0 0)]),7,104):=by kernel_rfl
structure S75 where
 f0 : Int
 f1 : Int
 f2 : Bool
 f3 : Int
 f4 : ByteArray
def z75 : S75:=⟨(0 : Int),(0 : Int),false,(0 : Int),(⟨#[]⟩ : ByteArray)⟩
def k75 : Kd S75:=Kd.iso (Kd.pair (Kd.int .i64) (Kd.pair (Kd.int .i64) (Kd.pair Kd.bool (Kd.pair (Kd.int .i64) Kd.string)))) (fun x : S75=>(x.f0,x.f1,x.f2,x.f3,x.f4))
theorem wH : Kd.Heap k75:=Kd.iY _ (Kd.dV (Kd.iX .i64) (Kd.dV (Kd.iX .i64) (Kd.dV Kd.lu (Kd.dV (Kd.iX .i64) Kd.gP))))
theorem sG {w : World} {x : S75} {cs : List Value} (h : k75.K w x cs) : cs = [.int .i64 x.f0,.int .i64 x.f1,.bool x.f2,.int .i64 x.f3,.string x.f4]:=by
 obtain ⟨_,_,rfl,rfl,⟨_,_,rfl,rfl,⟨_,_,rfl,rfl,⟨_,_,rfl,rfl,rfl⟩⟩⟩⟩:=h
 exact rfl
theorem vY {w : World} {base : Nat} {ok : Nat → Prop} {x : S75} {cs : List Value} (h : k75.M w base ok x cs) : cs = [.int .i64 x.f0,.int .i64 x.f1,.bool x.f2,.int .i64 x.f3,.string x.f4]:=by
 obtain ⟨_,_,rfl,rfl,⟨_,_,rfl,rfl,⟨_,_,rfl,rfl,⟨_,_,rfl,rfl,rfl⟩⟩⟩⟩:=h
 exact rfl
theorem vJ (w : World) (x : S75)  : k75.K w x [.int .i64 x.f0,.int .i64 x.f1,.bool x.f2,.int .i64 x.f3,.string x.f4]:=⟨[.int .i64 x.f0],[.int .i64 x.f1,.bool x.f2,.int .i64 x.f3,.string x.f4],rfl,rfl,⟨[.int .i64 x.f1],[.bool x.f2,.int .i64 x.f3,.string x.f4],rfl,rfl,⟨[.bool x.f2],[.int .i64 x.f3,.string x.f4],rfl,rfl,⟨[.int .i64 x.f3],[.string x.f4],rfl,rfl,rfl⟩⟩⟩⟩
theorem xw (w : World) (base : Nat) (ok : Nat → Prop) (x : S75)  : k75.M w base ok x [.int .i64 x.f0,.int .i64 x.f1,.bool x.f2,.int .i64 x.f3,.string x.f4]:=⟨[.int .i64 x.f0],[.int .i64 x.f1,.bool x.f2,.int .i64 x.f3,.string x.f4],rfl,rfl,⟨[.int .i64 x.f1],[.bool x.f2,.int .i64 x.f3,.string x.f4],rfl,rfl,⟨[.bool x.f2],[.int .i64 x.f3,.string x.f4],rfl,rfl,⟨[.int .i64 x.f3],[.string x.f4],rfl,rfl,rfl⟩⟩⟩⟩
theorem xA (W : World) (ok : Nat → Prop) (x : S75) : Kd.FK k75 W ok x [.int .i64 x.f0,.int .i64 x.f1,.bool x.f2,.int .i64 x.f3,.string x.f4]:=fun W2 _=>vJ W2 x
def fu (xs : List S75) (i : Int) : S75:=xs.getD i.toNat z75
theorem qc {w : World} {A : Option Addr} {n : Nat} {xs : List S75} (h : Kd.C k75 w A n xs) (i : Int) (h0 : 0 ≤ i) (h1 : i < n) : ∃ ad ,A = some ad ∧ w.cell? (ad.add (i.toNat * 5)) = some (.int .i64 (fu xs i).f0) ∧ w.cell? ⟨(ad.add (i.toNat * 5)).block,(ad.add (i.toNat * 5)).off + 1,none⟩ = some (.int .i64 (fu xs i).f1) ∧ w.cell? ⟨(ad.add (i.toNat * 5)).block,(ad.add (i.toNat * 5)).off + 2,none⟩ = some (.bool (fu xs i).f2) ∧ w.cell? ⟨(ad.add (i.toNat * 5)).block,(ad.add (i.toNat * 5)).off + 3,none⟩ = some (.int .i64 (fu xs i).f3) ∧ w.cell? ⟨(ad.add (i.toNat * 5)).block,(ad.add (i.toNat * 5)).off + 4,none⟩ = some (.string (fu xs i).f4):=by
 obtain ⟨ad,c,e,_,hK,hc0⟩:=Kd.lQ h z75 i h0 h1
 have hc : ∀ j u,c[j]? = some u → w.cell? (ad.add (i.toNat * 5 + j)) = some u:=hc0
 obtain rfl:=sG hK
 exact ⟨ad,e,hc 0 _ rfl,by rw [← bN _ _ 1 (by omega)];exact hc 1 _ rfl,by rw [← bN _ _ 2 (by omega)];exact hc 2 _ rfl,by rw [← bN _ _ 3 (by omega)];exact hc 3 _ rfl,by rw [← bN _ _ 4 (by omega)];exact hc 4 _ rfl⟩
structure Q48 (α : Type) where
 f0 : ByteArray
 f1 : α
structure S29 where
 f0 : Int
 f1 : Bool
 f2 : Int
 f3 : ByteArray
 f4 : (List S29)
 f5 : (List (Q48 S29))
abbrev S48:=Q48 S29
def z29 : S29:=⟨(0 : Int),false,(0 : Int),(⟨#[]⟩ : ByteArray),([] : List S29),([] : List (Q48 S29))⟩
def F29 (d : Kd S29) : Kd S29:=Kd.iso (Kd.pair (Kd.int .i64) (Kd.pair Kd.bool (Kd.pair (Kd.int .i64) (Kd.pair Kd.string (Kd.pair (Kd.slice 29 d) (Kd.slice 48 (Kd.iso (Kd.pair Kd.string d) (fun x : Q48 S29=>(x.f0,x.f1))))))))) (fun x : S29=>(x.f0,x.f1,x.f2,x.f3,x.f4,x.f5))
theorem jP : Kd.Mono F29:=Kd.jw _ (Kd.fA (Kd.fE _) (Kd.fA (Kd.fE _) (Kd.fA (Kd.fE _) (Kd.fA (Kd.fE _) (Kd.fA (Kd.jB 29 Kd.jV) (Kd.jB 48 (Kd.jw _ (Kd.fA (Kd.fE _) Kd.jV))))))))
theorem wI : Kd.Sub F29 [29,48]:=Kd.lZ _ (Kd.gI (Kd.sub_const _ (by decide)) (Kd.gI (Kd.sub_const _ (by decide)) (Kd.gI (Kd.sub_const _ (by decide)) (Kd.gI (Kd.sub_const _ (by decide)) (Kd.gI (Kd.jW 29 (by decide) Kd.nW) (Kd.jW 48 (by decide) (Kd.lZ _ (Kd.gI (Kd.sub_const _ (by decide)) Kd.nW))))))))
theorem iB : ∀ n,(Kd.upto F29 6 [29,48] n).sz = 6:=Kd.qx (fun _=>rfl)
def k29 : Kd S29:=Kd.fix F29 6 [29,48] iB (Kd.pX wI)
theorem uT {β : Type} {D : Nat → Kd β} {d : Kd β} (hsz : ∀ n,(D n).sz = d.sz) (hle : ∀ n m w x cs,n ≤ m → (D n).K w x cs → (D m).K w x cs) (hd : ∀ w x cs,d.K w x cs → ∃ n,(D n).K w x cs) {w : World} {A : Option Addr} {m : Nat} {xs : List β} (h : d.C w A m xs) : ∃ n,(D n).C w A m xs:=by
 rcases Nat.eq_zero_or_pos m with hz|hpos
 ·subst hz
  exact ⟨0,h.1,h.2.1,fun hp=>absurd hp (Nat.lt_irrefl 0)⟩
 ·obtain ⟨ad,e,hc⟩:=h.2.2 hpos
  obtain ⟨N,hN⟩:=Kd.bounded (P:=fun n j=>∀ p,xs[j]? = some p → ∃ c,c.length = d.sz ∧ (D n).K w p c ∧ ∀ i u,c[i]? = some u → w.cell? (ad.add (j * d.sz + i)) = some u)
   (fun n n' j hnm hp p hj=>by
    obtain ⟨c,h1,h2,h3⟩:=hp p hj
    exact ⟨c,h1,hle n n' _ _ _ hnm h2,h3⟩) xs.length
   (fun j hj=>by
    obtain ⟨c,h1,h2,h3⟩:=hc j _ (List.getElem?_eq_getElem hj)
    obtain ⟨n,h2⟩:=hd _ _ _ h2
    refine ⟨n,fun p hp=>?_⟩
    rw [List.getElem?_eq_getElem hj] at hp
    injection hp with hp
    rw [← hp]
    exact ⟨c,h1,h2,h3⟩)
  refine ⟨N,h.1,h.2.1,fun _=>⟨ad,e,fun j p hj=>?_⟩⟩
  rw [hsz N]
  exact hN j (List.getElem?_eq_some_iff.1 hj).1 p hj
theorem uU {β : Type} {D : Nat → Kd β} {d : Kd β} (hsz : ∀ n,(D n).sz = d.sz) (hle : ∀ n m w base ok x cs,n ≤ m → (D n).M w base ok x cs → (D m).M w base ok x cs) (hd : ∀ w base ok x cs,d.M w base ok x cs → ∃ n,(D n).M w base ok x cs) {e : Nat} {w : World} {base : Nat} {ok : Nat → Prop} {v : Value} {xs : List β} (h : d.R e w base ok v xs) : ∃ n,(D n).R e w base ok v xs:=by
 obtain ⟨h0,inner,ho,hr⟩:=h
 obtain ⟨N,hN⟩:=Kd.kJ (R:=fun n p c=>(D n).M w base (fun k=>ok k ∧ some k ≠ v.ownBlock) p c) (fun n m p c hnm hp=>hle n m _ _ _ _ _ hnm hp) (hr.je (fun _ _ hp=>hd _ _ _ _ _ hp))
 refine ⟨N,h0,inner,?_,?_⟩
 ·rw [hsz N];exact ho
 ·rw [hsz N];exact hN
def g48 (d : Kd S29) : Kd S48:=(Kd.iso (Kd.pair Kd.string d) (fun x : Q48 S29=>(x.f0,x.f1)))
def k48 : Kd S48:=(Kd.iso (Kd.pair Kd.string k29) (fun x : Q48 S29=>(x.f0,x.f1)))
theorem iq : Kd.Mono g48:=Kd.jw _ (Kd.fA (Kd.fE _) Kd.jV)
theorem sH {n : Nat} {w : World} {A : Option Addr} {m : Nat} {xs : List S48} (h : (g48 (Kd.upto F29 6 [29,48] n)).C w A m xs) : k48.C w A m xs:=Kd.mG (d:=g48 (Kd.upto F29 6 [29,48] n)) (d':=g48 k29) (iq.sz _ k29 ((iB n).trans (iB 0).symm)) (iq.K _ k29 ((iB n).trans (iB 0).symm) (fun w x cs hp=>⟨n,hp⟩)) h
theorem sI {n : Nat} {e : Nat} {w : World} {base : Nat} {ok : Nat → Prop} {v : Value} {xs : List S48} (h : (g48 (Kd.upto F29 6 [29,48] n)).R e w base ok v xs) : k48.R e w base ok v xs:=Kd.mH (d:=g48 (Kd.upto F29 6 [29,48] n)) (d':=g48 k29) (iq.sz _ k29 ((iB n).trans (iB 0).symm)) (iq.M _ k29 ((iB n).trans (iB 0).symm) (fun w base ok x cs hp=>⟨n,hp⟩)) h
theorem uz {n m : Nat} (hnm : n ≤ m) {w : World} {A : Option Addr} {l : Nat} {xs : List S48} (h : (g48 (Kd.upto F29 6 [29,48] n)).C w A l xs) : (g48 (Kd.upto F29 6 [29,48] m)).C w A l xs:=Kd.mG (iq.sz _ _ ((iB n).trans (iB m).symm)) (iq.K _ _ ((iB n).trans (iB m).symm) (fun _ _ _ hp=>Kd.iR jP iB hnm hp)) h
theorem uD {n m : Nat} (hnm : n ≤ m) {e : Nat} {w : World} {base : Nat} {ok : Nat → Prop} {v : Value} {xs : List S48} (h : (g48 (Kd.upto F29 6 [29,48] n)).R e w base ok v xs) : (g48 (Kd.upto F29 6 [29,48] m)).R e w base ok v xs:=Kd.mH (iq.sz _ _ ((iB n).trans (iB m).symm)) (iq.M _ _ ((iB n).trans (iB m).symm) (fun _ _ _ _ _ hp=>Kd.iT jP iB hnm hp)) h
theorem qY {w : World} {A : Option Addr} {m : Nat} {xs : List S48} (h : k48.C w A m xs) : ∃ n,(g48 (Kd.upto F29 6 [29,48] n)).C w A m xs:=by
 refine uT (D:=fun n=>g48 (Kd.upto F29 6 [29,48] n)) (d:=k48) (fun n=>iq.sz _ k29 ((iB n).trans (iB 0).symm)) (fun n m w x cs hnm=>iq.K _ _ ((iB n).trans (iB m).symm) (fun _ _ _ hp=>Kd.iR jP iB hnm hp) w x cs) (fun w x cs h=>?_) h
 obtain ⟨c0,d0,rfl,e0,h⟩:=h
 obtain ⟨n,h⟩:=h
 exact ⟨n,⟨c0,d0,rfl,e0,h⟩⟩
theorem qZ {e : Nat} {w : World} {base : Nat} {ok : Nat → Prop} {v : Value} {xs : List S48} (h : k48.R e w base ok v xs) : ∃ n,(g48 (Kd.upto F29 6 [29,48] n)).R e w base ok v xs:=by
 refine uU (D:=fun n=>g48 (Kd.upto F29 6 [29,48] n)) (d:=k48) (fun n=>iq.sz _ k29 ((iB n).trans (iB 0).symm)) (fun n m w base ok x cs hnm=>iq.M _ _ ((iB n).trans (iB m).symm) (fun _ _ _ _ _ hp=>Kd.iT jP iB hnm hp) w base ok x cs) (fun w base ok x cs h=>?_) h
 obtain ⟨c0,d0,rfl,e0,h⟩:=h
 obtain ⟨n,h⟩:=h
 exact ⟨n,⟨c0,d0,rfl,e0,h⟩⟩
theorem mX : Kd.Heap k29:=Kd.oZ (fun _ h_=>Kd.iY _ (Kd.dV (Kd.iX .i64) (Kd.dV Kd.lu (Kd.dV (Kd.iX .i64) (Kd.dV Kd.gP (Kd.dV (Kd.jC 29 h_) (Kd.jC 48 (Kd.iY _ (Kd.dV Kd.gP h_)))))))))
theorem jQ {w : World} {x : S29} {cs : List Value} (h : k29.K w x cs) : ∃ A4 c4 A5 c5,cs = [.int .i64 x.f0,.bool x.f1,.int .i64 x.f2,.string x.f3,.slice A4 x.f4.length c4,.slice A5 x.f5.length c5] ∧ x.f4.length ≤ c4 ∧ k29.C w A4 x.f4.length x.f4 ∧ x.f5.length ≤ c5 ∧ k48.C w A5 x.f5.length x.f5:=by
 obtain ⟨n,h⟩:=h
 cases n with
 | zero=>exact h.elim
 | succ n =>
  obtain ⟨_,_,rfl,rfl,⟨_,_,rfl,rfl,⟨_,_,rfl,rfl,⟨_,_,rfl,rfl,⟨_,_,rfl,⟨A4,c4,rfl,l4,g4⟩,⟨A5,c5,rfl,l5,g5⟩⟩⟩⟩⟩⟩:=h
  exact ⟨A4,c4,A5,c5,rfl,l4,Kd.uO g4,l5,sH g5⟩
theorem q8 {w : World} {base : Nat} {ok : Nat → Prop} {x : S29} {cs : List Value} (h : k29.M w base ok x cs) : ∃ v4 v5,cs = [.int .i64 x.f0,.bool x.f1,.int .i64 x.f2,.string x.f3,v4,v5] ∧ k29.R 29 w base ok v4 x.f4 ∧ k48.R 48 w base ok v5 x.f5:=by
 obtain ⟨n,h⟩:=h
 cases n with
 | zero=>exact h.elim
 | succ n =>
  obtain ⟨_,_,rfl,rfl,⟨_,_,rfl,rfl,⟨_,_,rfl,rfl,⟨_,_,rfl,rfl,⟨_,_,rfl,⟨v4,rfl,g4⟩,⟨v5,rfl,g5⟩⟩⟩⟩⟩⟩:=h
  exact ⟨v4,v5,rfl,Kd.uP g4,sI g5⟩
theorem sJ (w : World) (x : S29) {A4 : Option Addr} {c4 : Nat} (l4 : x.f4.length ≤ c4) (g4 : k29.C w A4 x.f4.length x.f4) {A5 : Option Addr} {c5 : Nat} (l5 : x.f5.length ≤ c5) (g5 : k48.C w A5 x.f5.length x.f5) : k29.K w x [.int .i64 x.f0,.bool x.f1,.int .i64 x.f2,.string x.f3,.slice A4 x.f4.length c4,.slice A5 x.f5.length c5]:=by
 obtain ⟨n4,q4⟩:=Kd.mJ jP g4
 obtain ⟨n5,q5⟩:=qY g5
 have r4:=Kd.nK jP iB (show n4 ≤ (max n4 n5) by omega) q4
 have r5:=uz (show n5 ≤ (max n4 n5) by omega) q5
 exact ⟨(max n4 n5) + 1,⟨[.int .i64 x.f0],[.bool x.f1,.int .i64 x.f2,.string x.f3,.slice A4 x.f4.length c4,.slice A5 x.f5.length c5],rfl,rfl,⟨[.bool x.f1],[.int .i64 x.f2,.string x.f3,.slice A4 x.f4.length c4,.slice A5 x.f5.length c5],rfl,rfl,⟨[.int .i64 x.f2],[.string x.f3,.slice A4 x.f4.length c4,.slice A5 x.f5.length c5],rfl,rfl,⟨[.string x.f3],[.slice A4 x.f4.length c4,.slice A5 x.f5.length c5],rfl,rfl,⟨[.slice A4 x.f4.length c4],[.slice A5 x.f5.length c5],rfl,⟨A4,c4,rfl,l4,r4⟩,⟨A5,c5,rfl,l5,r5⟩⟩⟩⟩⟩⟩⟩
theorem uE (w : World) (base : Nat) (ok : Nat → Prop) (x : S29) {v4 : Value} (g4 : k29.R 29 w base ok v4 x.f4) {v5 : Value} (g5 : k48.R 48 w base ok v5 x.f5) : k29.M w base ok x [.int .i64 x.f0,.bool x.f1,.int .i64 x.f2,.string x.f3,v4,v5]:=by
 obtain ⟨n4,q4⟩:=Kd.mI jP g4
 obtain ⟨n5,q5⟩:=qZ g5
 have r4:=Kd.nJ jP iB (show n4 ≤ (max n4 n5) by omega) q4
 have r5:=uD (show n5 ≤ (max n4 n5) by omega) q5
 exact ⟨(max n4 n5) + 1,⟨[.int .i64 x.f0],[.bool x.f1,.int .i64 x.f2,.string x.f3,v4,v5],rfl,rfl,⟨[.bool x.f1],[.int .i64 x.f2,.string x.f3,v4,v5],rfl,rfl,⟨[.int .i64 x.f2],[.string x.f3,v4,v5],rfl,rfl,⟨[.string x.f3],[v4,v5],rfl,rfl,⟨[v4],[v5],rfl,⟨v4,rfl,r4⟩,⟨v5,rfl,r5⟩⟩⟩⟩⟩⟩⟩
theorem j3 {W : World} {ok : Nat → Prop} {x : S29} {cs : List Value} (h : Kd.FK k29 W ok x cs) : ∃ A4 c4 A5 c5,cs = [.int .i64 x.f0,.bool x.f1,.int .i64 x.f2,.string x.f3,.slice A4 x.f4.length c4,.slice A5 x.f5.length c5] ∧ x.f4.length ≤ c4 ∧ Kd.F k29 W ok A4 x.f4.length x.f4 ∧ x.f5.length ≤ c5 ∧ Kd.F k48 W ok A5 x.f5.length x.f5:=by
 obtain ⟨A4,c4,A5,c5,rfl,l4,_,l5,_⟩:=jQ (Kd.gK h)
 exact ⟨A4,c4,A5,c5,rfl,l4,(fun W' hW=>by obtain ⟨xX,xY,xS,xU,he,yj,xZ,xW,xV⟩:=jQ (h W' hW);injection (Option.some.inj (show some (Value.slice A4 x.f4.length c4) = some (Value.slice xX x.f4.length xY) from congrArg (fun l=>l[4]?) he)) with ha_ _ _;rw [ha_];exact xZ),l5,(fun W' hW=>by obtain ⟨xX,xY,xS,xU,he,yj,xZ,xW,xV⟩:=jQ (h W' hW);injection (Option.some.inj (show some (Value.slice A5 x.f5.length c5) = some (Value.slice xS x.f5.length xU) from congrArg (fun l=>l[5]?) he)) with ha_ _ _;rw [ha_];exact xV)⟩
theorem iI (W : World) (ok : Nat → Prop) (x : S29) {A4 : Option Addr} {c4 : Nat} (l4 : x.f4.length ≤ c4) (g4 : Kd.F k29 W ok A4 x.f4.length x.f4) {A5 : Option Addr} {c5 : Nat} (l5 : x.f5.length ≤ c5) (g5 : Kd.F k48 W ok A5 x.f5.length x.f5) : Kd.FK k29 W ok x [.int .i64 x.f0,.bool x.f1,.int .i64 x.f2,.string x.f3,.slice A4 x.f4.length c4,.slice A5 x.f5.length c5]:=fun W2 hW=>sJ W2 x l4 (g4 W2 hW) l5 (g5 W2 hW)
def aH (xs : List S29) (i : Int) : S29:=xs.getD i.toNat z29
theorem jR {w : World} {A : Option Addr} {n : Nat} {xs : List S29} (h : Kd.C k29 w A n xs) (i : Int) (h0 : 0 ≤ i) (h1 : i < n) : ∃ ad A4 c4 A5 c5,A = some ad ∧ w.cell? (ad.add (i.toNat * 6)) = some (.int .i64 (aH xs i).f0) ∧ w.cell? ⟨(ad.add (i.toNat * 6)).block,(ad.add (i.toNat * 6)).off + 1,none⟩ = some (.bool (aH xs i).f1) ∧ w.cell? ⟨(ad.add (i.toNat * 6)).block,(ad.add (i.toNat * 6)).off + 2,none⟩ = some (.int .i64 (aH xs i).f2) ∧ w.cell? ⟨(ad.add (i.toNat * 6)).block,(ad.add (i.toNat * 6)).off + 3,none⟩ = some (.string (aH xs i).f3) ∧ w.cell? ⟨(ad.add (i.toNat * 6)).block,(ad.add (i.toNat * 6)).off + 4,none⟩ = some (.slice A4 (aH xs i).f4.length c4) ∧ w.cell? ⟨(ad.add (i.toNat * 6)).block,(ad.add (i.toNat * 6)).off + 5,none⟩ = some (.slice A5 (aH xs i).f5.length c5) ∧ (aH xs i).f4.length ≤ c4 ∧ k29.C w A4 (aH xs i).f4.length (aH xs i).f4 ∧ (aH xs i).f5.length ≤ c5 ∧ k48.C w A5 (aH xs i).f5.length (aH xs i).f5:=by
 obtain ⟨ad,c,e,_,hK,hc0⟩:=Kd.lQ h z29 i h0 h1
 have hc : ∀ j u,c[j]? = some u → w.cell? (ad.add (i.toNat * 6 + j)) = some u:=hc0
 obtain ⟨A4,c4,A5,c5,rfl,l4,g4,l5,g5⟩:=jQ hK
 exact ⟨ad,A4,c4,A5,c5,e,hc 0 _ rfl,by rw [← bN _ _ 1 (by omega)];exact hc 1 _ rfl,by rw [← bN _ _ 2 (by omega)];exact hc 2 _ rfl,by rw [← bN _ _ 3 (by omega)];exact hc 3 _ rfl,by rw [← bN _ _ 4 (by omega)];exact hc 4 _ rfl,by rw [← bN _ _ 5 (by omega)];exact hc 5 _ rfl,l4,g4,l5,g5⟩
def z48 : S48:=⟨(⟨#[]⟩ : ByteArray),z29⟩
theorem o7 : Kd.Heap k48:=Kd.iY _ (Kd.dV Kd.gP mX)
theorem kT {w : World} {x : S48} {cs : List Value} (h : k48.K w x cs) : ∃ A5 c5 A6 c6,cs = [.string x.f0,.int .i64 x.f1.f0,.bool x.f1.f1,.int .i64 x.f1.f2,.string x.f1.f3,.slice A5 x.f1.f4.length c5,.slice A6 x.f1.f5.length c6] ∧ x.f1.f4.length ≤ c5 ∧ k29.C w A5 x.f1.f4.length x.f1.f4 ∧ x.f1.f5.length ≤ c6 ∧ k48.C w A6 x.f1.f5.length x.f1.f5:=by
 obtain ⟨_,_,rfl,rfl,s1⟩:=h
 obtain ⟨A5,c5,A6,c6,rfl,l5,g5,l6,g6⟩:=jQ s1
 exact ⟨A5,c5,A6,c6,rfl,l5,g5,l6,g6⟩
theorem vZ {w : World} {base : Nat} {ok : Nat → Prop} {x : S48} {cs : List Value} (h : k48.M w base ok x cs) : ∃ v5 v6,cs = [.string x.f0,.int .i64 x.f1.f0,.bool x.f1.f1,.int .i64 x.f1.f2,.string x.f1.f3,v5,v6] ∧ k29.R 29 w base ok v5 x.f1.f4 ∧ k48.R 48 w base ok v6 x.f1.f5:=by
 obtain ⟨_,_,rfl,rfl,s1⟩:=h
 obtain ⟨v5,v6,rfl,g5,g6⟩:=q8 s1
 exact ⟨v5,v6,rfl,g5,g6⟩
theorem vK (w : World) (x : S48) {A5 : Option Addr} {c5 : Nat} (l5 : x.f1.f4.length ≤ c5) (g5 : k29.C w A5 x.f1.f4.length x.f1.f4) {A6 : Option Addr} {c6 : Nat} (l6 : x.f1.f5.length ≤ c6) (g6 : k48.C w A6 x.f1.f5.length x.f1.f5) : k48.K w x [.string x.f0,.int .i64 x.f1.f0,.bool x.f1.f1,.int .i64 x.f1.f2,.string x.f1.f3,.slice A5 x.f1.f4.length c5,.slice A6 x.f1.f5.length c6]:=⟨[.string x.f0],[.int .i64 x.f1.f0,.bool x.f1.f1,.int .i64 x.f1.f2,.string x.f1.f3,.slice A5 x.f1.f4.length c5,.slice A6 x.f1.f5.length c6],rfl,rfl,(sJ w x.f1 l5 g5 l6 g6)⟩
theorem xB (w : World) (base : Nat) (ok : Nat → Prop) (x : S48) {v5 : Value} (g5 : k29.R 29 w base ok v5 x.f1.f4) {v6 : Value} (g6 : k48.R 48 w base ok v6 x.f1.f5) : k48.M w base ok x [.string x.f0,.int .i64 x.f1.f0,.bool x.f1.f1,.int .i64 x.f1.f2,.string x.f1.f3,v5,v6]:=⟨[.string x.f0],[.int .i64 x.f1.f0,.bool x.f1.f1,.int .i64 x.f1.f2,.string x.f1.f3,v5,v6],rfl,rfl,(uE w base ok x.f1 g5 g6)⟩
theorem lF {W : World} {ok : Nat → Prop} {x : S48} {cs : List Value} (h : Kd.FK k48 W ok x cs) : ∃ A5 c5 A6 c6,cs = [.string x.f0,.int .i64 x.f1.f0,.bool x.f1.f1,.int .i64 x.f1.f2,.string x.f1.f3,.slice A5 x.f1.f4.length c5,.slice A6 x.f1.f5.length c6] ∧ x.f1.f4.length ≤ c5 ∧ Kd.F k29 W ok A5 x.f1.f4.length x.f1.f4 ∧ x.f1.f5.length ≤ c6 ∧ Kd.F k48 W ok A6 x.f1.f5.length x.f1.f5:=by
 obtain ⟨A5,c5,A6,c6,rfl,l5,_,l6,_⟩:=kT (Kd.gK h)
 exact ⟨A5,c5,A6,c6,rfl,l5,(fun W' hW=>by obtain ⟨xS,xU,yc,yg,he,xW,xV,yt,yh⟩:=kT (h W' hW);injection (Option.some.inj (show some (Value.slice A5 x.f1.f4.length c5) = some (Value.slice xS x.f1.f4.length xU) from congrArg (fun l=>l[5]?) he)) with ha_ _ _;rw [ha_];exact xV),l6,(fun W' hW=>by obtain ⟨xS,xU,yc,yg,he,xW,xV,yt,yh⟩:=kT (h W' hW);injection (Option.some.inj (show some (Value.slice A6 x.f1.f5.length c6) = some (Value.slice yc x.f1.f5.length yg) from congrArg (fun l=>l[6]?) he)) with ha_ _ _;rw [ha_];exact yh)⟩
theorem qC (W : World) (ok : Nat → Prop) (x : S48) {A5 : Option Addr} {c5 : Nat} (l5 : x.f1.f4.length ≤ c5) (g5 : Kd.F k29 W ok A5 x.f1.f4.length x.f1.f4) {A6 : Option Addr} {c6 : Nat} (l6 : x.f1.f5.length ≤ c6) (g6 : Kd.F k48 W ok A6 x.f1.f5.length x.f1.f5) : Kd.FK k48 W ok x [.string x.f0,.int .i64 x.f1.f0,.bool x.f1.f1,.int .i64 x.f1.f2,.string x.f1.f3,.slice A5 x.f1.f4.length c5,.slice A6 x.f1.f5.length c6]:=fun W2 hW=>vK W2 x l5 (g5 W2 hW) l6 (g6 W2 hW)
def aC (xs : List S48) (i : Int) : S48:=xs.getD i.toNat z48
theorem jE {w : World} {A : Option Addr} {n : Nat} {xs : List S48} (h : Kd.C k48 w A n xs) (i : Int) (h0 : 0 ≤ i) (h1 : i < n) : ∃ ad A5 c5 A6 c6,A = some ad ∧ w.cell? (ad.add (i.toNat * 7)) = some (.string (aC xs i).f0) ∧ w.cell? ⟨(ad.add (i.toNat * 7)).block,(ad.add (i.toNat * 7)).off + 1,none⟩ = some (.int .i64 (aC xs i).f1.f0) ∧ w.cell? ⟨(ad.add (i.toNat * 7)).block,(ad.add (i.toNat * 7)).off + 2,none⟩ = some (.bool (aC xs i).f1.f1) ∧ w.cell? ⟨(ad.add (i.toNat * 7)).block,(ad.add (i.toNat * 7)).off + 3,none⟩ = some (.int .i64 (aC xs i).f1.f2) ∧ w.cell? ⟨(ad.add (i.toNat * 7)).block,(ad.add (i.toNat * 7)).off + 4,none⟩ = some (.string (aC xs i).f1.f3) ∧ w.cell? ⟨(ad.add (i.toNat * 7)).block,(ad.add (i.toNat * 7)).off + 5,none⟩ = some (.slice A5 (aC xs i).f1.f4.length c5) ∧ w.cell? ⟨(ad.add (i.toNat * 7)).block,(ad.add (i.toNat * 7)).off + 6,none⟩ = some (.slice A6 (aC xs i).f1.f5.length c6) ∧ (aC xs i).f1.f4.length ≤ c5 ∧ k29.C w A5 (aC xs i).f1.f4.length (aC xs i).f1.f4 ∧ (aC xs i).f1.f5.length ≤ c6 ∧ k48.C w A6 (aC xs i).f1.f5.length (aC xs i).f1.f5:=by
 obtain ⟨ad,c,e,_,hK,hc0⟩:=Kd.lQ h z48 i h0 h1
 have hc : ∀ j u,c[j]? = some u → w.cell? (ad.add (i.toNat * 7 + j)) = some u:=hc0
 obtain ⟨A5,c5,A6,c6,rfl,l5,g5,l6,g6⟩:=kT hK
 exact ⟨ad,A5,c5,A6,c6,e,hc 0 _ rfl,by rw [← bN _ _ 1 (by omega)];exact hc 1 _ rfl,by rw [← bN _ _ 2 (by omega)];exact hc 2 _ rfl,by rw [← bN _ _ 3 (by omega)];exact hc 3 _ rfl,by rw [← bN _ _ 4 (by omega)];exact hc 4 _ rfl,by rw [← bN _ _ 5 (by omega)];exact hc 5 _ rfl,by rw [← bN _ _ 6 (by omega)];exact hc 6 _ rfl,l5,g5,l6,g6⟩
structure Q50 (α : Type) where
 f0 : ByteArray
 f1 : α
structure S33 where
 f0 : Int
 f1 : Bool
 f2 : Int
 f3 : ByteArray
 f4 : (List S33)
 f5 : (List (Q50 S33))
abbrev S50:=Q50 S33
def z33 : S33:=⟨(0 : Int),false,(0 : Int),(⟨#[]⟩ : ByteArray),([] : List S33),([] : List (Q50 S33))⟩
def F33 (d : Kd S33) : Kd S33:=Kd.iso (Kd.pair (Kd.int .i64) (Kd.pair Kd.bool (Kd.pair (Kd.int .i64) (Kd.pair Kd.string (Kd.pair (Kd.slice 33 d) (Kd.slice 50 (Kd.iso (Kd.pair Kd.string d) (fun x : Q50 S33=>(x.f0,x.f1))))))))) (fun x : S33=>(x.f0,x.f1,x.f2,x.f3,x.f4,x.f5))
theorem jS : Kd.Mono F33:=Kd.jw _ (Kd.fA (Kd.fE _) (Kd.fA (Kd.fE _) (Kd.fA (Kd.fE _) (Kd.fA (Kd.fE _) (Kd.fA (Kd.jB 33 Kd.jV) (Kd.jB 50 (Kd.jw _ (Kd.fA (Kd.fE _) Kd.jV))))))))
theorem wJ : Kd.Sub F33 [33,50]:=Kd.lZ _ (Kd.gI (Kd.sub_const _ (by decide)) (Kd.gI (Kd.sub_const _ (by decide)) (Kd.gI (Kd.sub_const _ (by decide)) (Kd.gI (Kd.sub_const _ (by decide)) (Kd.gI (Kd.jW 33 (by decide) Kd.nW) (Kd.jW 50 (by decide) (Kd.lZ _ (Kd.gI (Kd.sub_const _ (by decide)) Kd.nW))))))))
theorem iC : ∀ n,(Kd.upto F33 6 [33,50] n).sz = 6:=Kd.qx (fun _=>rfl)
def k33 : Kd S33:=Kd.fix F33 6 [33,50] iC (Kd.pX wJ)
def g50 (d : Kd S33) : Kd S50:=(Kd.iso (Kd.pair Kd.string d) (fun x : Q50 S33=>(x.f0,x.f1)))
def k50 : Kd S50:=(Kd.iso (Kd.pair Kd.string k33) (fun x : Q50 S33=>(x.f0,x.f1)))
theorem iw : Kd.Mono g50:=Kd.jw _ (Kd.fA (Kd.fE _) Kd.jV)
theorem sK {n : Nat} {w : World} {A : Option Addr} {m : Nat} {xs : List S50} (h : (g50 (Kd.upto F33 6 [33,50] n)).C w A m xs) : k50.C w A m xs:=Kd.mG (d:=g50 (Kd.upto F33 6 [33,50] n)) (d':=g50 k33) (iw.sz _ k33 ((iC n).trans (iC 0).symm)) (iw.K _ k33 ((iC n).trans (iC 0).symm) (fun w x cs hp=>⟨n,hp⟩)) h
theorem sM {n : Nat} {e : Nat} {w : World} {base : Nat} {ok : Nat → Prop} {v : Value} {xs : List S50} (h : (g50 (Kd.upto F33 6 [33,50] n)).R e w base ok v xs) : k50.R e w base ok v xs:=Kd.mH (d:=g50 (Kd.upto F33 6 [33,50] n)) (d':=g50 k33) (iw.sz _ k33 ((iC n).trans (iC 0).symm)) (iw.M _ k33 ((iC n).trans (iC 0).symm) (fun w base ok x cs hp=>⟨n,hp⟩)) h
theorem uF {n m : Nat} (hnm : n ≤ m) {w : World} {A : Option Addr} {l : Nat} {xs : List S50} (h : (g50 (Kd.upto F33 6 [33,50] n)).C w A l xs) : (g50 (Kd.upto F33 6 [33,50] m)).C w A l xs:=Kd.mG (iw.sz _ _ ((iC n).trans (iC m).symm)) (iw.K _ _ ((iC n).trans (iC m).symm) (fun _ _ _ hp=>Kd.iR jS iC hnm hp)) h
theorem uG {n m : Nat} (hnm : n ≤ m) {e : Nat} {w : World} {base : Nat} {ok : Nat → Prop} {v : Value} {xs : List S50} (h : (g50 (Kd.upto F33 6 [33,50] n)).R e w base ok v xs) : (g50 (Kd.upto F33 6 [33,50] m)).R e w base ok v xs:=Kd.mH (iw.sz _ _ ((iC n).trans (iC m).symm)) (iw.M _ _ ((iC n).trans (iC m).symm) (fun _ _ _ _ _ hp=>Kd.iT jS iC hnm hp)) h
theorem q9 {w : World} {A : Option Addr} {m : Nat} {xs : List S50} (h : k50.C w A m xs) : ∃ n,(g50 (Kd.upto F33 6 [33,50] n)).C w A m xs:=by
 refine uT (D:=fun n=>g50 (Kd.upto F33 6 [33,50] n)) (d:=k50) (fun n=>iw.sz _ k33 ((iC n).trans (iC 0).symm)) (fun n m w x cs hnm=>iw.K _ _ ((iC n).trans (iC m).symm) (fun _ _ _ hp=>Kd.iR jS iC hnm hp) w x cs) (fun w x cs h=>?_) h
 obtain ⟨c0,d0,rfl,e0,h⟩:=h
 obtain ⟨n,h⟩:=h
 exact ⟨n,⟨c0,d0,rfl,e0,h⟩⟩
theorem ru {e : Nat} {w : World} {base : Nat} {ok : Nat → Prop} {v : Value} {xs : List S50} (h : k50.R e w base ok v xs) : ∃ n,(g50 (Kd.upto F33 6 [33,50] n)).R e w base ok v xs:=by
 refine uU (D:=fun n=>g50 (Kd.upto F33 6 [33,50] n)) (d:=k50) (fun n=>iw.sz _ k33 ((iC n).trans (iC 0).symm)) (fun n m w base ok x cs hnm=>iw.M _ _ ((iC n).trans (iC m).symm) (fun _ _ _ _ _ hp=>Kd.iT jS iC hnm hp) w base ok x cs) (fun w base ok x cs h=>?_) h
 obtain ⟨c0,d0,rfl,e0,h⟩:=h
 obtain ⟨n,h⟩:=h
 exact ⟨n,⟨c0,d0,rfl,e0,h⟩⟩
theorem sN : Kd.Heap k33:=Kd.oZ (fun _ h_=>Kd.iY _ (Kd.dV (Kd.iX .i64) (Kd.dV Kd.lu (Kd.dV (Kd.iX .i64) (Kd.dV Kd.gP (Kd.dV (Kd.jC 33 h_) (Kd.jC 50 (Kd.iY _ (Kd.dV Kd.gP h_)))))))))
theorem jT {w : World} {x : S33} {cs : List Value} (h : k33.K w x cs) : ∃ A4 c4 A5 c5,cs = [.int .i64 x.f0,.bool x.f1,.int .i64 x.f2,.string x.f3,.slice A4 x.f4.length c4,.slice A5 x.f5.length c5] ∧ x.f4.length ≤ c4 ∧ k33.C w A4 x.f4.length x.f4 ∧ x.f5.length ≤ c5 ∧ k50.C w A5 x.f5.length x.f5:=by
 obtain ⟨n,h⟩:=h
 cases n with
 | zero=>exact h.elim
 | succ n =>
  obtain ⟨_,_,rfl,rfl,⟨_,_,rfl,rfl,⟨_,_,rfl,rfl,⟨_,_,rfl,rfl,⟨_,_,rfl,⟨A4,c4,rfl,l4,g4⟩,⟨A5,c5,rfl,l5,g5⟩⟩⟩⟩⟩⟩:=h
  exact ⟨A4,c4,A5,c5,rfl,l4,Kd.uO g4,l5,sK g5⟩
theorem rz {w : World} {base : Nat} {ok : Nat → Prop} {x : S33} {cs : List Value} (h : k33.M w base ok x cs) : ∃ v4 v5,cs = [.int .i64 x.f0,.bool x.f1,.int .i64 x.f2,.string x.f3,v4,v5] ∧ k33.R 33 w base ok v4 x.f4 ∧ k50.R 50 w base ok v5 x.f5:=by
 obtain ⟨n,h⟩:=h
 cases n with
 | zero=>exact h.elim
 | succ n =>
  obtain ⟨_,_,rfl,rfl,⟨_,_,rfl,rfl,⟨_,_,rfl,rfl,⟨_,_,rfl,rfl,⟨_,_,rfl,⟨v4,rfl,g4⟩,⟨v5,rfl,g5⟩⟩⟩⟩⟩⟩:=h
  exact ⟨v4,v5,rfl,Kd.uP g4,sM g5⟩
theorem sO (w : World) (x : S33) {A4 : Option Addr} {c4 : Nat} (l4 : x.f4.length ≤ c4) (g4 : k33.C w A4 x.f4.length x.f4) {A5 : Option Addr} {c5 : Nat} (l5 : x.f5.length ≤ c5) (g5 : k50.C w A5 x.f5.length x.f5) : k33.K w x [.int .i64 x.f0,.bool x.f1,.int .i64 x.f2,.string x.f3,.slice A4 x.f4.length c4,.slice A5 x.f5.length c5]:=by
 obtain ⟨n4,q4⟩:=Kd.mJ jS g4
 obtain ⟨n5,q5⟩:=q9 g5
 have r4:=Kd.nK jS iC (show n4 ≤ (max n4 n5) by omega) q4
 have r5:=uF (show n5 ≤ (max n4 n5) by omega) q5
 exact ⟨(max n4 n5) + 1,⟨[.int .i64 x.f0],[.bool x.f1,.int .i64 x.f2,.string x.f3,.slice A4 x.f4.length c4,.slice A5 x.f5.length c5],rfl,rfl,⟨[.bool x.f1],[.int .i64 x.f2,.string x.f3,.slice A4 x.f4.length c4,.slice A5 x.f5.length c5],rfl,rfl,⟨[.int .i64 x.f2],[.string x.f3,.slice A4 x.f4.length c4,.slice A5 x.f5.length c5],rfl,rfl,⟨[.string x.f3],[.slice A4 x.f4.length c4,.slice A5 x.f5.length c5],rfl,rfl,⟨[.slice A4 x.f4.length c4],[.slice A5 x.f5.length c5],rfl,⟨A4,c4,rfl,l4,r4⟩,⟨A5,c5,rfl,l5,r5⟩⟩⟩⟩⟩⟩⟩
theorem qD (w : World) (base : Nat) (ok : Nat → Prop) (x : S33) {v4 : Value} (g4 : k33.R 33 w base ok v4 x.f4) {v5 : Value} (g5 : k50.R 50 w base ok v5 x.f5) : k33.M w base ok x [.int .i64 x.f0,.bool x.f1,.int .i64 x.f2,.string x.f3,v4,v5]:=by
 obtain ⟨n4,q4⟩:=Kd.mI jS g4
 obtain ⟨n5,q5⟩:=ru g5
 have r4:=Kd.nJ jS iC (show n4 ≤ (max n4 n5) by omega) q4
 have r5:=uG (show n5 ≤ (max n4 n5) by omega) q5
 exact ⟨(max n4 n5) + 1,⟨[.int .i64 x.f0],[.bool x.f1,.int .i64 x.f2,.string x.f3,v4,v5],rfl,rfl,⟨[.bool x.f1],[.int .i64 x.f2,.string x.f3,v4,v5],rfl,rfl,⟨[.int .i64 x.f2],[.string x.f3,v4,v5],rfl,rfl,⟨[.string x.f3],[v4,v5],rfl,rfl,⟨[v4],[v5],rfl,⟨v4,rfl,r4⟩,⟨v5,rfl,r5⟩⟩⟩⟩⟩⟩⟩
theorem rA {W : World} {ok : Nat → Prop} {x : S33} {cs : List Value} (h : Kd.FK k33 W ok x cs) : ∃ A4 c4 A5 c5,cs = [.int .i64 x.f0,.bool x.f1,.int .i64 x.f2,.string x.f3,.slice A4 x.f4.length c4,.slice A5 x.f5.length c5] ∧ x.f4.length ≤ c4 ∧ Kd.F k33 W ok A4 x.f4.length x.f4 ∧ x.f5.length ≤ c5 ∧ Kd.F k50 W ok A5 x.f5.length x.f5:=by
 obtain ⟨A4,c4,A5,c5,rfl,l4,_,l5,_⟩:=jT (Kd.gK h)
 exact ⟨A4,c4,A5,c5,rfl,l4,(fun W' hW=>by obtain ⟨xX,xY,xS,xU,he,yj,xZ,xW,xV⟩:=jT (h W' hW);injection (Option.some.inj (show some (Value.slice A4 x.f4.length c4) = some (Value.slice xX x.f4.length xY) from congrArg (fun l=>l[4]?) he)) with ha_ _ _;rw [ha_];exact xZ),l5,(fun W' hW=>by obtain ⟨xX,xY,xS,xU,he,yj,xZ,xW,xV⟩:=jT (h W' hW);injection (Option.some.inj (show some (Value.slice A5 x.f5.length c5) = some (Value.slice xS x.f5.length xU) from congrArg (fun l=>l[5]?) he)) with ha_ _ _;rw [ha_];exact xV)⟩
theorem jF (W : World) (ok : Nat → Prop) (x : S33) {A4 : Option Addr} {c4 : Nat} (l4 : x.f4.length ≤ c4) (g4 : Kd.F k33 W ok A4 x.f4.length x.f4) {A5 : Option Addr} {c5 : Nat} (l5 : x.f5.length ≤ c5) (g5 : Kd.F k50 W ok A5 x.f5.length x.f5) : Kd.FK k33 W ok x [.int .i64 x.f0,.bool x.f1,.int .i64 x.f2,.string x.f3,.slice A4 x.f4.length c4,.slice A5 x.f5.length c5]:=fun W2 hW=>sO W2 x l4 (g4 W2 hW) l5 (g5 W2 hW)
def bG (xs : List S33) (i : Int) : S33:=xs.getD i.toNat z33
theorem oD {w : World} {A : Option Addr} {n : Nat} {xs : List S33} (h : Kd.C k33 w A n xs) (i : Int) (h0 : 0 ≤ i) (h1 : i < n) : ∃ ad A4 c4 A5 c5,A = some ad ∧ w.cell? (ad.add (i.toNat * 6)) = some (.int .i64 (bG xs i).f0) ∧ w.cell? ⟨(ad.add (i.toNat * 6)).block,(ad.add (i.toNat * 6)).off + 1,none⟩ = some (.bool (bG xs i).f1) ∧ w.cell? ⟨(ad.add (i.toNat * 6)).block,(ad.add (i.toNat * 6)).off + 2,none⟩ = some (.int .i64 (bG xs i).f2) ∧ w.cell? ⟨(ad.add (i.toNat * 6)).block,(ad.add (i.toNat * 6)).off + 3,none⟩ = some (.string (bG xs i).f3) ∧ w.cell? ⟨(ad.add (i.toNat * 6)).block,(ad.add (i.toNat * 6)).off + 4,none⟩ = some (.slice A4 (bG xs i).f4.length c4) ∧ w.cell? ⟨(ad.add (i.toNat * 6)).block,(ad.add (i.toNat * 6)).off + 5,none⟩ = some (.slice A5 (bG xs i).f5.length c5) ∧ (bG xs i).f4.length ≤ c4 ∧ k33.C w A4 (bG xs i).f4.length (bG xs i).f4 ∧ (bG xs i).f5.length ≤ c5 ∧ k50.C w A5 (bG xs i).f5.length (bG xs i).f5:=by
 obtain ⟨ad,c,e,_,hK,hc0⟩:=Kd.lQ h z33 i h0 h1
 have hc : ∀ j u,c[j]? = some u → w.cell? (ad.add (i.toNat * 6 + j)) = some u:=hc0
 obtain ⟨A4,c4,A5,c5,rfl,l4,g4,l5,g5⟩:=jT hK
 exact ⟨ad,A4,c4,A5,c5,e,hc 0 _ rfl,by rw [← bN _ _ 1 (by omega)];exact hc 1 _ rfl,by rw [← bN _ _ 2 (by omega)];exact hc 2 _ rfl,by rw [← bN _ _ 3 (by omega)];exact hc 3 _ rfl,by rw [← bN _ _ 4 (by omega)];exact hc 4 _ rfl,by rw [← bN _ _ 5 (by omega)];exact hc 5 _ rfl,l4,g4,l5,g5⟩
def z50 : S50:=⟨(⟨#[]⟩ : ByteArray),z33⟩
theorem wK : Kd.Heap k50:=Kd.iY _ (Kd.dV Kd.gP sN)
theorem kU {w : World} {x : S50} {cs : List Value} (h : k50.K w x cs) : ∃ A5 c5 A6 c6,cs = [.string x.f0,.int .i64 x.f1.f0,.bool x.f1.f1,.int .i64 x.f1.f2,.string x.f1.f3,.slice A5 x.f1.f4.length c5,.slice A6 x.f1.f5.length c6] ∧ x.f1.f4.length ≤ c5 ∧ k33.C w A5 x.f1.f4.length x.f1.f4 ∧ x.f1.f5.length ≤ c6 ∧ k50.C w A6 x.f1.f5.length x.f1.f5:=by
 obtain ⟨_,_,rfl,rfl,s1⟩:=h
 obtain ⟨A5,c5,A6,c6,rfl,l5,g5,l6,g6⟩:=jT s1
 exact ⟨A5,c5,A6,c6,rfl,l5,g5,l6,g6⟩
theorem wh {w : World} {base : Nat} {ok : Nat → Prop} {x : S50} {cs : List Value} (h : k50.M w base ok x cs) : ∃ v5 v6,cs = [.string x.f0,.int .i64 x.f1.f0,.bool x.f1.f1,.int .i64 x.f1.f2,.string x.f1.f3,v5,v6] ∧ k33.R 33 w base ok v5 x.f1.f4 ∧ k50.R 50 w base ok v6 x.f1.f5:=by
 obtain ⟨_,_,rfl,rfl,s1⟩:=h
 obtain ⟨v5,v6,rfl,g5,g6⟩:=rz s1
 exact ⟨v5,v6,rfl,g5,g6⟩
theorem vL (w : World) (x : S50) {A5 : Option Addr} {c5 : Nat} (l5 : x.f1.f4.length ≤ c5) (g5 : k33.C w A5 x.f1.f4.length x.f1.f4) {A6 : Option Addr} {c6 : Nat} (l6 : x.f1.f5.length ≤ c6) (g6 : k50.C w A6 x.f1.f5.length x.f1.f5) : k50.K w x [.string x.f0,.int .i64 x.f1.f0,.bool x.f1.f1,.int .i64 x.f1.f2,.string x.f1.f3,.slice A5 x.f1.f4.length c5,.slice A6 x.f1.f5.length c6]:=⟨[.string x.f0],[.int .i64 x.f1.f0,.bool x.f1.f1,.int .i64 x.f1.f2,.string x.f1.f3,.slice A5 x.f1.f4.length c5,.slice A6 x.f1.f5.length c6],rfl,rfl,(sO w x.f1 l5 g5 l6 g6)⟩
theorem uH (w : World) (base : Nat) (ok : Nat → Prop) (x : S50) {v5 : Value} (g5 : k33.R 33 w base ok v5 x.f1.f4) {v6 : Value} (g6 : k50.R 50 w base ok v6 x.f1.f5) : k50.M w base ok x [.string x.f0,.int .i64 x.f1.f0,.bool x.f1.f1,.int .i64 x.f1.f2,.string x.f1.f3,v5,v6]:=⟨[.string x.f0],[.int .i64 x.f1.f0,.bool x.f1.f1,.int .i64 x.f1.f2,.string x.f1.f3,v5,v6],rfl,rfl,(qD w base ok x.f1 g5 g6)⟩
theorem lG {W : World} {ok : Nat → Prop} {x : S50} {cs : List Value} (h : Kd.FK k50 W ok x cs) : ∃ A5 c5 A6 c6,cs = [.string x.f0,.int .i64 x.f1.f0,.bool x.f1.f1,.int .i64 x.f1.f2,.string x.f1.f3,.slice A5 x.f1.f4.length c5,.slice A6 x.f1.f5.length c6] ∧ x.f1.f4.length ≤ c5 ∧ Kd.F k33 W ok A5 x.f1.f4.length x.f1.f4 ∧ x.f1.f5.length ≤ c6 ∧ Kd.F k50 W ok A6 x.f1.f5.length x.f1.f5:=by
 obtain ⟨A5,c5,A6,c6,rfl,l5,_,l6,_⟩:=kU (Kd.gK h)
 exact ⟨A5,c5,A6,c6,rfl,l5,(fun W' hW=>by obtain ⟨xS,xU,yc,yg,he,xW,xV,yt,yh⟩:=kU (h W' hW);injection (Option.some.inj (show some (Value.slice A5 x.f1.f4.length c5) = some (Value.slice xS x.f1.f4.length xU) from congrArg (fun l=>l[5]?) he)) with ha_ _ _;rw [ha_];exact xV),l6,(fun W' hW=>by obtain ⟨xS,xU,yc,yg,he,xW,xV,yt,yh⟩:=kU (h W' hW);injection (Option.some.inj (show some (Value.slice A6 x.f1.f5.length c6) = some (Value.slice yc x.f1.f5.length yg) from congrArg (fun l=>l[6]?) he)) with ha_ _ _;rw [ha_];exact yh)⟩
theorem qE (W : World) (ok : Nat → Prop) (x : S50) {A5 : Option Addr} {c5 : Nat} (l5 : x.f1.f4.length ≤ c5) (g5 : Kd.F k33 W ok A5 x.f1.f4.length x.f1.f4) {A6 : Option Addr} {c6 : Nat} (l6 : x.f1.f5.length ≤ c6) (g6 : Kd.F k50 W ok A6 x.f1.f5.length x.f1.f5) : Kd.FK k50 W ok x [.string x.f0,.int .i64 x.f1.f0,.bool x.f1.f1,.int .i64 x.f1.f2,.string x.f1.f3,.slice A5 x.f1.f4.length c5,.slice A6 x.f1.f5.length c6]:=fun W2 hW=>vL W2 x l5 (g5 W2 hW) l6 (g6 W2 hW)
def aV (xs : List S50) (i : Int) : S50:=xs.getD i.toNat z50
theorem iG {w : World} {A : Option Addr} {n : Nat} {xs : List S50} (h : Kd.C k50 w A n xs) (i : Int) (h0 : 0 ≤ i) (h1 : i < n) : ∃ ad A5 c5 A6 c6,A = some ad ∧ w.cell? (ad.add (i.toNat * 7)) = some (.string (aV xs i).f0) ∧ w.cell? ⟨(ad.add (i.toNat * 7)).block,(ad.add (i.toNat * 7)).off + 1,none⟩ = some (.int .i64 (aV xs i).f1.f0) ∧ w.cell? ⟨(ad.add (i.toNat * 7)).block,(ad.add (i.toNat * 7)).off + 2,none⟩ = some (.bool (aV xs i).f1.f1) ∧ w.cell? ⟨(ad.add (i.toNat * 7)).block,(ad.add (i.toNat * 7)).off + 3,none⟩ = some (.int .i64 (aV xs i).f1.f2) ∧ w.cell? ⟨(ad.add (i.toNat * 7)).block,(ad.add (i.toNat * 7)).off + 4,none⟩ = some (.string (aV xs i).f1.f3) ∧ w.cell? ⟨(ad.add (i.toNat * 7)).block,(ad.add (i.toNat * 7)).off + 5,none⟩ = some (.slice A5 (aV xs i).f1.f4.length c5) ∧ w.cell? ⟨(ad.add (i.toNat * 7)).block,(ad.add (i.toNat * 7)).off + 6,none⟩ = some (.slice A6 (aV xs i).f1.f5.length c6) ∧ (aV xs i).f1.f4.length ≤ c5 ∧ k33.C w A5 (aV xs i).f1.f4.length (aV xs i).f1.f4 ∧ (aV xs i).f1.f5.length ≤ c6 ∧ k50.C w A6 (aV xs i).f1.f5.length (aV xs i).f1.f5:=by
 obtain ⟨ad,c,e,_,hK,hc0⟩:=Kd.lQ h z50 i h0 h1
 have hc : ∀ j u,c[j]? = some u → w.cell? (ad.add (i.toNat * 7 + j)) = some u:=hc0
 obtain ⟨A5,c5,A6,c6,rfl,l5,g5,l6,g6⟩:=kU hK
 exact ⟨ad,A5,c5,A6,c6,e,hc 0 _ rfl,by rw [← bN _ _ 1 (by omega)];exact hc 1 _ rfl,by rw [← bN _ _ 2 (by omega)];exact hc 2 _ rfl,by rw [← bN _ _ 3 (by omega)];exact hc 3 _ rfl,by rw [← bN _ _ 4 (by omega)];exact hc 4 _ rfl,by rw [← bN _ _ 5 (by omega)];exact hc 5 _ rfl,by rw [← bN _ _ 6 (by omega)];exact hc 6 _ rfl,l5,g5,l6,g6⟩
end Go.Proofs.YtnkkbiabloodaaaDoor.GVa
