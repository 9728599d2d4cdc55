/- Written by this session's own program (wip/gen.py) out of the translation: plain Lean functions of the Go functions, and proofs that the calls come to their answers. No conditions beside those in the statements. -/
import Derived.Test.YtnkkbiabloodaaaDoorProg
import Derived.Below
import Derived.Deep.Draws
import Derived.Deep.AppendLies
import Derived.Maps.AppendAt
import Derived.OwnWalk
import Derived.Laws.BytesArg
import Derived.Laws.MakeOwn
import Derived.Laws.OwnMore
import Derived.Deep.OwnRows
import Derived.Tactics
import Derived.Lib.ConvBytes
import Derived.Laws.Slices
import Derived.WalkKit
import Derived.KernelRfl
import Derived.RowKit3
import Derived.Deep.LoopGhost
import Derived.Deep.QuietTactic
import Derived.BigQuiet
import Derived.WideLaws
import Derived.Deep.DeepCutAuto
import Derived.Deep.CutBlock
import Derived.Deep.RegionHeld3
import Derived.Laws.Rows
import Derived.Lib.AppendStr
import Derived.ArgAppend
import Derived.Laws.IdiomCopy
import Derived.OrdersHeld
import Derived.Laws.BitsLemmas
import Derived.RowKit
import Derived.Test.YtnkkbiabloodaaaDoorWd
namespace Go.Proofs.YtnkkbiabloodaaaDoor.GVa
open Go.RowKit Go.Proofs.YtnkkbiabloodaaaDoorW.PrintWords Go.Proofs.YtnkkbiabloodaaaDoorW.PrintLast Go.Proofs.YtnkkbiabloodaaaDoorW.PrintMore
attribute [local go_sem] eG eH fK fM dZ d9 eO eP
set_option linter.unusedVariables false
set_option linter.unusedSimpArgs false
def wG : Option Int → Value
 | none=>.nilIface
 | some c=>.iface 0 (.int .i64 c)
theorem bg : wG none = .nilIface:=rfl
theorem bn (c : Int) : wG (some c) = .iface 0 (.int .i64 c):=rfl
theorem dF {x : Int} (h0 : 0 ≤ x) (h1 : x ≤ 18446744073709551615) : IntKind.u64.wrap x = x:=by simp [IntKind.wrap,IntKind.bits,IntKind.signed];omega
theorem dA {x : Int} (h0 : -9223372036854775808 ≤ x) (h1 : x ≤ 9223372036854775807) : wrap64 x = x:=by unfold wrap64;omega
theorem wZ (l : List UInt8) : (l != []) = !l.isEmpty:=by cases l <;> rfl
theorem dV {x : Int} (h0 : 0 ≤ x) (h1 : x ≤ 255) : x % 256 = x:=by omega
theorem pE : ∀ x y : List UInt8,(Op.bytesLess x y || x == y) = !(Op.bytesLess y x)
 | [],[]=>rfl
 | [],_ :: _=>rfl
 | _ :: _,[]=>rfl
 | a :: x,b :: y=>by
  have ih:=pE x y
  simp only [Op.bytesLess,List.cons_beq_cons]
  rcases Nat.lt_trichotomy a.toNat b.toNat with h|h|h
  ·have h1 : a < b:=h
   have h2 : ¬ b < a:=fun e=>by have : b.toNat < a.toNat:=e;omega
   have h3 : ¬ b = a:=fun e=>by subst e;omega
   simp [h1,h2,h3]
  ·obtain rfl : a = b:=UInt8.toNat_inj.1 h
   simpa using ih
  ·have h1 : b < a:=h
   have h2 : ¬ a < b:=fun e=>by have : a.toNat < b.toNat:=e;omega
   have h3 : ¬ b = a:=fun e=>by subst e;omega
   have h4 : ¬ a = b:=fun e=>by subst e;omega
   simp [h1,h2,h3,h4]
@[go_sem] theorem xg (t : TypeId) (a b : ByteArray) : binOp .leq t (.string a) (.string b) = pure (.bool (!(Op.bytesLess b.toList a.toList))):=by
 rw [← pE];simp [binOp,Op.stringOp]
@[go_sem] theorem xk (t : TypeId) (a b : ByteArray) : binOp .gtr t (.string a) (.string b) = pure (.bool (Op.bytesLess b.toList a.toList)):=by
 have e : binOp .gtr t (.string a) (.string b) = pure (.bool (!(Op.bytesLess a.toList b.toList || a.toList == b.toList))):=by simp [binOp,Op.stringOp]
 rw [e,pE,Bool.not_not]
@[go_sem] theorem xq (t : TypeId) (a b : ByteArray) : binOp .geq t (.string a) (.string b) = pure (.bool (!(Op.bytesLess a.toList b.toList))):=by simp [binOp,Op.stringOp]
theorem info5 : (Tryd.prog.info? 5).map (fun i=>(i.zero,i.size,i.bytes)) = some (some (.int .u8 0),1,1):=by kernel_rfl
theorem jf : (Tryd.prog.info? 29).map (fun i=>(i.zero,i.size,i.bytes)) = some (some (.agg #[(.int .i64 0),(.bool false),(.int .i64 0),(.string ⟨#[]⟩),(.slice none 0 0),(.slice none 0 0)]),6,88):=by kernel_rfl
theorem pF : (Tryd.prog.info? 33).map (fun i=>(i.zero,i.size,i.bytes)) = some (some (.agg #[(.int .i64 0),(.bool false),(.int .i64 0),(.string ⟨#[]⟩),(.slice none 0 0),(.slice none 0 0)]),6,88):=by kernel_rfl
theorem xK : (Tryd.prog.info? 50).map (fun i=>(i.zero,i.size,i.bytes)) = some (some (.agg #[(.string ⟨#[]⟩),(.int .i64 0),(.bool false),(.int .i64 0),(.string ⟨#[]⟩),(.slice none 0 0),(.slice none 0 0)]),7,104):=by kernel_rfl
structure S75 where
 f0 : Int
 f1 : Int
 f2 : Bool
 f3 : Int
 f4 : ByteArray
def z75 : S75:=⟨(0 : Int),(0 : Int),false,(0 : Int),(⟨#[]⟩ : ByteArray)⟩
def k75 : Kd S75:=Kd.iso (Kd.pair (Kd.int .i64) (Kd.pair (Kd.int .i64) (Kd.pair Kd.bool (Kd.pair (Kd.int .i64) Kd.string)))) (fun x : S75=>(x.f0,x.f1,x.f2,x.f3,x.f4))
theorem wH : Kd.Heap k75:=Kd.iO _ (Kd.dW (Kd.iN .i64) (Kd.dW (Kd.iN .i64) (Kd.dW Kd.kK (Kd.dW (Kd.iN .i64) Kd.gI))))
theorem rR {w : World} {x : S75} {cs : List Value} (h : k75.K w x cs) : cs = [.int .i64 x.f0,.int .i64 x.f1,.bool x.f2,.int .i64 x.f3,.string x.f4]:=by
 obtain ⟨_,_,rfl,rfl,⟨_,_,rfl,rfl,⟨_,_,rfl,rfl,⟨_,_,rfl,rfl,rfl⟩⟩⟩⟩:=h
 exact rfl
theorem vX {w : World} {base : Nat} {ok : Nat → Prop} {x : S75} {cs : List Value} (h : k75.M w base ok x cs) : cs = [.int .i64 x.f0,.int .i64 x.f1,.bool x.f2,.int .i64 x.f3,.string x.f4]:=by
 obtain ⟨_,_,rfl,rfl,⟨_,_,rfl,rfl,⟨_,_,rfl,rfl,⟨_,_,rfl,rfl,rfl⟩⟩⟩⟩:=h
 exact rfl
theorem vG (w : World) (x : S75)  : k75.K w x [.int .i64 x.f0,.int .i64 x.f1,.bool x.f2,.int .i64 x.f3,.string x.f4]:=⟨[.int .i64 x.f0],[.int .i64 x.f1,.bool x.f2,.int .i64 x.f3,.string x.f4],rfl,rfl,⟨[.int .i64 x.f1],[.bool x.f2,.int .i64 x.f3,.string x.f4],rfl,rfl,⟨[.bool x.f2],[.int .i64 x.f3,.string x.f4],rfl,rfl,⟨[.int .i64 x.f3],[.string x.f4],rfl,rfl,rfl⟩⟩⟩⟩
theorem xu (w : World) (base : Nat) (ok : Nat → Prop) (x : S75)  : k75.M w base ok x [.int .i64 x.f0,.int .i64 x.f1,.bool x.f2,.int .i64 x.f3,.string x.f4]:=⟨[.int .i64 x.f0],[.int .i64 x.f1,.bool x.f2,.int .i64 x.f3,.string x.f4],rfl,rfl,⟨[.int .i64 x.f1],[.bool x.f2,.int .i64 x.f3,.string x.f4],rfl,rfl,⟨[.bool x.f2],[.int .i64 x.f3,.string x.f4],rfl,rfl,⟨[.int .i64 x.f3],[.string x.f4],rfl,rfl,rfl⟩⟩⟩⟩
theorem xw (W : World) (ok : Nat → Prop) (x : S75) : Kd.FK k75 W ok x [.int .i64 x.f0,.int .i64 x.f1,.bool x.f2,.int .i64 x.f3,.string x.f4]:=fun W2 _=>vG W2 x
def fq (xs : List S75) (i : Int) : S75:=xs.getD i.toNat z75
theorem pG {w : World} {A : Option Addr} {n : Nat} {xs : List S75} (h : Kd.C k75 w A n xs) (i : Int) (h0 : 0 ≤ i) (h1 : i < n) : ∃ ad ,A = some ad ∧ w.cell? (ad.add (i.toNat * 5)) = some (.int .i64 (fq xs i).f0) ∧ w.cell? ⟨(ad.add (i.toNat * 5)).block,(ad.add (i.toNat * 5)).off + 1,none⟩ = some (.int .i64 (fq xs i).f1) ∧ w.cell? ⟨(ad.add (i.toNat * 5)).block,(ad.add (i.toNat * 5)).off + 2,none⟩ = some (.bool (fq xs i).f2) ∧ w.cell? ⟨(ad.add (i.toNat * 5)).block,(ad.add (i.toNat * 5)).off + 3,none⟩ = some (.int .i64 (fq xs i).f3) ∧ w.cell? ⟨(ad.add (i.toNat * 5)).block,(ad.add (i.toNat * 5)).off + 4,none⟩ = some (.string (fq xs i).f4):=by
 obtain ⟨ad,c,e,_,hK,hc0⟩:=Kd.kS h z75 i h0 h1
 have hc : ∀ j u,c[j]? = some u → w.cell? (ad.add (i.toNat * 5 + j)) = some u:=hc0
 obtain rfl:=rR hK
 exact ⟨ad,e,hc 0 _ rfl,by rw [← cB _ _ 1 (by omega)];exact hc 1 _ rfl,by rw [← cB _ _ 2 (by omega)];exact hc 2 _ rfl,by rw [← cB _ _ 3 (by omega)];exact hc 3 _ rfl,by rw [← cB _ _ 4 (by omega)];exact hc 4 _ rfl⟩
structure Q48 (α : Type) where
 f0 : ByteArray
 f1 : α
structure S29 where
 f0 : Int
 f1 : Bool
 f2 : Int
 f3 : ByteArray
 f4 : (List S29)
 f5 : (List (Q48 S29))
abbrev S48:=Q48 S29
def z29 : S29:=⟨(0 : Int),false,(0 : Int),(⟨#[]⟩ : ByteArray),([] : List S29),([] : List (Q48 S29))⟩
def F29 (d : Kd S29) : Kd S29:=Kd.iso (Kd.pair (Kd.int .i64) (Kd.pair Kd.bool (Kd.pair (Kd.int .i64) (Kd.pair Kd.string (Kd.pair (Kd.slice 29 d) (Kd.slice 48 (Kd.iso (Kd.pair Kd.string d) (fun x : Q48 S29=>(x.f0,x.f1))))))))) (fun x : S29=>(x.f0,x.f1,x.f2,x.f3,x.f4,x.f5))
theorem jy : Kd.Mono F29:=Kd.iZ _ (Kd.fB (Kd.fD _) (Kd.fB (Kd.fD _) (Kd.fB (Kd.fD _) (Kd.fB (Kd.fD _) (Kd.fB (Kd.jd 29 Kd.jF) (Kd.jd 48 (Kd.iZ _ (Kd.fB (Kd.fD _) Kd.jF))))))))
theorem wI : Kd.Sub F29 [29,48]:=Kd.lu _ (Kd.gB (Kd.sub_const _ (by decide)) (Kd.gB (Kd.sub_const _ (by decide)) (Kd.gB (Kd.sub_const _ (by decide)) (Kd.gB (Kd.sub_const _ (by decide)) (Kd.gB (Kd.jG 29 (by decide) Kd.nC) (Kd.jG 48 (by decide) (Kd.lu _ (Kd.gB (Kd.sub_const _ (by decide)) Kd.nC))))))))
theorem gY : ∀ n,(Kd.upto F29 6 [29,48] n).sz = 6:=Kd.pU (fun _=>rfl)
def k29 : Kd S29:=Kd.fix F29 6 [29,48] gY (Kd.o8 wI)
theorem uR {β : Type} {D : Nat → Kd β} {d : Kd β} (hsz : ∀ n,(D n).sz = d.sz) (hle : ∀ n m w x cs,n ≤ m → (D n).K w x cs → (D m).K w x cs) (hd : ∀ w x cs,d.K w x cs → ∃ n,(D n).K w x cs) {w : World} {A : Option Addr} {m : Nat} {xs : List β} (h : d.C w A m xs) : ∃ n,(D n).C w A m xs:=by
 rcases Nat.eq_zero_or_pos m with hz|hpos
 ·subst hz
  exact ⟨0,h.1,h.2.1,fun hp=>absurd hp (Nat.lt_irrefl 0)⟩
 ·obtain ⟨ad,e,hc⟩:=h.2.2 hpos
  obtain ⟨N,hN⟩:=Kd.bounded (P:=fun n j=>∀ p,xs[j]? = some p → ∃ c,c.length = d.sz ∧ (D n).K w p c ∧ ∀ i u,c[i]? = some u → w.cell? (ad.add (j * d.sz + i)) = some u)
   (fun n n' j hnm hp p hj=>by
    obtain ⟨c,h1,h2,h3⟩:=hp p hj
    exact ⟨c,h1,hle n n' _ _ _ hnm h2,h3⟩) xs.length
   (fun j hj=>by
    obtain ⟨c,h1,h2,h3⟩:=hc j _ (List.getElem?_eq_getElem hj)
    obtain ⟨n,h2⟩:=hd _ _ _ h2
    refine ⟨n,fun p hp=>?_⟩
    rw [List.getElem?_eq_getElem hj] at hp
    injection hp with hp
    rw [← hp]
    exact ⟨c,h1,h2,h3⟩)
  refine ⟨N,h.1,h.2.1,fun _=>⟨ad,e,fun j p hj=>?_⟩⟩
  rw [hsz N]
  exact hN j (List.getElem?_eq_some_iff.1 hj).1 p hj
theorem uS {β : Type} {D : Nat → Kd β} {d : Kd β} (hsz : ∀ n,(D n).sz = d.sz) (hle : ∀ n m w base ok x cs,n ≤ m → (D n).M w base ok x cs → (D m).M w base ok x cs) (hd : ∀ w base ok x cs,d.M w base ok x cs → ∃ n,(D n).M w base ok x cs) {e : Nat} {w : World} {base : Nat} {ok : Nat → Prop} {v : Value} {xs : List β} (h : d.R e w base ok v xs) : ∃ n,(D n).R e w base ok v xs:=by
 obtain ⟨h0,inner,ho,hr⟩:=h
 obtain ⟨N,hN⟩:=Kd.jY (R:=fun n p c=>(D n).M w base (fun k=>ok k ∧ some k ≠ v.ownBlock) p c) (fun n m p c hnm hp=>hle n m _ _ _ _ _ hnm hp) (hr.iQ (fun _ _ hp=>hd _ _ _ _ _ hp))
 refine ⟨N,h0,inner,?_,?_⟩
 ·rw [hsz N];exact ho
 ·rw [hsz N];exact hN
def g48 (d : Kd S29) : Kd S48:=(Kd.iso (Kd.pair Kd.string d) (fun x : Q48 S29=>(x.f0,x.f1)))
def k48 : Kd S48:=(Kd.iso (Kd.pair Kd.string k29) (fun x : Q48 S29=>(x.f0,x.f1)))
theorem gV : Kd.Mono g48:=Kd.iZ _ (Kd.fB (Kd.fD _) Kd.jF)
theorem rT {n : Nat} {w : World} {A : Option Addr} {m : Nat} {xs : List S48} (h : (g48 (Kd.upto F29 6 [29,48] n)).C w A m xs) : k48.C w A m xs:=Kd.lN (d:=g48 (Kd.upto F29 6 [29,48] n)) (d':=g48 k29) (gV.sz _ k29 ((gY n).trans (gY 0).symm)) (gV.K _ k29 ((gY n).trans (gY 0).symm) (fun w x cs hp=>⟨n,hp⟩)) h
theorem rU {n : Nat} {e : Nat} {w : World} {base : Nat} {ok : Nat → Prop} {v : Value} {xs : List S48} (h : (g48 (Kd.upto F29 6 [29,48] n)).R e w base ok v xs) : k48.R e w base ok v xs:=Kd.lQ (d:=g48 (Kd.upto F29 6 [29,48] n)) (d':=g48 k29) (gV.sz _ k29 ((gY n).trans (gY 0).symm)) (gV.M _ k29 ((gY n).trans (gY 0).symm) (fun w base ok x cs hp=>⟨n,hp⟩)) h
theorem uh {n m : Nat} (hnm : n ≤ m) {w : World} {A : Option Addr} {l : Nat} {xs : List S48} (h : (g48 (Kd.upto F29 6 [29,48] n)).C w A l xs) : (g48 (Kd.upto F29 6 [29,48] m)).C w A l xs:=Kd.lN (gV.sz _ _ ((gY n).trans (gY m).symm)) (gV.K _ _ ((gY n).trans (gY m).symm) (fun _ _ _ hp=>Kd.iH jy gY hnm hp)) h
theorem uj {n m : Nat} (hnm : n ≤ m) {e : Nat} {w : World} {base : Nat} {ok : Nat → Prop} {v : Value} {xs : List S48} (h : (g48 (Kd.upto F29 6 [29,48] n)).R e w base ok v xs) : (g48 (Kd.upto F29 6 [29,48] m)).R e w base ok v xs:=Kd.lQ (gV.sz _ _ ((gY n).trans (gY m).symm)) (gV.M _ _ ((gY n).trans (gY m).symm) (fun _ _ _ _ _ hp=>Kd.iI jy gY hnm hp)) h
theorem qE {w : World} {A : Option Addr} {m : Nat} {xs : List S48} (h : k48.C w A m xs) : ∃ n,(g48 (Kd.upto F29 6 [29,48] n)).C w A m xs:=by
 refine uR (D:=fun n=>g48 (Kd.upto F29 6 [29,48] n)) (d:=k48) (fun n=>gV.sz _ k29 ((gY n).trans (gY 0).symm)) (fun n m w x cs hnm=>gV.K _ _ ((gY n).trans (gY m).symm) (fun _ _ _ hp=>Kd.iH jy gY hnm hp) w x cs) (fun w x cs h=>?_) h
 obtain ⟨c0,d0,rfl,e0,h⟩:=h
 obtain ⟨n,h⟩:=h
 exact ⟨n,⟨c0,d0,rfl,e0,h⟩⟩
theorem qF {e : Nat} {w : World} {base : Nat} {ok : Nat → Prop} {v : Value} {xs : List S48} (h : k48.R e w base ok v xs) : ∃ n,(g48 (Kd.upto F29 6 [29,48] n)).R e w base ok v xs:=by
 refine uS (D:=fun n=>g48 (Kd.upto F29 6 [29,48] n)) (d:=k48) (fun n=>gV.sz _ k29 ((gY n).trans (gY 0).symm)) (fun n m w base ok x cs hnm=>gV.M _ _ ((gY n).trans (gY m).symm) (fun _ _ _ _ _ hp=>Kd.iI jy gY hnm hp) w base ok x cs) (fun w base ok x cs h=>?_) h
 obtain ⟨c0,d0,rfl,e0,h⟩:=h
 obtain ⟨n,h⟩:=h
 exact ⟨n,⟨c0,d0,rfl,e0,h⟩⟩
theorem mh : Kd.Heap k29:=Kd.om (fun _ h_=>Kd.iO _ (Kd.dW (Kd.iN .i64) (Kd.dW Kd.kK (Kd.dW (Kd.iN .i64) (Kd.dW Kd.gI (Kd.dW (Kd.je 29 h_) (Kd.je 48 (Kd.iO _ (Kd.dW Kd.gI h_)))))))))
theorem jA {w : World} {x : S29} {cs : List Value} (h : k29.K w x cs) : ∃ A4 c4 A5 c5,cs = [.int .i64 x.f0,.bool x.f1,.int .i64 x.f2,.string x.f3,.slice A4 x.f4.length c4,.slice A5 x.f5.length c5] ∧ x.f4.length ≤ c4 ∧ k29.C w A4 x.f4.length x.f4 ∧ x.f5.length ≤ c5 ∧ k48.C w A5 x.f5.length x.f5:=by
 obtain ⟨n,h⟩:=h
 cases n with
 | zero=>exact h.elim
 | succ n =>
  obtain ⟨_,_,rfl,rfl,⟨_,_,rfl,rfl,⟨_,_,rfl,rfl,⟨_,_,rfl,rfl,⟨_,_,rfl,⟨A4,c4,rfl,l4,g4⟩,⟨A5,c5,rfl,l5,g5⟩⟩⟩⟩⟩⟩:=h
  exact ⟨A4,c4,A5,c5,rfl,l4,Kd.uM g4,l5,rT g5⟩
theorem qG {w : World} {base : Nat} {ok : Nat → Prop} {x : S29} {cs : List Value} (h : k29.M w base ok x cs) : ∃ v4 v5,cs = [.int .i64 x.f0,.bool x.f1,.int .i64 x.f2,.string x.f3,v4,v5] ∧ k29.R 29 w base ok v4 x.f4 ∧ k48.R 48 w base ok v5 x.f5:=by
 obtain ⟨n,h⟩:=h
 cases n with
 | zero=>exact h.elim
 | succ n =>
  obtain ⟨_,_,rfl,rfl,⟨_,_,rfl,rfl,⟨_,_,rfl,rfl,⟨_,_,rfl,rfl,⟨_,_,rfl,⟨v4,rfl,g4⟩,⟨v5,rfl,g5⟩⟩⟩⟩⟩⟩:=h
  exact ⟨v4,v5,rfl,Kd.uN g4,rU g5⟩
theorem rV (w : World) (x : S29) {A4 : Option Addr} {c4 : Nat} (l4 : x.f4.length ≤ c4) (g4 : k29.C w A4 x.f4.length x.f4) {A5 : Option Addr} {c5 : Nat} (l5 : x.f5.length ≤ c5) (g5 : k48.C w A5 x.f5.length x.f5) : k29.K w x [.int .i64 x.f0,.bool x.f1,.int .i64 x.f2,.string x.f3,.slice A4 x.f4.length c4,.slice A5 x.f5.length c5]:=by
 obtain ⟨n4,q4⟩:=Kd.lT jy g4
 obtain ⟨n5,q5⟩:=qE g5
 have r4:=Kd.mQ jy gY (show n4 ≤ (max n4 n5) by omega) q4
 have r5:=uh (show n5 ≤ (max n4 n5) by omega) q5
 exact ⟨(max n4 n5) + 1,⟨[.int .i64 x.f0],[.bool x.f1,.int .i64 x.f2,.string x.f3,.slice A4 x.f4.length c4,.slice A5 x.f5.length c5],rfl,rfl,⟨[.bool x.f1],[.int .i64 x.f2,.string x.f3,.slice A4 x.f4.length c4,.slice A5 x.f5.length c5],rfl,rfl,⟨[.int .i64 x.f2],[.string x.f3,.slice A4 x.f4.length c4,.slice A5 x.f5.length c5],rfl,rfl,⟨[.string x.f3],[.slice A4 x.f4.length c4,.slice A5 x.f5.length c5],rfl,rfl,⟨[.slice A4 x.f4.length c4],[.slice A5 x.f5.length c5],rfl,⟨A4,c4,rfl,l4,r4⟩,⟨A5,c5,rfl,l5,r5⟩⟩⟩⟩⟩⟩⟩
theorem um (w : World) (base : Nat) (ok : Nat → Prop) (x : S29) {v4 : Value} (g4 : k29.R 29 w base ok v4 x.f4) {v5 : Value} (g5 : k48.R 48 w base ok v5 x.f5) : k29.M w base ok x [.int .i64 x.f0,.bool x.f1,.int .i64 x.f2,.string x.f3,v4,v5]:=by
 obtain ⟨n4,q4⟩:=Kd.lS jy g4
 obtain ⟨n5,q5⟩:=qF g5
 have r4:=Kd.mP jy gY (show n4 ≤ (max n4 n5) by omega) q4
 have r5:=uj (show n5 ≤ (max n4 n5) by omega) q5
 exact ⟨(max n4 n5) + 1,⟨[.int .i64 x.f0],[.bool x.f1,.int .i64 x.f2,.string x.f3,v4,v5],rfl,rfl,⟨[.bool x.f1],[.int .i64 x.f2,.string x.f3,v4,v5],rfl,rfl,⟨[.int .i64 x.f2],[.string x.f3,v4,v5],rfl,rfl,⟨[.string x.f3],[v4,v5],rfl,rfl,⟨[v4],[v5],rfl,⟨v4,rfl,r4⟩,⟨v5,rfl,r5⟩⟩⟩⟩⟩⟩⟩
theorem jK {W : World} {ok : Nat → Prop} {x : S29} {cs : List Value} (h : Kd.FK k29 W ok x cs) : ∃ A4 c4 A5 c5,cs = [.int .i64 x.f0,.bool x.f1,.int .i64 x.f2,.string x.f3,.slice A4 x.f4.length c4,.slice A5 x.f5.length c5] ∧ x.f4.length ≤ c4 ∧ Kd.F k29 W ok A4 x.f4.length x.f4 ∧ x.f5.length ≤ c5 ∧ Kd.F k48 W ok A5 x.f5.length x.f5:=by
 obtain ⟨A4,c4,A5,c5,rfl,l4,_,l5,_⟩:=jA (Kd.gF h)
 exact ⟨A4,c4,A5,c5,rfl,l4,(fun W' hW=>by obtain ⟨xX,xY,xS,xU,he,yj,xZ,xW,xV⟩:=jA (h W' hW);injection (Option.some.inj (show some (Value.slice A4 x.f4.length c4) = some (Value.slice xX x.f4.length xY) from congrArg (fun l=>l[4]?) he)) with ha_ _ _;rw [ha_];exact xZ),l5,(fun W' hW=>by obtain ⟨xX,xY,xS,xU,he,yj,xZ,xW,xV⟩:=jA (h W' hW);injection (Option.some.inj (show some (Value.slice A5 x.f5.length c5) = some (Value.slice xS x.f5.length xU) from congrArg (fun l=>l[5]?) he)) with ha_ _ _;rw [ha_];exact xV)⟩
theorem iF (W : World) (ok : Nat → Prop) (x : S29) {A4 : Option Addr} {c4 : Nat} (l4 : x.f4.length ≤ c4) (g4 : Kd.F k29 W ok A4 x.f4.length x.f4) {A5 : Option Addr} {c5 : Nat} (l5 : x.f5.length ≤ c5) (g5 : Kd.F k48 W ok A5 x.f5.length x.f5) : Kd.FK k29 W ok x [.int .i64 x.f0,.bool x.f1,.int .i64 x.f2,.string x.f3,.slice A4 x.f4.length c4,.slice A5 x.f5.length c5]:=fun W2 hW=>rV W2 x l4 (g4 W2 hW) l5 (g5 W2 hW)
def aG (xs : List S29) (i : Int) : S29:=xs.getD i.toNat z29
theorem jX {w : World} {A : Option Addr} {n : Nat} {xs : List S29} (h : Kd.C k29 w A n xs) (i : Int) (h0 : 0 ≤ i) (h1 : i < n) : ∃ ad A4 c4 A5 c5,A = some ad ∧ w.cell? (ad.add (i.toNat * 6)) = some (.int .i64 (aG xs i).f0) ∧ w.cell? ⟨(ad.add (i.toNat * 6)).block,(ad.add (i.toNat * 6)).off + 1,none⟩ = some (.bool (aG xs i).f1) ∧ w.cell? ⟨(ad.add (i.toNat * 6)).block,(ad.add (i.toNat * 6)).off + 2,none⟩ = some (.int .i64 (aG xs i).f2) ∧ w.cell? ⟨(ad.add (i.toNat * 6)).block,(ad.add (i.toNat * 6)).off + 3,none⟩ = some (.string (aG xs i).f3) ∧ w.cell? ⟨(ad.add (i.toNat * 6)).block,(ad.add (i.toNat * 6)).off + 4,none⟩ = some (.slice A4 (aG xs i).f4.length c4) ∧ w.cell? ⟨(ad.add (i.toNat * 6)).block,(ad.add (i.toNat * 6)).off + 5,none⟩ = some (.slice A5 (aG xs i).f5.length c5) ∧ (aG xs i).f4.length ≤ c4 ∧ k29.C w A4 (aG xs i).f4.length (aG xs i).f4 ∧ (aG xs i).f5.length ≤ c5 ∧ k48.C w A5 (aG xs i).f5.length (aG xs i).f5:=by
 obtain ⟨ad,c,e,_,hK,hc0⟩:=Kd.kS h z29 i h0 h1
 have hc : ∀ j u,c[j]? = some u → w.cell? (ad.add (i.toNat * 6 + j)) = some u:=hc0
 obtain ⟨A4,c4,A5,c5,rfl,l4,g4,l5,g5⟩:=jA hK
 exact ⟨ad,A4,c4,A5,c5,e,hc 0 _ rfl,by rw [← cB _ _ 1 (by omega)];exact hc 1 _ rfl,by rw [← cB _ _ 2 (by omega)];exact hc 2 _ rfl,by rw [← cB _ _ 3 (by omega)];exact hc 3 _ rfl,by rw [← cB _ _ 4 (by omega)];exact hc 4 _ rfl,by rw [← cB _ _ 5 (by omega)];exact hc 5 _ rfl,l4,g4,l5,g5⟩
def z48 : S48:=⟨(⟨#[]⟩ : ByteArray),z29⟩
theorem oo : Kd.Heap k48:=Kd.iO _ (Kd.dW Kd.gI mh)
theorem kD {w : World} {x : S48} {cs : List Value} (h : k48.K w x cs) : ∃ A5 c5 A6 c6,cs = [.string x.f0,.int .i64 x.f1.f0,.bool x.f1.f1,.int .i64 x.f1.f2,.string x.f1.f3,.slice A5 x.f1.f4.length c5,.slice A6 x.f1.f5.length c6] ∧ x.f1.f4.length ≤ c5 ∧ k29.C w A5 x.f1.f4.length x.f1.f4 ∧ x.f1.f5.length ≤ c6 ∧ k48.C w A6 x.f1.f5.length x.f1.f5:=by
 obtain ⟨_,_,rfl,rfl,s1⟩:=h
 obtain ⟨A5,c5,A6,c6,rfl,l5,g5,l6,g6⟩:=jA s1
 exact ⟨A5,c5,A6,c6,rfl,l5,g5,l6,g6⟩
theorem vY {w : World} {base : Nat} {ok : Nat → Prop} {x : S48} {cs : List Value} (h : k48.M w base ok x cs) : ∃ v5 v6,cs = [.string x.f0,.int .i64 x.f1.f0,.bool x.f1.f1,.int .i64 x.f1.f2,.string x.f1.f3,v5,v6] ∧ k29.R 29 w base ok v5 x.f1.f4 ∧ k48.R 48 w base ok v6 x.f1.f5:=by
 obtain ⟨_,_,rfl,rfl,s1⟩:=h
 obtain ⟨v5,v6,rfl,g5,g6⟩:=qG s1
 exact ⟨v5,v6,rfl,g5,g6⟩
theorem vH (w : World) (x : S48) {A5 : Option Addr} {c5 : Nat} (l5 : x.f1.f4.length ≤ c5) (g5 : k29.C w A5 x.f1.f4.length x.f1.f4) {A6 : Option Addr} {c6 : Nat} (l6 : x.f1.f5.length ≤ c6) (g6 : k48.C w A6 x.f1.f5.length x.f1.f5) : k48.K w x [.string x.f0,.int .i64 x.f1.f0,.bool x.f1.f1,.int .i64 x.f1.f2,.string x.f1.f3,.slice A5 x.f1.f4.length c5,.slice A6 x.f1.f5.length c6]:=⟨[.string x.f0],[.int .i64 x.f1.f0,.bool x.f1.f1,.int .i64 x.f1.f2,.string x.f1.f3,.slice A5 x.f1.f4.length c5,.slice A6 x.f1.f5.length c6],rfl,rfl,(rV w x.f1 l5 g5 l6 g6)⟩
theorem xA (w : World) (base : Nat) (ok : Nat → Prop) (x : S48) {v5 : Value} (g5 : k29.R 29 w base ok v5 x.f1.f4) {v6 : Value} (g6 : k48.R 48 w base ok v6 x.f1.f5) : k48.M w base ok x [.string x.f0,.int .i64 x.f1.f0,.bool x.f1.f1,.int .i64 x.f1.f2,.string x.f1.f3,v5,v6]:=⟨[.string x.f0],[.int .i64 x.f1.f0,.bool x.f1.f1,.int .i64 x.f1.f2,.string x.f1.f3,v5,v6],rfl,rfl,(um w base ok x.f1 g5 g6)⟩
theorem qH {W : World} {ok : Nat → Prop} {x : S48} {cs : List Value} (h : Kd.FK k48 W ok x cs) : ∃ A5 c5 A6 c6,cs = [.string x.f0,.int .i64 x.f1.f0,.bool x.f1.f1,.int .i64 x.f1.f2,.string x.f1.f3,.slice A5 x.f1.f4.length c5,.slice A6 x.f1.f5.length c6] ∧ x.f1.f4.length ≤ c5 ∧ Kd.F k29 W ok A5 x.f1.f4.length x.f1.f4 ∧ x.f1.f5.length ≤ c6 ∧ Kd.F k48 W ok A6 x.f1.f5.length x.f1.f5:=by
 obtain ⟨A5,c5,A6,c6,rfl,l5,_,l6,_⟩:=kD (Kd.gF h)
 exact ⟨A5,c5,A6,c6,rfl,l5,(fun W' hW=>by obtain ⟨xS,xU,yc,yg,he,xW,xV,yt,yh⟩:=kD (h W' hW);injection (Option.some.inj (show some (Value.slice A5 x.f1.f4.length c5) = some (Value.slice xS x.f1.f4.length xU) from congrArg (fun l=>l[5]?) he)) with ha_ _ _;rw [ha_];exact xV),l6,(fun W' hW=>by obtain ⟨xS,xU,yc,yg,he,xW,xV,yt,yh⟩:=kD (h W' hW);injection (Option.some.inj (show some (Value.slice A6 x.f1.f5.length c6) = some (Value.slice yc x.f1.f5.length yg) from congrArg (fun l=>l[6]?) he)) with ha_ _ _;rw [ha_];exact yh)⟩
theorem uo (W : World) (ok : Nat → Prop) (x : S48) {A5 : Option Addr} {c5 : Nat} (l5 : x.f1.f4.length ≤ c5) (g5 : Kd.F k29 W ok A5 x.f1.f4.length x.f1.f4) {A6 : Option Addr} {c6 : Nat} (l6 : x.f1.f5.length ≤ c6) (g6 : Kd.F k48 W ok A6 x.f1.f5.length x.f1.f5) : Kd.FK k48 W ok x [.string x.f0,.int .i64 x.f1.f0,.bool x.f1.f1,.int .i64 x.f1.f2,.string x.f1.f3,.slice A5 x.f1.f4.length c5,.slice A6 x.f1.f5.length c6]:=fun W2 hW=>vH W2 x l5 (g5 W2 hW) l6 (g6 W2 hW)
def aH (xs : List S48) (i : Int) : S48:=xs.getD i.toNat z48
theorem kN {w : World} {A : Option Addr} {n : Nat} {xs : List S48} (h : Kd.C k48 w A n xs) (i : Int) (h0 : 0 ≤ i) (h1 : i < n) : ∃ ad A5 c5 A6 c6,A = some ad ∧ w.cell? (ad.add (i.toNat * 7)) = some (.string (aH xs i).f0) ∧ w.cell? ⟨(ad.add (i.toNat * 7)).block,(ad.add (i.toNat * 7)).off + 1,none⟩ = some (.int .i64 (aH xs i).f1.f0) ∧ w.cell? ⟨(ad.add (i.toNat * 7)).block,(ad.add (i.toNat * 7)).off + 2,none⟩ = some (.bool (aH xs i).f1.f1) ∧ w.cell? ⟨(ad.add (i.toNat * 7)).block,(ad.add (i.toNat * 7)).off + 3,none⟩ = some (.int .i64 (aH xs i).f1.f2) ∧ w.cell? ⟨(ad.add (i.toNat * 7)).block,(ad.add (i.toNat * 7)).off + 4,none⟩ = some (.string (aH xs i).f1.f3) ∧ w.cell? ⟨(ad.add (i.toNat * 7)).block,(ad.add (i.toNat * 7)).off + 5,none⟩ = some (.slice A5 (aH xs i).f1.f4.length c5) ∧ w.cell? ⟨(ad.add (i.toNat * 7)).block,(ad.add (i.toNat * 7)).off + 6,none⟩ = some (.slice A6 (aH xs i).f1.f5.length c6) ∧ (aH xs i).f1.f4.length ≤ c5 ∧ k29.C w A5 (aH xs i).f1.f4.length (aH xs i).f1.f4 ∧ (aH xs i).f1.f5.length ≤ c6 ∧ k48.C w A6 (aH xs i).f1.f5.length (aH xs i).f1.f5:=by
 obtain ⟨ad,c,e,_,hK,hc0⟩:=Kd.kS h z48 i h0 h1
 have hc : ∀ j u,c[j]? = some u → w.cell? (ad.add (i.toNat * 7 + j)) = some u:=hc0
 obtain ⟨A5,c5,A6,c6,rfl,l5,g5,l6,g6⟩:=kD hK
 exact ⟨ad,A5,c5,A6,c6,e,hc 0 _ rfl,by rw [← cB _ _ 1 (by omega)];exact hc 1 _ rfl,by rw [← cB _ _ 2 (by omega)];exact hc 2 _ rfl,by rw [← cB _ _ 3 (by omega)];exact hc 3 _ rfl,by rw [← cB _ _ 4 (by omega)];exact hc 4 _ rfl,by rw [← cB _ _ 5 (by omega)];exact hc 5 _ rfl,by rw [← cB _ _ 6 (by omega)];exact hc 6 _ rfl,l5,g5,l6,g6⟩
structure Q50 (α : Type) where
 f0 : ByteArray
 f1 : α
structure S33 where
 f0 : Int
 f1 : Bool
 f2 : Int
 f3 : ByteArray
 f4 : (List S33)
 f5 : (List (Q50 S33))
abbrev S50:=Q50 S33
def z33 : S33:=⟨(0 : Int),false,(0 : Int),(⟨#[]⟩ : ByteArray),([] : List S33),([] : List (Q50 S33))⟩
def F33 (d : Kd S33) : Kd S33:=Kd.iso (Kd.pair (Kd.int .i64) (Kd.pair Kd.bool (Kd.pair (Kd.int .i64) (Kd.pair Kd.string (Kd.pair (Kd.slice 33 d) (Kd.slice 50 (Kd.iso (Kd.pair Kd.string d) (fun x : Q50 S33=>(x.f0,x.f1))))))))) (fun x : S33=>(x.f0,x.f1,x.f2,x.f3,x.f4,x.f5))
theorem jB : Kd.Mono F33:=Kd.iZ _ (Kd.fB (Kd.fD _) (Kd.fB (Kd.fD _) (Kd.fB (Kd.fD _) (Kd.fB (Kd.fD _) (Kd.fB (Kd.jd 33 Kd.jF) (Kd.jd 50 (Kd.iZ _ (Kd.fB (Kd.fD _) Kd.jF))))))))
theorem wJ : Kd.Sub F33 [33,50]:=Kd.lu _ (Kd.gB (Kd.sub_const _ (by decide)) (Kd.gB (Kd.sub_const _ (by decide)) (Kd.gB (Kd.sub_const _ (by decide)) (Kd.gB (Kd.sub_const _ (by decide)) (Kd.gB (Kd.jG 33 (by decide) Kd.nC) (Kd.jG 50 (by decide) (Kd.lu _ (Kd.gB (Kd.sub_const _ (by decide)) Kd.nC))))))))
theorem gZ : ∀ n,(Kd.upto F33 6 [33,50] n).sz = 6:=Kd.pU (fun _=>rfl)
def k33 : Kd S33:=Kd.fix F33 6 [33,50] gZ (Kd.o8 wJ)
def g50 (d : Kd S33) : Kd S50:=(Kd.iso (Kd.pair Kd.string d) (fun x : Q50 S33=>(x.f0,x.f1)))
def k50 : Kd S50:=(Kd.iso (Kd.pair Kd.string k33) (fun x : Q50 S33=>(x.f0,x.f1)))
theorem gW : Kd.Mono g50:=Kd.iZ _ (Kd.fB (Kd.fD _) Kd.jF)
theorem rW {n : Nat} {w : World} {A : Option Addr} {m : Nat} {xs : List S50} (h : (g50 (Kd.upto F33 6 [33,50] n)).C w A m xs) : k50.C w A m xs:=Kd.lN (d:=g50 (Kd.upto F33 6 [33,50] n)) (d':=g50 k33) (gW.sz _ k33 ((gZ n).trans (gZ 0).symm)) (gW.K _ k33 ((gZ n).trans (gZ 0).symm) (fun w x cs hp=>⟨n,hp⟩)) h
theorem rX {n : Nat} {e : Nat} {w : World} {base : Nat} {ok : Nat → Prop} {v : Value} {xs : List S50} (h : (g50 (Kd.upto F33 6 [33,50] n)).R e w base ok v xs) : k50.R e w base ok v xs:=Kd.lQ (d:=g50 (Kd.upto F33 6 [33,50] n)) (d':=g50 k33) (gW.sz _ k33 ((gZ n).trans (gZ 0).symm)) (gW.M _ k33 ((gZ n).trans (gZ 0).symm) (fun w base ok x cs hp=>⟨n,hp⟩)) h
theorem uq {n m : Nat} (hnm : n ≤ m) {w : World} {A : Option Addr} {l : Nat} {xs : List S50} (h : (g50 (Kd.upto F33 6 [33,50] n)).C w A l xs) : (g50 (Kd.upto F33 6 [33,50] m)).C w A l xs:=Kd.lN (gW.sz _ _ ((gZ n).trans (gZ m).symm)) (gW.K _ _ ((gZ n).trans (gZ m).symm) (fun _ _ _ hp=>Kd.iH jB gZ hnm hp)) h
theorem uw {n m : Nat} (hnm : n ≤ m) {e : Nat} {w : World} {base : Nat} {ok : Nat → Prop} {v : Value} {xs : List S50} (h : (g50 (Kd.upto F33 6 [33,50] n)).R e w base ok v xs) : (g50 (Kd.upto F33 6 [33,50] m)).R e w base ok v xs:=Kd.lQ (gW.sz _ _ ((gZ n).trans (gZ m).symm)) (gW.M _ _ ((gZ n).trans (gZ m).symm) (fun _ _ _ _ _ hp=>Kd.iI jB gZ hnm hp)) h
theorem qI {w : World} {A : Option Addr} {m : Nat} {xs : List S50} (h : k50.C w A m xs) : ∃ n,(g50 (Kd.upto F33 6 [33,50] n)).C w A m xs:=by
 refine uR (D:=fun n=>g50 (Kd.upto F33 6 [33,50] n)) (d:=k50) (fun n=>gW.sz _ k33 ((gZ n).trans (gZ 0).symm)) (fun n m w x cs hnm=>gW.K _ _ ((gZ n).trans (gZ m).symm) (fun _ _ _ hp=>Kd.iH jB gZ hnm hp) w x cs) (fun w x cs h=>?_) h
 obtain ⟨c0,d0,rfl,e0,h⟩:=h
 obtain ⟨n,h⟩:=h
 exact ⟨n,⟨c0,d0,rfl,e0,h⟩⟩
theorem qJ {e : Nat} {w : World} {base : Nat} {ok : Nat → Prop} {v : Value} {xs : List S50} (h : k50.R e w base ok v xs) : ∃ n,(g50 (Kd.upto F33 6 [33,50] n)).R e w base ok v xs:=by
 refine uS (D:=fun n=>g50 (Kd.upto F33 6 [33,50] n)) (d:=k50) (fun n=>gW.sz _ k33 ((gZ n).trans (gZ 0).symm)) (fun n m w base ok x cs hnm=>gW.M _ _ ((gZ n).trans (gZ m).symm) (fun _ _ _ _ _ hp=>Kd.iI jB gZ hnm hp) w base ok x cs) (fun w base ok x cs h=>?_) h
 obtain ⟨c0,d0,rfl,e0,h⟩:=h
 obtain ⟨n,h⟩:=h
 exact ⟨n,⟨c0,d0,rfl,e0,h⟩⟩
theorem rY : Kd.Heap k33:=Kd.om (fun _ h_=>Kd.iO _ (Kd.dW (Kd.iN .i64) (Kd.dW Kd.kK (Kd.dW (Kd.iN .i64) (Kd.dW Kd.gI (Kd.dW (Kd.je 33 h_) (Kd.je 50 (Kd.iO _ (Kd.dW Kd.gI h_)))))))))
theorem jC {w : World} {x : S33} {cs : List Value} (h : k33.K w x cs) : ∃ A4 c4 A5 c5,cs = [.int .i64 x.f0,.bool x.f1,.int .i64 x.f2,.string x.f3,.slice A4 x.f4.length c4,.slice A5 x.f5.length c5] ∧ x.f4.length ≤ c4 ∧ k33.C w A4 x.f4.length x.f4 ∧ x.f5.length ≤ c5 ∧ k50.C w A5 x.f5.length x.f5:=by
 obtain ⟨n,h⟩:=h
 cases n with
 | zero=>exact h.elim
 | succ n =>
  obtain ⟨_,_,rfl,rfl,⟨_,_,rfl,rfl,⟨_,_,rfl,rfl,⟨_,_,rfl,rfl,⟨_,_,rfl,⟨A4,c4,rfl,l4,g4⟩,⟨A5,c5,rfl,l5,g5⟩⟩⟩⟩⟩⟩:=h
  exact ⟨A4,c4,A5,c5,rfl,l4,Kd.uM g4,l5,rW g5⟩
theorem qK {w : World} {base : Nat} {ok : Nat → Prop} {x : S33} {cs : List Value} (h : k33.M w base ok x cs) : ∃ v4 v5,cs = [.int .i64 x.f0,.bool x.f1,.int .i64 x.f2,.string x.f3,v4,v5] ∧ k33.R 33 w base ok v4 x.f4 ∧ k50.R 50 w base ok v5 x.f5:=by
 obtain ⟨n,h⟩:=h
 cases n with
 | zero=>exact h.elim
 | succ n =>
  obtain ⟨_,_,rfl,rfl,⟨_,_,rfl,rfl,⟨_,_,rfl,rfl,⟨_,_,rfl,rfl,⟨_,_,rfl,⟨v4,rfl,g4⟩,⟨v5,rfl,g5⟩⟩⟩⟩⟩⟩:=h
  exact ⟨v4,v5,rfl,Kd.uN g4,rX g5⟩
theorem rZ (w : World) (x : S33) {A4 : Option Addr} {c4 : Nat} (l4 : x.f4.length ≤ c4) (g4 : k33.C w A4 x.f4.length x.f4) {A5 : Option Addr} {c5 : Nat} (l5 : x.f5.length ≤ c5) (g5 : k50.C w A5 x.f5.length x.f5) : k33.K w x [.int .i64 x.f0,.bool x.f1,.int .i64 x.f2,.string x.f3,.slice A4 x.f4.length c4,.slice A5 x.f5.length c5]:=by
 obtain ⟨n4,q4⟩:=Kd.lT jB g4
 obtain ⟨n5,q5⟩:=qI g5
 have r4:=Kd.mQ jB gZ (show n4 ≤ (max n4 n5) by omega) q4
 have r5:=uq (show n5 ≤ (max n4 n5) by omega) q5
 exact ⟨(max n4 n5) + 1,⟨[.int .i64 x.f0],[.bool x.f1,.int .i64 x.f2,.string x.f3,.slice A4 x.f4.length c4,.slice A5 x.f5.length c5],rfl,rfl,⟨[.bool x.f1],[.int .i64 x.f2,.string x.f3,.slice A4 x.f4.length c4,.slice A5 x.f5.length c5],rfl,rfl,⟨[.int .i64 x.f2],[.string x.f3,.slice A4 x.f4.length c4,.slice A5 x.f5.length c5],rfl,rfl,⟨[.string x.f3],[.slice A4 x.f4.length c4,.slice A5 x.f5.length c5],rfl,rfl,⟨[.slice A4 x.f4.length c4],[.slice A5 x.f5.length c5],rfl,⟨A4,c4,rfl,l4,r4⟩,⟨A5,c5,rfl,l5,r5⟩⟩⟩⟩⟩⟩⟩
theorem uy (w : World) (base : Nat) (ok : Nat → Prop) (x : S33) {v4 : Value} (g4 : k33.R 33 w base ok v4 x.f4) {v5 : Value} (g5 : k50.R 50 w base ok v5 x.f5) : k33.M w base ok x [.int .i64 x.f0,.bool x.f1,.int .i64 x.f2,.string x.f3,v4,v5]:=by
 obtain ⟨n4,q4⟩:=Kd.lS jB g4
 obtain ⟨n5,q5⟩:=qJ g5
 have r4:=Kd.mP jB gZ (show n4 ≤ (max n4 n5) by omega) q4
 have r5:=uw (show n5 ≤ (max n4 n5) by omega) q5
 exact ⟨(max n4 n5) + 1,⟨[.int .i64 x.f0],[.bool x.f1,.int .i64 x.f2,.string x.f3,v4,v5],rfl,rfl,⟨[.bool x.f1],[.int .i64 x.f2,.string x.f3,v4,v5],rfl,rfl,⟨[.int .i64 x.f2],[.string x.f3,v4,v5],rfl,rfl,⟨[.string x.f3],[v4,v5],rfl,rfl,⟨[v4],[v5],rfl,⟨v4,rfl,r4⟩,⟨v5,rfl,r5⟩⟩⟩⟩⟩⟩⟩
theorem qL {W : World} {ok : Nat → Prop} {x : S33} {cs : List Value} (h : Kd.FK k33 W ok x cs) : ∃ A4 c4 A5 c5,cs = [.int .i64 x.f0,.bool x.f1,.int .i64 x.f2,.string x.f3,.slice A4 x.f4.length c4,.slice A5 x.f5.length c5] ∧ x.f4.length ≤ c4 ∧ Kd.F k33 W ok A4 x.f4.length x.f4 ∧ x.f5.length ≤ c5 ∧ Kd.F k50 W ok A5 x.f5.length x.f5:=by
 obtain ⟨A4,c4,A5,c5,rfl,l4,_,l5,_⟩:=jC (Kd.gF h)
 exact ⟨A4,c4,A5,c5,rfl,l4,(fun W' hW=>by obtain ⟨xX,xY,xS,xU,he,yj,xZ,xW,xV⟩:=jC (h W' hW);injection (Option.some.inj (show some (Value.slice A4 x.f4.length c4) = some (Value.slice xX x.f4.length xY) from congrArg (fun l=>l[4]?) he)) with ha_ _ _;rw [ha_];exact xZ),l5,(fun W' hW=>by obtain ⟨xX,xY,xS,xU,he,yj,xZ,xW,xV⟩:=jC (h W' hW);injection (Option.some.inj (show some (Value.slice A5 x.f5.length c5) = some (Value.slice xS x.f5.length xU) from congrArg (fun l=>l[5]?) he)) with ha_ _ _;rw [ha_];exact xV)⟩
theorem jL (W : World) (ok : Nat → Prop) (x : S33) {A4 : Option Addr} {c4 : Nat} (l4 : x.f4.length ≤ c4) (g4 : Kd.F k33 W ok A4 x.f4.length x.f4) {A5 : Option Addr} {c5 : Nat} (l5 : x.f5.length ≤ c5) (g5 : Kd.F k50 W ok A5 x.f5.length x.f5) : Kd.FK k33 W ok x [.int .i64 x.f0,.bool x.f1,.int .i64 x.f2,.string x.f3,.slice A4 x.f4.length c4,.slice A5 x.f5.length c5]:=fun W2 hW=>rZ W2 x l4 (g4 W2 hW) l5 (g5 W2 hW)
def bD (xs : List S33) (i : Int) : S33:=xs.getD i.toNat z33
theorem jD {w : World} {A : Option Addr} {n : Nat} {xs : List S33} (h : Kd.C k33 w A n xs) (i : Int) (h0 : 0 ≤ i) (h1 : i < n) : ∃ ad A4 c4 A5 c5,A = some ad ∧ w.cell? (ad.add (i.toNat * 6)) = some (.int .i64 (bD xs i).f0) ∧ w.cell? ⟨(ad.add (i.toNat * 6)).block,(ad.add (i.toNat * 6)).off + 1,none⟩ = some (.bool (bD xs i).f1) ∧ w.cell? ⟨(ad.add (i.toNat * 6)).block,(ad.add (i.toNat * 6)).off + 2,none⟩ = some (.int .i64 (bD xs i).f2) ∧ w.cell? ⟨(ad.add (i.toNat * 6)).block,(ad.add (i.toNat * 6)).off + 3,none⟩ = some (.string (bD xs i).f3) ∧ w.cell? ⟨(ad.add (i.toNat * 6)).block,(ad.add (i.toNat * 6)).off + 4,none⟩ = some (.slice A4 (bD xs i).f4.length c4) ∧ w.cell? ⟨(ad.add (i.toNat * 6)).block,(ad.add (i.toNat * 6)).off + 5,none⟩ = some (.slice A5 (bD xs i).f5.length c5) ∧ (bD xs i).f4.length ≤ c4 ∧ k33.C w A4 (bD xs i).f4.length (bD xs i).f4 ∧ (bD xs i).f5.length ≤ c5 ∧ k50.C w A5 (bD xs i).f5.length (bD xs i).f5:=by
 obtain ⟨ad,c,e,_,hK,hc0⟩:=Kd.kS h z33 i h0 h1
 have hc : ∀ j u,c[j]? = some u → w.cell? (ad.add (i.toNat * 6 + j)) = some u:=hc0
 obtain ⟨A4,c4,A5,c5,rfl,l4,g4,l5,g5⟩:=jC hK
 exact ⟨ad,A4,c4,A5,c5,e,hc 0 _ rfl,by rw [← cB _ _ 1 (by omega)];exact hc 1 _ rfl,by rw [← cB _ _ 2 (by omega)];exact hc 2 _ rfl,by rw [← cB _ _ 3 (by omega)];exact hc 3 _ rfl,by rw [← cB _ _ 4 (by omega)];exact hc 4 _ rfl,by rw [← cB _ _ 5 (by omega)];exact hc 5 _ rfl,l4,g4,l5,g5⟩
def z50 : S50:=⟨(⟨#[]⟩ : ByteArray),z33⟩
theorem wK : Kd.Heap k50:=Kd.iO _ (Kd.dW Kd.gI rY)
theorem kE {w : World} {x : S50} {cs : List Value} (h : k50.K w x cs) : ∃ A5 c5 A6 c6,cs = [.string x.f0,.int .i64 x.f1.f0,.bool x.f1.f1,.int .i64 x.f1.f2,.string x.f1.f3,.slice A5 x.f1.f4.length c5,.slice A6 x.f1.f5.length c6] ∧ x.f1.f4.length ≤ c5 ∧ k33.C w A5 x.f1.f4.length x.f1.f4 ∧ x.f1.f5.length ≤ c6 ∧ k50.C w A6 x.f1.f5.length x.f1.f5:=by
 obtain ⟨_,_,rfl,rfl,s1⟩:=h
 obtain ⟨A5,c5,A6,c6,rfl,l5,g5,l6,g6⟩:=jC s1
 exact ⟨A5,c5,A6,c6,rfl,l5,g5,l6,g6⟩
theorem vZ {w : World} {base : Nat} {ok : Nat → Prop} {x : S50} {cs : List Value} (h : k50.M w base ok x cs) : ∃ v5 v6,cs = [.string x.f0,.int .i64 x.f1.f0,.bool x.f1.f1,.int .i64 x.f1.f2,.string x.f1.f3,v5,v6] ∧ k33.R 33 w base ok v5 x.f1.f4 ∧ k50.R 50 w base ok v6 x.f1.f5:=by
 obtain ⟨_,_,rfl,rfl,s1⟩:=h
 obtain ⟨v5,v6,rfl,g5,g6⟩:=qK s1
 exact ⟨v5,v6,rfl,g5,g6⟩
theorem vI (w : World) (x : S50) {A5 : Option Addr} {c5 : Nat} (l5 : x.f1.f4.length ≤ c5) (g5 : k33.C w A5 x.f1.f4.length x.f1.f4) {A6 : Option Addr} {c6 : Nat} (l6 : x.f1.f5.length ≤ c6) (g6 : k50.C w A6 x.f1.f5.length x.f1.f5) : k50.K w x [.string x.f0,.int .i64 x.f1.f0,.bool x.f1.f1,.int .i64 x.f1.f2,.string x.f1.f3,.slice A5 x.f1.f4.length c5,.slice A6 x.f1.f5.length c6]:=⟨[.string x.f0],[.int .i64 x.f1.f0,.bool x.f1.f1,.int .i64 x.f1.f2,.string x.f1.f3,.slice A5 x.f1.f4.length c5,.slice A6 x.f1.f5.length c6],rfl,rfl,(rZ w x.f1 l5 g5 l6 g6)⟩
theorem xB (w : World) (base : Nat) (ok : Nat → Prop) (x : S50) {v5 : Value} (g5 : k33.R 33 w base ok v5 x.f1.f4) {v6 : Value} (g6 : k50.R 50 w base ok v6 x.f1.f5) : k50.M w base ok x [.string x.f0,.int .i64 x.f1.f0,.bool x.f1.f1,.int .i64 x.f1.f2,.string x.f1.f3,v5,v6]:=⟨[.string x.f0],[.int .i64 x.f1.f0,.bool x.f1.f1,.int .i64 x.f1.f2,.string x.f1.f3,v5,v6],rfl,rfl,(uy w base ok x.f1 g5 g6)⟩
theorem wh {W : World} {ok : Nat → Prop} {x : S50} {cs : List Value} (h : Kd.FK k50 W ok x cs) : ∃ A5 c5 A6 c6,cs = [.string x.f0,.int .i64 x.f1.f0,.bool x.f1.f1,.int .i64 x.f1.f2,.string x.f1.f3,.slice A5 x.f1.f4.length c5,.slice A6 x.f1.f5.length c6] ∧ x.f1.f4.length ≤ c5 ∧ Kd.F k33 W ok A5 x.f1.f4.length x.f1.f4 ∧ x.f1.f5.length ≤ c6 ∧ Kd.F k50 W ok A6 x.f1.f5.length x.f1.f5:=by
 obtain ⟨A5,c5,A6,c6,rfl,l5,_,l6,_⟩:=kE (Kd.gF h)
 exact ⟨A5,c5,A6,c6,rfl,l5,(fun W' hW=>by obtain ⟨xS,xU,yc,yg,he,xW,xV,yt,yh⟩:=kE (h W' hW);injection (Option.some.inj (show some (Value.slice A5 x.f1.f4.length c5) = some (Value.slice xS x.f1.f4.length xU) from congrArg (fun l=>l[5]?) he)) with ha_ _ _;rw [ha_];exact xV),l6,(fun W' hW=>by obtain ⟨xS,xU,yc,yg,he,xW,xV,yt,yh⟩:=kE (h W' hW);injection (Option.some.inj (show some (Value.slice A6 x.f1.f5.length c6) = some (Value.slice yc x.f1.f5.length yg) from congrArg (fun l=>l[6]?) he)) with ha_ _ _;rw [ha_];exact yh)⟩
theorem uz (W : World) (ok : Nat → Prop) (x : S50) {A5 : Option Addr} {c5 : Nat} (l5 : x.f1.f4.length ≤ c5) (g5 : Kd.F k33 W ok A5 x.f1.f4.length x.f1.f4) {A6 : Option Addr} {c6 : Nat} (l6 : x.f1.f5.length ≤ c6) (g6 : Kd.F k50 W ok A6 x.f1.f5.length x.f1.f5) : Kd.FK k50 W ok x [.string x.f0,.int .i64 x.f1.f0,.bool x.f1.f1,.int .i64 x.f1.f2,.string x.f1.f3,.slice A5 x.f1.f4.length c5,.slice A6 x.f1.f5.length c6]:=fun W2 hW=>vI W2 x l5 (g5 W2 hW) l6 (g6 W2 hW)
def aW (xs : List S50) (i : Int) : S50:=xs.getD i.toNat z50
theorem fV {w : World} {A : Option Addr} {n : Nat} {xs : List S50} (h : Kd.C k50 w A n xs) (i : Int) (h0 : 0 ≤ i) (h1 : i < n) : ∃ ad A5 c5 A6 c6,A = some ad ∧ w.cell? (ad.add (i.toNat * 7)) = some (.string (aW xs i).f0) ∧ w.cell? ⟨(ad.add (i.toNat * 7)).block,(ad.add (i.toNat * 7)).off + 1,none⟩ = some (.int .i64 (aW xs i).f1.f0) ∧ w.cell? ⟨(ad.add (i.toNat * 7)).block,(ad.add (i.toNat * 7)).off + 2,none⟩ = some (.bool (aW xs i).f1.f1) ∧ w.cell? ⟨(ad.add (i.toNat * 7)).block,(ad.add (i.toNat * 7)).off + 3,none⟩ = some (.int .i64 (aW xs i).f1.f2) ∧ w.cell? ⟨(ad.add (i.toNat * 7)).block,(ad.add (i.toNat * 7)).off + 4,none⟩ = some (.string (aW xs i).f1.f3) ∧ w.cell? ⟨(ad.add (i.toNat * 7)).block,(ad.add (i.toNat * 7)).off + 5,none⟩ = some (.slice A5 (aW xs i).f1.f4.length c5) ∧ w.cell? ⟨(ad.add (i.toNat * 7)).block,(ad.add (i.toNat * 7)).off + 6,none⟩ = some (.slice A6 (aW xs i).f1.f5.length c6) ∧ (aW xs i).f1.f4.length ≤ c5 ∧ k33.C w A5 (aW xs i).f1.f4.length (aW xs i).f1.f4 ∧ (aW xs i).f1.f5.length ≤ c6 ∧ k50.C w A6 (aW xs i).f1.f5.length (aW xs i).f1.f5:=by
 obtain ⟨ad,c,e,_,hK,hc0⟩:=Kd.kS h z50 i h0 h1
 have hc : ∀ j u,c[j]? = some u → w.cell? (ad.add (i.toNat * 7 + j)) = some u:=hc0
 obtain ⟨A5,c5,A6,c6,rfl,l5,g5,l6,g6⟩:=kE hK
 exact ⟨ad,A5,c5,A6,c6,e,hc 0 _ rfl,by rw [← cB _ _ 1 (by omega)];exact hc 1 _ rfl,by rw [← cB _ _ 2 (by omega)];exact hc 2 _ rfl,by rw [← cB _ _ 3 (by omega)];exact hc 3 _ rfl,by rw [← cB _ _ 4 (by omega)];exact hc 4 _ rfl,by rw [← cB _ _ 5 (by omega)];exact hc 5 _ rfl,by rw [← cB _ _ 6 (by omega)];exact hc 6 _ rfl,l5,g5,l6,g6⟩
end Go.Proofs.YtnkkbiabloodaaaDoor.GVa
