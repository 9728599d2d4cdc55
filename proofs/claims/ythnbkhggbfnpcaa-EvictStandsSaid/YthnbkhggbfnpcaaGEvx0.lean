/- Written by this session's own program (wip/gen.py) out of the translation: plain Lean functions of the Go functions, and proofs that the calls come to their answers. No conditions beside those in the statements. -/
import Derived.Test.YthnbkhggbfnpcaaProg
import Derived.Below
import Derived.Deep.Draws
import Derived.Deep.AppendLies
import Derived.Maps.AppendAt
import Derived.OwnWalk
import Derived.Laws.BytesArg
import Derived.Laws.MakeOwn
import Derived.Laws.OwnMore
import Derived.Deep.OwnRows
import Derived.Tactics
import Derived.Lib.ConvBytes
import Derived.Laws.Slices
import Derived.WalkKit
import Derived.KernelRfl
import Derived.RowKit3
import Derived.Deep.LoopGhost
import Derived.Deep.QuietTactic
import Derived.BigQuiet
import Derived.WideLaws
import Derived.Deep.DeepCutAuto
import Derived.Deep.CutBlock
import Derived.Deep.RegionHeld3
import Derived.Laws.Rows
import Derived.Lib.AppendStr
import Derived.ArgAppend
import Derived.Laws.IdiomCopy
import Derived.OrdersHeld
import Derived.Laws.BitsLemmas
import Derived.RowKit
import Derived.Test.YthnbkhggbfnpcaaWWords
import Derived.Test.YthnbkhggbfnpcaaWLast
import Derived.Test.YthnbkhggbfnpcaaWTab
import Derived.Test.YthnbkhggbfnpcaaWFour
import Derived.Test.YthnbkhggbfnpcaaWQPut
import Derived.Test.YthnbkhggbfnpcaaWApart
import Derived.Test.YthnbkhggbfnpcaaWArr
import Derived.Test.YthnbkhggbfnpcaaWZeros
import Derived.Test.YthnbkhggbfnpcaaWFoot
import Derived.Test.YthnbkhggbfnpcaaWKept
import Derived.Test.YthnbkhggbfnpcaaWShare
import Derived.Test.YthnbkhggbfnpcaaWN
import Derived.Test.YthnbkhggbfnpcaaWFootNe
import Derived.Test.YthnbkhggbfnpcaaWAt
import Derived.Test.YthnbkhggbfnpcaaWEqStruct
import Derived.Test.YthnbkhggbfnpcaaWRepsOne
import Derived.Test.YthnbkhggbfnpcaaWInv
import Derived.Test.YthnbkhggbfnpcaaWInvWords
import Derived.Test.YthnbkhggbfnpcaaWGuard
import Derived.Test.YthnbkhggbfnpcaaWNEv
import Derived.Test.YthnbkhggbfnpcaaWMore
import Derived.Test.YthnbkhggbfnpcaaEvKd
namespace Go.Proofs.Ythnbkhggbfnpcaa.GEv
open Go.RowKit Go.Proofs.YthnbkhggbfnpcaaW.PrintWords Go.Proofs.YthnbkhggbfnpcaaW.PrintLast Go.Proofs.YthnbkhggbfnpcaaW.PrintMore
attribute [local go_sem] max2_int min2_int max_two min_two max_three min_three max_four min_four   -- for this text's walks alone
set_option linter.unusedVariables false
set_option linter.unusedSimpArgs false



def errW : Option Int → Value
 | none=>.nilIface
 | some c=>.iface 0 (.int .i64 c)
theorem errW_none : errW none = .nilIface:=rfl
theorem errW_some (c : Int) : errW (some c) = .iface 0 (.int .i64 c):=rfl


theorem u64_id {x : Int} (h0 : 0 ≤ x) (h1 : x ≤ 18446744073709551615) : IntKind.u64.wrap x = x:=by simp [IntKind.wrap,IntKind.bits,IntKind.signed];omega
theorem i64_id {x : Int} (h0 : -9223372036854775808 ≤ x) (h1 : x ≤ 9223372036854775807) : wrap64 x = x:=by unfold wrap64;omega
theorem nil_ne_ (l : List UInt8) : (l != []) = !l.isEmpty:=by cases l <;> rfl
theorem u8_id {x : Int} (h0 : 0 ≤ x) (h1 : x ≤ 255) : x % 256 = x:=by omega
theorem bl_leq : ∀ x y : List UInt8,(Op.bytesLess x y || x == y) = !(Op.bytesLess y x)
 | [],[]=>rfl
 | [],_ :: _=>rfl
 | _ :: _,[]=>rfl
 | a :: x,b :: y=>by
  have ih:=bl_leq x y
  simp only [Op.bytesLess,List.cons_beq_cons]
  rcases Nat.lt_trichotomy a.toNat b.toNat with h|h|h
  ·have h1 : a < b:=h
   have h2 : ¬ b < a:=fun e=>by have : b.toNat < a.toNat:=e;omega
   have h3 : ¬ b = a:=fun e=>by subst e;omega
   simp [h1,h2,h3]
  ·obtain rfl : a = b:=UInt8.toNat_inj.1 h
   simpa using ih
  ·have h1 : b < a:=h
   have h2 : ¬ a < b:=fun e=>by have : a.toNat < b.toNat:=e;omega
   have h3 : ¬ b = a:=fun e=>by subst e;omega
   have h4 : ¬ a = b:=fun e=>by subst e;omega
   simp [h1,h2,h3,h4]
@[go_sem] theorem bin_leq (t : TypeId) (a b : ByteArray) : binOp .leq t (.string a) (.string b) = pure (.bool (!(Op.bytesLess b.toList a.toList))):=by
 rw [← bl_leq];simp [binOp,Op.stringOp]
@[go_sem] theorem bin_gtr (t : TypeId) (a b : ByteArray) : binOp .gtr t (.string a) (.string b) = pure (.bool (Op.bytesLess b.toList a.toList)):=by
 have e : binOp .gtr t (.string a) (.string b) = pure (.bool (!(Op.bytesLess a.toList b.toList || a.toList == b.toList))):=by simp [binOp,Op.stringOp]
 rw [e,bl_leq,Bool.not_not]
@[go_sem] theorem bin_geq (t : TypeId) (a b : ByteArray) : binOp .geq t (.string a) (.string b) = pure (.bool (!(Op.bytesLess a.toList b.toList))):=by simp [binOp,Op.stringOp]

theorem info9 : (Try.prog.info? 9).map (fun i=>(i.zero,i.size,i.bytes)) = some (some (.string ⟨#[]⟩),1,16):=by kernel_rfl
theorem info39 : (Try.prog.info? 39).map (fun i=>(i.zero,i.size,i.bytes)) = some (some (.agg #[(.string ⟨#[]⟩),(.float .f64 0),(.float .f64 0)]),3,32):=by kernel_rfl
-- the values' own types
/-! #### struct type 27 -/
structure S27 where
 f0 : ByteArray
 f1 : Nat
 f2 : Nat
def z27 : S27:=⟨(⟨#[]⟩ : ByteArray),(0 : Nat),(0 : Nat)⟩
def k27 : Kd S27:=Kd.iso (Kd.pair Kd.string (Kd.pair Ev.kF Ev.kF)) (fun x : S27=>(x.f0,x.f1,x.f2))
theorem k27_open {w : World} {x : S27} {cs : List Value} (h : k27.K w x cs) : cs = [.string x.f0,.float .f64 x.f1,.float .f64 x.f2]:=by
 obtain ⟨_,_,rfl,rfl,⟨_,_,rfl,rfl,rfl⟩⟩:=h
 exact rfl
theorem k27_openM {w : World} {base : Nat} {ok : Nat → Prop} {x : S27} {cs : List Value} (h : k27.M w base ok x cs) : cs = [.string x.f0,.float .f64 x.f1,.float .f64 x.f2]:=by
 obtain ⟨_,_,rfl,rfl,⟨_,_,rfl,rfl,rfl⟩⟩:=h
 exact rfl
theorem k27_mk (w : World) (x : S27)  : k27.K w x [.string x.f0,.float .f64 x.f1,.float .f64 x.f2]:=⟨[.string x.f0],[.float .f64 x.f1,.float .f64 x.f2],rfl,rfl,⟨[.float .f64 x.f1],[.float .f64 x.f2],rfl,rfl,rfl⟩⟩
theorem k27_mkM (w : World) (base : Nat) (ok : Nat → Prop) (x : S27)  : k27.M w base ok x [.string x.f0,.float .f64 x.f1,.float .f64 x.f2]:=⟨[.string x.f0],[.float .f64 x.f1,.float .f64 x.f2],rfl,rfl,⟨[.float .f64 x.f1],[.float .f64 x.f2],rfl,rfl,rfl⟩⟩
def rd_T27 (xs : List S27) (i : Int) : S27:=xs.getD i.toNat z27
theorem at_T27 {w : World} {A : Option Addr} {n : Nat} {xs : List S27} (h : Kd.C k27 w A n xs) (i : Int) (h0 : 0 ≤ i) (h1 : i < n) : ∃ ad ,A = some ad ∧ w.cell? (ad.add (i.toNat * 3)) = some (.string (rd_T27 xs i).f0) ∧ w.cell? ⟨(ad.add (i.toNat * 3)).block,(ad.add (i.toNat * 3)).off + 1,none⟩ = some (.float .f64 (rd_T27 xs i).f1) ∧ w.cell? ⟨(ad.add (i.toNat * 3)).block,(ad.add (i.toNat * 3)).off + 2,none⟩ = some (.float .f64 (rd_T27 xs i).f2):=by
 obtain ⟨ad,c,e,_,hK,hc0⟩:=Kd.C_get h z27 i h0 h1
 have hc : ∀ j u,c[j]? = some u → w.cell? (ad.add (i.toNat * 3 + j)) = some u:=hc0
 obtain rfl:=k27_open hK
 exact ⟨ad,e,hc 0 _ rfl,by rw [← add_field _ _ 1 (by omega)];exact hc 1 _ rfl,by rw [← add_field _ _ 2 (by omega)];exact hc 2 _ rfl⟩

/-! #### struct type 55 -/
structure S55 where
 f0 : S27
 f1 : Int
def z55 : S55:=⟨z27,(0 : Int)⟩
def k55 : Kd S55:=Kd.iso (Kd.pair k27 (Kd.int .i64)) (fun x : S55=>(x.f0,x.f1))
theorem k55_open {w : World} {x : S55} {cs : List Value} (h : k55.K w x cs) : cs = [.string x.f0.f0,.float .f64 x.f0.f1,.float .f64 x.f0.f2,.int .i64 x.f1]:=by
 obtain ⟨_,_,rfl,s0,rfl⟩:=h
 obtain rfl:=k27_open s0
 exact rfl
theorem k55_openM {w : World} {base : Nat} {ok : Nat → Prop} {x : S55} {cs : List Value} (h : k55.M w base ok x cs) : cs = [.string x.f0.f0,.float .f64 x.f0.f1,.float .f64 x.f0.f2,.int .i64 x.f1]:=by
 obtain ⟨_,_,rfl,s0,rfl⟩:=h
 obtain rfl:=k27_openM s0
 exact rfl
theorem k55_mk (w : World) (x : S55)  : k55.K w x [.string x.f0.f0,.float .f64 x.f0.f1,.float .f64 x.f0.f2,.int .i64 x.f1]:=⟨[.string x.f0.f0,.float .f64 x.f0.f1,.float .f64 x.f0.f2],[.int .i64 x.f1],rfl,(k27_mk w x.f0 ),rfl⟩
theorem k55_mkM (w : World) (base : Nat) (ok : Nat → Prop) (x : S55)  : k55.M w base ok x [.string x.f0.f0,.float .f64 x.f0.f1,.float .f64 x.f0.f2,.int .i64 x.f1]:=⟨[.string x.f0.f0,.float .f64 x.f0.f1,.float .f64 x.f0.f2],[.int .i64 x.f1],rfl,(k27_mkM w base ok x.f0 ),rfl⟩
def rd_T55 (xs : List S55) (i : Int) : S55:=xs.getD i.toNat z55
theorem at_T55 {w : World} {A : Option Addr} {n : Nat} {xs : List S55} (h : Kd.C k55 w A n xs) (i : Int) (h0 : 0 ≤ i) (h1 : i < n) : ∃ ad ,A = some ad ∧ w.cell? (ad.add (i.toNat * 4)) = some (.string (rd_T55 xs i).f0.f0) ∧ w.cell? ⟨(ad.add (i.toNat * 4)).block,(ad.add (i.toNat * 4)).off + 1,none⟩ = some (.float .f64 (rd_T55 xs i).f0.f1) ∧ w.cell? ⟨(ad.add (i.toNat * 4)).block,(ad.add (i.toNat * 4)).off + 2,none⟩ = some (.float .f64 (rd_T55 xs i).f0.f2) ∧ w.cell? ⟨(ad.add (i.toNat * 4)).block,(ad.add (i.toNat * 4)).off + 3,none⟩ = some (.int .i64 (rd_T55 xs i).f1):=by
 obtain ⟨ad,c,e,_,hK,hc0⟩:=Kd.C_get h z55 i h0 h1
 have hc : ∀ j u,c[j]? = some u → w.cell? (ad.add (i.toNat * 4 + j)) = some u:=hc0
 obtain rfl:=k55_open hK
 exact ⟨ad,e,hc 0 _ rfl,by rw [← add_field _ _ 1 (by omega)];exact hc 1 _ rfl,by rw [← add_field _ _ 2 (by omega)];exact hc 2 _ rfl,by rw [← add_field _ _ 3 (by omega)];exact hc 3 _ rfl⟩

/-! #### struct type 39 -/
structure S39 where
 f0 : ByteArray
 f1 : Nat
 f2 : Nat
def z39 : S39:=⟨(⟨#[]⟩ : ByteArray),(0 : Nat),(0 : Nat)⟩
def k39 : Kd S39:=Kd.iso (Kd.pair Kd.string (Kd.pair Ev.kF Ev.kF)) (fun x : S39=>(x.f0,x.f1,x.f2))
theorem k39_open {w : World} {x : S39} {cs : List Value} (h : k39.K w x cs) : cs = [.string x.f0,.float .f64 x.f1,.float .f64 x.f2]:=by
 obtain ⟨_,_,rfl,rfl,⟨_,_,rfl,rfl,rfl⟩⟩:=h
 exact rfl
theorem k39_openM {w : World} {base : Nat} {ok : Nat → Prop} {x : S39} {cs : List Value} (h : k39.M w base ok x cs) : cs = [.string x.f0,.float .f64 x.f1,.float .f64 x.f2]:=by
 obtain ⟨_,_,rfl,rfl,⟨_,_,rfl,rfl,rfl⟩⟩:=h
 exact rfl
theorem k39_mk (w : World) (x : S39)  : k39.K w x [.string x.f0,.float .f64 x.f1,.float .f64 x.f2]:=⟨[.string x.f0],[.float .f64 x.f1,.float .f64 x.f2],rfl,rfl,⟨[.float .f64 x.f1],[.float .f64 x.f2],rfl,rfl,rfl⟩⟩
theorem k39_mkM (w : World) (base : Nat) (ok : Nat → Prop) (x : S39)  : k39.M w base ok x [.string x.f0,.float .f64 x.f1,.float .f64 x.f2]:=⟨[.string x.f0],[.float .f64 x.f1,.float .f64 x.f2],rfl,rfl,⟨[.float .f64 x.f1],[.float .f64 x.f2],rfl,rfl,rfl⟩⟩
def rd_T39 (xs : List S39) (i : Int) : S39:=xs.getD i.toNat z39
theorem at_T39 {w : World} {A : Option Addr} {n : Nat} {xs : List S39} (h : Kd.C k39 w A n xs) (i : Int) (h0 : 0 ≤ i) (h1 : i < n) : ∃ ad ,A = some ad ∧ w.cell? (ad.add (i.toNat * 3)) = some (.string (rd_T39 xs i).f0) ∧ w.cell? ⟨(ad.add (i.toNat * 3)).block,(ad.add (i.toNat * 3)).off + 1,none⟩ = some (.float .f64 (rd_T39 xs i).f1) ∧ w.cell? ⟨(ad.add (i.toNat * 3)).block,(ad.add (i.toNat * 3)).off + 2,none⟩ = some (.float .f64 (rd_T39 xs i).f2):=by
 obtain ⟨ad,c,e,_,hK,hc0⟩:=Kd.C_get h z39 i h0 h1
 have hc : ∀ j u,c[j]? = some u → w.cell? (ad.add (i.toNat * 3 + j)) = some u:=hc0
 obtain rfl:=k39_open hK
 exact ⟨ad,e,hc 0 _ rfl,by rw [← add_field _ _ 1 (by omega)];exact hc 1 _ rfl,by rw [← add_field _ _ 2 (by omega)];exact hc 2 _ rfl⟩

end Go.Proofs.Ythnbkhggbfnpcaa.GEv
