/- Written by this session's own program (wip/gen.py) out of the translation: plain Lean functions of the Go functions, and proofs that the calls come to their answers. No conditions beside those in the statements. -/
import Derived.Test.YtpflenjhmeaeoaaGreatDoorCp
import Derived.Test.YtpflenjhmeaeoaaGreatDoorGUtx0
import Derived.Test.YtpflenjhmeaeoaaGreatDoorGUtx8
namespace Go.Proofs.YtpflenjhmeaeoaaGreatDoor.GUt
open Go.RowKit Go.Proofs.YtpflenjhmeaeoaaGreatDoorW.PrintWords Go.Proofs.YtpflenjhmeaeoaaGreatDoorW.PrintLast Go.Proofs.YtpflenjhmeaeoaaGreatDoorW.PrintMore
attribute [local go_sem] fJ fK gH gI eO eP fM fO
set_option linter.unusedVariables false
set_option linter.unusedSimpArgs false
def gT.f (k : Nat) (a0 : ByteArray) : Option (ByteArray × Int):=if (a0.size : Int) > 4096 then (some ((⟨#[]⟩ : ByteArray),2)) else ((dz.f k 2 (IntKind.u64.wrap ((a0.size : Int)))).bind fun Bf=>(if Bf.size + a0.size ≤ 9223372036854775807 then (some (Bf ++ a0,0)) else (none)))
theorem gT.mono : ∀ a0 k,LeO (gT.f k a0) (gT.f (k + 1) a0):=by
 intro a0 k
 unfold gT.f
 repeat' first
   | (with_reducible exact dz.mono _ _ _)
   | (with_reducible exact LeO.refl _)
   | (with_reducible exact LeO.none _)
   | (with_reducible refine LeO.ite ?_ ?_)
   | (with_reducible refine LeO.bind ?_ (fun _=>?_))
   | exact dz.mono _ _ _
   | exact LeO.none _
   | refine LeO.ite ?_ ?_
   | refine LeO.bind ?_ (fun _=>?_)
set_option maxHeartbeats 8000000 in
set_option maxRecDepth 100000 in
theorem gT.calls (k : Nat) (a0 : ByteArray) (r1 : ByteArray) (r2 : Int) (w : World) (h : gT.f k a0 = some (r1,r2)) :
  Calls Tryz.prog 47 #[.string a0] w fun e w'=>e = .returned (.tuple #[.string r1,.int .i64 r2]) ∧ Below w.heap.size w w':=by
 have HB:=Aside0.mk (Below.refl w.heap.size w)
 have H : (if (a0.size : Int) > 4096 then (some ((⟨#[]⟩ : ByteArray),2)) else ((dz.f k 2 (IntKind.u64.wrap ((a0.size : Int)))).bind fun Bf=>(if Bf.size + a0.size ≤ 9223372036854775807 then (some (Bf ++ a0,0)) else (none)))) = some (r1,r2):=h
 clear h
 by_cases c2 : (a0.size : Int) > 4096
 ·rw [if_pos c2] at H
  have c2b0 : decide (4096 < (a0.size : Int)) = true:=decide_eq_true c2
  have c2b1 : decide (4096 < a0.size) = true:=decide_eq_true (by omega)
  clear c2
  simp only [Option.some.injEq,Prod.mk.injEq] at H
  obtain ⟨rfl,rfl⟩:=H
  go_enter Tryz.func47,Tryz.ntmps47
  go_wp2
  go_ret2
  exact ⟨by first|rfl|(simp [aY,aZ] <;> rfl)|(simp [*,aY,aZ] <;> rfl),hb_⟩
 ·rw [if_neg c2] at H
  have c2b0 : decide (4096 < (a0.size : Int)) = false:=decide_eq_false c2
  have c2b1 : decide (4096 < a0.size) = false:=decide_eq_false (by omega)
  clear c2
  replace H:=Option.bind_eq_some_iff.mp H
  obtain ⟨Bf,Bn,H⟩:=H
  replace H : (if Bf.size + a0.size ≤ 9223372036854775807 then (some (Bf ++ a0,0)) else (none)) = some (r1,r2):=H
  have A3:=Aside0.mk Bn
  clear Bn
  by_cases c4 : Bf.size + a0.size ≤ 9223372036854775807
  ·rw [if_pos c4] at H
   have c4b0:=eq_true c4
   have c4b1 : decide (Bf.size + a0.size ≤ 9223372036854775807) = true:=decide_eq_true c4
   try have c4b2 : (9223372036854775807 < Bf.size + a0.size) = False:=eq_false (Nat.not_lt.2 c4)
   simp only [Option.some.injEq,Prod.mk.injEq] at H
   obtain ⟨rfl,rfl⟩:=H
   go_enter Tryz.func47,Tryz.ntmps47
   go_wp2_with (first|((with_reducible refine bF (f:=46) rfl ?_);refine dN (some 10) rfl rfl Tryz.func46 (by kernel_rfl) rfl #[.int .i64 2,.int .u64 (IntKind.u64.wrap ((a0.size : Int)))] rfl (by (try simp only [List.map_toArray,List.map_cons,List.map_nil]);first|done|rfl|(simp only [List.length_drop,List.length_take];rfl)|(simp (disch:=first|omega|(simp at *;omega)) only [dO,dG,eH];rfl)) ?_;(with_reducible refine (dz.calls k 2 (IntKind.u64.wrap ((a0.size : Int))) Bf _ A3.out).mono ?_);rintro e w5 ⟨rfl,hb⟩;refine ⟨_,rfl,?_⟩;have Bh:=Aside0.mk (aK hb_ hb);clear HB;have HB:=Bh;clear Bh;(try clear hb);(try clear hb2);(try clear hk);(try clear hi)))
   go_ret2
   exact ⟨by first|rfl|(simp [aY,aZ] <;> rfl)|(simp [*,aY,aZ] <;> rfl),hb_⟩
  ·rw [if_neg c4] at H
   exact absurd H (by simp)
def eF.f (k : Nat)  : Option (Bool):=(gT.f k (⟨#[97]⟩ : ByteArray)).bind fun Bj=>((dz.f k 2 258).bind fun AZ=>(if AZ.toList = ([1,2] : List UInt8) then (if Bj.1.toList = ([0,1,97] : List UInt8) then (some (Bj.2 == 0)) else (some false)) else (some false)))
theorem eF.mono : ∀ k,LeO (eF.f k ) (eF.f (k + 1) ):=by
 intro  k
 unfold eF.f
 repeat' first
   | (with_reducible exact dz.mono _ _ _)
   | (with_reducible exact gT.mono _ _)
   | (with_reducible exact LeO.refl _)
   | (with_reducible exact LeO.none _)
   | (with_reducible refine LeO.ite ?_ ?_)
   | (with_reducible refine LeO.bind ?_ (fun _=>?_))
   | exact dz.mono _ _ _
   | exact gT.mono _ _
   | exact LeO.none _
   | refine LeO.ite ?_ ?_
   | refine LeO.bind ?_ (fun _=>?_)
set_option maxHeartbeats 8000000 in
set_option maxRecDepth 100000 in
theorem eF.calls (k : Nat)  (r : Bool) (w : World) (h : eF.f k  = some r) :
  Calls Tryz.prog 41 #[] w fun e w'=>e = .returned (.bool r) ∧ Below w.heap.size w w':=by
 have HB:=Aside0.mk (Below.refl w.heap.size w)
 have H : ((gT.f k (⟨#[97]⟩ : ByteArray)).bind fun Bj=>((dz.f k 2 258).bind fun AZ=>(if AZ.toList = ([1,2] : List UInt8) then (if Bj.1.toList = ([0,1,97] : List UInt8) then (some (Bj.2 == 0)) else (some false)) else (some false)))) = some r:=h
 clear h
 replace H:=Option.bind_eq_some_iff.mp H
 obtain ⟨⟨Bg,Bl⟩,Bo,H⟩:=H
 replace H : ((dz.f k 2 258).bind fun AZ=>(if AZ.toList = ([1,2] : List UInt8) then (if Bg.toList = ([0,1,97] : List UInt8) then (some (Bl == 0)) else (some false)) else (some false))) = some r:=H
 have A1:=Aside0.mk Bo
 clear Bo
 replace H:=Option.bind_eq_some_iff.mp H
 obtain ⟨AZ,Bp,H⟩:=H
 replace H : (if AZ.toList = ([1,2] : List UInt8) then (if Bg.toList = ([0,1,97] : List UInt8) then (some (Bl == 0)) else (some false)) else (some false)) = some r:=H
 have A2:=Aside0.mk Bp
 clear Bp
 by_cases c3 : AZ.toList = ([1,2] : List UInt8)
 ·rw [if_pos c3] at H
  have c3b0 : (AZ.toList == ([1,2] : List UInt8)) = true:=beq_iff_eq.mpr c3
  have c3b1 : (AZ.toList != ([1,2] : List UInt8)) = false:=bne_eq_false_iff_eq.mpr c3
  clear c3
  by_cases c4 : Bg.toList = ([0,1,97] : List UInt8)
  ·rw [if_pos c4] at H
   have c4b0 : (Bg.toList == ([0,1,97] : List UInt8)) = true:=beq_iff_eq.mpr c4
   have c4b1 : (Bg.toList != ([0,1,97] : List UInt8)) = false:=bne_eq_false_iff_eq.mpr c4
   clear c4
   obtain rfl:=Option.some.inj H
   go_enter Tryz.func41,Tryz.ntmps41
   go_wp2_with (first|((with_reducible refine bF (f:=47) rfl ?_);refine dN (some 4) rfl rfl Tryz.func47 (by kernel_rfl) rfl #[.string (⟨#[97]⟩ : ByteArray)] rfl (by (try simp only [List.map_toArray,List.map_cons,List.map_nil]);first|done|rfl|(simp only [List.length_drop,List.length_take];rfl)|(simp (disch:=first|omega|(simp at *;omega)) only [dO,dG,eH];rfl)) ?_;(with_reducible refine (gT.calls k (⟨#[97]⟩ : ByteArray) Bg Bl _ A1.out).mono ?_);rintro e w5 ⟨rfl,hb⟩;refine ⟨_,rfl,?_⟩;have Bh:=Aside0.mk (aK hb_ hb);clear HB;have HB:=Bh;clear Bh;(try clear hb);(try clear hb2);(try clear hk);(try clear hi))|((with_reducible refine bF (f:=46) rfl ?_);refine dN (some 7) rfl rfl Tryz.func46 (by kernel_rfl) rfl #[.int .i64 2,.int .u64 258] rfl (by (try simp only [List.map_toArray,List.map_cons,List.map_nil]);first|done|rfl|(simp only [List.length_drop,List.length_take];rfl)|(simp (disch:=first|omega|(simp at *;omega)) only [dO,dG,eH];rfl)) ?_;(with_reducible refine (dz.calls k 2 258 AZ _ A2.out).mono ?_);rintro e w6 ⟨rfl,hb⟩;refine ⟨_,rfl,?_⟩;have Bh:=Aside0.mk (aK hb_ hb);clear HB;have HB:=Bh;clear Bh;(try clear hb);(try clear hb2);(try clear hk);(try clear hi)))
   go_ret
   exact ⟨by first|rfl|(simp [aY,aZ] <;> rfl)|(simp [*,aY,aZ] <;> rfl),hb_⟩
  ·rw [if_neg c4] at H
   have c4b0 : (Bg.toList == ([0,1,97] : List UInt8)) = false:=beq_eq_false_iff_ne.mpr c4
   have c4b1 : (Bg.toList != ([0,1,97] : List UInt8)) = true:=bne_iff_ne.mpr c4
   obtain rfl:=Option.some.inj H
   go_enter Tryz.func41,Tryz.ntmps41
   go_wp2_with (first|((with_reducible refine bF (f:=47) rfl ?_);refine dN (some 4) rfl rfl Tryz.func47 (by kernel_rfl) rfl #[.string (⟨#[97]⟩ : ByteArray)] rfl (by (try simp only [List.map_toArray,List.map_cons,List.map_nil]);first|done|rfl|(simp only [List.length_drop,List.length_take];rfl)|(simp (disch:=first|omega|(simp at *;omega)) only [dO,dG,eH];rfl)) ?_;(with_reducible refine (gT.calls k (⟨#[97]⟩ : ByteArray) Bg Bl _ A1.out).mono ?_);rintro e w7 ⟨rfl,hb⟩;refine ⟨_,rfl,?_⟩;have Bh:=Aside0.mk (aK hb_ hb);clear HB;have HB:=Bh;clear Bh;(try clear hb);(try clear hb2);(try clear hk);(try clear hi))|((with_reducible refine bF (f:=46) rfl ?_);refine dN (some 7) rfl rfl Tryz.func46 (by kernel_rfl) rfl #[.int .i64 2,.int .u64 258] rfl (by (try simp only [List.map_toArray,List.map_cons,List.map_nil]);first|done|rfl|(simp only [List.length_drop,List.length_take];rfl)|(simp (disch:=first|omega|(simp at *;omega)) only [dO,dG,eH];rfl)) ?_;(with_reducible refine (dz.calls k 2 258 AZ _ A2.out).mono ?_);rintro e w8 ⟨rfl,hb⟩;refine ⟨_,rfl,?_⟩;have Bh:=Aside0.mk (aK hb_ hb);clear HB;have HB:=Bh;clear Bh;(try clear hb);(try clear hb2);(try clear hk);(try clear hi)))
   go_ret
   exact ⟨by first|rfl|(simp [aY,aZ] <;> rfl)|(simp [*,aY,aZ] <;> rfl),hb_⟩
 ·rw [if_neg c3] at H
  have c3b0 : (AZ.toList == ([1,2] : List UInt8)) = false:=beq_eq_false_iff_ne.mpr c3
  have c3b1 : (AZ.toList != ([1,2] : List UInt8)) = true:=bne_iff_ne.mpr c3
  obtain rfl:=Option.some.inj H
  go_enter Tryz.func41,Tryz.ntmps41
  go_wp2_with (first|((with_reducible refine bF (f:=47) rfl ?_);refine dN (some 4) rfl rfl Tryz.func47 (by kernel_rfl) rfl #[.string (⟨#[97]⟩ : ByteArray)] rfl (by (try simp only [List.map_toArray,List.map_cons,List.map_nil]);first|done|rfl|(simp only [List.length_drop,List.length_take];rfl)|(simp (disch:=first|omega|(simp at *;omega)) only [dO,dG,eH];rfl)) ?_;(with_reducible refine (gT.calls k (⟨#[97]⟩ : ByteArray) Bg Bl _ A1.out).mono ?_);rintro e w9 ⟨rfl,hb⟩;refine ⟨_,rfl,?_⟩;have Bh:=Aside0.mk (aK hb_ hb);clear HB;have HB:=Bh;clear Bh;(try clear hb);(try clear hb2);(try clear hk);(try clear hi))|((with_reducible refine bF (f:=46) rfl ?_);refine dN (some 7) rfl rfl Tryz.func46 (by kernel_rfl) rfl #[.int .i64 2,.int .u64 258] rfl (by (try simp only [List.map_toArray,List.map_cons,List.map_nil]);first|done|rfl|(simp only [List.length_drop,List.length_take];rfl)|(simp (disch:=first|omega|(simp at *;omega)) only [dO,dG,eH];rfl)) ?_;(with_reducible refine (dz.calls k 2 258 AZ _ A2.out).mono ?_);rintro e Bq ⟨rfl,hb⟩;refine ⟨_,rfl,?_⟩;have Bh:=Aside0.mk (aK hb_ hb);clear HB;have HB:=Bh;clear Bh;(try clear hb);(try clear hb2);(try clear hk);(try clear hi)))
  go_ret
  exact ⟨by first|rfl|(simp [aY,aZ] <;> rfl)|(simp [*,aY,aZ] <;> rfl),hb_⟩
end Go.Proofs.YtpflenjhmeaeoaaGreatDoor.GUt
