/- Written by this session's own program (wip/gen.py) out of the translation: plain Lean functions of the Go functions, and proofs that the calls come to their answers. No conditions beside those in the statements. -/
import Derived.Test.YtpflenjhmeaeoaaGreatDoorCp
import Derived.Test.YtpflenjhmeaeoaaGreatDoorGUtx0
import Derived.Test.YtpflenjhmeaeoaaGreatDoorGUtx8
import Derived.Test.YtpflenjhmeaeoaaGreatDoorGUtx9
import Derived.Test.YtpflenjhmeaeoaaGreatDoorGUtx11
import Derived.Test.YtpflenjhmeaeoaaGreatDoorGUtCheck
import Derived.Test.YtpflenjhmeaeoaaGreatDoorGUtDefault
import Derived.Test.YtpflenjhmeaeoaaGreatDoorGW
namespace Go.Proofs.YtpflenjhmeaeoaaGreatDoor.GUt
open Go.RowKit Go.Proofs.YtpflenjhmeaeoaaGreatDoorW.PrintWords Go.Proofs.YtpflenjhmeaeoaaGreatDoorW.PrintLast Go.Proofs.YtpflenjhmeaeoaaGreatDoorW.PrintMore
attribute [local go_sem] fJ fK gH gI eO eP fM fO
set_option linter.unusedVariables false
set_option linter.unusedSimpArgs false
def dH.f (k : Nat)  : Option (Bool):=(dw.f).bind fun Bz=>((bW.f Bz.1 Bz.2.1 Bz.2.2.1 Bz.2.2.2.1 Bz.2.2.2.2.1 Bz.2.2.2.2.2).bind fun Bh=>((dZ.f k).bind fun Ci=>(if Ci = true then ((cK.f k).bind fun BN=>(if BN = true then ((au.f k Bh.1 Bh.2.1 Bh.2.2.1 Bh.2.2.2.1 Bh.2.2.2.2.1 Bh.2.2.2.2.2).bind fun t232=>(if t232 = 0 then (if Bh.2.1.toList = ([100,101,102,97,117,108,116] : List UInt8) then (if Bh.2.2.2.1 = 30 then (if (Bh.2.2.2.2.2.length : Int) = 1 then (if 0 < (Bh.2.2.2.2.2.length : Int) then (if ((aj Bh.2.2.2.2.2 0).f4) = 100 then (if ((aj Bh.2.2.2.2.2 0).f5) = 64 then ((dw.f).bind fun AZ=>((au.f k AZ.1 AZ.2.1 AZ.2.2.1 AZ.2.2.2.1 AZ.2.2.2.2.1 AZ.2.2.2.2.2).bind fun Bo=>(some (Bo == 13)))) else (some false)) else (some false)) else (none)) else (some false)) else (some false)) else (some false)) else (some false))) else (some false))) else (some false))))
theorem dH.mono : ∀ k,LeO (dH.f k ) (dH.f (k + 1) ):=by
 intro  k
 unfold dH.f
 repeat' first
   | (with_reducible exact dZ.mono _)
   | (with_reducible exact cK.mono _)
   | (with_reducible exact au.mono _ _ _ _ _ _ _)
   | (with_reducible exact LeO.refl _)
   | (with_reducible exact LeO.none _)
   | (with_reducible refine LeO.ite ?_ ?_)
   | (with_reducible refine LeO.bind ?_ (fun _=>?_))
   | exact dZ.mono _
   | exact cK.mono _
   | exact au.mono _ _ _ _ _ _ _
   | exact LeO.none _
   | refine LeO.ite ?_ ?_
   | refine LeO.bind ?_ (fun _=>?_)
set_option maxHeartbeats 8000000 in
set_option maxRecDepth 100000 in
theorem dH.lS (k : Nat)  (r : Bool) (w : World) (h : dH.f k  = some r) (hG : GW.GW w) (hT : r = true) :
  Calls Tryz.prog 24 #[] w fun e w'=>e = .returned (.bool r) ∧ Below w.heap.size w w':=by
 have HTr:=Aside0.mk hT
 clear hT
 have Gc:=Tryz.underlying49
 have HB:=Aside0.mk (Below.refl w.heap.size w)
 have H : ((dw.f).bind fun Bz=>((bW.f Bz.1 Bz.2.1 Bz.2.2.1 Bz.2.2.2.1 Bz.2.2.2.2.1 Bz.2.2.2.2.2).bind fun Bh=>((dZ.f k).bind fun Ci=>(if Ci = true then ((cK.f k).bind fun BN=>(if BN = true then ((au.f k Bh.1 Bh.2.1 Bh.2.2.1 Bh.2.2.2.1 Bh.2.2.2.2.1 Bh.2.2.2.2.2).bind fun t232=>(if t232 = 0 then (if Bh.2.1.toList = ([100,101,102,97,117,108,116] : List UInt8) then (if Bh.2.2.2.1 = 30 then (if (Bh.2.2.2.2.2.length : Int) = 1 then (if 0 < (Bh.2.2.2.2.2.length : Int) then (if ((aj Bh.2.2.2.2.2 0).f4) = 100 then (if ((aj Bh.2.2.2.2.2 0).f5) = 64 then ((dw.f).bind fun AZ=>((au.f k AZ.1 AZ.2.1 AZ.2.2.1 AZ.2.2.2.1 AZ.2.2.2.2.1 AZ.2.2.2.2.2).bind fun Bo=>(some (Bo == 13)))) else (some false)) else (some false)) else (none)) else (some false)) else (some false)) else (some false)) else (some false))) else (some false))) else (some false))))) = some r:=h
 clear h
 replace H:=Option.bind_eq_some_iff.mp H
 obtain ⟨⟨t213,Dz,DC,DF,DI,t218⟩,FZ,H⟩:=H
 replace H : ((bW.f t213 Dz DC DF DI t218).bind fun Bh=>((dZ.f k).bind fun Ci=>(if Ci = true then ((cK.f k).bind fun BN=>(if BN = true then ((au.f k Bh.1 Bh.2.1 Bh.2.2.1 Bh.2.2.2.1 Bh.2.2.2.2.1 Bh.2.2.2.2.2).bind fun t232=>(if t232 = 0 then (if Bh.2.1.toList = ([100,101,102,97,117,108,116] : List UInt8) then (if Bh.2.2.2.1 = 30 then (if (Bh.2.2.2.2.2.length : Int) = 1 then (if 0 < (Bh.2.2.2.2.2.length : Int) then (if ((aj Bh.2.2.2.2.2 0).f4) = 100 then (if ((aj Bh.2.2.2.2.2 0).f5) = 64 then ((dw.f).bind fun AZ=>((au.f k AZ.1 AZ.2.1 AZ.2.2.1 AZ.2.2.2.1 AZ.2.2.2.2.1 AZ.2.2.2.2.2).bind fun Bo=>(some (Bo == 13)))) else (some false)) else (some false)) else (none)) else (some false)) else (some false)) else (some false)) else (some false))) else (some false))) else (some false)))) = some r:=H
 have A1:=Aside0.mk FZ
 clear FZ
 replace H:=Option.bind_eq_some_iff.mp H
 obtain ⟨⟨Bw,t222,BD,Bn,BF,t226⟩,F3,H⟩:=H
 replace H : ((dZ.f k).bind fun Ci=>(if Ci = true then ((cK.f k).bind fun BN=>(if BN = true then ((au.f k Bw t222 BD Bn BF t226).bind fun t232=>(if t232 = 0 then (if t222.toList = ([100,101,102,97,117,108,116] : List UInt8) then (if Bn = 30 then (if (t226.length : Int) = 1 then (if 0 < (t226.length : Int) then (if ((aj t226 0).f4) = 100 then (if ((aj t226 0).f5) = 64 then ((dw.f).bind fun AZ=>((au.f k AZ.1 AZ.2.1 AZ.2.2.1 AZ.2.2.2.1 AZ.2.2.2.2.1 AZ.2.2.2.2.2).bind fun Bo=>(some (Bo == 13)))) else (some false)) else (some false)) else (none)) else (some false)) else (some false)) else (some false)) else (some false))) else (some false))) else (some false))) = some r:=H
 have A2:=Aside0.mk F3
 clear F3
 replace H:=Option.bind_eq_some_iff.mp H
 obtain ⟨Ci,F4,H⟩:=H
 replace H : (if Ci = true then ((cK.f k).bind fun BN=>(if BN = true then ((au.f k Bw t222 BD Bn BF t226).bind fun t232=>(if t232 = 0 then (if t222.toList = ([100,101,102,97,117,108,116] : List UInt8) then (if Bn = 30 then (if (t226.length : Int) = 1 then (if 0 < (t226.length : Int) then (if ((aj t226 0).f4) = 100 then (if ((aj t226 0).f5) = 64 then ((dw.f).bind fun AZ=>((au.f k AZ.1 AZ.2.1 AZ.2.2.1 AZ.2.2.2.1 AZ.2.2.2.2.1 AZ.2.2.2.2.2).bind fun Bo=>(some (Bo == 13)))) else (some false)) else (some false)) else (none)) else (some false)) else (some false)) else (some false)) else (some false))) else (some false))) else (some false)) = some r:=H
 have A3:=Aside0.mk F4
 clear F4
 by_cases c4 : Ci = true
 ·subst c4
  have H1 : ((cK.f k).bind fun BN=>(if BN = true then ((au.f k Bw t222 BD Bn BF t226).bind fun t232=>(if t232 = 0 then (if t222.toList = ([100,101,102,97,117,108,116] : List UInt8) then (if Bn = 30 then (if (t226.length : Int) = 1 then (if 0 < (t226.length : Int) then (if ((aj t226 0).f4) = 100 then (if ((aj t226 0).f5) = 64 then ((dw.f).bind fun AZ=>((au.f k AZ.1 AZ.2.1 AZ.2.2.1 AZ.2.2.2.1 AZ.2.2.2.2.1 AZ.2.2.2.2.2).bind fun Bo=>(some (Bo == 13)))) else (some false)) else (some false)) else (none)) else (some false)) else (some false)) else (some false)) else (some false))) else (some false))) = some r:=by rw [if_pos rfl] at H;exact H
  clear H
  have H:=H1
  clear H1
  replace H:=Option.bind_eq_some_iff.mp H
  obtain ⟨BN,F5,H⟩:=H
  replace H : (if BN = true then ((au.f k Bw t222 BD Bn BF t226).bind fun t232=>(if t232 = 0 then (if t222.toList = ([100,101,102,97,117,108,116] : List UInt8) then (if Bn = 30 then (if (t226.length : Int) = 1 then (if 0 < (t226.length : Int) then (if ((aj t226 0).f4) = 100 then (if ((aj t226 0).f5) = 64 then ((dw.f).bind fun AZ=>((au.f k AZ.1 AZ.2.1 AZ.2.2.1 AZ.2.2.2.1 AZ.2.2.2.2.1 AZ.2.2.2.2.2).bind fun Bo=>(some (Bo == 13)))) else (some false)) else (some false)) else (none)) else (some false)) else (some false)) else (some false)) else (some false))) else (some false)) = some r:=H
  have A5:=Aside0.mk F5
  clear F5
  by_cases c6 : BN = true
  ·subst c6
   have H1 : ((au.f k Bw t222 BD Bn BF t226).bind fun t232=>(if t232 = 0 then (if t222.toList = ([100,101,102,97,117,108,116] : List UInt8) then (if Bn = 30 then (if (t226.length : Int) = 1 then (if 0 < (t226.length : Int) then (if ((aj t226 0).f4) = 100 then (if ((aj t226 0).f5) = 64 then ((dw.f).bind fun AZ=>((au.f k AZ.1 AZ.2.1 AZ.2.2.1 AZ.2.2.2.1 AZ.2.2.2.2.1 AZ.2.2.2.2.2).bind fun Bo=>(some (Bo == 13)))) else (some false)) else (some false)) else (none)) else (some false)) else (some false)) else (some false)) else (some false))) = some r:=by rw [if_pos rfl] at H;exact H
   clear H
   have H:=H1
   clear H1
   replace H:=Option.bind_eq_some_iff.mp H
   obtain ⟨t232,F6,H⟩:=H
   replace H : (if t232 = 0 then (if t222.toList = ([100,101,102,97,117,108,116] : List UInt8) then (if Bn = 30 then (if (t226.length : Int) = 1 then (if 0 < (t226.length : Int) then (if ((aj t226 0).f4) = 100 then (if ((aj t226 0).f5) = 64 then ((dw.f).bind fun AZ=>((au.f k AZ.1 AZ.2.1 AZ.2.2.1 AZ.2.2.2.1 AZ.2.2.2.2.1 AZ.2.2.2.2.2).bind fun Bo=>(some (Bo == 13)))) else (some false)) else (some false)) else (none)) else (some false)) else (some false)) else (some false)) else (some false)) = some r:=H
   have A7:=Aside0.mk F6
   clear F6
   by_cases c8 : t232 = 0
   ·rw [if_pos c8] at H
    have c8b0 : (t232 == 0) = true:=beq_iff_eq.mpr c8
    have c8b1 : (t232 != 0) = false:=bne_eq_false_iff_eq.mpr c8
    clear c8
    by_cases c9 : t222.toList = ([100,101,102,97,117,108,116] : List UInt8)
    ·rw [if_pos c9] at H
     have c9b0 : (t222.toList == ([100,101,102,97,117,108,116] : List UInt8)) = true:=beq_iff_eq.mpr c9
     have c9b1 : (t222.toList != ([100,101,102,97,117,108,116] : List UInt8)) = false:=bne_eq_false_iff_eq.mpr c9
     clear c9
     by_cases c10 : Bn = 30
     ·rw [if_pos c10] at H
      have c10b0 : (Bn == 30) = true:=beq_iff_eq.mpr c10
      have c10b1 : (Bn != 30) = false:=bne_eq_false_iff_eq.mpr c10
      clear c10
      by_cases c11 : (t226.length : Int) = 1
      ·rw [if_pos c11] at H
       have c11b0 : ((t226.length : Int) == 1) = true:=beq_iff_eq.mpr c11
       have c11b1 : ((t226.length : Int) != 1) = false:=bne_eq_false_iff_eq.mpr c11
       clear c11
       by_cases c12 : 0 < (t226.length : Int)
       ·rw [if_pos c12] at H
        have c12b0 : decide (0 < (t226.length : Int)) = true:=decide_eq_true c12
        have c12b1 : decide (0 < t226.length) = true:=decide_eq_true (by omega)
        clear c12
        by_cases c13 : ((aj t226 0).f4) = 100
        ·rw [if_pos c13] at H
         have c13b0 : (((aj t226 0).f4) == 100) = true:=beq_iff_eq.mpr c13
         have c13b1 : (((aj t226 0).f4) != 100) = false:=bne_eq_false_iff_eq.mpr c13
         clear c13
         by_cases c14 : ((aj t226 0).f5) = 64
         ·rw [if_pos c14] at H
          have c14b0 : (((aj t226 0).f5) == 64) = true:=beq_iff_eq.mpr c14
          have c14b1 : (((aj t226 0).f5) != 64) = false:=bne_eq_false_iff_eq.mpr c14
          clear c14
          replace H:=Option.bind_eq_some_iff.mp H
          obtain ⟨⟨DU,t236,DV,DW,DX,DY⟩,Eb,H⟩:=H
          replace H : ((au.f k DU t236 DV DW DX DY).bind fun Bo=>(some (Bo == 13))) = some r:=H
          have Gd:=Aside0.mk Eb
          clear Eb
          replace H:=Option.bind_eq_some_iff.mp H
          obtain ⟨Bo,Ec,H⟩:=H
          replace H : (some (Bo == 13)) = some r:=H
          have Gf:=Aside0.mk Ec
          clear Ec
          obtain rfl:=Option.some.inj H
          go_enter Tryz.func24,Tryz.ntmps24
          go_wp2_with (first|((with_reducible refine bF (f:=16) rfl ?_);refine dN (some 2) rfl rfl Tryz.func16 (by kernel_rfl) rfl #[] rfl (by (try simp only [List.map_toArray,List.map_cons,List.map_nil]);first|done|rfl|(simp only [List.length_drop,List.length_take];rfl)|(simp (disch:=first|omega|(simp at *;omega)) only [dO,dG,eH];rfl)) ?_;(with_reducible refine (dw.calls  t213 Dz DC DF DI t218 _ A1.out).mono ?_);rintro e Gl ⟨Gg,rfl,ho0,hb⟩;refine ⟨_,rfl,?_⟩;have Cg:=Aside0.mk (Kd.qx ho0 (aM hb_));have Ch:=Aside0.mk (aK hb_ hb);clear HB;have Bl:=Cg;have HB:=Ch;clear Cg Ch;(try clear hb);(try clear hb2);(try clear hk);(try clear hi);(try clear ho0);obtain ⟨Ed,Ee,FH⟩:=Kd.qy Bl.out;subst FH)|((with_reducible refine bF (f:=36) rfl ?_);refine dN (some 3) rfl rfl Tryz.func36 (by kernel_rfl) rfl #[.agg #[.string t213,.string Dz,.int .i64 DC,.int .i64 DF,.bool DI,.slice Ed t218.length Ee]] rfl (by (try simp only [List.map_toArray,List.map_cons,List.map_nil]);first|done|rfl|(simp only [List.length_drop,List.length_take];rfl)|(simp (disch:=first|omega|(simp at *;omega)) only [dO,dG,eH];rfl)) ?_;(with_reducible refine (bW.calls t213 Dz DC DF DI _ _ t218 Bw t222 BD Bn BF t226 _ ?CY ?CZ A2.out).mono ?_);(case CY=>repeat (first|exact (Kd.l9 Bl.out).2.2|(with_reducible refine Kd.bD ?_ _)|(with_reducible refine Kd.bR ?_ _)|(with_reducible refine Kd.bZ ?_)));(case CZ=>exact (Kd.l9 Bl.out).2.1);rintro e Gm ⟨v227,rfl,ho0,hb⟩;refine ⟨_,rfl,?_⟩;have Cg:=Aside0.mk (Kd.jA (by (with_reducible repeat (first|apply Kd.ji|apply Kd.jk|apply Kd.jQ));exact Bl.out) hb);have Ch:=Aside0.mk (Kd.qE (Kd.eG (ok':=fun k_=>some k_ ≠ (.slice Ed t218.length Ee : Value).ownBlock) ho0 (fun k_ hk_=>(Kd.fresh' (Kd.zT (by (with_reducible repeat (first|apply Kd.ji|apply Kd.jk|apply Kd.jQ));exact Bl.out)) k_ hk_))) (aM hb_));have Cj:=Aside0.mk (aK hb_ hb);clear Bl;clear HB;have Bl:=Cg;have Bj:=Ch;have HB:=Cj;clear Cg Ch Cj;(try clear hb);(try clear hb2);(try clear hk);(try clear hi);(try clear ho0))|((with_reducible refine cZ (N:=1) rfl ?_);(try (refine iw (by rfl) ?_;dsimp only));refine dA ?hg (N:=1) ?hd (cs:=#[.string (⟨#[]⟩ : ByteArray),.string (⟨#[]⟩ : ByteArray),.int .i64 0,.int .i64 0,.bool false,.slice none 0 0]) (t:=49) ?hr ?_;(case hd=>rfl);(case hg=>rfl);(case hr=>first|(go_simp;done)|(go_simp;rfl));intro Bg hg D8 hbox hb;have Cg:=Aside0.mk (Kd.jA (by (with_reducible repeat (first|apply Kd.ji|apply Kd.jk|apply Kd.jQ));exact Bl.out) hb);have Ch:=Aside0.mk (Kd.eB (Kd.kN (kv_ Bj.out) Bg (Nat.le_of_eq hg.symm)) hb);have Cj:=Aside0.mk (aK hb_ hb);have C8:=Aside0.mk (hbox);have DR:=Aside0.mk ((by rw [hg];exact (aM hb_) : w.heap.size ≤ Bg));have DT:=Aside0.mk ((by rw [hg];exact (aM hb_) : w.heap.size ≤ Bg));clear Bl;clear Bj;clear HB;have Bl:=Cg;have Bj:=Ch;have HB:=Cj;have Bf:=C8;have F7:=DR;have Ef:=DT;clear Cg Ch Cj C8 DR DT;clear hb hbox hg;have En : D8.cell? ⟨Bg,0,none⟩ = some (.string (⟨#[]⟩ : ByteArray)):=(ah Bf.out 0).trans rfl;have Eo : D8.cell? ⟨Bg,1,none⟩ = some (.string (⟨#[]⟩ : ByteArray)):=(ah Bf.out 1).trans rfl;have Ep : D8.cell? ⟨Bg,2,none⟩ = some (.int .i64 0):=(ah Bf.out 2).trans rfl;have Er : D8.cell? ⟨Bg,3,none⟩ = some (.int .i64 0):=(ah Bf.out 3).trans rfl;have Es : D8.cell? ⟨Bg,4,none⟩ = some (.bool false):=(ah Bf.out 4).trans rfl;have Et : D8.cell? ⟨Bg,5,none⟩ = some (.slice none 0 0):=(ah Bf.out 5).trans rfl;have Eu:=ak Bf.out 0;have Ew:=ak Bf.out 1;have Ey:=ak Bf.out 2;have Ez:=ak Bf.out 3;have EA:=ak Bf.out 4;have EB:=ak Bf.out 5;obtain ⟨C9,Cm,FI⟩:=Kd.gG Bj.out;subst FI)|((with_reducible refine bF (f:=37) rfl ?_);refine dN (some 4) rfl rfl Tryz.func37 (by kernel_rfl) rfl #[] rfl (by (try simp only [List.map_toArray,List.map_cons,List.map_nil]);first|done|rfl|(simp only [List.length_drop,List.length_take];rfl)|(simp (disch:=first|omega|(simp at *;omega)) only [dO,dG,eH];rfl)) ?_;(with_reducible refine (dZ.calls k  true _ A3.out (by first|assumption|exact GW.below hG (by first|exact HB.out|assumption|(repeat (first|(with_reducible first|exact HB.out|apply bV|apply aW|apply bB|refine gQ ?_ Ef.out)|exact HB.out)))|exact GW.drawn hG (by first|assumption|(repeat (first|exact Drawn0.refl _|assumption|apply Drawn0.step))))).mono ?_);rintro e Gn ⟨rfl,hb⟩;refine ⟨_,rfl,?_⟩;have Cg:=Aside0.mk (Kd.jA (by (with_reducible repeat (first|apply Kd.ji|apply Kd.jk|apply Kd.jQ));exact (Kd.r9 (Kd.kH (p:=⟨Bg,5,none⟩) (Kd.kH (p:=⟨Bg,4,none⟩) (Kd.kH (p:=⟨Bg,3,none⟩) (Kd.kH (p:=⟨Bg,2,none⟩) (Kd.kH (p:=⟨Bg,1,none⟩) (Kd.kH (p:=⟨Bg,0,none⟩) (Kd.tC Bl.out Bf.out (by decide)) (fun _ hk=>hk.2) (.string Bw)) (fun _ hk=>hk.2) (.string t222)) (fun _ hk=>hk.2) (.int .i64 BD)) (fun _ hk=>hk.2) (.int .i64 Bn)) (fun _ hk=>hk.2) (.bool BF)) (fun _ hk=>hk.2) (.slice C9 t226.length Cm)) (fun _ h_=>h_.1))) hb);have Ch:=Aside0.mk (Kd.eB (by (with_reducible repeat (first|apply Kd.bX|apply Kd.bY|apply Kd.bH));exact (Kd.eG (Kd.pR (p:=⟨Bg,5,none⟩) (Kd.pR (p:=⟨Bg,4,none⟩) (Kd.pR (p:=⟨Bg,3,none⟩) (Kd.pR (p:=⟨Bg,2,none⟩) (Kd.pR (p:=⟨Bg,1,none⟩) (Kd.pR (p:=⟨Bg,0,none⟩) (Kd.eG Bj.out (fun k_ hk=>(⟨hk,hk.2⟩ : _ ∧ k_ ≠ Bg))) (fun _ hk=>hk.2) (.string Bw)) (fun _ hk=>hk.2) (.string t222)) (fun _ hk=>hk.2) (.int .i64 BD)) (fun _ hk=>hk.2) (.int .i64 Bn)) (fun _ hk=>hk.2) (.bool BF)) (fun _ hk=>hk.2) (.slice C9 t226.length Cm)) (fun _ h_=>h_.1))) hb);have Cj:=Aside0.mk (aN (g:=Bg) (o:=.cells #[.string Bw,.string t222,.int .i64 BD,.int .i64 Bn,.bool BF,.slice C9 t226.length Cm] 49 (0,0)) (by (with_reducible repeat (first|apply ay|apply aG|apply aD));refine bN (cs:=#[.string Bw,.string t222,.int .i64 BD,.int .i64 Bn,.bool BF,.slice none 0 0]) ?_ 5 _ rfl;(with_reducible repeat (first|apply ay|apply aG|apply aD));refine bN (cs:=#[.string Bw,.string t222,.int .i64 BD,.int .i64 Bn,.bool false,.slice none 0 0]) ?_ 4 _ rfl;(with_reducible repeat (first|apply ay|apply aG|apply aD));refine bN (cs:=#[.string Bw,.string t222,.int .i64 BD,.int .i64 0,.bool false,.slice none 0 0]) ?_ 3 _ rfl;(with_reducible repeat (first|apply ay|apply aG|apply aD));refine bN (cs:=#[.string Bw,.string t222,.int .i64 0,.int .i64 0,.bool false,.slice none 0 0]) ?_ 2 _ rfl;(with_reducible repeat (first|apply ay|apply aG|apply aD));refine bN (cs:=#[.string Bw,.string (⟨#[]⟩ : ByteArray),.int .i64 0,.int .i64 0,.bool false,.slice none 0 0]) ?_ 1 _ rfl;(with_reducible repeat (first|apply ay|apply aG|apply aD));refine bN (cs:=#[.string (⟨#[]⟩ : ByteArray),.string (⟨#[]⟩ : ByteArray),.int .i64 0,.int .i64 0,.bool false,.slice none 0 0]) ?_ 0 _ rfl;(with_reducible repeat (first|apply ay|apply aG|apply aD));exact Bf.out) hb);have C8:=Aside0.mk (aK hb_ hb);clear Bl;clear Bj;clear Bf;clear HB;have Bl:=Cg;have Bj:=Ch;have Bf:=Cj;have HB:=C8;clear Cg Ch Cj C8;(try clear hb);(try clear hb2);(try clear hk);(try clear hi))|(go_at_call 38;(with_reducible refine (cK.calls k  true _ A5.out).mono ?_);rintro e D9 ⟨rfl,hb⟩;have Cg:=Aside0.mk (Kd.jA (by (with_reducible repeat (first|apply Kd.ji|apply Kd.jk|apply Kd.jQ));exact Bl.out) hb);have Ch:=Aside0.mk (Kd.eB (kv_ Bj.out) hb);have Cj:=Aside0.mk (aN (g:=Bg) (o:=.cells #[.string Bw,.string t222,.int .i64 BD,.int .i64 Bn,.bool BF,.slice C9 t226.length Cm] 49 (0,0)) (bk_ Bf.out) hb);have C8:=Aside0.mk (aK hb_ hb);clear Bl;clear Bj;clear Bf;clear HB;have Bl:=Cg;have Bj:=Ch;have Bf:=Cj;have HB:=C8;clear Cg Ch Cj C8;(try clear hb);(try clear hb2);(try clear hk);(try clear hi);have EC : D9.cell? ⟨Bg,0,none⟩ = some (.string Bw):=(ah Bf.out 0).trans rfl;have ED : D9.cell? ⟨Bg,1,none⟩ = some (.string t222):=(ah Bf.out 1).trans rfl;have EF : D9.cell? ⟨Bg,2,none⟩ = some (.int .i64 BD):=(ah Bf.out 2).trans rfl;have EG : D9.cell? ⟨Bg,3,none⟩ = some (.int .i64 Bn):=(ah Bf.out 3).trans rfl;have EH : D9.cell? ⟨Bg,4,none⟩ = some (.bool BF):=(ah Bf.out 4).trans rfl;have EI : D9.cell? ⟨Bg,5,none⟩ = some (.slice C9 t226.length Cm):=(ah Bf.out 5).trans rfl;have EJ:=ak Bf.out 0;have EK:=ak Bf.out 1;have EL:=ak Bf.out 2;have EM:=ak Bf.out 3;have EN:=ak Bf.out 4;have EO:=ak Bf.out 5)|(go_at_call 39;(with_reducible refine (au.calls k Bw t222 BD Bn BF _ _ t226 t232 _ ?CY ?CZ A7.out).mono ?_);(case CY=>repeat (first|exact (Kd.dJ Bj.out).2.2|(with_reducible refine Kd.bD ?_ _)|(with_reducible refine Kd.bR ?_ _)|(with_reducible refine Kd.bZ ?_)));(case CZ=>exact (Kd.dJ Bj.out).2.1);rintro e Ea ⟨rfl,hb⟩;have Cg:=Aside0.mk (Kd.jA (by (with_reducible repeat (first|apply Kd.ji|apply Kd.jk|apply Kd.jQ));exact Bl.out) hb);have Ch:=Aside0.mk (Kd.eB (kv_ Bj.out) hb);have Cj:=Aside0.mk (aN (g:=Bg) (o:=.cells #[.string Bw,.string t222,.int .i64 BD,.int .i64 Bn,.bool BF,.slice C9 t226.length Cm] 49 (0,0)) (bk_ Bf.out) hb);have C8:=Aside0.mk (aK hb_ hb);clear Bl;clear Bj;clear Bf;clear HB;have Bl:=Cg;have Bj:=Ch;have Bf:=Cj;have HB:=C8;clear Cg Ch Cj C8;(try clear hb);(try clear hb2);(try clear hk);(try clear hi);have EP : Ea.cell? ⟨Bg,0,none⟩ = some (.string Bw):=(ah Bf.out 0).trans rfl;have ER : Ea.cell? ⟨Bg,1,none⟩ = some (.string t222):=(ah Bf.out 1).trans rfl;have ES : Ea.cell? ⟨Bg,2,none⟩ = some (.int .i64 BD):=(ah Bf.out 2).trans rfl;have ET : Ea.cell? ⟨Bg,3,none⟩ = some (.int .i64 Bn):=(ah Bf.out 3).trans rfl;have EU : Ea.cell? ⟨Bg,4,none⟩ = some (.bool BF):=(ah Bf.out 4).trans rfl;have EW : Ea.cell? ⟨Bg,5,none⟩ = some (.slice C9 t226.length Cm):=(ah Bf.out 5).trans rfl;have EX:=ak Bf.out 0;have EY:=ak Bf.out 1;have EZ:=ak Bf.out 2;have E5:=ak Bf.out 3;have E8:=ak Bf.out 4;have E9:=ak Bf.out 5;have DJ : 0 ≤ (0 : Int):=(by omega);have DK : 0 < (t226.length : Int):=of_decide_eq_true (by first|(with_reducible assumption)|assumption);obtain ⟨Dq,FJ,FL,FM,FN,FP,FQ,e233,Cn,Co,BO,BP,Cq,Cr,BQ,Da,Db,Dc,Df,Dh,Di⟩:=lM (Kd.dJ Bj.out).2.2 0 DJ DK;cases e233;obtain ⟨F8,DZ,D5,Ct⟩:=Kd.jK Bj.out z69 0 DJ (by first|exact DK|exact of_decide_eq_true (by first|(with_reducible assumption)|assumption)|(have e_:=(Kd.dJ Bj.out).1;omega));obtain ⟨Fa,Fb,Fe,Fg,Fh,Fj,rfl,Cu,Cv,Cw,Cz,CB,CF⟩:=kY D5;have BX:=Ct 2 _ rfl;rw [bT _ _ 2 (by omega)] at BX;replace BX:=Option.some.inj (BX.symm.trans BO);injection BX with hva_ hvn_ hvc_;rw [hva_] at Cv;rw [hvc_] at Cu;have BG:=Aside0.mk (show Kd.V Kd.string 9 _ w.heap.size _ _ ((aj t226 0).f2) from Kd.iV Cu Cv);clear hva_ hvn_ hvc_ Cv Cu;have BZ:=Ct 3 _ rfl;rw [bT _ _ 3 (by omega)] at BZ;replace BZ:=Option.some.inj (BZ.symm.trans BP);injection BZ with hva_ hvn_ hvc_;rw [hva_] at Cz;rw [hvc_] at Cw;have BH:=Aside0.mk (show Kd.V k88 88 _ w.heap.size _ _ ((aj t226 0).f3) from Kd.iV Cw Cz);clear hva_ hvn_ hvc_ Cz Cw;have Ca:=Ct 6 _ rfl;rw [bT _ _ 6 (by omega)] at Ca;replace Ca:=Option.some.inj (Ca.symm.trans BQ);injection Ca with hva_ hvn_ hvc_;rw [hva_] at CF;rw [hvc_] at CB;have BI:=Aside0.mk (show Kd.V k71 71 _ w.heap.size _ _ ((aj t226 0).f6) from Kd.iV CB CF);clear hva_ hvn_ hvc_ CF CB;clear Ct DZ;have F9 : (0 < t226.length) = True:=eq_true (by omega);(try rw [show ((0 : Int)).toNat = 0 from rfl] at Cn);(try rw [show 0 * 7 = 0 from rfl] at Cn);(try rw [Addr.add_zero'] at Cn);(try rw [show ((0 : Int)).toNat = 0 from rfl] at Co);(try rw [show 0 * 7 = 0 from rfl] at Co);(try rw [Addr.add_zero'] at Co);(try rw [show ((0 : Int)).toNat = 0 from rfl] at BO);(try rw [show 0 * 7 = 0 from rfl] at BO);(try rw [Addr.add_zero'] at BO);(try rw [show ((0 : Int)).toNat = 0 from rfl] at BP);(try rw [show 0 * 7 = 0 from rfl] at BP);(try rw [Addr.add_zero'] at BP);(try rw [show ((0 : Int)).toNat = 0 from rfl] at Cq);(try rw [show 0 * 7 = 0 from rfl] at Cq);(try rw [Addr.add_zero'] at Cq);(try rw [show ((0 : Int)).toNat = 0 from rfl] at Cr);(try rw [show 0 * 7 = 0 from rfl] at Cr);(try rw [Addr.add_zero'] at Cr);(try rw [show ((0 : Int)).toNat = 0 from rfl] at BQ);(try rw [show 0 * 7 = 0 from rfl] at BQ);(try rw [Addr.add_zero'] at BQ);have Bp:=Aside0.mk Db;have Fp:=Aside0.mk Da;clear Db Da;have Bq:=Aside0.mk Df;have Fq:=Aside0.mk Dc;clear Df Dc;have Br:=Aside0.mk Di;have Fu:=Aside0.mk Dh;clear Di Dh;replace DJ:=eq_true DJ;replace DK:=eq_true DK;have DL : 0 ≤ (0 : Int):=(by omega);have DN : 0 < (t226.length : Int):=of_decide_eq_true (by first|(with_reducible assumption)|assumption);obtain ⟨Eh,FR,FT,FU,FV,FW,FX,e234,CG,CJ,BR,BS,CK,CO,BU,Dj,Dk,Dl,Dm,Dn,Dp⟩:=lM (Kd.dJ Bj.out).2.2 0 DL DN;obtain rfl : Dq = Eh:=(by injection e234);obtain ⟨Ga,D6,D7,CP⟩:=Kd.jK Bj.out z69 0 DL (by first|exact DN|exact of_decide_eq_true (by first|(with_reducible assumption)|assumption)|(have e_:=(Kd.dJ Bj.out).1;omega));obtain ⟨Fv,Fw,Fx,Fy,Fz,FB,rfl,CQ,CS,CU,CV,CW,CX⟩:=kY D7;have Cb:=CP 2 _ rfl;rw [bT _ _ 2 (by omega)] at Cb;replace Cb:=Option.some.inj (Cb.symm.trans BR);injection Cb with hva_ hvn_ hvc_;rw [hva_] at CS;rw [hvc_] at CQ;have BJ:=Aside0.mk (show Kd.V Kd.string 9 _ w.heap.size _ _ ((aj t226 0).f2) from Kd.iV CQ CS);clear hva_ hvn_ hvc_ CS CQ;have Cc:=CP 3 _ rfl;rw [bT _ _ 3 (by omega)] at Cc;replace Cc:=Option.some.inj (Cc.symm.trans BS);injection Cc with hva_ hvn_ hvc_;rw [hva_] at CV;rw [hvc_] at CU;have BK:=Aside0.mk (show Kd.V k88 88 _ w.heap.size _ _ ((aj t226 0).f3) from Kd.iV CU CV);clear hva_ hvn_ hvc_ CV CU;have Ce:=CP 6 _ rfl;rw [bT _ _ 6 (by omega)] at Ce;replace Ce:=Option.some.inj (Ce.symm.trans BU);injection Ce with hva_ hvn_ hvc_;rw [hva_] at CX;rw [hvc_] at CW;have BL:=Aside0.mk (show Kd.V k71 71 _ w.heap.size _ _ ((aj t226 0).f6) from Kd.iV CW CX);clear hva_ hvn_ hvc_ CX CW;clear CP D6;have Gb : (0 < t226.length) = True:=eq_true (by omega);(try rw [show ((0 : Int)).toNat = 0 from rfl] at CG);(try rw [show 0 * 7 = 0 from rfl] at CG);(try rw [Addr.add_zero'] at CG);(try rw [show ((0 : Int)).toNat = 0 from rfl] at CJ);(try rw [show 0 * 7 = 0 from rfl] at CJ);(try rw [Addr.add_zero'] at CJ);(try rw [show ((0 : Int)).toNat = 0 from rfl] at BR);(try rw [show 0 * 7 = 0 from rfl] at BR);(try rw [Addr.add_zero'] at BR);(try rw [show ((0 : Int)).toNat = 0 from rfl] at BS);(try rw [show 0 * 7 = 0 from rfl] at BS);(try rw [Addr.add_zero'] at BS);(try rw [show ((0 : Int)).toNat = 0 from rfl] at CK);(try rw [show 0 * 7 = 0 from rfl] at CK);(try rw [Addr.add_zero'] at CK);(try rw [show ((0 : Int)).toNat = 0 from rfl] at CO);(try rw [show 0 * 7 = 0 from rfl] at CO);(try rw [Addr.add_zero'] at CO);(try rw [show ((0 : Int)).toNat = 0 from rfl] at BU);(try rw [show 0 * 7 = 0 from rfl] at BU);(try rw [Addr.add_zero'] at BU);have Bt:=Aside0.mk Dk;have FC:=Aside0.mk Dj;clear Dk Dj;have Bu:=Aside0.mk Dm;have FD:=Aside0.mk Dl;clear Dm Dl;have Bv:=Aside0.mk Dp;have FE:=Aside0.mk Dn;clear Dp Dn;replace DL:=eq_true DL;replace DN:=eq_true DN;have ea_:=Option.some.inj (BO.symm.trans BR);injection ea_ with ea_ en_ ec_;subst ea_;subst ec_;clear en_;have ea_:=Option.some.inj (BP.symm.trans BS);injection ea_ with ea_ en_ ec_;subst ea_;subst ec_;clear en_;have ea_:=Option.some.inj (BQ.symm.trans BU);injection ea_ with ea_ en_ ec_;subst ea_;subst ec_;clear en_)|(go_at_call 16;(with_reducible refine (dw.calls  DU t236 DV DW DX DY _ Gd.out).mono ?_);rintro e Gp ⟨Gh,rfl,ho0,hb⟩;have Cg:=Aside0.mk (Kd.vw (by (with_reducible repeat (first|apply Kd.ji|apply Kd.jk|apply Kd.jQ));exact Bl.out) (Kd.kL ho0) hb);have Ch:=Aside0.mk (Kd.jl (kv_ Bj.out) (Kd.kL ho0) hb);have Cj:=Aside0.mk (Kd.jl (kv_ BG.out) (Kd.kL ho0) hb);have C8:=Aside0.mk (Kd.jl (kv_ BH.out) (Kd.kL ho0) hb);have DR:=Aside0.mk (Kd.jl (kv_ BI.out) (Kd.kL ho0) hb);have DT:=Aside0.mk (Kd.jl (kv_ BJ.out) (Kd.kL ho0) hb);have Ei:=Aside0.mk (Kd.jl (kv_ BK.out) (Kd.kL ho0) hb);have Ej:=Aside0.mk (Kd.jl (kv_ BL.out) (Kd.kL ho0) hb);have El:=Aside0.mk (Kd.qx (Kd.yR ho0 (Kd.zT (by (with_reducible repeat (first|apply Kd.ji|apply Kd.jk|apply Kd.jQ));exact Bl.out))) (aM hb_));have Em:=Aside0.mk (aN (g:=Bg) (o:=.cells #[.string Bw,.string t222,.int .i64 BD,.int .i64 Bn,.bool BF,.slice (some Dq) t226.length Cm] 49 (0,0)) (bk_ Bf.out) hb);have Dr:=Aside0.mk (Kd.bO (by repeat (first|(with_reducible exact Bp.out)|(with_reducible refine Kd.bD ?_ _)|(with_reducible refine Kd.bR ?_ _)|(with_reducible refine Kd.bZ ?_)|exact Bp.out)) hb);have Dt:=Aside0.mk (Kd.bO (by repeat (first|(with_reducible exact Bq.out)|(with_reducible refine Kd.bD ?_ _)|(with_reducible refine Kd.bR ?_ _)|(with_reducible refine Kd.bZ ?_)|exact Bq.out)) hb);have Du:=Aside0.mk (Kd.bO (by repeat (first|(with_reducible exact Br.out)|(with_reducible refine Kd.bD ?_ _)|(with_reducible refine Kd.bR ?_ _)|(with_reducible refine Kd.bZ ?_)|exact Br.out)) hb);have Dv:=Aside0.mk (Kd.bO (by repeat (first|(with_reducible exact Bt.out)|(with_reducible refine Kd.bD ?_ _)|(with_reducible refine Kd.bR ?_ _)|(with_reducible refine Kd.bZ ?_)|exact Bt.out)) hb);have Dw:=Aside0.mk (Kd.bO (by repeat (first|(with_reducible exact Bu.out)|(with_reducible refine Kd.bD ?_ _)|(with_reducible refine Kd.bR ?_ _)|(with_reducible refine Kd.bZ ?_)|exact Bu.out)) hb);have Dx:=Aside0.mk (Kd.bO (by repeat (first|(with_reducible exact Bv.out)|(with_reducible refine Kd.bD ?_ _)|(with_reducible refine Kd.bR ?_ _)|(with_reducible refine Kd.bZ ?_)|exact Bv.out)) hb);have Dy:=Aside0.mk (aK hb_ hb);clear Bl;clear Bj;clear BG;clear BH;clear BI;clear BJ;clear BK;clear BL;clear Bf;clear Bp;clear Bq;clear Br;clear Bt;clear Bu;clear Bv;clear HB;have Bl:=Cg;have Bj:=Ch;have BG:=Cj;have BH:=C8;have BI:=DR;have BJ:=DT;have BK:=Ei;have BL:=Ej;have Ck:=El;have Bf:=Em;have Bp:=Dr;have Bq:=Dt;have Br:=Du;have Bt:=Dv;have Bu:=Dw;have Bv:=Dx;have HB:=Dy;clear Cg Ch Cj C8 DR DT Ei Ej El Em Dr Dt Du Dv Dw Dx Dy;(try clear hb);(try clear hb2);(try clear hk);(try clear hi);(try clear ho0);obtain ⟨Gi,Gj,FY⟩:=Kd.qy Ck.out;subst FY)|(go_at_call 39;(with_reducible refine (au.calls k DU t236 DV DW DX _ _ DY Bo _ ?CY ?CZ Gf.out).mono ?_);(case CY=>repeat (first|exact (Kd.l9 Ck.out).2.2|(with_reducible refine Kd.bD ?_ _)|(with_reducible refine Kd.bR ?_ _)|(with_reducible refine Kd.bZ ?_)));(case CZ=>exact (Kd.l9 Ck.out).2.1);rintro e Gq ⟨rfl,hb⟩;have Cg:=Aside0.mk (Kd.jA (by (with_reducible repeat (first|apply Kd.ji|apply Kd.jk|apply Kd.jQ));exact Bl.out) hb);have Ch:=Aside0.mk (Kd.eB (kv_ Bj.out) hb);have Cj:=Aside0.mk (Kd.eB (kv_ BG.out) hb);have C8:=Aside0.mk (Kd.eB (kv_ BH.out) hb);have DR:=Aside0.mk (Kd.eB (kv_ BI.out) hb);have DT:=Aside0.mk (Kd.eB (kv_ BJ.out) hb);have Ei:=Aside0.mk (Kd.eB (kv_ BK.out) hb);have Ej:=Aside0.mk (Kd.eB (kv_ BL.out) hb);have El:=Aside0.mk (Kd.jA (by (with_reducible repeat (first|apply Kd.ji|apply Kd.jk|apply Kd.jQ));exact Ck.out) hb);have Em:=Aside0.mk (aN (g:=Bg) (o:=.cells #[.string Bw,.string t222,.int .i64 BD,.int .i64 Bn,.bool BF,.slice (some Dq) t226.length Cm] 49 (0,0)) (bk_ Bf.out) hb);have Dr:=Aside0.mk (Kd.bO (by repeat (first|(with_reducible exact Bp.out)|(with_reducible refine Kd.bD ?_ _)|(with_reducible refine Kd.bR ?_ _)|(with_reducible refine Kd.bZ ?_)|exact Bp.out)) hb);have Dt:=Aside0.mk (Kd.bO (by repeat (first|(with_reducible exact Bq.out)|(with_reducible refine Kd.bD ?_ _)|(with_reducible refine Kd.bR ?_ _)|(with_reducible refine Kd.bZ ?_)|exact Bq.out)) hb);have Du:=Aside0.mk (Kd.bO (by repeat (first|(with_reducible exact Br.out)|(with_reducible refine Kd.bD ?_ _)|(with_reducible refine Kd.bR ?_ _)|(with_reducible refine Kd.bZ ?_)|exact Br.out)) hb);have Dv:=Aside0.mk (Kd.bO (by repeat (first|(with_reducible exact Bt.out)|(with_reducible refine Kd.bD ?_ _)|(with_reducible refine Kd.bR ?_ _)|(with_reducible refine Kd.bZ ?_)|exact Bt.out)) hb);have Dw:=Aside0.mk (Kd.bO (by repeat (first|(with_reducible exact Bu.out)|(with_reducible refine Kd.bD ?_ _)|(with_reducible refine Kd.bR ?_ _)|(with_reducible refine Kd.bZ ?_)|exact Bu.out)) hb);have Dx:=Aside0.mk (Kd.bO (by repeat (first|(with_reducible exact Bv.out)|(with_reducible refine Kd.bD ?_ _)|(with_reducible refine Kd.bR ?_ _)|(with_reducible refine Kd.bZ ?_)|exact Bv.out)) hb);have Dy:=Aside0.mk (aK hb_ hb);clear Bl;clear Bj;clear BG;clear BH;clear BI;clear BJ;clear BK;clear BL;clear Ck;clear Bf;clear Bp;clear Bq;clear Br;clear Bt;clear Bu;clear Bv;clear HB;have Bl:=Cg;have Bj:=Ch;have BG:=Cj;have BH:=C8;have BI:=DR;have BJ:=DT;have BK:=Ei;have BL:=Ej;have Ck:=El;have Bf:=Em;have Bp:=Dr;have Bq:=Dt;have Br:=Du;have Bt:=Dv;have Bu:=Dw;have Bv:=Dx;have HB:=Dy;clear Cg Ch Cj C8 DR DT Ei Ej El Em Dr Dt Du Dv Dw Dx Dy;(try clear hb);(try clear hb2);(try clear hk);(try clear hi)))
          go_ret
          exact ⟨by first|rfl|(simp [aY,aZ] <;> rfl)|(simp [*,aY,aZ] <;> rfl),hb_⟩
         ·rw [if_neg c14] at H
          have c14b0 : (((aj t226 0).f5) == 64) = false:=beq_eq_false_iff_ne.mpr c14
          have c14b1 : (((aj t226 0).f5) != 64) = true:=bne_iff_ne.mpr c14
          exact absurd ((Option.some.inj H).trans HTr.out) (by decide)
        ·rw [if_neg c13] at H
         have c13b0 : (((aj t226 0).f4) == 100) = false:=beq_eq_false_iff_ne.mpr c13
         have c13b1 : (((aj t226 0).f4) != 100) = true:=bne_iff_ne.mpr c13
         exact absurd ((Option.some.inj H).trans HTr.out) (by decide)
       ·rw [if_neg c12] at H
        exact absurd H (by simp)
      ·rw [if_neg c11] at H
       have c11b0 : ((t226.length : Int) == 1) = false:=beq_eq_false_iff_ne.mpr c11
       have c11b1 : ((t226.length : Int) != 1) = true:=bne_iff_ne.mpr c11
       exact absurd ((Option.some.inj H).trans HTr.out) (by decide)
     ·rw [if_neg c10] at H
      have c10b0 : (Bn == 30) = false:=beq_eq_false_iff_ne.mpr c10
      have c10b1 : (Bn != 30) = true:=bne_iff_ne.mpr c10
      exact absurd ((Option.some.inj H).trans HTr.out) (by decide)
    ·rw [if_neg c9] at H
     have c9b0 : (t222.toList == ([100,101,102,97,117,108,116] : List UInt8)) = false:=beq_eq_false_iff_ne.mpr c9
     have c9b1 : (t222.toList != ([100,101,102,97,117,108,116] : List UInt8)) = true:=bne_iff_ne.mpr c9
     exact absurd ((Option.some.inj H).trans HTr.out) (by decide)
   ·rw [if_neg c8] at H
    have c8b0 : (t232 == 0) = false:=beq_eq_false_iff_ne.mpr c8
    have c8b1 : (t232 != 0) = true:=bne_iff_ne.mpr c8
    exact absurd ((Option.some.inj H).trans HTr.out) (by decide)
  ·replace c6:=Bool.eq_false_iff.mpr c6
   subst c6
   have H1 : (some false) = some r:=by rw [if_neg (show ¬ (false = true) by decide)] at H;exact H
   clear H
   have H:=H1
   clear H1
   exact absurd ((Option.some.inj H).trans HTr.out) (by decide)
 ·replace c4:=Bool.eq_false_iff.mpr c4
  subst c4
  have H1 : (some false) = some r:=by rw [if_neg (show ¬ (false = true) by decide)] at H;exact H
  clear H
  have H:=H1
  clear H1
  exact absurd ((Option.some.inj H).trans HTr.out) (by decide)
theorem dH.calls (k : Nat)  (r : Bool) (w : World) (h : dH.f k  = some r) (hG : GW.GW w) :   Calls Tryz.prog 24 #[] w fun e w'=>e = .returned (.bool r) ∧ Below w.heap.size w w':=by
 cases r with
 | true=>exact dH.lS k true w h hG rfl
 | false=>
  exfalso
  have a : dH.f 60 = some true:=by decide +kernel
  have b:=iQ (g:=fun k=>dH.f k) (fun k=>dH.mono k) (Nat.le_max_left k 60) h
  have c:=iQ (g:=fun k=>dH.f k) (fun k=>dH.mono k) (Nat.le_max_right k 60) a
  exact Bool.noConfusion (Option.some.inj (b.symm.trans c))
end Go.Proofs.YtpflenjhmeaeoaaGreatDoor.GUt
