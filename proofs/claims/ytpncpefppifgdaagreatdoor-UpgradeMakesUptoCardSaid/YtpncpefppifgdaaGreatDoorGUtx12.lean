/- Written by this session's own program (wip/gen.py) out of the translation: plain Lean functions of the Go functions, and proofs that the calls come to their answers. No conditions beside those in the statements. -/
import Derived.Test.YtpncpefppifgdaaGreatDoorCp
import Derived.Test.YtpncpefppifgdaaGreatDoorGUtx0
import Derived.Test.YtpncpefppifgdaaGreatDoorGUtx3
import Derived.Test.YtpncpefppifgdaaGreatDoorGUtx6
import Derived.Test.YtpncpefppifgdaaGreatDoorGUtx7
import Derived.Test.YtpncpefppifgdaaGreatDoorGUtCheck
import Derived.Test.YtpncpefppifgdaaGreatDoorGUtDefault
import Derived.Test.YtpncpefppifgdaaGreatDoorGW
namespace Go.Proofs.YtpncpefppifgdaaGreatDoor.GUt
open Go.RowKit Go.Proofs.YtpncpefppifgdaaGreatDoorW.PrintWords Go.Proofs.YtpncpefppifgdaaGreatDoorW.PrintLast Go.Proofs.YtpncpefppifgdaaGreatDoorW.PrintMore
attribute [local go_sem] fZ gq gM gN fM fO gu gD
set_option linter.unusedVariables false
set_option linter.unusedSimpArgs false
def dx.f (k : Nat)  : Option (Bool):=(dH.f).bind fun BQ=>((bT.f BQ.1 BQ.2.1 BQ.2.2.1 BQ.2.2.2.1 BQ.2.2.2.2.1 BQ.2.2.2.2.2).bind fun BD=>((dY.f k).bind fun Cw=>(if Cw = true then ((cK.f k).bind fun Cc=>(if Cc = true then ((aA.f k BD.1 BD.2.1 BD.2.2.1 BD.2.2.2.1 BD.2.2.2.2.1 BD.2.2.2.2.2).bind fun t171=>(if t171 = 0 then (if BD.2.1.toList = ([100,101,102,97,117,108,116] : List UInt8) then (if BD.2.2.2.1 = 30 then (if (BD.2.2.2.2.2.length : Int) = 1 then (if 0 < (BD.2.2.2.2.2.length : Int) then (if ((au BD.2.2.2.2.2 0).f4) = 100 then (if ((au BD.2.2.2.2.2 0).f5) = 64 then ((dH.f).bind fun Bu=>((aA.f k Bu.1 Bu.2.1 Bu.2.2.1 Bu.2.2.2.1 Bu.2.2.2.2.1 Bu.2.2.2.2.2).bind fun t182=>(some (t182 == 13)))) else (some false)) else (some false)) else (none)) else (some false)) else (some false)) else (some false)) else (some false))) else (some false))) else (some false))))
theorem dx.mono : ∀ k,LeO (dx.f k ) (dx.f (k + 1) ):=by
 intro  k
 unfold dx.f
 repeat' first
   | (with_reducible exact dY.mono _)
   | (with_reducible exact cK.mono _)
   | (with_reducible exact aA.mono _ _ _ _ _ _ _)
   | (with_reducible exact LeO.refl _)
   | (with_reducible exact LeO.none _)
   | (with_reducible refine LeO.ite ?_ ?_)
   | (with_reducible refine LeO.bind ?_ (fun _=>?_))
   | exact dY.mono _
   | exact cK.mono _
   | exact aA.mono _ _ _ _ _ _ _
   | exact LeO.none _
   | refine LeO.ite ?_ ?_
   | refine LeO.bind ?_ (fun _=>?_)
set_option maxHeartbeats 8000000 in
set_option maxRecDepth 100000 in
theorem dx.kI (k : Nat)  (r : Bool) (w : World) (h : dx.f k  = some r) (hG : GW.GW w) (hT : r = true) :
  Calls Tryz.prog 53 #[] w fun e w'=>e = .returned (.bool r) ∧ Below w.heap.size w w':=by
 have HTr:=Aside0.mk hT
 clear hT
 have Gq:=Tryz.underlying77
 have HB:=Aside0.mk (Below.refl w.heap.size w)
 have H : ((dH.f).bind fun BQ=>((bT.f BQ.1 BQ.2.1 BQ.2.2.1 BQ.2.2.2.1 BQ.2.2.2.2.1 BQ.2.2.2.2.2).bind fun BD=>((dY.f k).bind fun Cw=>(if Cw = true then ((cK.f k).bind fun Cc=>(if Cc = true then ((aA.f k BD.1 BD.2.1 BD.2.2.1 BD.2.2.2.1 BD.2.2.2.2.1 BD.2.2.2.2.2).bind fun t171=>(if t171 = 0 then (if BD.2.1.toList = ([100,101,102,97,117,108,116] : List UInt8) then (if BD.2.2.2.1 = 30 then (if (BD.2.2.2.2.2.length : Int) = 1 then (if 0 < (BD.2.2.2.2.2.length : Int) then (if ((au BD.2.2.2.2.2 0).f4) = 100 then (if ((au BD.2.2.2.2.2 0).f5) = 64 then ((dH.f).bind fun Bu=>((aA.f k Bu.1 Bu.2.1 Bu.2.2.1 Bu.2.2.2.1 Bu.2.2.2.2.1 Bu.2.2.2.2.2).bind fun t182=>(some (t182 == 13)))) else (some false)) else (some false)) else (none)) else (some false)) else (some false)) else (some false)) else (some false))) else (some false))) else (some false))))) = some r:=h
 clear h
 replace H:=Option.bind_eq_some_iff.mp H
 obtain ⟨⟨t152,DV,t154,DW,t156,t157⟩,Gd,H⟩:=H
 replace H : ((bT.f t152 DV t154 DW t156 t157).bind fun BD=>((dY.f k).bind fun Cw=>(if Cw = true then ((cK.f k).bind fun Cc=>(if Cc = true then ((aA.f k BD.1 BD.2.1 BD.2.2.1 BD.2.2.2.1 BD.2.2.2.2.1 BD.2.2.2.2.2).bind fun t171=>(if t171 = 0 then (if BD.2.1.toList = ([100,101,102,97,117,108,116] : List UInt8) then (if BD.2.2.2.1 = 30 then (if (BD.2.2.2.2.2.length : Int) = 1 then (if 0 < (BD.2.2.2.2.2.length : Int) then (if ((au BD.2.2.2.2.2 0).f4) = 100 then (if ((au BD.2.2.2.2.2 0).f5) = 64 then ((dH.f).bind fun Bu=>((aA.f k Bu.1 Bu.2.1 Bu.2.2.1 Bu.2.2.2.1 Bu.2.2.2.2.1 Bu.2.2.2.2.2).bind fun t182=>(some (t182 == 13)))) else (some false)) else (some false)) else (none)) else (some false)) else (some false)) else (some false)) else (some false))) else (some false))) else (some false)))) = some r:=H
 have A1:=Aside0.mk Gd
 clear Gd
 replace H:=Option.bind_eq_some_iff.mp H
 obtain ⟨⟨t160,BH,t162,BI,t164,Bw⟩,Gf,H⟩:=H
 replace H : ((dY.f k).bind fun Cw=>(if Cw = true then ((cK.f k).bind fun Cc=>(if Cc = true then ((aA.f k t160 BH t162 BI t164 Bw).bind fun t171=>(if t171 = 0 then (if BH.toList = ([100,101,102,97,117,108,116] : List UInt8) then (if BI = 30 then (if (Bw.length : Int) = 1 then (if 0 < (Bw.length : Int) then (if ((au Bw 0).f4) = 100 then (if ((au Bw 0).f5) = 64 then ((dH.f).bind fun Bu=>((aA.f k Bu.1 Bu.2.1 Bu.2.2.1 Bu.2.2.2.1 Bu.2.2.2.2.1 Bu.2.2.2.2.2).bind fun t182=>(some (t182 == 13)))) else (some false)) else (some false)) else (none)) else (some false)) else (some false)) else (some false)) else (some false))) else (some false))) else (some false))) = some r:=H
 have A2:=Aside0.mk Gf
 clear Gf
 replace H:=Option.bind_eq_some_iff.mp H
 obtain ⟨Cw,Gg,H⟩:=H
 replace H : (if Cw = true then ((cK.f k).bind fun Cc=>(if Cc = true then ((aA.f k t160 BH t162 BI t164 Bw).bind fun t171=>(if t171 = 0 then (if BH.toList = ([100,101,102,97,117,108,116] : List UInt8) then (if BI = 30 then (if (Bw.length : Int) = 1 then (if 0 < (Bw.length : Int) then (if ((au Bw 0).f4) = 100 then (if ((au Bw 0).f5) = 64 then ((dH.f).bind fun Bu=>((aA.f k Bu.1 Bu.2.1 Bu.2.2.1 Bu.2.2.2.1 Bu.2.2.2.2.1 Bu.2.2.2.2.2).bind fun t182=>(some (t182 == 13)))) else (some false)) else (some false)) else (none)) else (some false)) else (some false)) else (some false)) else (some false))) else (some false))) else (some false)) = some r:=H
 have A3:=Aside0.mk Gg
 clear Gg
 by_cases c4 : Cw = true
 ·subst c4
  have H1 : ((cK.f k).bind fun Cc=>(if Cc = true then ((aA.f k t160 BH t162 BI t164 Bw).bind fun t171=>(if t171 = 0 then (if BH.toList = ([100,101,102,97,117,108,116] : List UInt8) then (if BI = 30 then (if (Bw.length : Int) = 1 then (if 0 < (Bw.length : Int) then (if ((au Bw 0).f4) = 100 then (if ((au Bw 0).f5) = 64 then ((dH.f).bind fun Bu=>((aA.f k Bu.1 Bu.2.1 Bu.2.2.1 Bu.2.2.2.1 Bu.2.2.2.2.1 Bu.2.2.2.2.2).bind fun t182=>(some (t182 == 13)))) else (some false)) else (some false)) else (none)) else (some false)) else (some false)) else (some false)) else (some false))) else (some false))) = some r:=by rw [if_pos rfl] at H;exact H
  clear H
  have H:=H1
  clear H1
  replace H:=Option.bind_eq_some_iff.mp H
  obtain ⟨Cc,Gh,H⟩:=H
  replace H : (if Cc = true then ((aA.f k t160 BH t162 BI t164 Bw).bind fun t171=>(if t171 = 0 then (if BH.toList = ([100,101,102,97,117,108,116] : List UInt8) then (if BI = 30 then (if (Bw.length : Int) = 1 then (if 0 < (Bw.length : Int) then (if ((au Bw 0).f4) = 100 then (if ((au Bw 0).f5) = 64 then ((dH.f).bind fun Bu=>((aA.f k Bu.1 Bu.2.1 Bu.2.2.1 Bu.2.2.2.1 Bu.2.2.2.2.1 Bu.2.2.2.2.2).bind fun t182=>(some (t182 == 13)))) else (some false)) else (some false)) else (none)) else (some false)) else (some false)) else (some false)) else (some false))) else (some false)) = some r:=H
  have A5:=Aside0.mk Gh
  clear Gh
  by_cases c6 : Cc = true
  ·subst c6
   have H1 : ((aA.f k t160 BH t162 BI t164 Bw).bind fun t171=>(if t171 = 0 then (if BH.toList = ([100,101,102,97,117,108,116] : List UInt8) then (if BI = 30 then (if (Bw.length : Int) = 1 then (if 0 < (Bw.length : Int) then (if ((au Bw 0).f4) = 100 then (if ((au Bw 0).f5) = 64 then ((dH.f).bind fun Bu=>((aA.f k Bu.1 Bu.2.1 Bu.2.2.1 Bu.2.2.2.1 Bu.2.2.2.2.1 Bu.2.2.2.2.2).bind fun t182=>(some (t182 == 13)))) else (some false)) else (some false)) else (none)) else (some false)) else (some false)) else (some false)) else (some false))) = some r:=by rw [if_pos rfl] at H;exact H
   clear H
   have H:=H1
   clear H1
   replace H:=Option.bind_eq_some_iff.mp H
   obtain ⟨t171,Gi,H⟩:=H
   replace H : (if t171 = 0 then (if BH.toList = ([100,101,102,97,117,108,116] : List UInt8) then (if BI = 30 then (if (Bw.length : Int) = 1 then (if 0 < (Bw.length : Int) then (if ((au Bw 0).f4) = 100 then (if ((au Bw 0).f5) = 64 then ((dH.f).bind fun Bu=>((aA.f k Bu.1 Bu.2.1 Bu.2.2.1 Bu.2.2.2.1 Bu.2.2.2.2.1 Bu.2.2.2.2.2).bind fun t182=>(some (t182 == 13)))) else (some false)) else (some false)) else (none)) else (some false)) else (some false)) else (some false)) else (some false)) = some r:=H
   have A7:=Aside0.mk Gi
   clear Gi
   by_cases c8 : t171 = 0
   ·rw [if_pos c8] at H
    have c8b0 : (t171 == 0) = true:=beq_iff_eq.mpr c8
    have c8b1 : (t171 != 0) = false:=bne_eq_false_iff_eq.mpr c8
    clear c8
    by_cases c9 : BH.toList = ([100,101,102,97,117,108,116] : List UInt8)
    ·rw [if_pos c9] at H
     have c9b0 : (BH.toList == ([100,101,102,97,117,108,116] : List UInt8)) = true:=beq_iff_eq.mpr c9
     have c9b1 : (BH.toList != ([100,101,102,97,117,108,116] : List UInt8)) = false:=bne_eq_false_iff_eq.mpr c9
     clear c9
     by_cases c10 : BI = 30
     ·rw [if_pos c10] at H
      have c10b0 : (BI == 30) = true:=beq_iff_eq.mpr c10
      have c10b1 : (BI != 30) = false:=bne_eq_false_iff_eq.mpr c10
      clear c10
      by_cases c11 : (Bw.length : Int) = 1
      ·rw [if_pos c11] at H
       have c11b0 : ((Bw.length : Int) == 1) = true:=beq_iff_eq.mpr c11
       have c11b1 : ((Bw.length : Int) != 1) = false:=bne_eq_false_iff_eq.mpr c11
       clear c11
       by_cases c12 : 0 < (Bw.length : Int)
       ·rw [if_pos c12] at H
        have c12b0 : decide (0 < (Bw.length : Int)) = true:=decide_eq_true c12
        have c12b1 : decide (0 < Bw.length) = true:=decide_eq_true (by omega)
        clear c12
        by_cases c13 : ((au Bw 0).f4) = 100
        ·rw [if_pos c13] at H
         have c13b0 : (((au Bw 0).f4) == 100) = true:=beq_iff_eq.mpr c13
         have c13b1 : (((au Bw 0).f4) != 100) = false:=bne_eq_false_iff_eq.mpr c13
         clear c13
         by_cases c14 : ((au Bw 0).f5) = 64
         ·rw [if_pos c14] at H
          have c14b0 : (((au Bw 0).f5) == 64) = true:=beq_iff_eq.mpr c14
          have c14b1 : (((au Bw 0).f5) != 64) = false:=bne_eq_false_iff_eq.mpr c14
          clear c14
          replace H:=Option.bind_eq_some_iff.mp H
          obtain ⟨⟨D8,t175,D9,Ea,Eb,Ec⟩,Em,H⟩:=H
          replace H : ((aA.f k D8 t175 D9 Ea Eb Ec).bind fun t182=>(some (t182 == 13))) = some r:=H
          have Gr:=Aside0.mk Em
          clear Em
          replace H:=Option.bind_eq_some_iff.mp H
          obtain ⟨t182,En,H⟩:=H
          replace H : (some (t182 == 13)) = some r:=H
          have Gs:=Aside0.mk En
          clear En
          obtain rfl:=Option.some.inj H
          go_enter Tryz.func53,Tryz.ntmps53
          go_wp2_with (first|((with_reducible refine bO (f:=80) rfl ?_);refine dZ (some 2) rfl rfl Tryz.func80 (by kernel_rfl) rfl #[] rfl (by (try simp only [List.map_toArray,List.map_cons,List.map_nil]);first|done|rfl|(simp only [List.length_drop,List.length_take];rfl)|(simp (disch:=first|omega|(simp at *;omega)) only [eu,dD,fA];rfl)) ?_;(with_reducible refine (dH.calls  t152 DV t154 DW t156 t157 _ A1.out).mono ?_);rintro e Gy ⟨Gt,rfl,ho0,hb⟩;refine ⟨_,rfl,?_⟩;have Cu:=Aside0.mk (Kd.kF ho0 (aU hb_));have Cv:=Aside0.mk (aN hb_ hb);clear HB;have BG:=Cu;have HB:=Cv;clear Cu Cv;(try clear hb);(try clear hb2);(try clear hk);(try clear hi);(try clear ho0);obtain ⟨Eo,Ep,FT⟩:=Kd.iL BG.out;subst FT)|((with_reducible refine bO (f:=81) rfl ?_);refine dZ (some 3) rfl rfl Tryz.func81 (by kernel_rfl) rfl #[.agg #[.string t152,.string DV,.int .i64 t154,.int .i64 DW,.bool t156,.slice Eo t157.length Ep]] rfl (by (try simp only [List.map_toArray,List.map_cons,List.map_nil]);first|done|rfl|(simp only [List.length_drop,List.length_take];rfl)|(simp (disch:=first|omega|(simp at *;omega)) only [eu,dD,fA];rfl)) ?_;(with_reducible refine (bT.calls t152 DV t154 DW t156 _ _ t157 t160 BH t162 BI t164 Bw _ ?Dk ?Dl A2.out).mono ?_);(case Dk=>repeat (first|exact (Kd.iF BG.out).2.2|(with_reducible refine Kd.dn ?_ _)|(with_reducible refine Kd.dw ?_ _)|(with_reducible refine Kd.dL ?_)));(case Dl=>exact (Kd.iF BG.out).2.1);rintro e Gz ⟨Gu,rfl,ho0,hb⟩;refine ⟨_,rfl,?_⟩;have Cu:=Aside0.mk (Kd.dK (by (with_reducible repeat (first|apply Kd.bP|apply Kd.bQ|apply Kd.cB));exact BG.out) hb);have Cv:=Aside0.mk (Kd.jf (Kd.eO (ok':=fun k_=>some k_ ≠ (.slice Eo t157.length Ep : Value).ownBlock) ho0 (fun k_ hk_=>(Kd.fresh' (Kd.jY (by (with_reducible repeat (first|apply Kd.bP|apply Kd.bQ|apply Kd.cB));exact BG.out)) k_ hk_))) (aU hb_));have Cz:=Aside0.mk (aN hb_ hb);clear BG;clear HB;have BG:=Cu;have BF:=Cv;have HB:=Cz;clear Cu Cv Cz;(try clear hb);(try clear hb2);(try clear hk);(try clear hi);(try clear ho0))|((with_reducible refine dz (N:=1) rfl ?_);(try (refine iJ (by rfl) ?_;dsimp only));refine dJ ?hg (N:=1) ?hd (cs:=#[.string (⟨#[]⟩ : ByteArray),.string (⟨#[]⟩ : ByteArray),.int .i64 0,.int .i64 0,.bool false,.slice none 0 0]) (t:=77) ?hr ?_;(case hd=>rfl);(case hg=>rfl);(case hr=>first|(go_simp;done)|(go_simp;rfl));intro Bz hg Ei hbox hb;have Cu:=Aside0.mk (Kd.dK (by (with_reducible repeat (first|apply Kd.bP|apply Kd.bQ|apply Kd.cB));exact BG.out) hb);have Cv:=Aside0.mk (Kd.dF (Kd.jM (kv_ BF.out) Bz (Nat.le_of_eq hg.symm)) hb);have Cz:=Aside0.mk (aN hb_ hb);have Dm:=Aside0.mk (hbox);have D6:=Aside0.mk ((by rw [hg];exact (aU hb_) : w.heap.size ≤ Bz));have D7:=Aside0.mk ((by rw [hg];exact (aU hb_) : w.heap.size ≤ Bz));clear BG;clear BF;clear HB;have BG:=Cu;have BF:=Cv;have HB:=Cz;have Bv:=Dm;have Gj:=D6;have Er:=D7;clear Cu Cv Cz Dm D6 D7;clear hb hbox hg;have Ez : Ei.cell? ⟨Bz,0,none⟩ = some (.string (⟨#[]⟩ : ByteArray)):=(ah Bv.out 0).trans rfl;have EA : Ei.cell? ⟨Bz,1,none⟩ = some (.string (⟨#[]⟩ : ByteArray)):=(ah Bv.out 1).trans rfl;have EB : Ei.cell? ⟨Bz,2,none⟩ = some (.int .i64 0):=(ah Bv.out 2).trans rfl;have EC : Ei.cell? ⟨Bz,3,none⟩ = some (.int .i64 0):=(ah Bv.out 3).trans rfl;have ED : Ei.cell? ⟨Bz,4,none⟩ = some (.bool false):=(ah Bv.out 4).trans rfl;have EF : Ei.cell? ⟨Bz,5,none⟩ = some (.slice none 0 0):=(ah Bv.out 5).trans rfl;have EG:=ay Bv.out 0;have EH:=ay Bv.out 1;have EI:=ay Bv.out 2;have EJ:=ay Bv.out 3;have EK:=ay Bv.out 4;have EL:=ay Bv.out 5;obtain ⟨Dn,CF,FU⟩:=Kd.iw BF.out;subst FU)|((with_reducible refine bO (f:=82) rfl ?_);refine dZ (some 4) rfl rfl Tryz.func82 (by kernel_rfl) rfl #[] rfl (by (try simp only [List.map_toArray,List.map_cons,List.map_nil]);first|done|rfl|(simp only [List.length_drop,List.length_take];rfl)|(simp (disch:=first|omega|(simp at *;omega)) only [eu,dD,fA];rfl)) ?_;(with_reducible refine (dY.calls k  true _ A3.out (by first|assumption|exact GW.below hG (by first|exact HB.out|assumption|(repeat (first|(with_reducible first|exact HB.out|apply bW|apply aV|apply bF|refine fG ?_ Er.out)|exact HB.out)))|exact GW.drawn hG (by first|assumption|(repeat (first|exact Drawn0.refl _|assumption|apply Drawn0.step))))).mono ?_);rintro e GA ⟨rfl,hb⟩;refine ⟨_,rfl,?_⟩;have Cu:=Aside0.mk (Kd.dK (by (with_reducible repeat (first|apply Kd.bP|apply Kd.bQ|apply Kd.cB));exact (Kd.iB (Kd.fJ (p:=⟨Bz,5,none⟩) (Kd.fJ (p:=⟨Bz,4,none⟩) (Kd.fJ (p:=⟨Bz,3,none⟩) (Kd.fJ (p:=⟨Bz,2,none⟩) (Kd.fJ (p:=⟨Bz,1,none⟩) (Kd.fJ (p:=⟨Bz,0,none⟩) (Kd.iW BG.out Bv.out (by decide)) (fun _ hk=>hk.2) (.string t160)) (fun _ hk=>hk.2) (.string BH)) (fun _ hk=>hk.2) (.int .i64 t162)) (fun _ hk=>hk.2) (.int .i64 BI)) (fun _ hk=>hk.2) (.bool t164)) (fun _ hk=>hk.2) (.slice Dn Bw.length CF)) (fun _ h_=>h_.1))) hb);have Cv:=Aside0.mk (Kd.dF (by (with_reducible repeat (first|apply Kd.iM|apply Kd.iN|apply Kd.jm));exact (Kd.eO (Kd.dM (p:=⟨Bz,5,none⟩) (Kd.dM (p:=⟨Bz,4,none⟩) (Kd.dM (p:=⟨Bz,3,none⟩) (Kd.dM (p:=⟨Bz,2,none⟩) (Kd.dM (p:=⟨Bz,1,none⟩) (Kd.dM (p:=⟨Bz,0,none⟩) (Kd.eO BF.out (fun k_ hk=>(⟨hk,hk.2⟩ : _ ∧ k_ ≠ Bz))) (fun _ hk=>hk.2) (.string t160)) (fun _ hk=>hk.2) (.string BH)) (fun _ hk=>hk.2) (.int .i64 t162)) (fun _ hk=>hk.2) (.int .i64 BI)) (fun _ hk=>hk.2) (.bool t164)) (fun _ hk=>hk.2) (.slice Dn Bw.length CF)) (fun _ h_=>h_.1))) hb);have Cz:=Aside0.mk (aI (g:=Bz) (o:=.cells #[.string t160,.string BH,.int .i64 t162,.int .i64 BI,.bool t164,.slice Dn Bw.length CF] 77 (0,0)) (by (with_reducible repeat (first|apply aj|apply av|apply ak));refine aT (cs:=#[.string t160,.string BH,.int .i64 t162,.int .i64 BI,.bool t164,.slice none 0 0]) ?_ 5 _ rfl;(with_reducible repeat (first|apply aj|apply av|apply ak));refine aT (cs:=#[.string t160,.string BH,.int .i64 t162,.int .i64 BI,.bool false,.slice none 0 0]) ?_ 4 _ rfl;(with_reducible repeat (first|apply aj|apply av|apply ak));refine aT (cs:=#[.string t160,.string BH,.int .i64 t162,.int .i64 0,.bool false,.slice none 0 0]) ?_ 3 _ rfl;(with_reducible repeat (first|apply aj|apply av|apply ak));refine aT (cs:=#[.string t160,.string BH,.int .i64 0,.int .i64 0,.bool false,.slice none 0 0]) ?_ 2 _ rfl;(with_reducible repeat (first|apply aj|apply av|apply ak));refine aT (cs:=#[.string t160,.string (⟨#[]⟩ : ByteArray),.int .i64 0,.int .i64 0,.bool false,.slice none 0 0]) ?_ 1 _ rfl;(with_reducible repeat (first|apply aj|apply av|apply ak));refine aT (cs:=#[.string (⟨#[]⟩ : ByteArray),.string (⟨#[]⟩ : ByteArray),.int .i64 0,.int .i64 0,.bool false,.slice none 0 0]) ?_ 0 _ rfl;(with_reducible repeat (first|apply aj|apply av|apply ak));exact Bv.out) hb);have Dm:=Aside0.mk (aN hb_ hb);clear BG;clear BF;clear Bv;clear HB;have BG:=Cu;have BF:=Cv;have Bv:=Cz;have HB:=Dm;clear Cu Cv Cz Dm;(try clear hb);(try clear hb2);(try clear hk);(try clear hi))|(go_at_call 50;(with_reducible refine (cK.calls k  true _ A5.out).mono ?_);rintro e Ej ⟨rfl,hb⟩;have Cu:=Aside0.mk (Kd.dK (by (with_reducible repeat (first|apply Kd.bP|apply Kd.bQ|apply Kd.cB));exact BG.out) hb);have Cv:=Aside0.mk (Kd.dF (kv_ BF.out) hb);have Cz:=Aside0.mk (aI (g:=Bz) (o:=.cells #[.string t160,.string BH,.int .i64 t162,.int .i64 BI,.bool t164,.slice Dn Bw.length CF] 77 (0,0)) (bk_ Bv.out) hb);have Dm:=Aside0.mk (aN hb_ hb);clear BG;clear BF;clear Bv;clear HB;have BG:=Cu;have BF:=Cv;have Bv:=Cz;have HB:=Dm;clear Cu Cv Cz Dm;(try clear hb);(try clear hb2);(try clear hk);(try clear hi);have EM : Ej.cell? ⟨Bz,0,none⟩ = some (.string t160):=(ah Bv.out 0).trans rfl;have EN : Ej.cell? ⟨Bz,1,none⟩ = some (.string BH):=(ah Bv.out 1).trans rfl;have EO : Ej.cell? ⟨Bz,2,none⟩ = some (.int .i64 t162):=(ah Bv.out 2).trans rfl;have EP : Ej.cell? ⟨Bz,3,none⟩ = some (.int .i64 BI):=(ah Bv.out 3).trans rfl;have ER : Ej.cell? ⟨Bz,4,none⟩ = some (.bool t164):=(ah Bv.out 4).trans rfl;have ES : Ej.cell? ⟨Bz,5,none⟩ = some (.slice Dn Bw.length CF):=(ah Bv.out 5).trans rfl;have ET:=ay Bv.out 0;have EU:=ay Bv.out 1;have EW:=ay Bv.out 2;have EX:=ay Bv.out 3;have EY:=ay Bv.out 4;have EZ:=ay Bv.out 5)|(go_at_call 83;(with_reducible refine (aA.calls k t160 BH t162 BI t164 _ _ Bw t171 _ ?Dk ?Dl A7.out).mono ?_);(case Dk=>repeat (first|exact (Kd.eY BF.out).2.2|(with_reducible refine Kd.dn ?_ _)|(with_reducible refine Kd.dw ?_ _)|(with_reducible refine Kd.dL ?_)));(case Dl=>exact (Kd.eY BF.out).2.1);rintro e El ⟨rfl,hb⟩;have Cu:=Aside0.mk (Kd.dK (by (with_reducible repeat (first|apply Kd.bP|apply Kd.bQ|apply Kd.cB));exact BG.out) hb);have Cv:=Aside0.mk (Kd.dF (kv_ BF.out) hb);have Cz:=Aside0.mk (aI (g:=Bz) (o:=.cells #[.string t160,.string BH,.int .i64 t162,.int .i64 BI,.bool t164,.slice Dn Bw.length CF] 77 (0,0)) (bk_ Bv.out) hb);have Dm:=Aside0.mk (aN hb_ hb);clear BG;clear BF;clear Bv;clear HB;have BG:=Cu;have BF:=Cv;have Bv:=Cz;have HB:=Dm;clear Cu Cv Cz Dm;(try clear hb);(try clear hb2);(try clear hk);(try clear hi);have E5 : El.cell? ⟨Bz,0,none⟩ = some (.string t160):=(ah Bv.out 0).trans rfl;have E8 : El.cell? ⟨Bz,1,none⟩ = some (.string BH):=(ah Bv.out 1).trans rfl;have E9 : El.cell? ⟨Bz,2,none⟩ = some (.int .i64 t162):=(ah Bv.out 2).trans rfl;have Fa : El.cell? ⟨Bz,3,none⟩ = some (.int .i64 BI):=(ah Bv.out 3).trans rfl;have Fb : El.cell? ⟨Bz,4,none⟩ = some (.bool t164):=(ah Bv.out 4).trans rfl;have Fe : El.cell? ⟨Bz,5,none⟩ = some (.slice Dn Bw.length CF):=(ah Bv.out 5).trans rfl;have Fg:=ay Bv.out 0;have Fh:=ay Bv.out 1;have Fj:=ay Bv.out 2;have Fp:=ay Bv.out 3;have Fq:=ay Bv.out 4;have Fu:=ay Bv.out 5;have DX : 0 ≤ (0 : Int):=(by omega);have DY : 0 < (Bw.length : Int):=of_decide_eq_true (by first|(with_reducible assumption)|assumption);obtain ⟨DI,FV,FW,FX,FY,FZ,F3,F4,CG,CJ,Ce,Cg,CK,CO,Ch,Dp,Dq,Dr,Dt,Du,Dv⟩:=ou (Kd.eY BF.out).2.2 0 DX DY;cases F4;obtain ⟨Gl,Ed,Ee,CP⟩:=Kd.tK BF.out z84 0 DX (by first|exact DY|exact of_decide_eq_true (by first|(with_reducible assumption)|assumption)|(have e_:=(Kd.eY BF.out).1;omega));obtain ⟨Fv,Fw,Fx,Fy,Fz,FB,rfl,CQ,CS,CU,CV,CW,CX⟩:=ko Ee;have Cm:=CP 2 _ rfl;rw [bR _ _ 2 (by omega)] at Cm;replace Cm:=Option.some.inj (Cm.symm.trans Ce);injection Cm with hva_ hvn_ hvc_;rw [hva_] at CS;rw [hvc_] at CQ;have BR:=Aside0.mk (show Kd.V Kd.string 9 _ w.heap.size _ _ ((au Bw 0).f2) from Kd.nD CQ CS);clear hva_ hvn_ hvc_ CS CQ;have Cn:=CP 3 _ rfl;rw [bR _ _ 3 (by omega)] at Cn;replace Cn:=Option.some.inj (Cn.symm.trans Cg);injection Cn with hva_ hvn_ hvc_;rw [hva_] at CV;rw [hvc_] at CU;have BS:=Aside0.mk (show Kd.V lH 126 _ w.heap.size _ _ ((au Bw 0).f3) from Kd.nD CU CV);clear hva_ hvn_ hvc_ CV CU;have Co:=CP 6 _ rfl;rw [bR _ _ 6 (by omega)] at Co;replace Co:=Option.some.inj (Co.symm.trans Ch);injection Co with hva_ hvn_ hvc_;rw [hva_] at CX;rw [hvc_] at CW;have BU:=Aside0.mk (show Kd.V lI 127 _ w.heap.size _ _ ((au Bw 0).f6) from Kd.nD CW CX);clear hva_ hvn_ hvc_ CX CW;clear CP Ed;have Gm : (0 < Bw.length) = True:=eq_true (by omega);(try rw [show ((0 : Int)).toNat = 0 from rfl] at CG);(try rw [show 0 * 7 = 0 from rfl] at CG);(try rw [Addr.add_zero'] at CG);(try rw [show ((0 : Int)).toNat = 0 from rfl] at CJ);(try rw [show 0 * 7 = 0 from rfl] at CJ);(try rw [Addr.add_zero'] at CJ);(try rw [show ((0 : Int)).toNat = 0 from rfl] at Ce);(try rw [show 0 * 7 = 0 from rfl] at Ce);(try rw [Addr.add_zero'] at Ce);(try rw [show ((0 : Int)).toNat = 0 from rfl] at Cg);(try rw [show 0 * 7 = 0 from rfl] at Cg);(try rw [Addr.add_zero'] at Cg);(try rw [show ((0 : Int)).toNat = 0 from rfl] at CK);(try rw [show 0 * 7 = 0 from rfl] at CK);(try rw [Addr.add_zero'] at CK);(try rw [show ((0 : Int)).toNat = 0 from rfl] at CO);(try rw [show 0 * 7 = 0 from rfl] at CO);(try rw [Addr.add_zero'] at CO);(try rw [show ((0 : Int)).toNat = 0 from rfl] at Ch);(try rw [show 0 * 7 = 0 from rfl] at Ch);(try rw [Addr.add_zero'] at Ch);have BJ:=Aside0.mk Dq;have FC:=Aside0.mk Dp;clear Dq Dp;have BK:=Aside0.mk Dt;have FD:=Aside0.mk Dr;clear Dt Dr;have BL:=Aside0.mk Dv;have FE:=Aside0.mk Du;clear Dv Du;replace DX:=eq_true DX;replace DY:=eq_true DY;have DZ : 0 ≤ (0 : Int):=(by omega);have D5 : 0 < (Bw.length : Int):=of_decide_eq_true (by first|(with_reducible assumption)|assumption);obtain ⟨Es,F5,F6,F7,F8,F9,Ga,Gb,CY,CZ,Ci,Cj,C8,C9,Ck,Dw,Dx,Dy,Dz,DC,DF⟩:=ou (Kd.eY BF.out).2.2 0 DZ D5;obtain rfl : DI = Es:=(by injection Gb);obtain ⟨Gn,Ef,Eh,Da⟩:=Kd.tK BF.out z84 0 DZ (by first|exact D5|exact of_decide_eq_true (by first|(with_reducible assumption)|assumption)|(have e_:=(Kd.eY BF.out).1;omega));obtain ⟨FH,FI,FJ,FL,FM,FN,rfl,Db,Dc,Df,Dh,Di,Dj⟩:=ko Eh;have Cq:=Da 2 _ rfl;rw [bR _ _ 2 (by omega)] at Cq;replace Cq:=Option.some.inj (Cq.symm.trans Ci);injection Cq with hva_ hvn_ hvc_;rw [hva_] at Dc;rw [hvc_] at Db;have BZ:=Aside0.mk (show Kd.V Kd.string 9 _ w.heap.size _ _ ((au Bw 0).f2) from Kd.nD Db Dc);clear hva_ hvn_ hvc_ Dc Db;have Cr:=Da 3 _ rfl;rw [bR _ _ 3 (by omega)] at Cr;replace Cr:=Option.some.inj (Cr.symm.trans Cj);injection Cr with hva_ hvn_ hvc_;rw [hva_] at Dh;rw [hvc_] at Df;have Ca:=Aside0.mk (show Kd.V lH 126 _ w.heap.size _ _ ((au Bw 0).f3) from Kd.nD Df Dh);clear hva_ hvn_ hvc_ Dh Df;have Ct:=Da 6 _ rfl;rw [bR _ _ 6 (by omega)] at Ct;replace Ct:=Option.some.inj (Ct.symm.trans Ck);injection Ct with hva_ hvn_ hvc_;rw [hva_] at Dj;rw [hvc_] at Di;have Cb:=Aside0.mk (show Kd.V lI 127 _ w.heap.size _ _ ((au Bw 0).f6) from Kd.nD Di Dj);clear hva_ hvn_ hvc_ Dj Di;clear Da Ef;have Gp : (0 < Bw.length) = True:=eq_true (by omega);(try rw [show ((0 : Int)).toNat = 0 from rfl] at CY);(try rw [show 0 * 7 = 0 from rfl] at CY);(try rw [Addr.add_zero'] at CY);(try rw [show ((0 : Int)).toNat = 0 from rfl] at CZ);(try rw [show 0 * 7 = 0 from rfl] at CZ);(try rw [Addr.add_zero'] at CZ);(try rw [show ((0 : Int)).toNat = 0 from rfl] at Ci);(try rw [show 0 * 7 = 0 from rfl] at Ci);(try rw [Addr.add_zero'] at Ci);(try rw [show ((0 : Int)).toNat = 0 from rfl] at Cj);(try rw [show 0 * 7 = 0 from rfl] at Cj);(try rw [Addr.add_zero'] at Cj);(try rw [show ((0 : Int)).toNat = 0 from rfl] at C8);(try rw [show 0 * 7 = 0 from rfl] at C8);(try rw [Addr.add_zero'] at C8);(try rw [show ((0 : Int)).toNat = 0 from rfl] at C9);(try rw [show 0 * 7 = 0 from rfl] at C9);(try rw [Addr.add_zero'] at C9);(try rw [show ((0 : Int)).toNat = 0 from rfl] at Ck);(try rw [show 0 * 7 = 0 from rfl] at Ck);(try rw [Addr.add_zero'] at Ck);have BN:=Aside0.mk Dx;have FP:=Aside0.mk Dw;clear Dx Dw;have BO:=Aside0.mk Dz;have FQ:=Aside0.mk Dy;clear Dz Dy;have BP:=Aside0.mk DF;have FR:=Aside0.mk DC;clear DF DC;replace DZ:=eq_true DZ;replace D5:=eq_true D5;have ea_:=Option.some.inj (Ce.symm.trans Ci);injection ea_ with ea_ en_ ec_;subst ea_;subst ec_;clear en_;have ea_:=Option.some.inj (Cg.symm.trans Cj);injection ea_ with ea_ en_ ec_;subst ea_;subst ec_;clear en_;have ea_:=Option.some.inj (Ch.symm.trans Ck);injection ea_ with ea_ en_ ec_;subst ea_;subst ec_;clear en_)|(go_at_call 80;(with_reducible refine (dH.calls  D8 t175 D9 Ea Eb Ec _ Gr.out).mono ?_);rintro e GD ⟨Gv,rfl,ho0,hb⟩;have Cu:=Aside0.mk (Kd.jB (by (with_reducible repeat (first|apply Kd.bP|apply Kd.bQ|apply Kd.cB));exact BG.out) (Kd.gU ho0) hb);have Cv:=Aside0.mk (Kd.fD (kv_ BF.out) (Kd.gU ho0) hb);have Cz:=Aside0.mk (Kd.fD (kv_ BR.out) (Kd.gU ho0) hb);have Dm:=Aside0.mk (Kd.fD (kv_ BS.out) (Kd.gU ho0) hb);have D6:=Aside0.mk (Kd.fD (kv_ BU.out) (Kd.gU ho0) hb);have D7:=Aside0.mk (Kd.fD (kv_ BZ.out) (Kd.gU ho0) hb);have Et:=Aside0.mk (Kd.fD (kv_ Ca.out) (Kd.gU ho0) hb);have Eu:=Aside0.mk (Kd.fD (kv_ Cb.out) (Kd.gU ho0) hb);have Ew:=Aside0.mk (Kd.kF (Kd.lV ho0 (Kd.jY (by (with_reducible repeat (first|apply Kd.bP|apply Kd.bQ|apply Kd.cB));exact BG.out))) (aU hb_));have Ey:=Aside0.mk (aI (g:=Bz) (o:=.cells #[.string t160,.string BH,.int .i64 t162,.int .i64 BI,.bool t164,.slice (some DI) Bw.length CF] 77 (0,0)) (bk_ Bv.out) hb);have DJ:=Aside0.mk (Kd.cZ (by repeat (first|(with_reducible exact BJ.out)|(with_reducible refine Kd.dn ?_ _)|(with_reducible refine Kd.dw ?_ _)|(with_reducible refine Kd.dL ?_)|exact BJ.out)) hb);have DK:=Aside0.mk (Kd.cZ (by repeat (first|(with_reducible exact BK.out)|(with_reducible refine Kd.dn ?_ _)|(with_reducible refine Kd.dw ?_ _)|(with_reducible refine Kd.dL ?_)|exact BK.out)) hb);have DL:=Aside0.mk (Kd.cZ (by repeat (first|(with_reducible exact BL.out)|(with_reducible refine Kd.dn ?_ _)|(with_reducible refine Kd.dw ?_ _)|(with_reducible refine Kd.dL ?_)|exact BL.out)) hb);have DN:=Aside0.mk (Kd.cZ (by repeat (first|(with_reducible exact BN.out)|(with_reducible refine Kd.dn ?_ _)|(with_reducible refine Kd.dw ?_ _)|(with_reducible refine Kd.dL ?_)|exact BN.out)) hb);have DR:=Aside0.mk (Kd.cZ (by repeat (first|(with_reducible exact BO.out)|(with_reducible refine Kd.dn ?_ _)|(with_reducible refine Kd.dw ?_ _)|(with_reducible refine Kd.dL ?_)|exact BO.out)) hb);have DT:=Aside0.mk (Kd.cZ (by repeat (first|(with_reducible exact BP.out)|(with_reducible refine Kd.dn ?_ _)|(with_reducible refine Kd.dw ?_ _)|(with_reducible refine Kd.dL ?_)|exact BP.out)) hb);have DU:=Aside0.mk (aN hb_ hb);clear BG;clear BF;clear BR;clear BS;clear BU;clear BZ;clear Ca;clear Cb;clear Bv;clear BJ;clear BK;clear BL;clear BN;clear BO;clear BP;clear HB;have BG:=Cu;have BF:=Cv;have BR:=Cz;have BS:=Dm;have BU:=D6;have BZ:=D7;have Ca:=Et;have Cb:=Eu;have CB:=Ew;have Bv:=Ey;have BJ:=DJ;have BK:=DK;have BL:=DL;have BN:=DN;have BO:=DR;have BP:=DT;have HB:=DU;clear Cu Cv Cz Dm D6 D7 Et Eu Ew Ey DJ DK DL DN DR DT DU;(try clear hb);(try clear hb2);(try clear hk);(try clear hi);(try clear ho0);obtain ⟨Gw,Gx,Gc⟩:=Kd.iL CB.out;subst Gc)|(go_at_call 83;(with_reducible refine (aA.calls k D8 t175 D9 Ea Eb _ _ Ec t182 _ ?Dk ?Dl Gs.out).mono ?_);(case Dk=>repeat (first|exact (Kd.iF CB.out).2.2|(with_reducible refine Kd.dn ?_ _)|(with_reducible refine Kd.dw ?_ _)|(with_reducible refine Kd.dL ?_)));(case Dl=>exact (Kd.iF CB.out).2.1);rintro e GI ⟨rfl,hb⟩;have Cu:=Aside0.mk (Kd.dK (by (with_reducible repeat (first|apply Kd.bP|apply Kd.bQ|apply Kd.cB));exact BG.out) hb);have Cv:=Aside0.mk (Kd.dF (kv_ BF.out) hb);have Cz:=Aside0.mk (Kd.dF (kv_ BR.out) hb);have Dm:=Aside0.mk (Kd.dF (kv_ BS.out) hb);have D6:=Aside0.mk (Kd.dF (kv_ BU.out) hb);have D7:=Aside0.mk (Kd.dF (kv_ BZ.out) hb);have Et:=Aside0.mk (Kd.dF (kv_ Ca.out) hb);have Eu:=Aside0.mk (Kd.dF (kv_ Cb.out) hb);have Ew:=Aside0.mk (Kd.dK (by (with_reducible repeat (first|apply Kd.bP|apply Kd.bQ|apply Kd.cB));exact CB.out) hb);have Ey:=Aside0.mk (aI (g:=Bz) (o:=.cells #[.string t160,.string BH,.int .i64 t162,.int .i64 BI,.bool t164,.slice (some DI) Bw.length CF] 77 (0,0)) (bk_ Bv.out) hb);have DJ:=Aside0.mk (Kd.cZ (by repeat (first|(with_reducible exact BJ.out)|(with_reducible refine Kd.dn ?_ _)|(with_reducible refine Kd.dw ?_ _)|(with_reducible refine Kd.dL ?_)|exact BJ.out)) hb);have DK:=Aside0.mk (Kd.cZ (by repeat (first|(with_reducible exact BK.out)|(with_reducible refine Kd.dn ?_ _)|(with_reducible refine Kd.dw ?_ _)|(with_reducible refine Kd.dL ?_)|exact BK.out)) hb);have DL:=Aside0.mk (Kd.cZ (by repeat (first|(with_reducible exact BL.out)|(with_reducible refine Kd.dn ?_ _)|(with_reducible refine Kd.dw ?_ _)|(with_reducible refine Kd.dL ?_)|exact BL.out)) hb);have DN:=Aside0.mk (Kd.cZ (by repeat (first|(with_reducible exact BN.out)|(with_reducible refine Kd.dn ?_ _)|(with_reducible refine Kd.dw ?_ _)|(with_reducible refine Kd.dL ?_)|exact BN.out)) hb);have DR:=Aside0.mk (Kd.cZ (by repeat (first|(with_reducible exact BO.out)|(with_reducible refine Kd.dn ?_ _)|(with_reducible refine Kd.dw ?_ _)|(with_reducible refine Kd.dL ?_)|exact BO.out)) hb);have DT:=Aside0.mk (Kd.cZ (by repeat (first|(with_reducible exact BP.out)|(with_reducible refine Kd.dn ?_ _)|(with_reducible refine Kd.dw ?_ _)|(with_reducible refine Kd.dL ?_)|exact BP.out)) hb);have DU:=Aside0.mk (aN hb_ hb);clear BG;clear BF;clear BR;clear BS;clear BU;clear BZ;clear Ca;clear Cb;clear CB;clear Bv;clear BJ;clear BK;clear BL;clear BN;clear BO;clear BP;clear HB;have BG:=Cu;have BF:=Cv;have BR:=Cz;have BS:=Dm;have BU:=D6;have BZ:=D7;have Ca:=Et;have Cb:=Eu;have CB:=Ew;have Bv:=Ey;have BJ:=DJ;have BK:=DK;have BL:=DL;have BN:=DN;have BO:=DR;have BP:=DT;have HB:=DU;clear Cu Cv Cz Dm D6 D7 Et Eu Ew Ey DJ DK DL DN DR DT DU;(try clear hb);(try clear hb2);(try clear hk);(try clear hi)))
          go_ret
          exact ⟨by first|rfl|(simp [bB,bC] <;> rfl)|(simp [*,bB,bC] <;> rfl),hb_⟩
         ·rw [if_neg c14] at H
          have c14b0 : (((au Bw 0).f5) == 64) = false:=beq_eq_false_iff_ne.mpr c14
          have c14b1 : (((au Bw 0).f5) != 64) = true:=bne_iff_ne.mpr c14
          exact absurd ((Option.some.inj H).trans HTr.out) (by decide)
        ·rw [if_neg c13] at H
         have c13b0 : (((au Bw 0).f4) == 100) = false:=beq_eq_false_iff_ne.mpr c13
         have c13b1 : (((au Bw 0).f4) != 100) = true:=bne_iff_ne.mpr c13
         exact absurd ((Option.some.inj H).trans HTr.out) (by decide)
       ·rw [if_neg c12] at H
        exact absurd H (by simp)
      ·rw [if_neg c11] at H
       have c11b0 : ((Bw.length : Int) == 1) = false:=beq_eq_false_iff_ne.mpr c11
       have c11b1 : ((Bw.length : Int) != 1) = true:=bne_iff_ne.mpr c11
       exact absurd ((Option.some.inj H).trans HTr.out) (by decide)
     ·rw [if_neg c10] at H
      have c10b0 : (BI == 30) = false:=beq_eq_false_iff_ne.mpr c10
      have c10b1 : (BI != 30) = true:=bne_iff_ne.mpr c10
      exact absurd ((Option.some.inj H).trans HTr.out) (by decide)
    ·rw [if_neg c9] at H
     have c9b0 : (BH.toList == ([100,101,102,97,117,108,116] : List UInt8)) = false:=beq_eq_false_iff_ne.mpr c9
     have c9b1 : (BH.toList != ([100,101,102,97,117,108,116] : List UInt8)) = true:=bne_iff_ne.mpr c9
     exact absurd ((Option.some.inj H).trans HTr.out) (by decide)
   ·rw [if_neg c8] at H
    have c8b0 : (t171 == 0) = false:=beq_eq_false_iff_ne.mpr c8
    have c8b1 : (t171 != 0) = true:=bne_iff_ne.mpr c8
    exact absurd ((Option.some.inj H).trans HTr.out) (by decide)
  ·replace c6:=Bool.eq_false_iff.mpr c6
   subst c6
   have H1 : (some false) = some r:=by rw [if_neg (show ¬ (false = true) by decide)] at H;exact H
   clear H
   have H:=H1
   clear H1
   exact absurd ((Option.some.inj H).trans HTr.out) (by decide)
 ·replace c4:=Bool.eq_false_iff.mpr c4
  subst c4
  have H1 : (some false) = some r:=by rw [if_neg (show ¬ (false = true) by decide)] at H;exact H
  clear H
  have H:=H1
  clear H1
  exact absurd ((Option.some.inj H).trans HTr.out) (by decide)
theorem dx.calls (k : Nat)  (r : Bool) (w : World) (h : dx.f k  = some r) (hG : GW.GW w) :   Calls Tryz.prog 53 #[] w fun e w'=>e = .returned (.bool r) ∧ Below w.heap.size w w':=by
 cases r with
 | true=>exact dx.kI k true w h hG rfl
 | false=>
  exfalso
  have a : dx.f 60 = some true:=by decide +kernel
  have b:=iA (g:=fun k=>dx.f k) (fun k=>dx.mono k) (Nat.le_max_left k 60) h
  have c:=iA (g:=fun k=>dx.f k) (fun k=>dx.mono k) (Nat.le_max_right k 60) a
  exact Bool.noConfusion (Option.some.inj (b.symm.trans c))
end Go.Proofs.YtpncpefppifgdaaGreatDoor.GUt
