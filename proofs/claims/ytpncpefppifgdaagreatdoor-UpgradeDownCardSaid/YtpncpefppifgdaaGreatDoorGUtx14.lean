/- Written by this session's own program (wip/gen.py) out of the translation: plain Lean functions of the Go functions, and proofs that the calls come to their answers. No conditions beside those in the statements. -/
import Derived.Test.YtpncpefppifgdaaGreatDoorCp
import Derived.Test.YtpncpefppifgdaaGreatDoorGUtx0
import Derived.Test.YtpncpefppifgdaaGreatDoorGUtx5
import Derived.Test.YtpncpefppifgdaaGreatDoorGUtx8
import Derived.Test.YtpncpefppifgdaaGreatDoorGUtx9
import Derived.Test.YtpncpefppifgdaaGreatDoorGUtCheck
import Derived.Test.YtpncpefppifgdaaGreatDoorGUtDefault
import Derived.Test.YtpncpefppifgdaaGreatDoorGW
namespace Go.Proofs.YtpncpefppifgdaaGreatDoor.GUt
open Go.RowKit Go.Proofs.YtpncpefppifgdaaGreatDoorW.PrintWords Go.Proofs.YtpncpefppifgdaaGreatDoorW.PrintLast Go.Proofs.YtpncpefppifgdaaGreatDoorW.PrintMore
attribute [local go_sem] fH fI gF gG eZ fq fJ fK
set_option linter.unusedVariables false
set_option linter.unusedSimpArgs false
def bZ.f (k : Nat)  : Option (Bool):=(dh.f).bind fun BU=>((bP.f BU.1 BU.2.1 BU.2.2.1 BU.2.2.2.1 BU.2.2.2.2.1 BU.2.2.2.2.2).bind fun BF=>((dU.f k).bind fun Cy=>(if Cy = true then ((bU.f k).bind fun t162=>(if t162 = true then ((aC.f k BF.1 BF.2.1 BF.2.2.1 BF.2.2.2.1 BF.2.2.2.2.1 BF.2.2.2.2.2).bind fun BK=>(if BK = 0 then (if BF.2.1.toList = ([100,101,102,97,117,108,116] : List UInt8) then (if BF.2.2.2.1 = 30 then (if (BF.2.2.2.2.2.length : Int) = 1 then (if 0 < (BF.2.2.2.2.2.length : Int) then (if ((au BF.2.2.2.2.2 0).f4) = 100 then (if ((au BF.2.2.2.2.2 0).f5) = 64 then ((dh.f).bind fun Bw=>((aC.f k Bw.1 Bw.2.1 Bw.2.2.1 Bw.2.2.2.1 Bw.2.2.2.2.1 Bw.2.2.2.2.2).bind fun BL=>(some (BL == 13)))) else (some false)) else (some false)) else (none)) else (some false)) else (some false)) else (some false)) else (some false))) else (some false))) else (some false))))
theorem bZ.mono : ∀ k,LeO (bZ.f k ) (bZ.f (k + 1) ):=by
 intro  k
 unfold bZ.f
 repeat' first
   | (with_reducible exact dU.mono _)
   | (with_reducible exact bU.mono _)
   | (with_reducible exact aC.mono _ _ _ _ _ _ _)
   | (with_reducible exact LeO.refl _)
   | (with_reducible exact LeO.none _)
   | (with_reducible refine LeO.ite ?_ ?_)
   | (with_reducible refine LeO.bind ?_ (fun _=>?_))
   | exact dU.mono _
   | exact bU.mono _
   | exact aC.mono _ _ _ _ _ _ _
   | exact LeO.none _
   | refine LeO.ite ?_ ?_
   | refine LeO.bind ?_ (fun _=>?_)
set_option maxHeartbeats 8000000 in
set_option maxRecDepth 100000 in
theorem bZ.kH (k : Nat)  (r : Bool) (w : World) (h : bZ.f k  = some r) (hG : GW.GW w) (hT : r = true) :
  Calls Tryz.prog 53 #[] w fun e w'=>e = .returned (.bool r) ∧ Below w.heap.size w w':=by
 have HTr:=Aside0.mk hT
 clear hT
 have Gp:=Tryz.underlying77
 have HB:=Aside0.mk (Below.refl w.heap.size w)
 have H : ((dh.f).bind fun BU=>((bP.f BU.1 BU.2.1 BU.2.2.1 BU.2.2.2.1 BU.2.2.2.2.1 BU.2.2.2.2.2).bind fun BF=>((dU.f k).bind fun Cy=>(if Cy = true then ((bU.f k).bind fun t162=>(if t162 = true then ((aC.f k BF.1 BF.2.1 BF.2.2.1 BF.2.2.2.1 BF.2.2.2.2.1 BF.2.2.2.2.2).bind fun BK=>(if BK = 0 then (if BF.2.1.toList = ([100,101,102,97,117,108,116] : List UInt8) then (if BF.2.2.2.1 = 30 then (if (BF.2.2.2.2.2.length : Int) = 1 then (if 0 < (BF.2.2.2.2.2.length : Int) then (if ((au BF.2.2.2.2.2 0).f4) = 100 then (if ((au BF.2.2.2.2.2 0).f5) = 64 then ((dh.f).bind fun Bw=>((aC.f k Bw.1 Bw.2.1 Bw.2.2.1 Bw.2.2.2.1 Bw.2.2.2.2.1 Bw.2.2.2.2.2).bind fun BL=>(some (BL == 13)))) else (some false)) else (some false)) else (none)) else (some false)) else (some false)) else (some false)) else (some false))) else (some false))) else (some false))))) = some r:=h
 clear h
 replace H:=Option.bind_eq_some_iff.mp H
 obtain ⟨⟨DX,t145,t146,DY,t148,DJ⟩,Gc,H⟩:=H
 replace H : ((bP.f DX t145 t146 DY t148 DJ).bind fun BF=>((dU.f k).bind fun Cy=>(if Cy = true then ((bU.f k).bind fun t162=>(if t162 = true then ((aC.f k BF.1 BF.2.1 BF.2.2.1 BF.2.2.2.1 BF.2.2.2.2.1 BF.2.2.2.2.2).bind fun BK=>(if BK = 0 then (if BF.2.1.toList = ([100,101,102,97,117,108,116] : List UInt8) then (if BF.2.2.2.1 = 30 then (if (BF.2.2.2.2.2.length : Int) = 1 then (if 0 < (BF.2.2.2.2.2.length : Int) then (if ((au BF.2.2.2.2.2 0).f4) = 100 then (if ((au BF.2.2.2.2.2 0).f5) = 64 then ((dh.f).bind fun Bw=>((aC.f k Bw.1 Bw.2.1 Bw.2.2.1 Bw.2.2.2.1 Bw.2.2.2.2.1 Bw.2.2.2.2.2).bind fun BL=>(some (BL == 13)))) else (some false)) else (some false)) else (none)) else (some false)) else (some false)) else (some false)) else (some false))) else (some false))) else (some false)))) = some r:=H
 have A1:=Aside0.mk Gc
 clear Gc
 replace H:=Option.bind_eq_some_iff.mp H
 obtain ⟨⟨t152,BI,t154,BJ,t156,t157⟩,Gd,H⟩:=H
 replace H : ((dU.f k).bind fun Cy=>(if Cy = true then ((bU.f k).bind fun t162=>(if t162 = true then ((aC.f k t152 BI t154 BJ t156 t157).bind fun BK=>(if BK = 0 then (if BI.toList = ([100,101,102,97,117,108,116] : List UInt8) then (if BJ = 30 then (if (t157.length : Int) = 1 then (if 0 < (t157.length : Int) then (if ((au t157 0).f4) = 100 then (if ((au t157 0).f5) = 64 then ((dh.f).bind fun Bw=>((aC.f k Bw.1 Bw.2.1 Bw.2.2.1 Bw.2.2.2.1 Bw.2.2.2.2.1 Bw.2.2.2.2.2).bind fun BL=>(some (BL == 13)))) else (some false)) else (some false)) else (none)) else (some false)) else (some false)) else (some false)) else (some false))) else (some false))) else (some false))) = some r:=H
 have A2:=Aside0.mk Gd
 clear Gd
 replace H:=Option.bind_eq_some_iff.mp H
 obtain ⟨Cy,Gf,H⟩:=H
 replace H : (if Cy = true then ((bU.f k).bind fun t162=>(if t162 = true then ((aC.f k t152 BI t154 BJ t156 t157).bind fun BK=>(if BK = 0 then (if BI.toList = ([100,101,102,97,117,108,116] : List UInt8) then (if BJ = 30 then (if (t157.length : Int) = 1 then (if 0 < (t157.length : Int) then (if ((au t157 0).f4) = 100 then (if ((au t157 0).f5) = 64 then ((dh.f).bind fun Bw=>((aC.f k Bw.1 Bw.2.1 Bw.2.2.1 Bw.2.2.2.1 Bw.2.2.2.2.1 Bw.2.2.2.2.2).bind fun BL=>(some (BL == 13)))) else (some false)) else (some false)) else (none)) else (some false)) else (some false)) else (some false)) else (some false))) else (some false))) else (some false)) = some r:=H
 have A3:=Aside0.mk Gf
 clear Gf
 by_cases c4 : Cy = true
 ·subst c4
  have H1 : ((bU.f k).bind fun t162=>(if t162 = true then ((aC.f k t152 BI t154 BJ t156 t157).bind fun BK=>(if BK = 0 then (if BI.toList = ([100,101,102,97,117,108,116] : List UInt8) then (if BJ = 30 then (if (t157.length : Int) = 1 then (if 0 < (t157.length : Int) then (if ((au t157 0).f4) = 100 then (if ((au t157 0).f5) = 64 then ((dh.f).bind fun Bw=>((aC.f k Bw.1 Bw.2.1 Bw.2.2.1 Bw.2.2.2.1 Bw.2.2.2.2.1 Bw.2.2.2.2.2).bind fun BL=>(some (BL == 13)))) else (some false)) else (some false)) else (none)) else (some false)) else (some false)) else (some false)) else (some false))) else (some false))) = some r:=by rw [if_pos rfl] at H;exact H
  clear H
  have H:=H1
  clear H1
  replace H:=Option.bind_eq_some_iff.mp H
  obtain ⟨t162,Gg,H⟩:=H
  replace H : (if t162 = true then ((aC.f k t152 BI t154 BJ t156 t157).bind fun BK=>(if BK = 0 then (if BI.toList = ([100,101,102,97,117,108,116] : List UInt8) then (if BJ = 30 then (if (t157.length : Int) = 1 then (if 0 < (t157.length : Int) then (if ((au t157 0).f4) = 100 then (if ((au t157 0).f5) = 64 then ((dh.f).bind fun Bw=>((aC.f k Bw.1 Bw.2.1 Bw.2.2.1 Bw.2.2.2.1 Bw.2.2.2.2.1 Bw.2.2.2.2.2).bind fun BL=>(some (BL == 13)))) else (some false)) else (some false)) else (none)) else (some false)) else (some false)) else (some false)) else (some false))) else (some false)) = some r:=H
  have A5:=Aside0.mk Gg
  clear Gg
  by_cases c6 : t162 = true
  ·subst c6
   have H1 : ((aC.f k t152 BI t154 BJ t156 t157).bind fun BK=>(if BK = 0 then (if BI.toList = ([100,101,102,97,117,108,116] : List UInt8) then (if BJ = 30 then (if (t157.length : Int) = 1 then (if 0 < (t157.length : Int) then (if ((au t157 0).f4) = 100 then (if ((au t157 0).f5) = 64 then ((dh.f).bind fun Bw=>((aC.f k Bw.1 Bw.2.1 Bw.2.2.1 Bw.2.2.2.1 Bw.2.2.2.2.1 Bw.2.2.2.2.2).bind fun BL=>(some (BL == 13)))) else (some false)) else (some false)) else (none)) else (some false)) else (some false)) else (some false)) else (some false))) = some r:=by rw [if_pos rfl] at H;exact H
   clear H
   have H:=H1
   clear H1
   replace H:=Option.bind_eq_some_iff.mp H
   obtain ⟨BK,Gh,H⟩:=H
   replace H : (if BK = 0 then (if BI.toList = ([100,101,102,97,117,108,116] : List UInt8) then (if BJ = 30 then (if (t157.length : Int) = 1 then (if 0 < (t157.length : Int) then (if ((au t157 0).f4) = 100 then (if ((au t157 0).f5) = 64 then ((dh.f).bind fun Bw=>((aC.f k Bw.1 Bw.2.1 Bw.2.2.1 Bw.2.2.2.1 Bw.2.2.2.2.1 Bw.2.2.2.2.2).bind fun BL=>(some (BL == 13)))) else (some false)) else (some false)) else (none)) else (some false)) else (some false)) else (some false)) else (some false)) = some r:=H
   have A7:=Aside0.mk Gh
   clear Gh
   by_cases c8 : BK = 0
   ·rw [if_pos c8] at H
    have c8b0 : (BK == 0) = true:=beq_iff_eq.mpr c8
    have c8b1 : (BK != 0) = false:=bne_eq_false_iff_eq.mpr c8
    clear c8
    by_cases c9 : BI.toList = ([100,101,102,97,117,108,116] : List UInt8)
    ·rw [if_pos c9] at H
     have c9b0 : (BI.toList == ([100,101,102,97,117,108,116] : List UInt8)) = true:=beq_iff_eq.mpr c9
     have c9b1 : (BI.toList != ([100,101,102,97,117,108,116] : List UInt8)) = false:=bne_eq_false_iff_eq.mpr c9
     clear c9
     by_cases c10 : BJ = 30
     ·rw [if_pos c10] at H
      have c10b0 : (BJ == 30) = true:=beq_iff_eq.mpr c10
      have c10b1 : (BJ != 30) = false:=bne_eq_false_iff_eq.mpr c10
      clear c10
      by_cases c11 : (t157.length : Int) = 1
      ·rw [if_pos c11] at H
       have c11b0 : ((t157.length : Int) == 1) = true:=beq_iff_eq.mpr c11
       have c11b1 : ((t157.length : Int) != 1) = false:=bne_eq_false_iff_eq.mpr c11
       clear c11
       by_cases c12 : 0 < (t157.length : Int)
       ·rw [if_pos c12] at H
        have c12b0 : decide (0 < (t157.length : Int)) = true:=decide_eq_true c12
        have c12b1 : decide (0 < t157.length) = true:=decide_eq_true (by omega)
        clear c12
        by_cases c13 : ((au t157 0).f4) = 100
        ·rw [if_pos c13] at H
         have c13b0 : (((au t157 0).f4) == 100) = true:=beq_iff_eq.mpr c13
         have c13b1 : (((au t157 0).f4) != 100) = false:=bne_eq_false_iff_eq.mpr c13
         clear c13
         by_cases c14 : ((au t157 0).f5) = 64
         ·rw [if_pos c14] at H
          have c14b0 : (((au t157 0).f5) == 64) = true:=beq_iff_eq.mpr c14
          have c14b1 : (((au t157 0).f5) != 64) = false:=bne_eq_false_iff_eq.mpr c14
          clear c14
          replace H:=Option.bind_eq_some_iff.mp H
          obtain ⟨⟨Ea,t167,t168,Eb,Ec,t171⟩,Em,H⟩:=H
          replace H : ((aC.f k Ea t167 t168 Eb Ec t171).bind fun BL=>(some (BL == 13))) = some r:=H
          have Gq:=Aside0.mk Em
          clear Em
          replace H:=Option.bind_eq_some_iff.mp H
          obtain ⟨BL,En,H⟩:=H
          replace H : (some (BL == 13)) = some r:=H
          have Gr:=Aside0.mk En
          clear En
          obtain rfl:=Option.some.inj H
          go_enter Tryz.func53,Tryz.ntmps53
          go_wp2_with (first|((with_reducible refine bG (f:=80) rfl ?_);refine dJ (some 2) rfl rfl Tryz.func80 (by kernel_rfl) rfl #[] rfl (by (try simp only [List.map_toArray,List.map_cons,List.map_nil]);first|done|rfl|(simp only [List.length_drop,List.length_take];rfl)|(simp (disch:=first|omega|(simp at *;omega)) only [dK,bW,eG];rfl)) ?_;(with_reducible refine (dh.calls  DX t145 t146 DY t148 DJ _ A1.out).mono ?_);rintro e Gx ⟨Gs,rfl,ho0,hb⟩;refine ⟨_,rfl,?_⟩;have Cw:=Aside0.mk (Kd.lH ho0 (aR hb_));have Cx:=Aside0.mk (aN hb_ hb);clear HB;have BH:=Cw;have HB:=Cx;clear Cw Cx;(try clear hb);(try clear hb2);(try clear hk);(try clear hi);(try clear ho0);obtain ⟨Eo,Ep,FT⟩:=Kd.jo BH.out;subst FT)|((with_reducible refine bG (f:=81) rfl ?_);refine dJ (some 3) rfl rfl Tryz.func81 (by kernel_rfl) rfl #[.agg #[.string DX,.string t145,.int .i64 t146,.int .i64 DY,.bool t148,.slice Eo DJ.length Ep]] rfl (by (try simp only [List.map_toArray,List.map_cons,List.map_nil]);first|done|rfl|(simp only [List.length_drop,List.length_take];rfl)|(simp (disch:=first|omega|(simp at *;omega)) only [dK,bW,eG];rfl)) ?_;(with_reducible refine (bP.calls DX t145 t146 DY t148 _ _ DJ t152 BI t154 BJ t156 t157 _ ?Dk ?Dl A2.out).mono ?_);(case Dk=>repeat (first|exact (Kd.jr BH.out).2.2|(with_reducible refine Kd.bH ?_ _)|(with_reducible refine Kd.bX ?_ _)|(with_reducible refine Kd.dA ?_)));(case Dl=>exact (Kd.jr BH.out).2.1);rintro e Gy ⟨Gt,rfl,ho0,hb⟩;refine ⟨_,rfl,?_⟩;have Cw:=Aside0.mk (Kd.fB (by (with_reducible repeat (first|apply Kd.dw|apply Kd.dx|apply Kd.dN));exact BH.out) hb);have Cx:=Aside0.mk (Kd.iT (Kd.dD (ok':=fun k_=>some k_ ≠ (.slice Eo DJ.length Ep : Value).ownBlock) ho0 (fun k_ hk_=>(Kd.fresh' (Kd.yY (by (with_reducible repeat (first|apply Kd.dw|apply Kd.dx|apply Kd.dN));exact BH.out)) k_ hk_))) (aR hb_));have Cz:=Aside0.mk (aN hb_ hb);clear BH;clear HB;have BH:=Cw;have BG:=Cx;have HB:=Cz;clear Cw Cx Cz;(try clear hb);(try clear hb2);(try clear hk);(try clear hi);(try clear ho0))|((with_reducible refine bN (N:=1) rfl ?_);(try (refine eX (by rfl) ?_;dsimp only));refine bT ?hg (N:=1) ?hd (cs:=#[.string (⟨#[]⟩ : ByteArray),.string (⟨#[]⟩ : ByteArray),.int .i64 0,.int .i64 0,.bool false,.slice none 0 0]) (t:=77) ?hr ?_;(case hd=>rfl);(case hg=>rfl);(case hr=>first|(go_simp;done)|(go_simp;rfl));intro BD hg Ei hbox hb;have Cw:=Aside0.mk (Kd.fB (by (with_reducible repeat (first|apply Kd.dw|apply Kd.dx|apply Kd.dN));exact BH.out) hb);have Cx:=Aside0.mk (Kd.dz (Kd.iq (kv_ BG.out) BD (Nat.le_of_eq hg.symm)) hb);have Cz:=Aside0.mk (aN hb_ hb);have Dm:=Aside0.mk (hbox);have D8:=Aside0.mk ((by rw [hg];exact (aR hb_) : w.heap.size ≤ BD));have D9:=Aside0.mk ((by rw [hg];exact (aR hb_) : w.heap.size ≤ BD));clear BH;clear BG;clear HB;have BH:=Cw;have BG:=Cx;have HB:=Cz;have Bz:=Dm;have Gi:=D8;have Er:=D9;clear Cw Cx Cz Dm D8 D9;clear hb hbox hg;have Ez : Ei.cell? ⟨BD,0,none⟩ = some (.string (⟨#[]⟩ : ByteArray)):=(ah Bz.out 0).trans rfl;have EA : Ei.cell? ⟨BD,1,none⟩ = some (.string (⟨#[]⟩ : ByteArray)):=(ah Bz.out 1).trans rfl;have EB : Ei.cell? ⟨BD,2,none⟩ = some (.int .i64 0):=(ah Bz.out 2).trans rfl;have EC : Ei.cell? ⟨BD,3,none⟩ = some (.int .i64 0):=(ah Bz.out 3).trans rfl;have ED : Ei.cell? ⟨BD,4,none⟩ = some (.bool false):=(ah Bz.out 4).trans rfl;have EF : Ei.cell? ⟨BD,5,none⟩ = some (.slice none 0 0):=(ah Bz.out 5).trans rfl;have EG:=av Bz.out 0;have EH:=av Bz.out 1;have EI:=av Bz.out 2;have EJ:=av Bz.out 3;have EK:=av Bz.out 4;have EL:=av Bz.out 5;obtain ⟨Dn,CF,FU⟩:=Kd.gI BG.out;subst FU)|((with_reducible refine bG (f:=82) rfl ?_);refine dJ (some 4) rfl rfl Tryz.func82 (by kernel_rfl) rfl #[] rfl (by (try simp only [List.map_toArray,List.map_cons,List.map_nil]);first|done|rfl|(simp only [List.length_drop,List.length_take];rfl)|(simp (disch:=first|omega|(simp at *;omega)) only [dK,bW,eG];rfl)) ?_;(with_reducible refine (dU.calls k  true _ A3.out (by first|assumption|exact GW.below hG (by first|exact HB.out|assumption|(repeat (first|(with_reducible first|exact HB.out|apply dG|apply bB|apply bL|refine eu ?_ Er.out)|exact HB.out)))|exact GW.drawn hG (by first|assumption|(repeat (first|exact Drawn0.refl _|assumption|apply Drawn0.step))))).mono ?_);rintro e Gz ⟨rfl,hb⟩;refine ⟨_,rfl,?_⟩;have Cw:=Aside0.mk (Kd.fB (by (with_reducible repeat (first|apply Kd.dw|apply Kd.dx|apply Kd.dN));exact (Kd.fV (Kd.dB (p:=⟨BD,5,none⟩) (Kd.dB (p:=⟨BD,4,none⟩) (Kd.dB (p:=⟨BD,3,none⟩) (Kd.dB (p:=⟨BD,2,none⟩) (Kd.dB (p:=⟨BD,1,none⟩) (Kd.dB (p:=⟨BD,0,none⟩) (Kd.gV BH.out Bz.out (by decide)) (fun _ hk=>hk.2) (.string t152)) (fun _ hk=>hk.2) (.string BI)) (fun _ hk=>hk.2) (.int .i64 t154)) (fun _ hk=>hk.2) (.int .i64 BJ)) (fun _ hk=>hk.2) (.bool t156)) (fun _ hk=>hk.2) (.slice Dn t157.length CF)) (fun _ h_=>h_.1))) hb);have Cx:=Aside0.mk (Kd.dz (by (with_reducible repeat (first|apply Kd.gJ|apply Kd.gK|apply Kd.gH));exact (Kd.dD (Kd.cK (p:=⟨BD,5,none⟩) (Kd.cK (p:=⟨BD,4,none⟩) (Kd.cK (p:=⟨BD,3,none⟩) (Kd.cK (p:=⟨BD,2,none⟩) (Kd.cK (p:=⟨BD,1,none⟩) (Kd.cK (p:=⟨BD,0,none⟩) (Kd.dD BG.out (fun k_ hk=>(⟨hk,hk.2⟩ : _ ∧ k_ ≠ BD))) (fun _ hk=>hk.2) (.string t152)) (fun _ hk=>hk.2) (.string BI)) (fun _ hk=>hk.2) (.int .i64 t154)) (fun _ hk=>hk.2) (.int .i64 BJ)) (fun _ hk=>hk.2) (.bool t156)) (fun _ hk=>hk.2) (.slice Dn t157.length CF)) (fun _ h_=>h_.1))) hb);have Cz:=Aside0.mk (aJ (g:=BD) (o:=.cells #[.string t152,.string BI,.int .i64 t154,.int .i64 BJ,.bool t156,.slice Dn t157.length CF] 77 (0,0)) (by (with_reducible repeat (first|apply aj|apply ay|apply ak));refine aQ (cs:=#[.string t152,.string BI,.int .i64 t154,.int .i64 BJ,.bool t156,.slice none 0 0]) ?_ 5 _ rfl;(with_reducible repeat (first|apply aj|apply ay|apply ak));refine aQ (cs:=#[.string t152,.string BI,.int .i64 t154,.int .i64 BJ,.bool false,.slice none 0 0]) ?_ 4 _ rfl;(with_reducible repeat (first|apply aj|apply ay|apply ak));refine aQ (cs:=#[.string t152,.string BI,.int .i64 t154,.int .i64 0,.bool false,.slice none 0 0]) ?_ 3 _ rfl;(with_reducible repeat (first|apply aj|apply ay|apply ak));refine aQ (cs:=#[.string t152,.string BI,.int .i64 0,.int .i64 0,.bool false,.slice none 0 0]) ?_ 2 _ rfl;(with_reducible repeat (first|apply aj|apply ay|apply ak));refine aQ (cs:=#[.string t152,.string (⟨#[]⟩ : ByteArray),.int .i64 0,.int .i64 0,.bool false,.slice none 0 0]) ?_ 1 _ rfl;(with_reducible repeat (first|apply aj|apply ay|apply ak));refine aQ (cs:=#[.string (⟨#[]⟩ : ByteArray),.string (⟨#[]⟩ : ByteArray),.int .i64 0,.int .i64 0,.bool false,.slice none 0 0]) ?_ 0 _ rfl;(with_reducible repeat (first|apply aj|apply ay|apply ak));exact Bz.out) hb);have Dm:=Aside0.mk (aN hb_ hb);clear BH;clear BG;clear Bz;clear HB;have BH:=Cw;have BG:=Cx;have Bz:=Cz;have HB:=Dm;clear Cw Cx Cz Dm;(try clear hb);(try clear hb2);(try clear hk);(try clear hi))|(go_at_call 50;(with_reducible refine (bU.calls k  true _ A5.out).mono ?_);rintro e Ej ⟨rfl,hb⟩;have Cw:=Aside0.mk (Kd.fB (by (with_reducible repeat (first|apply Kd.dw|apply Kd.dx|apply Kd.dN));exact BH.out) hb);have Cx:=Aside0.mk (Kd.dz (kv_ BG.out) hb);have Cz:=Aside0.mk (aJ (g:=BD) (o:=.cells #[.string t152,.string BI,.int .i64 t154,.int .i64 BJ,.bool t156,.slice Dn t157.length CF] 77 (0,0)) (bk_ Bz.out) hb);have Dm:=Aside0.mk (aN hb_ hb);clear BH;clear BG;clear Bz;clear HB;have BH:=Cw;have BG:=Cx;have Bz:=Cz;have HB:=Dm;clear Cw Cx Cz Dm;(try clear hb);(try clear hb2);(try clear hk);(try clear hi);have EM : Ej.cell? ⟨BD,0,none⟩ = some (.string t152):=(ah Bz.out 0).trans rfl;have EN : Ej.cell? ⟨BD,1,none⟩ = some (.string BI):=(ah Bz.out 1).trans rfl;have EO : Ej.cell? ⟨BD,2,none⟩ = some (.int .i64 t154):=(ah Bz.out 2).trans rfl;have EP : Ej.cell? ⟨BD,3,none⟩ = some (.int .i64 BJ):=(ah Bz.out 3).trans rfl;have ER : Ej.cell? ⟨BD,4,none⟩ = some (.bool t156):=(ah Bz.out 4).trans rfl;have ES : Ej.cell? ⟨BD,5,none⟩ = some (.slice Dn t157.length CF):=(ah Bz.out 5).trans rfl;have ET:=av Bz.out 0;have EU:=av Bz.out 1;have EW:=av Bz.out 2;have EX:=av Bz.out 3;have EY:=av Bz.out 4;have EZ:=av Bz.out 5)|(go_at_call 83;(with_reducible refine (aC.calls k t152 BI t154 BJ t156 _ _ t157 BK _ ?Dk ?Dl A7.out).mono ?_);(case Dk=>repeat (first|exact (Kd.d9 BG.out).2.2|(with_reducible refine Kd.bH ?_ _)|(with_reducible refine Kd.bX ?_ _)|(with_reducible refine Kd.dA ?_)));(case Dl=>exact (Kd.d9 BG.out).2.1);rintro e El ⟨rfl,hb⟩;have Cw:=Aside0.mk (Kd.fB (by (with_reducible repeat (first|apply Kd.dw|apply Kd.dx|apply Kd.dN));exact BH.out) hb);have Cx:=Aside0.mk (Kd.dz (kv_ BG.out) hb);have Cz:=Aside0.mk (aJ (g:=BD) (o:=.cells #[.string t152,.string BI,.int .i64 t154,.int .i64 BJ,.bool t156,.slice Dn t157.length CF] 77 (0,0)) (bk_ Bz.out) hb);have Dm:=Aside0.mk (aN hb_ hb);clear BH;clear BG;clear Bz;clear HB;have BH:=Cw;have BG:=Cx;have Bz:=Cz;have HB:=Dm;clear Cw Cx Cz Dm;(try clear hb);(try clear hb2);(try clear hk);(try clear hi);have E5 : El.cell? ⟨BD,0,none⟩ = some (.string t152):=(ah Bz.out 0).trans rfl;have E8 : El.cell? ⟨BD,1,none⟩ = some (.string BI):=(ah Bz.out 1).trans rfl;have E9 : El.cell? ⟨BD,2,none⟩ = some (.int .i64 t154):=(ah Bz.out 2).trans rfl;have Fa : El.cell? ⟨BD,3,none⟩ = some (.int .i64 BJ):=(ah Bz.out 3).trans rfl;have Fb : El.cell? ⟨BD,4,none⟩ = some (.bool t156):=(ah Bz.out 4).trans rfl;have Fe : El.cell? ⟨BD,5,none⟩ = some (.slice Dn t157.length CF):=(ah Bz.out 5).trans rfl;have Fg:=av Bz.out 0;have Fh:=av Bz.out 1;have Fj:=av Bz.out 2;have Fp:=av Bz.out 3;have Fq:=av Bz.out 4;have Fu:=av Bz.out 5;have DZ : 0 ≤ (0 : Int):=(by omega);have D5 : 0 < (t157.length : Int):=of_decide_eq_true (by first|(with_reducible assumption)|assumption);obtain ⟨DK,FV,FW,FX,FY,FZ,F3,F4,CG,CJ,Ch,Ci,CK,CO,Cj,Dp,Dq,Dr,Dt,Du,Dv⟩:=kF (Kd.d9 BG.out).2.2 0 DZ D5;cases F4;obtain ⟨Gj,Ed,Ee,CP⟩:=Kd.tq BG.out z84 0 DZ (by first|exact D5|exact of_decide_eq_true (by first|(with_reducible assumption)|assumption)|(have e_:=(Kd.d9 BG.out).1;omega));obtain ⟨Fv,Fw,Fx,Fy,Fz,FB,rfl,CQ,CS,CU,CV,CW,CX⟩:=j6 Ee;have Co:=CP 2 _ rfl;rw [bM _ _ 2 (by omega)] at Co;replace Co:=Option.some.inj (Co.symm.trans Ch);injection Co with hva_ hvn_ hvc_;rw [hva_] at CS;rw [hvc_] at CQ;have BZ:=Aside0.mk (show Kd.V Kd.string 9 _ w.heap.size _ _ ((au t157 0).f2) from Kd.mH CQ CS);clear hva_ hvn_ hvc_ CS CQ;have Cq:=CP 3 _ rfl;rw [bM _ _ 3 (by omega)] at Cq;replace Cq:=Option.some.inj (Cq.symm.trans Ci);injection Cq with hva_ hvn_ hvc_;rw [hva_] at CV;rw [hvc_] at CU;have Ca:=Aside0.mk (show Kd.V jG 126 _ w.heap.size _ _ ((au t157 0).f3) from Kd.mH CU CV);clear hva_ hvn_ hvc_ CV CU;have Cr:=CP 6 _ rfl;rw [bM _ _ 6 (by omega)] at Cr;replace Cr:=Option.some.inj (Cr.symm.trans Cj);injection Cr with hva_ hvn_ hvc_;rw [hva_] at CX;rw [hvc_] at CW;have Cb:=Aside0.mk (show Kd.V jH 127 _ w.heap.size _ _ ((au t157 0).f6) from Kd.mH CW CX);clear hva_ hvn_ hvc_ CX CW;clear CP Ed;have Gl : (0 < t157.length) = True:=eq_true (by omega);(try rw [show ((0 : Int)).toNat = 0 from rfl] at CG);(try rw [show 0 * 7 = 0 from rfl] at CG);(try rw [Addr.add_zero'] at CG);(try rw [show ((0 : Int)).toNat = 0 from rfl] at CJ);(try rw [show 0 * 7 = 0 from rfl] at CJ);(try rw [Addr.add_zero'] at CJ);(try rw [show ((0 : Int)).toNat = 0 from rfl] at Ch);(try rw [show 0 * 7 = 0 from rfl] at Ch);(try rw [Addr.add_zero'] at Ch);(try rw [show ((0 : Int)).toNat = 0 from rfl] at Ci);(try rw [show 0 * 7 = 0 from rfl] at Ci);(try rw [Addr.add_zero'] at Ci);(try rw [show ((0 : Int)).toNat = 0 from rfl] at CK);(try rw [show 0 * 7 = 0 from rfl] at CK);(try rw [Addr.add_zero'] at CK);(try rw [show ((0 : Int)).toNat = 0 from rfl] at CO);(try rw [show 0 * 7 = 0 from rfl] at CO);(try rw [Addr.add_zero'] at CO);(try rw [show ((0 : Int)).toNat = 0 from rfl] at Cj);(try rw [show 0 * 7 = 0 from rfl] at Cj);(try rw [Addr.add_zero'] at Cj);have BN:=Aside0.mk Dq;have FC:=Aside0.mk Dp;clear Dq Dp;have BO:=Aside0.mk Dt;have FD:=Aside0.mk Dr;clear Dt Dr;have BP:=Aside0.mk Dv;have FE:=Aside0.mk Du;clear Dv Du;replace DZ:=eq_true DZ;replace D5:=eq_true D5;have D6 : 0 ≤ (0 : Int):=(by omega);have D7 : 0 < (t157.length : Int):=of_decide_eq_true (by first|(with_reducible assumption)|assumption);obtain ⟨Es,F5,F6,F7,F8,F9,Ga,e165,CY,CZ,Ck,Cm,C8,C9,Cn,Dw,Dx,Dy,Dz,DF,DI⟩:=kF (Kd.d9 BG.out).2.2 0 D6 D7;obtain rfl : DK = Es:=(by injection e165);obtain ⟨Gm,Ef,Eh,Da⟩:=Kd.tq BG.out z84 0 D6 (by first|exact D7|exact of_decide_eq_true (by first|(with_reducible assumption)|assumption)|(have e_:=(Kd.d9 BG.out).1;omega));obtain ⟨FH,FI,FJ,FL,FM,FN,rfl,Db,Dc,Df,Dh,Di,Dj⟩:=j6 Eh;have Ct:=Da 2 _ rfl;rw [bM _ _ 2 (by omega)] at Ct;replace Ct:=Option.some.inj (Ct.symm.trans Ck);injection Ct with hva_ hvn_ hvc_;rw [hva_] at Dc;rw [hvc_] at Db;have Cc:=Aside0.mk (show Kd.V Kd.string 9 _ w.heap.size _ _ ((au t157 0).f2) from Kd.mH Db Dc);clear hva_ hvn_ hvc_ Dc Db;have Cu:=Da 3 _ rfl;rw [bM _ _ 3 (by omega)] at Cu;replace Cu:=Option.some.inj (Cu.symm.trans Cm);injection Cu with hva_ hvn_ hvc_;rw [hva_] at Dh;rw [hvc_] at Df;have Ce:=Aside0.mk (show Kd.V jG 126 _ w.heap.size _ _ ((au t157 0).f3) from Kd.mH Df Dh);clear hva_ hvn_ hvc_ Dh Df;have Cv:=Da 6 _ rfl;rw [bM _ _ 6 (by omega)] at Cv;replace Cv:=Option.some.inj (Cv.symm.trans Cn);injection Cv with hva_ hvn_ hvc_;rw [hva_] at Dj;rw [hvc_] at Di;have Cg:=Aside0.mk (show Kd.V jH 127 _ w.heap.size _ _ ((au t157 0).f6) from Kd.mH Di Dj);clear hva_ hvn_ hvc_ Dj Di;clear Da Ef;have Gn : (0 < t157.length) = True:=eq_true (by omega);(try rw [show ((0 : Int)).toNat = 0 from rfl] at CY);(try rw [show 0 * 7 = 0 from rfl] at CY);(try rw [Addr.add_zero'] at CY);(try rw [show ((0 : Int)).toNat = 0 from rfl] at CZ);(try rw [show 0 * 7 = 0 from rfl] at CZ);(try rw [Addr.add_zero'] at CZ);(try rw [show ((0 : Int)).toNat = 0 from rfl] at Ck);(try rw [show 0 * 7 = 0 from rfl] at Ck);(try rw [Addr.add_zero'] at Ck);(try rw [show ((0 : Int)).toNat = 0 from rfl] at Cm);(try rw [show 0 * 7 = 0 from rfl] at Cm);(try rw [Addr.add_zero'] at Cm);(try rw [show ((0 : Int)).toNat = 0 from rfl] at C8);(try rw [show 0 * 7 = 0 from rfl] at C8);(try rw [Addr.add_zero'] at C8);(try rw [show ((0 : Int)).toNat = 0 from rfl] at C9);(try rw [show 0 * 7 = 0 from rfl] at C9);(try rw [Addr.add_zero'] at C9);(try rw [show ((0 : Int)).toNat = 0 from rfl] at Cn);(try rw [show 0 * 7 = 0 from rfl] at Cn);(try rw [Addr.add_zero'] at Cn);have BQ:=Aside0.mk Dx;have FP:=Aside0.mk Dw;clear Dx Dw;have BR:=Aside0.mk Dz;have FQ:=Aside0.mk Dy;clear Dz Dy;have BS:=Aside0.mk DI;have FR:=Aside0.mk DF;clear DI DF;replace D6:=eq_true D6;replace D7:=eq_true D7;have ea_:=Option.some.inj (Ch.symm.trans Ck);injection ea_ with ea_ en_ ec_;subst ea_;subst ec_;clear en_;have ea_:=Option.some.inj (Ci.symm.trans Cm);injection ea_ with ea_ en_ ec_;subst ea_;subst ec_;clear en_;have ea_:=Option.some.inj (Cj.symm.trans Cn);injection ea_ with ea_ en_ ec_;subst ea_;subst ec_;clear en_)|(go_at_call 80;(with_reducible refine (dh.calls  Ea t167 t168 Eb Ec t171 _ Gq.out).mono ?_);rintro e GA ⟨Gu,rfl,ho0,hb⟩;have Cw:=Aside0.mk (Kd.qN (by (with_reducible repeat (first|apply Kd.dw|apply Kd.dx|apply Kd.dN));exact BH.out) (Kd.iV ho0) hb);have Cx:=Aside0.mk (Kd.ig (kv_ BG.out) (Kd.iV ho0) hb);have Cz:=Aside0.mk (Kd.ig (kv_ BZ.out) (Kd.iV ho0) hb);have Dm:=Aside0.mk (Kd.ig (kv_ Ca.out) (Kd.iV ho0) hb);have D8:=Aside0.mk (Kd.ig (kv_ Cb.out) (Kd.iV ho0) hb);have D9:=Aside0.mk (Kd.ig (kv_ Cc.out) (Kd.iV ho0) hb);have Et:=Aside0.mk (Kd.ig (kv_ Ce.out) (Kd.iV ho0) hb);have Eu:=Aside0.mk (Kd.ig (kv_ Cg.out) (Kd.iV ho0) hb);have Ew:=Aside0.mk (Kd.lH (Kd.vk ho0 (Kd.yY (by (with_reducible repeat (first|apply Kd.dw|apply Kd.dx|apply Kd.dN));exact BH.out))) (aR hb_));have Ey:=Aside0.mk (aJ (g:=BD) (o:=.cells #[.string t152,.string BI,.int .i64 t154,.int .i64 BJ,.bool t156,.slice (some DK) t157.length CF] 77 (0,0)) (bk_ Bz.out) hb);have DL:=Aside0.mk (Kd.bJ (by repeat (first|(with_reducible exact BN.out)|(with_reducible refine Kd.bH ?_ _)|(with_reducible refine Kd.bX ?_ _)|(with_reducible refine Kd.dA ?_)|exact BN.out)) hb);have DN:=Aside0.mk (Kd.bJ (by repeat (first|(with_reducible exact BO.out)|(with_reducible refine Kd.bH ?_ _)|(with_reducible refine Kd.bX ?_ _)|(with_reducible refine Kd.dA ?_)|exact BO.out)) hb);have DR:=Aside0.mk (Kd.bJ (by repeat (first|(with_reducible exact BP.out)|(with_reducible refine Kd.bH ?_ _)|(with_reducible refine Kd.bX ?_ _)|(with_reducible refine Kd.dA ?_)|exact BP.out)) hb);have DT:=Aside0.mk (Kd.bJ (by repeat (first|(with_reducible exact BQ.out)|(with_reducible refine Kd.bH ?_ _)|(with_reducible refine Kd.bX ?_ _)|(with_reducible refine Kd.dA ?_)|exact BQ.out)) hb);have DU:=Aside0.mk (Kd.bJ (by repeat (first|(with_reducible exact BR.out)|(with_reducible refine Kd.bH ?_ _)|(with_reducible refine Kd.bX ?_ _)|(with_reducible refine Kd.dA ?_)|exact BR.out)) hb);have DV:=Aside0.mk (Kd.bJ (by repeat (first|(with_reducible exact BS.out)|(with_reducible refine Kd.bH ?_ _)|(with_reducible refine Kd.bX ?_ _)|(with_reducible refine Kd.dA ?_)|exact BS.out)) hb);have DW:=Aside0.mk (aN hb_ hb);clear BH;clear BG;clear BZ;clear Ca;clear Cb;clear Cc;clear Ce;clear Cg;clear Bz;clear BN;clear BO;clear BP;clear BQ;clear BR;clear BS;clear HB;have BH:=Cw;have BG:=Cx;have BZ:=Cz;have Ca:=Dm;have Cb:=D8;have Cc:=D9;have Ce:=Et;have Cg:=Eu;have CB:=Ew;have Bz:=Ey;have BN:=DL;have BO:=DN;have BP:=DR;have BQ:=DT;have BR:=DU;have BS:=DV;have HB:=DW;clear Cw Cx Cz Dm D8 D9 Et Eu Ew Ey DL DN DR DT DU DV DW;(try clear hb);(try clear hb2);(try clear hk);(try clear hi);(try clear ho0);obtain ⟨Gv,Gw,Gb⟩:=Kd.jo CB.out;subst Gb)|(go_at_call 83;(with_reducible refine (aC.calls k Ea t167 t168 Eb Ec _ _ t171 BL _ ?Dk ?Dl Gr.out).mono ?_);(case Dk=>repeat (first|exact (Kd.jr CB.out).2.2|(with_reducible refine Kd.bH ?_ _)|(with_reducible refine Kd.bX ?_ _)|(with_reducible refine Kd.dA ?_)));(case Dl=>exact (Kd.jr CB.out).2.1);rintro e GD ⟨rfl,hb⟩;have Cw:=Aside0.mk (Kd.fB (by (with_reducible repeat (first|apply Kd.dw|apply Kd.dx|apply Kd.dN));exact BH.out) hb);have Cx:=Aside0.mk (Kd.dz (kv_ BG.out) hb);have Cz:=Aside0.mk (Kd.dz (kv_ BZ.out) hb);have Dm:=Aside0.mk (Kd.dz (kv_ Ca.out) hb);have D8:=Aside0.mk (Kd.dz (kv_ Cb.out) hb);have D9:=Aside0.mk (Kd.dz (kv_ Cc.out) hb);have Et:=Aside0.mk (Kd.dz (kv_ Ce.out) hb);have Eu:=Aside0.mk (Kd.dz (kv_ Cg.out) hb);have Ew:=Aside0.mk (Kd.fB (by (with_reducible repeat (first|apply Kd.dw|apply Kd.dx|apply Kd.dN));exact CB.out) hb);have Ey:=Aside0.mk (aJ (g:=BD) (o:=.cells #[.string t152,.string BI,.int .i64 t154,.int .i64 BJ,.bool t156,.slice (some DK) t157.length CF] 77 (0,0)) (bk_ Bz.out) hb);have DL:=Aside0.mk (Kd.bJ (by repeat (first|(with_reducible exact BN.out)|(with_reducible refine Kd.bH ?_ _)|(with_reducible refine Kd.bX ?_ _)|(with_reducible refine Kd.dA ?_)|exact BN.out)) hb);have DN:=Aside0.mk (Kd.bJ (by repeat (first|(with_reducible exact BO.out)|(with_reducible refine Kd.bH ?_ _)|(with_reducible refine Kd.bX ?_ _)|(with_reducible refine Kd.dA ?_)|exact BO.out)) hb);have DR:=Aside0.mk (Kd.bJ (by repeat (first|(with_reducible exact BP.out)|(with_reducible refine Kd.bH ?_ _)|(with_reducible refine Kd.bX ?_ _)|(with_reducible refine Kd.dA ?_)|exact BP.out)) hb);have DT:=Aside0.mk (Kd.bJ (by repeat (first|(with_reducible exact BQ.out)|(with_reducible refine Kd.bH ?_ _)|(with_reducible refine Kd.bX ?_ _)|(with_reducible refine Kd.dA ?_)|exact BQ.out)) hb);have DU:=Aside0.mk (Kd.bJ (by repeat (first|(with_reducible exact BR.out)|(with_reducible refine Kd.bH ?_ _)|(with_reducible refine Kd.bX ?_ _)|(with_reducible refine Kd.dA ?_)|exact BR.out)) hb);have DV:=Aside0.mk (Kd.bJ (by repeat (first|(with_reducible exact BS.out)|(with_reducible refine Kd.bH ?_ _)|(with_reducible refine Kd.bX ?_ _)|(with_reducible refine Kd.dA ?_)|exact BS.out)) hb);have DW:=Aside0.mk (aN hb_ hb);clear BH;clear BG;clear BZ;clear Ca;clear Cb;clear Cc;clear Ce;clear Cg;clear CB;clear Bz;clear BN;clear BO;clear BP;clear BQ;clear BR;clear BS;clear HB;have BH:=Cw;have BG:=Cx;have BZ:=Cz;have Ca:=Dm;have Cb:=D8;have Cc:=D9;have Ce:=Et;have Cg:=Eu;have CB:=Ew;have Bz:=Ey;have BN:=DL;have BO:=DN;have BP:=DR;have BQ:=DT;have BR:=DU;have BS:=DV;have HB:=DW;clear Cw Cx Cz Dm D8 D9 Et Eu Ew Ey DL DN DR DT DU DV DW;(try clear hb);(try clear hb2);(try clear hk);(try clear hi)))
          go_ret
          exact ⟨by first|rfl|(simp [bg,bA] <;> rfl)|(simp [*,bg,bA] <;> rfl),hb_⟩
         ·rw [if_neg c14] at H
          have c14b0 : (((au t157 0).f5) == 64) = false:=beq_eq_false_iff_ne.mpr c14
          have c14b1 : (((au t157 0).f5) != 64) = true:=bne_iff_ne.mpr c14
          exact absurd ((Option.some.inj H).trans HTr.out) (by decide)
        ·rw [if_neg c13] at H
         have c13b0 : (((au t157 0).f4) == 100) = false:=beq_eq_false_iff_ne.mpr c13
         have c13b1 : (((au t157 0).f4) != 100) = true:=bne_iff_ne.mpr c13
         exact absurd ((Option.some.inj H).trans HTr.out) (by decide)
       ·rw [if_neg c12] at H
        exact absurd H (by simp)
      ·rw [if_neg c11] at H
       have c11b0 : ((t157.length : Int) == 1) = false:=beq_eq_false_iff_ne.mpr c11
       have c11b1 : ((t157.length : Int) != 1) = true:=bne_iff_ne.mpr c11
       exact absurd ((Option.some.inj H).trans HTr.out) (by decide)
     ·rw [if_neg c10] at H
      have c10b0 : (BJ == 30) = false:=beq_eq_false_iff_ne.mpr c10
      have c10b1 : (BJ != 30) = true:=bne_iff_ne.mpr c10
      exact absurd ((Option.some.inj H).trans HTr.out) (by decide)
    ·rw [if_neg c9] at H
     have c9b0 : (BI.toList == ([100,101,102,97,117,108,116] : List UInt8)) = false:=beq_eq_false_iff_ne.mpr c9
     have c9b1 : (BI.toList != ([100,101,102,97,117,108,116] : List UInt8)) = true:=bne_iff_ne.mpr c9
     exact absurd ((Option.some.inj H).trans HTr.out) (by decide)
   ·rw [if_neg c8] at H
    have c8b0 : (BK == 0) = false:=beq_eq_false_iff_ne.mpr c8
    have c8b1 : (BK != 0) = true:=bne_iff_ne.mpr c8
    exact absurd ((Option.some.inj H).trans HTr.out) (by decide)
  ·replace c6:=Bool.eq_false_iff.mpr c6
   subst c6
   have H1 : (some false) = some r:=by rw [if_neg (show ¬ (false = true) by decide)] at H;exact H
   clear H
   have H:=H1
   clear H1
   exact absurd ((Option.some.inj H).trans HTr.out) (by decide)
 ·replace c4:=Bool.eq_false_iff.mpr c4
  subst c4
  have H1 : (some false) = some r:=by rw [if_neg (show ¬ (false = true) by decide)] at H;exact H
  clear H
  have H:=H1
  clear H1
  exact absurd ((Option.some.inj H).trans HTr.out) (by decide)
theorem bZ.calls (k : Nat)  (r : Bool) (w : World) (h : bZ.f k  = some r) (hG : GW.GW w) :   Calls Tryz.prog 53 #[] w fun e w'=>e = .returned (.bool r) ∧ Below w.heap.size w w':=by
 cases r with
 | true=>exact bZ.kH k true w h hG rfl
 | false=>
  exfalso
  have a : bZ.f 60 = some true:=by decide +kernel
  have b:=gX (g:=fun k=>bZ.f k) (fun k=>bZ.mono k) (Nat.le_max_left k 60) h
  have c:=gX (g:=fun k=>bZ.f k) (fun k=>bZ.mono k) (Nat.le_max_right k 60) a
  exact Bool.noConfusion (Option.some.inj (b.symm.trans c))
end Go.Proofs.YtpncpefppifgdaaGreatDoor.GUt
