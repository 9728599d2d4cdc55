/- Written by this session's own program (wip/gen.py) out of the translation: plain Lean functions of the Go functions, and proofs that the calls come to their answers. No conditions beside those in the statements. -/
import Derived.Test.YtpflenjhmeaeoaaDoorCp
import Derived.Test.YtpflenjhmeaeoaaDoorGUtx0
import Derived.Test.YtpflenjhmeaeoaaDoorGUtx7
import Derived.Test.YtpflenjhmeaeoaaDoorGUtx13
import Derived.Test.YtpflenjhmeaeoaaDoorGUtx14
import Derived.Test.YtpflenjhmeaeoaaDoorGUtCheck
import Derived.Test.YtpflenjhmeaeoaaDoorGUtDefault
import Derived.Test.YtpflenjhmeaeoaaDoorGW
namespace Go.Proofs.YtpflenjhmeaeoaaDoor.GUt
open Go.RowKit Go.Proofs.YtpflenjhmeaeoaaDoorW.PrintWords Go.Proofs.YtpflenjhmeaeoaaDoorW.PrintLast Go.Proofs.YtpflenjhmeaeoaaDoorW.PrintMore
attribute [local go_sem] fC fD gu gD eP eT fE fF
set_option linter.unusedVariables false
set_option linter.unusedSimpArgs false
def bY.f (k : Nat)  : Option (Bool):=(bX.f).bind fun AV=>((bU.f AV.1 AV.2.1 AV.2.2.1 AV.2.2.2.1 AV.2.2.2.2.1 AV.2.2.2.2.2).bind fun Aq=>((dS.f k).bind fun BH=>(if BH = true then ((bT.f k).bind fun t226=>(if t226 = true then ((av.f k Aq.1 Aq.2.1 Aq.2.2.1 Aq.2.2.2.1 Aq.2.2.2.2.1 Aq.2.2.2.2.2).bind fun t227=>(if t227 = 0 then (if Aq.2.1.toList = ([100,101,102,97,117,108,116] : List UInt8) then (if Aq.2.2.2.1 = 30 then (if (Aq.2.2.2.2.2.length : Int) = 1 then (if 0 < (Aq.2.2.2.2.2.length : Int) then (if ((aj Aq.2.2.2.2.2 0).f4) = 100 then (if ((aj Aq.2.2.2.2.2 0).f5) = 64 then ((bX.f).bind fun Al=>((av.f k Al.1 Al.2.1 Al.2.2.1 Al.2.2.2.1 Al.2.2.2.2.1 Al.2.2.2.2.2).bind fun AA=>(some (AA == 13)))) else (some false)) else (some false)) else (none)) else (some false)) else (some false)) else (some false)) else (some false))) else (some false))) else (some false))))
theorem bY.mono : ∀ k,LeO (bY.f k ) (bY.f (k + 1) ):=by
 intro  k
 unfold bY.f
 repeat' first
   | (with_reducible exact dS.mono _)
   | (with_reducible exact bT.mono _)
   | (with_reducible exact av.mono _ _ _ _ _ _ _)
   | (with_reducible exact LeO.refl _)
   | (with_reducible exact LeO.none _)
   | (with_reducible refine LeO.ite ?_ ?_)
   | (with_reducible refine LeO.bind ?_ (fun _=>?_))
   | exact dS.mono _
   | exact bT.mono _
   | exact av.mono _ _ _ _ _ _ _
   | exact LeO.none _
   | refine LeO.ite ?_ ?_
   | refine LeO.bind ?_ (fun _=>?_)
set_option maxHeartbeats 8000000 in
set_option maxRecDepth 100000 in
theorem bY.yQ (k : Nat)  (r : Bool) (w : World) (h : bY.f k  = some r) (hG : GW.GW w) (hT : r = true) :
  Calls Tryd.prog 8 #[] w fun e w'=>e = .returned (.bool r) ∧ Below w.heap.size w w':=by
 have HTr:=Aside0.mk hT
 clear hT
 have FI:=Tryd.underlying25
 have HB:=Aside0.mk (Below.refl w.heap.size w)
 have H : ((bX.f).bind fun AV=>((bU.f AV.1 AV.2.1 AV.2.2.1 AV.2.2.2.1 AV.2.2.2.2.1 AV.2.2.2.2.2).bind fun Aq=>((dS.f k).bind fun BH=>(if BH = true then ((bT.f k).bind fun t226=>(if t226 = true then ((av.f k Aq.1 Aq.2.1 Aq.2.2.1 Aq.2.2.2.1 Aq.2.2.2.2.1 Aq.2.2.2.2.2).bind fun t227=>(if t227 = 0 then (if Aq.2.1.toList = ([100,101,102,97,117,108,116] : List UInt8) then (if Aq.2.2.2.1 = 30 then (if (Aq.2.2.2.2.2.length : Int) = 1 then (if 0 < (Aq.2.2.2.2.2.length : Int) then (if ((aj Aq.2.2.2.2.2 0).f4) = 100 then (if ((aj Aq.2.2.2.2.2 0).f5) = 64 then ((bX.f).bind fun Al=>((av.f k Al.1 Al.2.1 Al.2.2.1 Al.2.2.2.1 Al.2.2.2.2.1 Al.2.2.2.2.2).bind fun AA=>(some (AA == 13)))) else (some false)) else (some false)) else (none)) else (some false)) else (some false)) else (some false)) else (some false))) else (some false))) else (some false))))) = some r:=h
 clear h
 replace H:=Option.bind_eq_some_iff.mp H
 obtain ⟨⟨t208,Da,t210,Db,t212,t213⟩,Fv,H⟩:=H
 replace H : ((bU.f t208 Da t210 Db t212 t213).bind fun Aq=>((dS.f k).bind fun BH=>(if BH = true then ((bT.f k).bind fun t226=>(if t226 = true then ((av.f k Aq.1 Aq.2.1 Aq.2.2.1 Aq.2.2.2.1 Aq.2.2.2.2.1 Aq.2.2.2.2.2).bind fun t227=>(if t227 = 0 then (if Aq.2.1.toList = ([100,101,102,97,117,108,116] : List UInt8) then (if Aq.2.2.2.1 = 30 then (if (Aq.2.2.2.2.2.length : Int) = 1 then (if 0 < (Aq.2.2.2.2.2.length : Int) then (if ((aj Aq.2.2.2.2.2 0).f4) = 100 then (if ((aj Aq.2.2.2.2.2 0).f5) = 64 then ((bX.f).bind fun Al=>((av.f k Al.1 Al.2.1 Al.2.2.1 Al.2.2.2.1 Al.2.2.2.2.1 Al.2.2.2.2.2).bind fun AA=>(some (AA == 13)))) else (some false)) else (some false)) else (none)) else (some false)) else (some false)) else (some false)) else (some false))) else (some false))) else (some false)))) = some r:=H
 have A1:=Aside0.mk Fv
 clear Fv
 replace H:=Option.bind_eq_some_iff.mp H
 obtain ⟨⟨AU,Ay,t218,Az,AX,Ao⟩,Fw,H⟩:=H
 replace H : ((dS.f k).bind fun BH=>(if BH = true then ((bT.f k).bind fun t226=>(if t226 = true then ((av.f k AU Ay t218 Az AX Ao).bind fun t227=>(if t227 = 0 then (if Ay.toList = ([100,101,102,97,117,108,116] : List UInt8) then (if Az = 30 then (if (Ao.length : Int) = 1 then (if 0 < (Ao.length : Int) then (if ((aj Ao 0).f4) = 100 then (if ((aj Ao 0).f5) = 64 then ((bX.f).bind fun Al=>((av.f k Al.1 Al.2.1 Al.2.2.1 Al.2.2.2.1 Al.2.2.2.2.1 Al.2.2.2.2.2).bind fun AA=>(some (AA == 13)))) else (some false)) else (some false)) else (none)) else (some false)) else (some false)) else (some false)) else (some false))) else (some false))) else (some false))) = some r:=H
 have A2:=Aside0.mk Fw
 clear Fw
 replace H:=Option.bind_eq_some_iff.mp H
 obtain ⟨BH,Fx,H⟩:=H
 replace H : (if BH = true then ((bT.f k).bind fun t226=>(if t226 = true then ((av.f k AU Ay t218 Az AX Ao).bind fun t227=>(if t227 = 0 then (if Ay.toList = ([100,101,102,97,117,108,116] : List UInt8) then (if Az = 30 then (if (Ao.length : Int) = 1 then (if 0 < (Ao.length : Int) then (if ((aj Ao 0).f4) = 100 then (if ((aj Ao 0).f5) = 64 then ((bX.f).bind fun Al=>((av.f k Al.1 Al.2.1 Al.2.2.1 Al.2.2.2.1 Al.2.2.2.2.1 Al.2.2.2.2.2).bind fun AA=>(some (AA == 13)))) else (some false)) else (some false)) else (none)) else (some false)) else (some false)) else (some false)) else (some false))) else (some false))) else (some false)) = some r:=H
 have A3:=Aside0.mk Fx
 clear Fx
 by_cases c4 : BH = true
 ·subst c4
  have H1 : ((bT.f k).bind fun t226=>(if t226 = true then ((av.f k AU Ay t218 Az AX Ao).bind fun t227=>(if t227 = 0 then (if Ay.toList = ([100,101,102,97,117,108,116] : List UInt8) then (if Az = 30 then (if (Ao.length : Int) = 1 then (if 0 < (Ao.length : Int) then (if ((aj Ao 0).f4) = 100 then (if ((aj Ao 0).f5) = 64 then ((bX.f).bind fun Al=>((av.f k Al.1 Al.2.1 Al.2.2.1 Al.2.2.2.1 Al.2.2.2.2.1 Al.2.2.2.2.2).bind fun AA=>(some (AA == 13)))) else (some false)) else (some false)) else (none)) else (some false)) else (some false)) else (some false)) else (some false))) else (some false))) = some r:=by rw [if_pos rfl] at H;exact H
  clear H
  have H:=H1
  clear H1
  replace H:=Option.bind_eq_some_iff.mp H
  obtain ⟨t226,Fy,H⟩:=H
  replace H : (if t226 = true then ((av.f k AU Ay t218 Az AX Ao).bind fun t227=>(if t227 = 0 then (if Ay.toList = ([100,101,102,97,117,108,116] : List UInt8) then (if Az = 30 then (if (Ao.length : Int) = 1 then (if 0 < (Ao.length : Int) then (if ((aj Ao 0).f4) = 100 then (if ((aj Ao 0).f5) = 64 then ((bX.f).bind fun Al=>((av.f k Al.1 Al.2.1 Al.2.2.1 Al.2.2.2.1 Al.2.2.2.2.1 Al.2.2.2.2.2).bind fun AA=>(some (AA == 13)))) else (some false)) else (some false)) else (none)) else (some false)) else (some false)) else (some false)) else (some false))) else (some false)) = some r:=H
  have A5:=Aside0.mk Fy
  clear Fy
  by_cases c6 : t226 = true
  ·subst c6
   have H1 : ((av.f k AU Ay t218 Az AX Ao).bind fun t227=>(if t227 = 0 then (if Ay.toList = ([100,101,102,97,117,108,116] : List UInt8) then (if Az = 30 then (if (Ao.length : Int) = 1 then (if 0 < (Ao.length : Int) then (if ((aj Ao 0).f4) = 100 then (if ((aj Ao 0).f5) = 64 then ((bX.f).bind fun Al=>((av.f k Al.1 Al.2.1 Al.2.2.1 Al.2.2.2.1 Al.2.2.2.2.1 Al.2.2.2.2.2).bind fun AA=>(some (AA == 13)))) else (some false)) else (some false)) else (none)) else (some false)) else (some false)) else (some false)) else (some false))) = some r:=by rw [if_pos rfl] at H;exact H
   clear H
   have H:=H1
   clear H1
   replace H:=Option.bind_eq_some_iff.mp H
   obtain ⟨t227,Fz,H⟩:=H
   replace H : (if t227 = 0 then (if Ay.toList = ([100,101,102,97,117,108,116] : List UInt8) then (if Az = 30 then (if (Ao.length : Int) = 1 then (if 0 < (Ao.length : Int) then (if ((aj Ao 0).f4) = 100 then (if ((aj Ao 0).f5) = 64 then ((bX.f).bind fun Al=>((av.f k Al.1 Al.2.1 Al.2.2.1 Al.2.2.2.1 Al.2.2.2.2.1 Al.2.2.2.2.2).bind fun AA=>(some (AA == 13)))) else (some false)) else (some false)) else (none)) else (some false)) else (some false)) else (some false)) else (some false)) = some r:=H
   have A7:=Aside0.mk Fz
   clear Fz
   by_cases c8 : t227 = 0
   ·rw [if_pos c8] at H
    have c8b0 : (t227 == 0) = true:=beq_iff_eq.mpr c8
    have c8b1 : (t227 != 0) = false:=bne_eq_false_iff_eq.mpr c8
    clear c8
    by_cases c9 : Ay.toList = ([100,101,102,97,117,108,116] : List UInt8)
    ·rw [if_pos c9] at H
     have c9b0 : (Ay.toList == ([100,101,102,97,117,108,116] : List UInt8)) = true:=beq_iff_eq.mpr c9
     have c9b1 : (Ay.toList != ([100,101,102,97,117,108,116] : List UInt8)) = false:=bne_eq_false_iff_eq.mpr c9
     clear c9
     by_cases c10 : Az = 30
     ·rw [if_pos c10] at H
      have c10b0 : (Az == 30) = true:=beq_iff_eq.mpr c10
      have c10b1 : (Az != 30) = false:=bne_eq_false_iff_eq.mpr c10
      clear c10
      by_cases c11 : (Ao.length : Int) = 1
      ·rw [if_pos c11] at H
       have c11b0 : ((Ao.length : Int) == 1) = true:=beq_iff_eq.mpr c11
       have c11b1 : ((Ao.length : Int) != 1) = false:=bne_eq_false_iff_eq.mpr c11
       clear c11
       by_cases c12 : 0 < (Ao.length : Int)
       ·rw [if_pos c12] at H
        have c12b0 : decide (0 < (Ao.length : Int)) = true:=decide_eq_true c12
        have c12b1 : decide (0 < Ao.length) = true:=decide_eq_true (by omega)
        clear c12
        by_cases c13 : ((aj Ao 0).f4) = 100
        ·rw [if_pos c13] at H
         have c13b0 : (((aj Ao 0).f4) == 100) = true:=beq_iff_eq.mpr c13
         have c13b1 : (((aj Ao 0).f4) != 100) = false:=bne_eq_false_iff_eq.mpr c13
         clear c13
         by_cases c14 : ((aj Ao 0).f5) = 64
         ·rw [if_pos c14] at H
          have c14b0 : (((aj Ao 0).f5) == 64) = true:=beq_iff_eq.mpr c14
          have c14b1 : (((aj Ao 0).f5) != 64) = false:=bne_eq_false_iff_eq.mpr c14
          clear c14
          replace H:=Option.bind_eq_some_iff.mp H
          obtain ⟨⟨Dl,Dm,t232,t233,t234,Dn⟩,Dx,H⟩:=H
          replace H : ((av.f k Dl Dm t232 t233 t234 Dn).bind fun AA=>(some (AA == 13))) = some r:=H
          have FJ:=Aside0.mk Dx
          clear Dx
          replace H:=Option.bind_eq_some_iff.mp H
          obtain ⟨AA,Dy,H⟩:=H
          replace H : (some (AA == 13)) = some r:=H
          have FL:=Aside0.mk Dy
          clear Dy
          obtain rfl:=Option.some.inj H
          go_enter Tryd.func8,Tryd.ntmps8
          go_wp2_with (first|((with_reducible refine bq (f:=31) rfl ?_);refine cO (some 2) rfl rfl Tryd.func31 (by kernel_rfl) rfl #[] rfl (by (try simp only [List.map_toArray,List.map_cons,List.map_nil]);first|done|rfl|(simp only [List.length_drop,List.length_take];rfl)|(simp (disch:=first|omega|(simp at *;omega)) only [cZ,bS,dQ];rfl)) ?_;(with_reducible refine (bX.calls  t208 Da t210 Db t212 t213 _ A1.out).mono ?_);rintro e FQ ⟨FM,rfl,ho0,hb⟩;refine ⟨_,rfl,?_⟩;have BF:=Aside0.mk (Kd.qg ho0 (aY hb_));have BG:=Aside0.mk (aJ hb_ hb);clear HB;have Aw:=BF;have HB:=BG;clear BF BG;(try clear hb);(try clear hb2);(try clear hk);(try clear hi);(try clear ho0);obtain ⟨Dz,DC,EX⟩:=Kd.qh Aw.out;subst EX)|((with_reducible refine bq (f:=13) rfl ?_);refine cO (some 3) rfl rfl Tryd.func13 (by kernel_rfl) rfl #[.agg #[.string t208,.string Da,.int .i64 t210,.int .i64 Db,.bool t212,.slice Dz t213.length DC]] rfl (by (try simp only [List.map_toArray,List.map_cons,List.map_nil]);first|done|rfl|(simp only [List.length_drop,List.length_take];rfl)|(simp (disch:=first|omega|(simp at *;omega)) only [cZ,bS,dQ];rfl)) ?_;(with_reducible refine (bU.calls t208 Da t210 Db t212 _ _ t213 AU Ay t218 Az AX Ao _ ?Cq ?Cr A2.out).mono ?_);(case Cq=>repeat (first|exact (Kd.lX Aw.out).2.2|(with_reducible refine Kd.bC ?_ _)|(with_reducible refine Kd.bO ?_ _)|(with_reducible refine Kd.bW ?_)));(case Cr=>exact (Kd.lX Aw.out).2.1);rintro e FR ⟨v222,rfl,ho0,hb⟩;refine ⟨_,rfl,?_⟩;have BF:=Aside0.mk (Kd.jk (by (with_reducible repeat (first|apply Kd.iY|apply Kd.iZ|apply Kd.jF));exact Aw.out) hb);have BG:=Aside0.mk (Kd.sK (Kd.dO (ok':=fun k_=>some k_ ≠ (.slice Dz t213.length DC : Value).ownBlock) ho0 (fun k_ hk_=>(Kd.fresh' (Kd.zo (by (with_reducible repeat (first|apply Kd.iY|apply Kd.iZ|apply Kd.jF));exact Aw.out)) k_ hk_))) (aY hb_));have BI:=Aside0.mk (aJ hb_ hb);clear Aw;clear HB;have Aw:=BF;have Au:=BG;have HB:=BI;clear BF BG BI;(try clear hb);(try clear hb2);(try clear hk);(try clear hi);(try clear ho0))|((with_reducible refine dA (N:=1) rfl ?_);(try (refine gH (by rfl) ?_;dsimp only));refine dG ?hg (N:=1) ?hd (cs:=#[.string (⟨#[]⟩ : ByteArray),.string (⟨#[]⟩ : ByteArray),.int .i64 0,.int .i64 0,.bool false,.slice none 0 0]) (t:=25) ?hr ?_;(case hd=>rfl);(case hg=>rfl);(case hr=>first|(go_simp;done)|(go_simp;rfl));intro Ap hg Du hbox hb;have BF:=Aside0.mk (Kd.jk (by (with_reducible repeat (first|apply Kd.iY|apply Kd.iZ|apply Kd.jF));exact Aw.out) hb);have BG:=Aside0.mk (Kd.dx (Kd.kF (kv_ Au.out) Ap (Nat.le_of_eq hg.symm)) hb);have BI:=Aside0.mk (aJ hb_ hb);have Ct:=Aside0.mk (hbox);have Dj:=Aside0.mk ((by rw [hg];exact (aY hb_) : w.heap.size ≤ Ap));have Dk:=Aside0.mk ((by rw [hg];exact (aY hb_) : w.heap.size ≤ Ap));clear Aw;clear Au;clear HB;have Aw:=BF;have Au:=BG;have HB:=BI;have Am:=Ct;have FB:=Dj;have DF:=Dk;clear BF BG BI Ct Dj Dk;clear hb hbox hg;have DR : Du.cell? ⟨Ap,0,none⟩ = some (.string (⟨#[]⟩ : ByteArray)):=(ah Am.out 0).trans rfl;have DT : Du.cell? ⟨Ap,1,none⟩ = some (.string (⟨#[]⟩ : ByteArray)):=(ah Am.out 1).trans rfl;have DU : Du.cell? ⟨Ap,2,none⟩ = some (.int .i64 0):=(ah Am.out 2).trans rfl;have DV : Du.cell? ⟨Ap,3,none⟩ = some (.int .i64 0):=(ah Am.out 3).trans rfl;have DW : Du.cell? ⟨Ap,4,none⟩ = some (.bool false):=(ah Am.out 4).trans rfl;have DX : Du.cell? ⟨Ap,5,none⟩ = some (.slice none 0 0):=(ah Am.out 5).trans rfl;have DY:=au Am.out 0;have DZ:=au Am.out 1;have D5:=au Am.out 2;have D6:=au Am.out 3;have D7:=au Am.out 4;have D8:=au Am.out 5;obtain ⟨Cu,BK,EY⟩:=Kd.fO Au.out;subst EY)|((with_reducible refine bq (f:=32) rfl ?_);refine cO (some 4) rfl rfl Tryd.func32 (by kernel_rfl) rfl #[] rfl (by (try simp only [List.map_toArray,List.map_cons,List.map_nil]);first|done|rfl|(simp only [List.length_drop,List.length_take];rfl)|(simp (disch:=first|omega|(simp at *;omega)) only [cZ,bS,dQ];rfl)) ?_;(with_reducible refine (dS.calls k  true _ A3.out (by first|assumption|exact GW.below hG (by first|exact HB.out|assumption|(repeat (first|(with_reducible first|exact HB.out|apply bG|apply aT|apply aZ|refine gq ?_ DF.out)|exact HB.out)))|exact GW.drawn hG (by first|assumption|(repeat (first|exact Drawn0.refl _|assumption|apply Drawn0.step))))).mono ?_);rintro e FT ⟨rfl,hb⟩;refine ⟨_,rfl,?_⟩;have BF:=Aside0.mk (Kd.jk (by (with_reducible repeat (first|apply Kd.iY|apply Kd.iZ|apply Kd.jF));exact (Kd.rF (Kd.ko (p:=⟨Ap,5,none⟩) (Kd.ko (p:=⟨Ap,4,none⟩) (Kd.ko (p:=⟨Ap,3,none⟩) (Kd.ko (p:=⟨Ap,2,none⟩) (Kd.ko (p:=⟨Ap,1,none⟩) (Kd.ko (p:=⟨Ap,0,none⟩) (Kd.sG Aw.out Am.out (by decide)) (fun _ hk=>hk.2) (.string AU)) (fun _ hk=>hk.2) (.string Ay)) (fun _ hk=>hk.2) (.int .i64 t218)) (fun _ hk=>hk.2) (.int .i64 Az)) (fun _ hk=>hk.2) (.bool AX)) (fun _ hk=>hk.2) (.slice Cu Ao.length BK)) (fun _ h_=>h_.1))) hb);have BG:=Aside0.mk (Kd.dx (kv_ ((Kd.dO (Kd.jM (p:=⟨Ap,5,none⟩) (Kd.jM (p:=⟨Ap,4,none⟩) (Kd.jM (p:=⟨Ap,3,none⟩) (Kd.jM (p:=⟨Ap,2,none⟩) (Kd.jM (p:=⟨Ap,1,none⟩) (Kd.jM (p:=⟨Ap,0,none⟩) (Kd.dO Au.out (fun k_ hk=>(⟨hk,hk.2⟩ : _ ∧ k_ ≠ Ap))) (fun _ hk=>hk.2) (.string AU)) (fun _ hk=>hk.2) (.string Ay)) (fun _ hk=>hk.2) (.int .i64 t218)) (fun _ hk=>hk.2) (.int .i64 Az)) (fun _ hk=>hk.2) (.bool AX)) (fun _ hk=>hk.2) (.slice Cu Ao.length BK)) (fun _ h_=>h_.1)))) hb);have BI:=Aside0.mk (aM (g:=Ap) (o:=.cells #[.string AU,.string Ay,.int .i64 t218,.int .i64 Az,.bool AX,.slice Cu Ao.length BK] 25 (0,0)) (by (with_reducible repeat (first|apply aC|apply aG|apply aH));refine bR (cs:=#[.string AU,.string Ay,.int .i64 t218,.int .i64 Az,.bool AX,.slice none 0 0]) ?_ 5 _ rfl;(with_reducible repeat (first|apply aC|apply aG|apply aH));refine bR (cs:=#[.string AU,.string Ay,.int .i64 t218,.int .i64 Az,.bool false,.slice none 0 0]) ?_ 4 _ rfl;(with_reducible repeat (first|apply aC|apply aG|apply aH));refine bR (cs:=#[.string AU,.string Ay,.int .i64 t218,.int .i64 0,.bool false,.slice none 0 0]) ?_ 3 _ rfl;(with_reducible repeat (first|apply aC|apply aG|apply aH));refine bR (cs:=#[.string AU,.string Ay,.int .i64 0,.int .i64 0,.bool false,.slice none 0 0]) ?_ 2 _ rfl;(with_reducible repeat (first|apply aC|apply aG|apply aH));refine bR (cs:=#[.string AU,.string (⟨#[]⟩ : ByteArray),.int .i64 0,.int .i64 0,.bool false,.slice none 0 0]) ?_ 1 _ rfl;(with_reducible repeat (first|apply aC|apply aG|apply aH));refine bR (cs:=#[.string (⟨#[]⟩ : ByteArray),.string (⟨#[]⟩ : ByteArray),.int .i64 0,.int .i64 0,.bool false,.slice none 0 0]) ?_ 0 _ rfl;(with_reducible repeat (first|apply aC|apply aG|apply aH));exact Am.out) hb);have Ct:=Aside0.mk (aJ hb_ hb);clear Aw;clear Au;clear Am;clear HB;have Aw:=BF;have Au:=BG;have Am:=BI;have HB:=Ct;clear BF BG BI Ct;(try clear hb);(try clear hb2);(try clear hk);(try clear hi))|(go_at_call 33;(with_reducible refine (bT.calls k  true _ A5.out).mono ?_);rintro e Dv ⟨rfl,hb⟩;have BF:=Aside0.mk (Kd.jk (by (with_reducible repeat (first|apply Kd.iY|apply Kd.iZ|apply Kd.jF));exact Aw.out) hb);have BG:=Aside0.mk (Kd.dx (kv_ Au.out) hb);have BI:=Aside0.mk (aM (g:=Ap) (o:=.cells #[.string AU,.string Ay,.int .i64 t218,.int .i64 Az,.bool AX,.slice Cu Ao.length BK] 25 (0,0)) (bk_ Am.out) hb);have Ct:=Aside0.mk (aJ hb_ hb);clear Aw;clear Au;clear Am;clear HB;have Aw:=BF;have Au:=BG;have Am:=BI;have HB:=Ct;clear BF BG BI Ct;(try clear hb);(try clear hb2);(try clear hk);(try clear hi);have D9 : Dv.cell? ⟨Ap,0,none⟩ = some (.string AU):=(ah Am.out 0).trans rfl;have Ea : Dv.cell? ⟨Ap,1,none⟩ = some (.string Ay):=(ah Am.out 1).trans rfl;have Eb : Dv.cell? ⟨Ap,2,none⟩ = some (.int .i64 t218):=(ah Am.out 2).trans rfl;have Ec : Dv.cell? ⟨Ap,3,none⟩ = some (.int .i64 Az):=(ah Am.out 3).trans rfl;have Ed : Dv.cell? ⟨Ap,4,none⟩ = some (.bool AX):=(ah Am.out 4).trans rfl;have Ee : Dv.cell? ⟨Ap,5,none⟩ = some (.slice Cu Ao.length BK):=(ah Am.out 5).trans rfl;have Ef:=au Am.out 0;have Eh:=au Am.out 1;have Ei:=au Am.out 2;have Ej:=au Am.out 3;have El:=au Am.out 4;have Em:=au Am.out 5)|(go_at_call 10;(with_reducible refine (av.calls k AU Ay t218 Az AX _ _ Ao t227 _ ?Cq ?Cr A7.out).mono ?_);(case Cq=>repeat (first|exact (Kd.bL Au.out).2.2|(with_reducible refine Kd.bC ?_ _)|(with_reducible refine Kd.bO ?_ _)|(with_reducible refine Kd.bW ?_)));(case Cr=>exact (Kd.bL Au.out).2.1);rintro e Dw ⟨rfl,hb⟩;have BF:=Aside0.mk (Kd.jk (by (with_reducible repeat (first|apply Kd.iY|apply Kd.iZ|apply Kd.jF));exact Aw.out) hb);have BG:=Aside0.mk (Kd.dx (kv_ Au.out) hb);have BI:=Aside0.mk (aM (g:=Ap) (o:=.cells #[.string AU,.string Ay,.int .i64 t218,.int .i64 Az,.bool AX,.slice Cu Ao.length BK] 25 (0,0)) (bk_ Am.out) hb);have Ct:=Aside0.mk (aJ hb_ hb);clear Aw;clear Au;clear Am;clear HB;have Aw:=BF;have Au:=BG;have Am:=BI;have HB:=Ct;clear BF BG BI Ct;(try clear hb);(try clear hb2);(try clear hk);(try clear hi);have En : Dw.cell? ⟨Ap,0,none⟩ = some (.string AU):=(ah Am.out 0).trans rfl;have Eo : Dw.cell? ⟨Ap,1,none⟩ = some (.string Ay):=(ah Am.out 1).trans rfl;have Ep : Dw.cell? ⟨Ap,2,none⟩ = some (.int .i64 t218):=(ah Am.out 2).trans rfl;have Er : Dw.cell? ⟨Ap,3,none⟩ = some (.int .i64 Az):=(ah Am.out 3).trans rfl;have Es : Dw.cell? ⟨Ap,4,none⟩ = some (.bool AX):=(ah Am.out 4).trans rfl;have Et : Dw.cell? ⟨Ap,5,none⟩ = some (.slice Cu Ao.length BK):=(ah Am.out 5).trans rfl;have Eu:=au Am.out 0;have Ew:=au Am.out 1;have Ey:=au Am.out 2;have Ez:=au Am.out 3;have EA:=au Am.out 4;have EB:=au Am.out 5;have Dc : 0 ≤ (0 : Int):=(by omega);have Df : 0 < (Ao.length : Int):=of_decide_eq_true (by first|(with_reducible assumption)|assumption);obtain ⟨CU,EZ,E5,E8,E9,Fa,Fb,e228,BL,BN,Bl,Bn,BO,BP,Bo,Cv,Cw,Cz,CB,CF,CG⟩:=lJ (Kd.bL Au.out).2.2 0 Dc Df;cases e228;obtain ⟨FC,Dp,Dq,BQ⟩:=Kd.iL Au.out z43 0 Dc (by first|exact Df|exact of_decide_eq_true (by first|(with_reducible assumption)|assumption)|(have e_:=(Kd.bL Au.out).1;omega));obtain ⟨EC,ED,EF,EG,EH,EI,rfl,BR,BS,BU,BX,BZ,Ca⟩:=kT Dq;have Bt:=BQ 2 _ rfl;rw [bM _ _ 2 (by omega)] at Bt;replace Bt:=Option.some.inj (Bt.symm.trans Bl);injection Bt with hva_ hvn_ hvc_;rw [hva_] at BS;rw [hvc_] at BR;have AY:=Aside0.mk (show Kd.V Kd.string 9 _ w.heap.size _ _ ((aj Ao 0).f2) from Kd.gU BR BS);clear hva_ hvn_ hvc_ BS BR;have Bu:=BQ 3 _ rfl;rw [bM _ _ 3 (by omega)] at Bu;replace Bu:=Option.some.inj (Bu.symm.trans Bn);injection Bu with hva_ hvn_ hvc_;rw [hva_] at BX;rw [hvc_] at BU;have AZ:=Aside0.mk (show Kd.V k46 46 _ w.heap.size _ _ ((aj Ao 0).f3) from Kd.gU BU BX);clear hva_ hvn_ hvc_ BX BU;have Bv:=BQ 6 _ rfl;rw [bM _ _ 6 (by omega)] at Bv;replace Bv:=Option.some.inj (Bv.symm.trans Bo);injection Bv with hva_ hvn_ hvc_;rw [hva_] at Ca;rw [hvc_] at BZ;have Bf:=Aside0.mk (show Kd.V k82 82 _ w.heap.size _ _ ((aj Ao 0).f6) from Kd.gU BZ Ca);clear hva_ hvn_ hvc_ Ca BZ;clear BQ Dp;have FD : (0 < Ao.length) = True:=eq_true (by omega);(try rw [show ((0 : Int)).toNat = 0 from rfl] at BL);(try rw [show 0 * 7 = 0 from rfl] at BL);(try rw [Addr.add_zero'] at BL);(try rw [show ((0 : Int)).toNat = 0 from rfl] at BN);(try rw [show 0 * 7 = 0 from rfl] at BN);(try rw [Addr.add_zero'] at BN);(try rw [show ((0 : Int)).toNat = 0 from rfl] at Bl);(try rw [show 0 * 7 = 0 from rfl] at Bl);(try rw [Addr.add_zero'] at Bl);(try rw [show ((0 : Int)).toNat = 0 from rfl] at Bn);(try rw [show 0 * 7 = 0 from rfl] at Bn);(try rw [Addr.add_zero'] at Bn);(try rw [show ((0 : Int)).toNat = 0 from rfl] at BO);(try rw [show 0 * 7 = 0 from rfl] at BO);(try rw [Addr.add_zero'] at BO);(try rw [show ((0 : Int)).toNat = 0 from rfl] at BP);(try rw [show 0 * 7 = 0 from rfl] at BP);(try rw [Addr.add_zero'] at BP);(try rw [show ((0 : Int)).toNat = 0 from rfl] at Bo);(try rw [show 0 * 7 = 0 from rfl] at Bo);(try rw [Addr.add_zero'] at Bo);have AB:=Aside0.mk Cw;have EJ:=Aside0.mk Cv;clear Cw Cv;have AJ:=Aside0.mk CB;have EK:=Aside0.mk Cz;clear CB Cz;have AL:=Aside0.mk CG;have EL:=Aside0.mk CF;clear CG CF;replace Dc:=eq_true Dc;replace Df:=eq_true Df;have Dh : 0 ≤ (0 : Int):=(by omega);have Di : 0 < (Ao.length : Int):=of_decide_eq_true (by first|(with_reducible assumption)|assumption);obtain ⟨DI,Fe,Fg,Fh,Fj,Fp,Fq,e229,Cb,Cc,Bp,Bq,Ce,Cg,Br,CJ,CK,CO,CP,CQ,CS⟩:=lJ (Kd.bL Au.out).2.2 0 Dh Di;obtain rfl : CU = DI:=(by injection e229);obtain ⟨FE,Dr,Dt,Ch⟩:=Kd.iL Au.out z43 0 Dh (by first|exact Di|exact of_decide_eq_true (by first|(with_reducible assumption)|assumption)|(have e_:=(Kd.bL Au.out).1;omega));obtain ⟨EM,EN,EO,EP,ER,ES,rfl,Ci,Cj,Ck,Cm,Cn,Co⟩:=kT Dt;have Bw:=Ch 2 _ rfl;rw [bM _ _ 2 (by omega)] at Bw;replace Bw:=Option.some.inj (Bw.symm.trans Bp);injection Bw with hva_ hvn_ hvc_;rw [hva_] at Cj;rw [hvc_] at Ci;have Bg:=Aside0.mk (show Kd.V Kd.string 9 _ w.heap.size _ _ ((aj Ao 0).f2) from Kd.gU Ci Cj);clear hva_ hvn_ hvc_ Cj Ci;have Bz:=Ch 3 _ rfl;rw [bM _ _ 3 (by omega)] at Bz;replace Bz:=Option.some.inj (Bz.symm.trans Bq);injection Bz with hva_ hvn_ hvc_;rw [hva_] at Cm;rw [hvc_] at Ck;have Bh:=Aside0.mk (show Kd.V k46 46 _ w.heap.size _ _ ((aj Ao 0).f3) from Kd.gU Ck Cm);clear hva_ hvn_ hvc_ Cm Ck;have BD:=Ch 6 _ rfl;rw [bM _ _ 6 (by omega)] at BD;replace BD:=Option.some.inj (BD.symm.trans Br);injection BD with hva_ hvn_ hvc_;rw [hva_] at Co;rw [hvc_] at Cn;have Bj:=Aside0.mk (show Kd.V k82 82 _ w.heap.size _ _ ((aj Ao 0).f6) from Kd.gU Cn Co);clear hva_ hvn_ hvc_ Co Cn;clear Ch Dr;have FH : (0 < Ao.length) = True:=eq_true (by omega);(try rw [show ((0 : Int)).toNat = 0 from rfl] at Cb);(try rw [show 0 * 7 = 0 from rfl] at Cb);(try rw [Addr.add_zero'] at Cb);(try rw [show ((0 : Int)).toNat = 0 from rfl] at Cc);(try rw [show 0 * 7 = 0 from rfl] at Cc);(try rw [Addr.add_zero'] at Cc);(try rw [show ((0 : Int)).toNat = 0 from rfl] at Bp);(try rw [show 0 * 7 = 0 from rfl] at Bp);(try rw [Addr.add_zero'] at Bp);(try rw [show ((0 : Int)).toNat = 0 from rfl] at Bq);(try rw [show 0 * 7 = 0 from rfl] at Bq);(try rw [Addr.add_zero'] at Bq);(try rw [show ((0 : Int)).toNat = 0 from rfl] at Ce);(try rw [show 0 * 7 = 0 from rfl] at Ce);(try rw [Addr.add_zero'] at Ce);(try rw [show ((0 : Int)).toNat = 0 from rfl] at Cg);(try rw [show 0 * 7 = 0 from rfl] at Cg);(try rw [Addr.add_zero'] at Cg);(try rw [show ((0 : Int)).toNat = 0 from rfl] at Br);(try rw [show 0 * 7 = 0 from rfl] at Br);(try rw [Addr.add_zero'] at Br);have AO:=Aside0.mk CK;have ET:=Aside0.mk CJ;clear CK CJ;have AP:=Aside0.mk CP;have EU:=Aside0.mk CO;clear CP CO;have AQ:=Aside0.mk CS;have EW:=Aside0.mk CQ;clear CS CQ;replace Dh:=eq_true Dh;replace Di:=eq_true Di;have ea_:=Option.some.inj (Bl.symm.trans Bp);injection ea_ with ea_ en_ ec_;subst ea_;subst ec_;clear en_;have ea_:=Option.some.inj (Bn.symm.trans Bq);injection ea_ with ea_ en_ ec_;subst ea_;subst ec_;clear en_;have ea_:=Option.some.inj (Bo.symm.trans Br);injection ea_ with ea_ en_ ec_;subst ea_;subst ec_;clear en_)|(go_at_call 31;(with_reducible refine (bX.calls  Dl Dm t232 t233 t234 Dn _ FJ.out).mono ?_);rintro e FU ⟨v236,rfl,ho0,hb⟩;have BF:=Aside0.mk (Kd.uQ (by (with_reducible repeat (first|apply Kd.iY|apply Kd.iZ|apply Kd.jF));exact Aw.out) (Kd.kD ho0) hb);have BG:=Aside0.mk (Kd.jG (kv_ Au.out) (Kd.kD ho0) hb);have BI:=Aside0.mk (Kd.jG (kv_ AY.out) (Kd.kD ho0) hb);have Ct:=Aside0.mk (Kd.jG (kv_ AZ.out) (Kd.kD ho0) hb);have Dj:=Aside0.mk (Kd.jG (kv_ Bf.out) (Kd.kD ho0) hb);have Dk:=Aside0.mk (Kd.jG (kv_ Bg.out) (Kd.kD ho0) hb);have DJ:=Aside0.mk (Kd.jG (kv_ Bh.out) (Kd.kD ho0) hb);have DK:=Aside0.mk (Kd.jG (kv_ Bj.out) (Kd.kD ho0) hb);have DL:=Aside0.mk (Kd.qg (Kd.yj ho0 (Kd.zo (by (with_reducible repeat (first|apply Kd.iY|apply Kd.iZ|apply Kd.jF));exact Aw.out))) (aY hb_));have DN:=Aside0.mk (aM (g:=Ap) (o:=.cells #[.string AU,.string Ay,.int .i64 t218,.int .i64 Az,.bool AX,.slice (some CU) Ao.length BK] 25 (0,0)) (bk_ Am.out) hb);have CV:=Aside0.mk (Kd.bN (by repeat (first|(with_reducible exact AB.out)|(with_reducible refine Kd.bC ?_ _)|(with_reducible refine Kd.bO ?_ _)|(with_reducible refine Kd.bW ?_)|exact AB.out)) hb);have CW:=Aside0.mk (Kd.bN (by repeat (first|(with_reducible exact AJ.out)|(with_reducible refine Kd.bC ?_ _)|(with_reducible refine Kd.bO ?_ _)|(with_reducible refine Kd.bW ?_)|exact AJ.out)) hb);have CX:=Aside0.mk (Kd.bN (by repeat (first|(with_reducible exact AL.out)|(with_reducible refine Kd.bC ?_ _)|(with_reducible refine Kd.bO ?_ _)|(with_reducible refine Kd.bW ?_)|exact AL.out)) hb);have CY:=Aside0.mk (Kd.bN (by repeat (first|(with_reducible exact AO.out)|(with_reducible refine Kd.bC ?_ _)|(with_reducible refine Kd.bO ?_ _)|(with_reducible refine Kd.bW ?_)|exact AO.out)) hb);have CZ:=Aside0.mk (Kd.bN (by repeat (first|(with_reducible exact AP.out)|(with_reducible refine Kd.bC ?_ _)|(with_reducible refine Kd.bO ?_ _)|(with_reducible refine Kd.bW ?_)|exact AP.out)) hb);have C8:=Aside0.mk (Kd.bN (by repeat (first|(with_reducible exact AQ.out)|(with_reducible refine Kd.bC ?_ _)|(with_reducible refine Kd.bO ?_ _)|(with_reducible refine Kd.bW ?_)|exact AQ.out)) hb);have C9:=Aside0.mk (aJ hb_ hb);clear Aw;clear Au;clear AY;clear AZ;clear Bf;clear Bg;clear Bh;clear Bj;clear Am;clear AB;clear AJ;clear AL;clear AO;clear AP;clear AQ;clear HB;have Aw:=BF;have Au:=BG;have AY:=BI;have AZ:=Ct;have Bf:=Dj;have Bg:=Dk;have Bh:=DJ;have Bj:=DK;have BJ:=DL;have Am:=DN;have AB:=CV;have AJ:=CW;have AL:=CX;have AO:=CY;have AP:=CZ;have AQ:=C8;have HB:=C9;clear BF BG BI Ct Dj Dk DJ DK DL DN CV CW CX CY CZ C8 C9;(try clear hb);(try clear hb2);(try clear hk);(try clear hi);(try clear ho0);obtain ⟨FN,FP,Fu⟩:=Kd.qh BJ.out;subst Fu)|(go_at_call 10;(with_reducible refine (av.calls k Dl Dm t232 t233 t234 _ _ Dn AA _ ?Cq ?Cr FL.out).mono ?_);(case Cq=>repeat (first|exact (Kd.lX BJ.out).2.2|(with_reducible refine Kd.bC ?_ _)|(with_reducible refine Kd.bO ?_ _)|(with_reducible refine Kd.bW ?_)));(case Cr=>exact (Kd.lX BJ.out).2.1);rintro e FV ⟨rfl,hb⟩;have BF:=Aside0.mk (Kd.jk (by (with_reducible repeat (first|apply Kd.iY|apply Kd.iZ|apply Kd.jF));exact Aw.out) hb);have BG:=Aside0.mk (Kd.dx (kv_ Au.out) hb);have BI:=Aside0.mk (Kd.dx (kv_ AY.out) hb);have Ct:=Aside0.mk (Kd.dx (kv_ AZ.out) hb);have Dj:=Aside0.mk (Kd.dx (kv_ Bf.out) hb);have Dk:=Aside0.mk (Kd.dx (kv_ Bg.out) hb);have DJ:=Aside0.mk (Kd.dx (kv_ Bh.out) hb);have DK:=Aside0.mk (Kd.dx (kv_ Bj.out) hb);have DL:=Aside0.mk (Kd.jk (by (with_reducible repeat (first|apply Kd.iY|apply Kd.iZ|apply Kd.jF));exact BJ.out) hb);have DN:=Aside0.mk (aM (g:=Ap) (o:=.cells #[.string AU,.string Ay,.int .i64 t218,.int .i64 Az,.bool AX,.slice (some CU) Ao.length BK] 25 (0,0)) (bk_ Am.out) hb);have CV:=Aside0.mk (Kd.bN (by repeat (first|(with_reducible exact AB.out)|(with_reducible refine Kd.bC ?_ _)|(with_reducible refine Kd.bO ?_ _)|(with_reducible refine Kd.bW ?_)|exact AB.out)) hb);have CW:=Aside0.mk (Kd.bN (by repeat (first|(with_reducible exact AJ.out)|(with_reducible refine Kd.bC ?_ _)|(with_reducible refine Kd.bO ?_ _)|(with_reducible refine Kd.bW ?_)|exact AJ.out)) hb);have CX:=Aside0.mk (Kd.bN (by repeat (first|(with_reducible exact AL.out)|(with_reducible refine Kd.bC ?_ _)|(with_reducible refine Kd.bO ?_ _)|(with_reducible refine Kd.bW ?_)|exact AL.out)) hb);have CY:=Aside0.mk (Kd.bN (by repeat (first|(with_reducible exact AO.out)|(with_reducible refine Kd.bC ?_ _)|(with_reducible refine Kd.bO ?_ _)|(with_reducible refine Kd.bW ?_)|exact AO.out)) hb);have CZ:=Aside0.mk (Kd.bN (by repeat (first|(with_reducible exact AP.out)|(with_reducible refine Kd.bC ?_ _)|(with_reducible refine Kd.bO ?_ _)|(with_reducible refine Kd.bW ?_)|exact AP.out)) hb);have C8:=Aside0.mk (Kd.bN (by repeat (first|(with_reducible exact AQ.out)|(with_reducible refine Kd.bC ?_ _)|(with_reducible refine Kd.bO ?_ _)|(with_reducible refine Kd.bW ?_)|exact AQ.out)) hb);have C9:=Aside0.mk (aJ hb_ hb);clear Aw;clear Au;clear AY;clear AZ;clear Bf;clear Bg;clear Bh;clear Bj;clear BJ;clear Am;clear AB;clear AJ;clear AL;clear AO;clear AP;clear AQ;clear HB;have Aw:=BF;have Au:=BG;have AY:=BI;have AZ:=Ct;have Bf:=Dj;have Bg:=Dk;have Bh:=DJ;have Bj:=DK;have BJ:=DL;have Am:=DN;have AB:=CV;have AJ:=CW;have AL:=CX;have AO:=CY;have AP:=CZ;have AQ:=C8;have HB:=C9;clear BF BG BI Ct Dj Dk DJ DK DL DN CV CW CX CY CZ C8 C9;(try clear hb);(try clear hb2);(try clear hk);(try clear hi)))
          go_ret
          exact ⟨by first|rfl|(simp [aV,aW] <;> rfl)|(simp [*,aV,aW] <;> rfl),hb_⟩
         ·rw [if_neg c14] at H
          have c14b0 : (((aj Ao 0).f5) == 64) = false:=beq_eq_false_iff_ne.mpr c14
          have c14b1 : (((aj Ao 0).f5) != 64) = true:=bne_iff_ne.mpr c14
          exact absurd ((Option.some.inj H).trans HTr.out) (by decide)
        ·rw [if_neg c13] at H
         have c13b0 : (((aj Ao 0).f4) == 100) = false:=beq_eq_false_iff_ne.mpr c13
         have c13b1 : (((aj Ao 0).f4) != 100) = true:=bne_iff_ne.mpr c13
         exact absurd ((Option.some.inj H).trans HTr.out) (by decide)
       ·rw [if_neg c12] at H
        exact absurd H (by simp)
      ·rw [if_neg c11] at H
       have c11b0 : ((Ao.length : Int) == 1) = false:=beq_eq_false_iff_ne.mpr c11
       have c11b1 : ((Ao.length : Int) != 1) = true:=bne_iff_ne.mpr c11
       exact absurd ((Option.some.inj H).trans HTr.out) (by decide)
     ·rw [if_neg c10] at H
      have c10b0 : (Az == 30) = false:=beq_eq_false_iff_ne.mpr c10
      have c10b1 : (Az != 30) = true:=bne_iff_ne.mpr c10
      exact absurd ((Option.some.inj H).trans HTr.out) (by decide)
    ·rw [if_neg c9] at H
     have c9b0 : (Ay.toList == ([100,101,102,97,117,108,116] : List UInt8)) = false:=beq_eq_false_iff_ne.mpr c9
     have c9b1 : (Ay.toList != ([100,101,102,97,117,108,116] : List UInt8)) = true:=bne_iff_ne.mpr c9
     exact absurd ((Option.some.inj H).trans HTr.out) (by decide)
   ·rw [if_neg c8] at H
    have c8b0 : (t227 == 0) = false:=beq_eq_false_iff_ne.mpr c8
    have c8b1 : (t227 != 0) = true:=bne_iff_ne.mpr c8
    exact absurd ((Option.some.inj H).trans HTr.out) (by decide)
  ·replace c6:=Bool.eq_false_iff.mpr c6
   subst c6
   have H1 : (some false) = some r:=by rw [if_neg (show ¬ (false = true) by decide)] at H;exact H
   clear H
   have H:=H1
   clear H1
   exact absurd ((Option.some.inj H).trans HTr.out) (by decide)
 ·replace c4:=Bool.eq_false_iff.mpr c4
  subst c4
  have H1 : (some false) = some r:=by rw [if_neg (show ¬ (false = true) by decide)] at H;exact H
  clear H
  have H:=H1
  clear H1
  exact absurd ((Option.some.inj H).trans HTr.out) (by decide)
theorem bY.calls (k : Nat)  (r : Bool) (w : World) (h : bY.f k  = some r) (hG : GW.GW w) :   Calls Tryd.prog 8 #[] w fun e w'=>e = .returned (.bool r) ∧ Below w.heap.size w w':=by
 cases r with
 | true=>exact bY.yQ k true w h hG rfl
 | false=>
  exfalso
  have a : bY.f 60 = some true:=by decide +kernel
  have b:=mD (g:=fun k=>bY.f k) (fun k=>bY.mono k) (Nat.le_max_left k 60) h
  have c:=mD (g:=fun k=>bY.f k) (fun k=>bY.mono k) (Nat.le_max_right k 60) a
  exact Bool.noConfusion (Option.some.inj (b.symm.trans c))
end Go.Proofs.YtpflenjhmeaeoaaDoor.GUt
