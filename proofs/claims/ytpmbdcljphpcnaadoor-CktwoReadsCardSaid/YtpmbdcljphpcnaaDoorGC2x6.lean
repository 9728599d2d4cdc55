/- Written by this session's own program (wip/gen.py) out of the translation: plain Lean functions of the Go functions, and proofs that the calls come to their answers. No conditions beside those in the statements. -/
import Derived.Test.YtpmbdcljphpcnaaDoorGC2x0
import Derived.Test.YtpmbdcljphpcnaaDoorGC2x1
import Derived.Test.YtpmbdcljphpcnaaDoorGC2x5
import Derived.Test.YtpmbdcljphpcnaaDoorGC2Cons
import Derived.Test.YtpmbdcljphpcnaaDoorGC2Name
namespace Go.Proofs.YtpmbdcljphpcnaaDoor.GC2
open Go.RowKit Go.Proofs.YtpmbdcljphpcnaaDoorW.PrintWords Go.Proofs.YtpmbdcljphpcnaaDoorW.PrintLast Go.Proofs.YtpmbdcljphpcnaaDoorW.PrintMore
attribute [local go_sem] fO fP gI gJ fF fG fQ fT
set_option linter.unusedVariables false
set_option linter.unusedSimpArgs false
mutual
def aM.l0 : Nat → List (S98) → Int → Int → Int → List (S98) → Option (Int)
 | 0,_,_,_,_,_=>none
 | k + 1,Aq,DJ,Ai,Aa,z8=>if Ai < DJ then (if 0 ≤ Ai then (if Ai < (Aq.length : Int) then ((bS.f k ((aH Aq Ai).f0)).bind fun DY=>(if DY = true then ((dR.f k ((aH Aq Ai).f1)).bind fun t138=>(if t138 = true then ((bB.f k ((aH Aq Ai).f2)).bind fun t139=>(aM.j1 k Ai Aq DJ Ai (!t139) Aa z8 ((aH Aq Ai).f0) ((aH Aq Ai).f1) ((aH Aq Ai).f2) ((aH Aq Ai).f3) ((aH Aq Ai).f4) ((aH Aq Ai).f5))) else (aM.j1 k Ai Aq DJ Ai true Aa z8 ((aH Aq Ai).f0) ((aH Aq Ai).f1) ((aH Aq Ai).f2) ((aH Aq Ai).f3) ((aH Aq Ai).f4) ((aH Aq Ai).f5)))) else (aM.j1 k Ai Aq DJ Ai true Aa z8 ((aH Aq Ai).f0) ((aH Aq Ai).f1) ((aH Aq Ai).f2) ((aH Aq Ai).f3) ((aH Aq Ai).f4) ((aH Aq Ai).f5)))) else (none)) else (none)) else (some 0)
def aM.j1 : Nat → Int → List (S98) → Int → Int → Bool → Int → List (S98) → ByteArray → ByteArray → ByteArray → Int → Int → List (S100) → Option (Int)
 | 0,_,_,_,_,_,_,_,_,_,_,_,_,_=>none
 | k + 1,x3,Aq,DJ,Ai,x18,Aa,z8,Af,Aj,Ak,Ag,Ae,Ah=>if x18 = true then (some 13) else (if x3 > 0 then (if 0 ≤ (wrap64 (x3 - 1)) then (if (wrap64 (x3 - 1)) < (z8.length : Int) then (aM.j2 k Aq DJ Ai (!(Op.bytesLess (((aH z8 (wrap64 (x3 - 1))).f0).toList) Af.toList)) Aa z8 Af Aj Ak Ag Ae Ah) else (none)) else (none)) else (aM.j2 k Aq DJ Ai false Aa z8 Af Aj Ak Ag Ae Ah))
def aM.j2 : Nat → List (S98) → Int → Int → Bool → Int → List (S98) → ByteArray → ByteArray → ByteArray → Int → Int → List (S100) → Option (Int)
 | 0,_,_,_,_,_,_,_,_,_,_,_,_=>none
 | k + 1,Aq,DJ,Ai,GU,Aa,z8,Af,Aj,Ak,Ag,Ae,Ah=>if GU = true then (some 6) else (if Ag > 2 then (aM.j3 k Aq DJ Ai true Aa z8 Af Aj Ak Ag Ae Ah) else (if Ae < 1 then (aM.j3 k Aq DJ Ai true Aa z8 Af Aj Ak Ag Ae Ah) else (aM.j3 k Aq DJ Ai (decide (Ae > 3600)) Aa z8 Af Aj Ak Ag Ae Ah)))
def aM.j3 : Nat → List (S98) → Int → Int → Bool → Int → List (S98) → ByteArray → ByteArray → ByteArray → Int → Int → List (S100) → Option (Int)
 | 0,_,_,_,_,_,_,_,_,_,_,_,_=>none
 | k + 1,Aq,DJ,Ai,GV,Aa,z8,Af,Aj,Ak,Ag,Ae,Ah=>if GV = true then (some 7) else ((bZ.f k Ah).bind fun t141=>(if t141 = 0 then (aM.l0 k Aq DJ (wrap64 (Ai + 1)) Aa z8) else (some t141)))
end
def aM.f (k : Nat) (zS : Int) (zM : List (S98)) : Option (Int):=if (zM.length : Int) > 1024 then (some 18) else (aM.l0 k zM (zM.length : Int) 0 zS zM)
theorem aM.dX : ∀ k,(∀ y0 y1 y2 y3 y4,LeO (aM.l0 k y0 y1 y2 y3 y4) (aM.l0 (k + 1) y0 y1 y2 y3 y4)) ∧ (∀ y0 y1 y2 y3 y4 y5 y6 y7 y8 y9 DN DR Ga,LeO (aM.j1 k y0 y1 y2 y3 y4 y5 y6 y7 y8 y9 DN DR Ga) (aM.j1 (k + 1) y0 y1 y2 y3 y4 y5 y6 y7 y8 y9 DN DR Ga)) ∧ (∀ y0 y1 y2 y3 y4 y5 y6 y7 y8 y9 DN DR,LeO (aM.j2 k y0 y1 y2 y3 y4 y5 y6 y7 y8 y9 DN DR) (aM.j2 (k + 1) y0 y1 y2 y3 y4 y5 y6 y7 y8 y9 DN DR)) ∧ (∀ y0 y1 y2 y3 y4 y5 y6 y7 y8 y9 DN DR,LeO (aM.j3 k y0 y1 y2 y3 y4 y5 y6 y7 y8 y9 DN DR) (aM.j3 (k + 1) y0 y1 y2 y3 y4 y5 y6 y7 y8 y9 DN DR))
 | 0=>⟨fun _ _ _ _ _ r h=>by simp [aM.l0] at h,fun _ _ _ _ _ _ _ _ _ _ _ _ _ r h=>by simp [aM.j1] at h,fun _ _ _ _ _ _ _ _ _ _ _ _ r h=>by simp [aM.j2] at h,fun _ _ _ _ _ _ _ _ _ _ _ _ r h=>by simp [aM.j3] at h⟩
 | k + 1=>by
  obtain ⟨DT,ih1,ih2,ih3⟩:=aM.dX k
  refine ⟨?_,?_,?_,?_⟩
  ·intro y0 y1 y2 y3 y4
   unfold aM.l0
   repeat' first
   | (with_reducible exact DT _ _ _ _ _)
   | (with_reducible exact ih1 _ _ _ _ _ _ _ _ _ _ _ _ _)
   | (with_reducible exact ih2 _ _ _ _ _ _ _ _ _ _ _ _)
   | (with_reducible exact ih3 _ _ _ _ _ _ _ _ _ _ _ _)
   | (with_reducible exact bS.mono _ _)
   | (with_reducible exact bZ.mono _ _)
   | (with_reducible exact bB.mono _ _)
   | (with_reducible exact dR.mono _ _)
   | (with_reducible exact LeO.refl _)
   | (with_reducible exact LeO.none _)
   | (with_reducible refine LeO.ite ?_ ?_)
   | (with_reducible refine LeO.bind ?_ (fun _=>?_))
   | exact DT _ _ _ _ _
   | exact ih1 _ _ _ _ _ _ _ _ _ _ _ _ _
   | exact ih2 _ _ _ _ _ _ _ _ _ _ _ _
   | exact ih3 _ _ _ _ _ _ _ _ _ _ _ _
   | exact bS.mono _ _
   | exact bZ.mono _ _
   | exact bB.mono _ _
   | exact dR.mono _ _
   | exact LeO.none _
   | refine LeO.ite ?_ ?_
   | refine LeO.bind ?_ (fun _=>?_)
  ·intro y0 y1 y2 y3 y4 y5 y6 y7 y8 y9 DN DR Ga
   unfold aM.j1
   repeat' first
   | (with_reducible exact DT _ _ _ _ _)
   | (with_reducible exact ih1 _ _ _ _ _ _ _ _ _ _ _ _ _)
   | (with_reducible exact ih2 _ _ _ _ _ _ _ _ _ _ _ _)
   | (with_reducible exact ih3 _ _ _ _ _ _ _ _ _ _ _ _)
   | (with_reducible exact bS.mono _ _)
   | (with_reducible exact bZ.mono _ _)
   | (with_reducible exact bB.mono _ _)
   | (with_reducible exact dR.mono _ _)
   | (with_reducible exact LeO.refl _)
   | (with_reducible exact LeO.none _)
   | (with_reducible refine LeO.ite ?_ ?_)
   | (with_reducible refine LeO.bind ?_ (fun _=>?_))
   | exact DT _ _ _ _ _
   | exact ih1 _ _ _ _ _ _ _ _ _ _ _ _ _
   | exact ih2 _ _ _ _ _ _ _ _ _ _ _ _
   | exact ih3 _ _ _ _ _ _ _ _ _ _ _ _
   | exact bS.mono _ _
   | exact bZ.mono _ _
   | exact bB.mono _ _
   | exact dR.mono _ _
   | exact LeO.none _
   | refine LeO.ite ?_ ?_
   | refine LeO.bind ?_ (fun _=>?_)
  ·intro y0 y1 y2 y3 y4 y5 y6 y7 y8 y9 DN DR
   unfold aM.j2
   repeat' first
   | (with_reducible exact DT _ _ _ _ _)
   | (with_reducible exact ih1 _ _ _ _ _ _ _ _ _ _ _ _ _)
   | (with_reducible exact ih2 _ _ _ _ _ _ _ _ _ _ _ _)
   | (with_reducible exact ih3 _ _ _ _ _ _ _ _ _ _ _ _)
   | (with_reducible exact bS.mono _ _)
   | (with_reducible exact bZ.mono _ _)
   | (with_reducible exact bB.mono _ _)
   | (with_reducible exact dR.mono _ _)
   | (with_reducible exact LeO.refl _)
   | (with_reducible exact LeO.none _)
   | (with_reducible refine LeO.ite ?_ ?_)
   | (with_reducible refine LeO.bind ?_ (fun _=>?_))
   | exact DT _ _ _ _ _
   | exact ih1 _ _ _ _ _ _ _ _ _ _ _ _ _
   | exact ih2 _ _ _ _ _ _ _ _ _ _ _ _
   | exact ih3 _ _ _ _ _ _ _ _ _ _ _ _
   | exact bS.mono _ _
   | exact bZ.mono _ _
   | exact bB.mono _ _
   | exact dR.mono _ _
   | exact LeO.none _
   | refine LeO.ite ?_ ?_
   | refine LeO.bind ?_ (fun _=>?_)
  ·intro y0 y1 y2 y3 y4 y5 y6 y7 y8 y9 DN DR
   unfold aM.j3
   repeat' first
   | (with_reducible exact DT _ _ _ _ _)
   | (with_reducible exact ih1 _ _ _ _ _ _ _ _ _ _ _ _ _)
   | (with_reducible exact ih2 _ _ _ _ _ _ _ _ _ _ _ _)
   | (with_reducible exact ih3 _ _ _ _ _ _ _ _ _ _ _ _)
   | (with_reducible exact bS.mono _ _)
   | (with_reducible exact bZ.mono _ _)
   | (with_reducible exact bB.mono _ _)
   | (with_reducible exact dR.mono _ _)
   | (with_reducible exact LeO.refl _)
   | (with_reducible exact LeO.none _)
   | (with_reducible refine LeO.ite ?_ ?_)
   | (with_reducible refine LeO.bind ?_ (fun _=>?_))
   | exact DT _ _ _ _ _
   | exact ih1 _ _ _ _ _ _ _ _ _ _ _ _ _
   | exact ih2 _ _ _ _ _ _ _ _ _ _ _ _
   | exact ih3 _ _ _ _ _ _ _ _ _ _ _ _
   | exact bS.mono _ _
   | exact bZ.mono _ _
   | exact bB.mono _ _
   | exact dR.mono _ _
   | exact LeO.none _
   | refine LeO.ite ?_ ?_
   | refine LeO.bind ?_ (fun _=>?_)
theorem aM.mono : ∀ a0 a1 k,LeO (aM.f k a0 a1) (aM.f (k + 1) a0 a1):=by
 intro a0 a1 k
 obtain ⟨DT,ih1,ih2,ih3⟩:=aM.dX k
 unfold aM.f
 repeat' first
   | (with_reducible exact DT _ _ _ _ _)
   | (with_reducible exact ih1 _ _ _ _ _ _ _ _ _ _ _ _ _)
   | (with_reducible exact ih2 _ _ _ _ _ _ _ _ _ _ _ _)
   | (with_reducible exact ih3 _ _ _ _ _ _ _ _ _ _ _ _)
   | (with_reducible exact bS.mono _ _)
   | (with_reducible exact bZ.mono _ _)
   | (with_reducible exact bB.mono _ _)
   | (with_reducible exact dR.mono _ _)
   | (with_reducible exact LeO.refl _)
   | (with_reducible exact LeO.none _)
   | (with_reducible refine LeO.ite ?_ ?_)
   | (with_reducible refine LeO.bind ?_ (fun _=>?_))
   | exact DT _ _ _ _ _
   | exact ih1 _ _ _ _ _ _ _ _ _ _ _ _ _
   | exact ih2 _ _ _ _ _ _ _ _ _ _ _ _
   | exact ih3 _ _ _ _ _ _ _ _ _ _ _ _
   | exact bS.mono _ _
   | exact bZ.mono _ _
   | exact bB.mono _ _
   | exact dR.mono _ _
   | exact LeO.none _
   | refine LeO.ite ?_ ?_
   | refine LeO.bind ?_ (fun _=>?_)
set_option maxHeartbeats 8000000 in
set_option maxRecDepth 100000 in
theorem aM.calls (k : Nat) (zS : Int) (AL : Option Addr) (zY : Nat) (zM : List (S98)) (r : Int) (w : World) (EM : Kd.C k98 w AL zM.length zM) (EN : zM.length ≤ zY) (h : aM.f k zS zM = some r) :
  Calls Tryd.prog 27 #[.agg #[.int .u64 zS,.slice AL zM.length zY]] w fun e w'=>e = .returned (.int .i64 r) ∧ Below w.heap.size w w':=by
 have GX:=Tryd.underlying49
 have GY:=Tryd.underlying98
 have EO:=Aside0.mk EM
 have Gi:=Aside0.mk EN
 clear EM EN
 have HB:=Aside0.mk (Below.refl w.heap.size w)
 have H : (if (zM.length : Int) > 1024 then (some 18) else (aM.l0 k zM (zM.length : Int) 0 zS zM)) = some r:=h
 clear h
 by_cases c2 : (zM.length : Int) > 1024
 ·rw [if_pos c2] at H
  have c2b0 : decide (1024 < (zM.length : Int)) = true:=decide_eq_true c2
  have c2b1 : decide (1024 < zM.length) = true:=decide_eq_true (by omega)
  clear c2
  obtain rfl:=Option.some.inj H
  go_enter Tryd.func27,Tryd.ntmps27
  go_wp2_with (first|((with_reducible refine dw (N:=1) rfl ?_);refine cB ?hg (N:=1) ?hd (cs:=#[.int .u64 zS,.slice AL zM.length zY]) (t:=49) ?hr ?_;(case hd=>rfl);(case hg=>rfl);(case hr=>first|(go_simp;done)|(go_simp;rfl));intro zR hg w3 hbox hb;have Ab:=Aside0.mk (aU (by repeat (first|(with_reducible first|exact HB.out|apply aD|apply ak|apply aC)|exact HB.out)) hb);have Ac:=Aside0.mk (hbox);have Ad:=Aside0.mk ((by rw [hg];exact (aW (by repeat (first|(with_reducible first|exact HB.out|apply aD|apply ak|apply aC)|exact HB.out))) : w.heap.size ≤ zR));have BS:=Aside0.mk ((by rw [hg];exact (aW (by repeat (first|(with_reducible first|exact HB.out|apply aD|apply ak|apply aC)|exact HB.out))) : w.heap.size ≤ zR));clear HB;have HB:=Ab;have zQ:=Ac;have Db:=Ad;have zT:=BS;clear Ab Ac Ad BS;clear hb hbox hg;have BK : w3.cell? ⟨zR,0,none⟩ = some (.int .u64 zS):=(ay zQ.out 0).trans rfl;have BL : w3.cell? ⟨zR,1,none⟩ = some (.slice AL zM.length zY):=(ay zQ.out 1).trans rfl;have BM:=av zQ.out 0;have BN:=av zQ.out 1))
  repeat (go_quiet (first|((with_reducible refine dw (N:=1) rfl ?_);refine cB ?hg (N:=1) ?hd (cs:=#[.int .u64 zS,.slice AL zM.length zY]) (t:=49) ?hr ?_;(case hd=>rfl);(case hg=>rfl);(case hr=>first|(go_simp;done)|(go_simp;rfl));intro zR hg w3 hbox hb;have Ab:=Aside0.mk (aU (by repeat (first|(with_reducible first|exact HB.out|apply aD|apply ak|apply aC)|exact HB.out)) hb);have Ac:=Aside0.mk (hbox);have Ad:=Aside0.mk ((by rw [hg];exact (aW (by repeat (first|(with_reducible first|exact HB.out|apply aD|apply ak|apply aC)|exact HB.out))) : w.heap.size ≤ zR));have BS:=Aside0.mk ((by rw [hg];exact (aW (by repeat (first|(with_reducible first|exact HB.out|apply aD|apply ak|apply aC)|exact HB.out))) : w.heap.size ≤ zR));clear HB;have HB:=Ab;have zQ:=Ac;have Db:=Ad;have zT:=BS;clear Ab Ac Ad BS;clear hb hbox hg;have BK : w3.cell? ⟨zR,0,none⟩ = some (.int .u64 zS):=(ay zQ.out 0).trans rfl;have BL : w3.cell? ⟨zR,1,none⟩ = some (.slice AL zM.length zY):=(ay zQ.out 1).trans rfl;have BM:=av zQ.out 0;have BN:=av zQ.out 1));try go_wp2_with (first|((with_reducible refine dw (N:=1) rfl ?_);refine cB ?hg (N:=1) ?hd (cs:=#[.int .u64 zS,.slice AL zM.length zY]) (t:=49) ?hr ?_;(case hd=>rfl);(case hg=>rfl);(case hr=>first|(go_simp;done)|(go_simp;rfl));intro zR hg w3 hbox hb;have Ab:=Aside0.mk (aU (by repeat (first|(with_reducible first|exact HB.out|apply aD|apply ak|apply aC)|exact HB.out)) hb);have Ac:=Aside0.mk (hbox);have Ad:=Aside0.mk ((by rw [hg];exact (aW (by repeat (first|(with_reducible first|exact HB.out|apply aD|apply ak|apply aC)|exact HB.out))) : w.heap.size ≤ zR));have BS:=Aside0.mk ((by rw [hg];exact (aW (by repeat (first|(with_reducible first|exact HB.out|apply aD|apply ak|apply aC)|exact HB.out))) : w.heap.size ≤ zR));clear HB;have HB:=Ab;have zQ:=Ac;have Db:=Ad;have zT:=BS;clear Ab Ac Ad BS;clear hb hbox hg;have BK : w3.cell? ⟨zR,0,none⟩ = some (.int .u64 zS):=(ay zQ.out 0).trans rfl;have BL : w3.cell? ⟨zR,1,none⟩ = some (.slice AL zM.length zY):=(ay zQ.out 1).trans rfl;have BM:=av zQ.out 0;have BN:=av zQ.out 1)))
  go_ret
  exact ⟨by first|rfl|(simp [aY,aZ] <;> rfl)|(simp [*,aY,aZ] <;> rfl),by repeat (first|(with_reducible first|exact HB.out|apply aD|apply ak|apply aC|refine aA ?_ zT.out)|exact HB.out)⟩
 ·rw [if_neg c2] at H
  have c2b0 : decide (1024 < (zM.length : Int)) = false:=decide_eq_false c2
  have c2b1 : decide (1024 < zM.length) = false:=decide_eq_false (by omega)
  clear c2
  have H':=Aside0.mk H
  clear H
  go_enter Tryd.func27,Tryd.ntmps27
  go_wp2_with (first|((with_reducible refine dw (N:=1) rfl ?_);refine cB ?hg (N:=1) ?hd (cs:=#[.int .u64 zS,.slice AL zM.length zY]) (t:=49) ?hr ?_;(case hd=>rfl);(case hg=>rfl);(case hr=>first|(go_simp;done)|(go_simp;rfl));intro zR hg w5 hbox hb;have Ab:=Aside0.mk (aU (by repeat (first|(with_reducible first|exact HB.out|apply aD|apply ak|apply aC)|exact HB.out)) hb);have Ac:=Aside0.mk (hbox);have Ad:=Aside0.mk ((by rw [hg];exact (aW (by repeat (first|(with_reducible first|exact HB.out|apply aD|apply ak|apply aC)|exact HB.out))) : w.heap.size ≤ zR));have BS:=Aside0.mk ((by rw [hg];exact (aW (by repeat (first|(with_reducible first|exact HB.out|apply aD|apply ak|apply aC)|exact HB.out))) : w.heap.size ≤ zR));clear HB;have HB:=Ab;have zQ:=Ac;have Db:=Ad;have zT:=BS;clear Ab Ac Ad BS;clear hb hbox hg;have BO : w5.cell? ⟨zR,0,none⟩ = some (.int .u64 zS):=(ay zQ.out 0).trans rfl;have BP : w5.cell? ⟨zR,1,none⟩ = some (.slice AL zM.length zY):=(ay zQ.out 1).trans rfl;have BQ:=av zQ.out 0;have BR:=av zQ.out 1))
  repeat (go_quiet (first|((with_reducible refine dw (N:=1) rfl ?_);refine cB ?hg (N:=1) ?hd (cs:=#[.int .u64 zS,.slice AL zM.length zY]) (t:=49) ?hr ?_;(case hd=>rfl);(case hg=>rfl);(case hr=>first|(go_simp;done)|(go_simp;rfl));intro zR hg w5 hbox hb;have Ab:=Aside0.mk (aU (by repeat (first|(with_reducible first|exact HB.out|apply aD|apply ak|apply aC)|exact HB.out)) hb);have Ac:=Aside0.mk (hbox);have Ad:=Aside0.mk ((by rw [hg];exact (aW (by repeat (first|(with_reducible first|exact HB.out|apply aD|apply ak|apply aC)|exact HB.out))) : w.heap.size ≤ zR));have BS:=Aside0.mk ((by rw [hg];exact (aW (by repeat (first|(with_reducible first|exact HB.out|apply aD|apply ak|apply aC)|exact HB.out))) : w.heap.size ≤ zR));clear HB;have HB:=Ab;have zQ:=Ac;have Db:=Ad;have zT:=BS;clear Ab Ac Ad BS;clear hb hbox hg;have BO : w5.cell? ⟨zR,0,none⟩ = some (.int .u64 zS):=(ay zQ.out 0).trans rfl;have BP : w5.cell? ⟨zR,1,none⟩ = some (.slice AL zM.length zY):=(ay zQ.out 1).trans rfl;have BQ:=av zQ.out 0;have BR:=av zQ.out 1));try go_wp2_with (first|((with_reducible refine dw (N:=1) rfl ?_);refine cB ?hg (N:=1) ?hd (cs:=#[.int .u64 zS,.slice AL zM.length zY]) (t:=49) ?hr ?_;(case hd=>rfl);(case hg=>rfl);(case hr=>first|(go_simp;done)|(go_simp;rfl));intro zR hg w5 hbox hb;have Ab:=Aside0.mk (aU (by repeat (first|(with_reducible first|exact HB.out|apply aD|apply ak|apply aC)|exact HB.out)) hb);have Ac:=Aside0.mk (hbox);have Ad:=Aside0.mk ((by rw [hg];exact (aW (by repeat (first|(with_reducible first|exact HB.out|apply aD|apply ak|apply aC)|exact HB.out))) : w.heap.size ≤ zR));have BS:=Aside0.mk ((by rw [hg];exact (aW (by repeat (first|(with_reducible first|exact HB.out|apply aD|apply ak|apply aC)|exact HB.out))) : w.heap.size ≤ zR));clear HB;have HB:=Ab;have zQ:=Ac;have Db:=Ad;have zT:=BS;clear Ab Ac Ad BS;clear hb hbox hg;have BO : w5.cell? ⟨zR,0,none⟩ = some (.int .u64 zS):=(ay zQ.out 0).trans rfl;have BP : w5.cell? ⟨zR,1,none⟩ = some (.slice AL zM.length zY):=(ay zQ.out 1).trans rfl;have BQ:=av zQ.out 0;have BR:=av zQ.out 1)))
  go_loopg [13] k (fun kq v13 w'=>∃ (zL : Int),v13 = .int .i64 zL ∧ Aside0 (aM.l0 kq zM (zM.length : Int) zL zS zM = some r) ∧ Aside0 (kq ≤ k) ∧ Aside0 (w'.heap[zR]? = some (.cells #[.int .u64 zS,(.slice AL zM.length zY)] 49 (0,0))) ∧ Aside0 (Below w.heap.size w w'))
  case atStart=>exact ⟨(0),(by first|rfl|(simp;done)|(simp [*];done)),H',⟨Nat.le_refl _⟩,⟨by (with_reducible repeat (first|apply aj|apply au|apply ah));exact zQ.out⟩,⟨by repeat (first|(with_reducible first|exact HB.out|apply aD|apply ak|apply aC|refine aA ?_ zT.out)|exact HB.out)⟩⟩
  case round =>
   clear H'
   try clear c2
   try clear c2b0
   try clear c2b1
   try clear p2
   try clear BK
   try clear BL
   try clear BO
   try clear BP
   try clear BM
   try clear BN
   try clear BQ
   try clear BR
   obtain ⟨zL,rfl,HA,DX,zQ,HB⟩:=hrel
   cases gk with
   | zero=>exact absurd HA.out (by simp [aM.l0])
   | succ k1 =>
    have H:=HA.out
    clear HA
    simp only [aM.l0] at H
    by_cases c7 : zL < (zM.length : Int)
    ·rw [if_pos c7] at H
     have c7b0 : decide (zL < (zM.length : Int)) = true:=decide_eq_true c7
     clear c7
     by_cases c8 : 0 ≤ zL
     ·rw [if_pos c8] at H
      have c8b0 : decide (0 ≤ zL) = true:=decide_eq_true c8
      clear c8
      by_cases c9 : zL < (zM.length : Int)
      ·rw [if_pos c9] at H
       have c9b0 : decide (zL < (zM.length : Int)) = true:=decide_eq_true c9
       clear c9
       have EY:=Aside0.mk H
       clear H
       have DK : 0 ≤ (zL : Int):=of_decide_eq_true (by first|(with_reducible assumption)|assumption)
       have DL : zL < (zM.length : Int):=of_decide_eq_true (by first|(with_reducible assumption)|assumption)
       obtain ⟨zZ,zV,zW,Gb,Ar,Av,Aw,Ay,Az,AA,Dc,Df⟩:=oV EO.out zL DK DL
       cases Gb
       replace Ar:=(HB.out.cell (World.block_lt_of_cell? w _ Ar)).trans Ar
       replace Av:=(HB.out.cell (World.block_lt_of_cell? w _ Av)).trans Av
       replace Aw:=(HB.out.cell (World.block_lt_of_cell? w _ Aw)).trans Aw
       replace Ay:=(HB.out.cell (World.block_lt_of_cell? w _ Ay)).trans Ay
       replace Az:=(HB.out.cell (World.block_lt_of_cell? w _ Az)).trans Az
       replace AA:=(HB.out.cell (World.block_lt_of_cell? w _ AA)).trans AA
       have AB:=Aside0.mk Df
       have AJ:=Aside0.mk Dc
       clear Df Dc
       replace DK:=eq_true DK
       replace DL:=eq_true DL
       go_upto_region 6 with (first|((with_reducible refine dw (N:=4) rfl ?_);refine cB ?hg (N:=4) ?hd (cs:=#[.string (⟨#[]⟩ : ByteArray),.string (⟨#[]⟩ : ByteArray),.string (⟨#[]⟩ : ByteArray),.int .u8 0,.int .u16 0,.slice none 0 0]) (t:=98) ?hr ?_;(case hd=>rfl);(case hg=>rfl);(case hr=>first|(go_simp;done)|(go_simp;rfl));intro zP hg Al hbox hb;have Ab:=Aside0.mk (aQ (g:=zR) (o:=.cells #[.int .u64 zS,.slice (some zZ) zM.length zY] 49 (0,0)) (bk_ zQ.out) hb);have Ac:=Aside0.mk (aU (by repeat (first|(with_reducible first|exact HB.out|apply aD|apply ak|apply aC|refine aA ?_ zT.out)|exact HB.out)) hb);have Ad:=Aside0.mk (hbox);have BS:=Aside0.mk ((by rw [hg];exact (aW (by repeat (first|(with_reducible first|exact HB.out|apply aD|apply ak|apply aC|refine aA ?_ zT.out)|exact HB.out))) : w.heap.size ≤ zP));have EP:=Aside0.mk ((by rw [hg];exact (aW (by repeat (first|(with_reducible first|exact HB.out|apply aD|apply ak|apply aC|refine aA ?_ zT.out)|exact HB.out))) : w.heap.size ≤ zP));have ER:=Aside0.mk ((by rw [hg];exact Nat.ne_of_lt (bV (g:=zR) (o:=.cells #[.int .u64 zS,.slice (some zZ) zM.length zY] 49 (0,0)) (bk_ zQ.out)) : zR ≠ zP));have ES:=Aside0.mk ((by rw [hg];exact Nat.ne_of_gt (bV (g:=zR) (o:=.cells #[.int .u64 zS,.slice (some zZ) zM.length zY] 49 (0,0)) (bk_ zQ.out)) : zP ≠ zR));clear zQ;clear HB;have zQ:=Ab;have HB:=Ac;have zN:=Ad;have ET:=BS;have zX:=EP;have zO:=ER;have zU:=ES;clear Ab Ac Ad BS EP ER ES;clear hb hbox hg;have EU:=zU.out;have EW:=zO.out;have AO : Al.cell? ⟨zP,0,none⟩ = some (.string (⟨#[]⟩ : ByteArray)):=(ay zN.out 0).trans rfl;have AP : Al.cell? ⟨zP,1,none⟩ = some (.string (⟨#[]⟩ : ByteArray)):=(ay zN.out 1).trans rfl;have AQ : Al.cell? ⟨zP,2,none⟩ = some (.string (⟨#[]⟩ : ByteArray)):=(ay zN.out 2).trans rfl;have AU : Al.cell? ⟨zP,3,none⟩ = some (.int .u8 0):=(ay zN.out 3).trans rfl;have AV : Al.cell? ⟨zP,4,none⟩ = some (.int .u16 0):=(ay zN.out 4).trans rfl;have AX : Al.cell? ⟨zP,5,none⟩ = some (.slice none 0 0):=(ay zN.out 5).trans rfl;have AY:=av zN.out 0;have AZ:=av zN.out 1;have A9:=av zN.out 2;have Bf:=av zN.out 3;have Bg:=av zN.out 4;have Bh:=av zN.out 5))
       repeat (go_quiet (first|((with_reducible refine dw (N:=4) rfl ?_);refine cB ?hg (N:=4) ?hd (cs:=#[.string (⟨#[]⟩ : ByteArray),.string (⟨#[]⟩ : ByteArray),.string (⟨#[]⟩ : ByteArray),.int .u8 0,.int .u16 0,.slice none 0 0]) (t:=98) ?hr ?_;(case hd=>rfl);(case hg=>rfl);(case hr=>first|(go_simp;done)|(go_simp;rfl));intro zP hg Al hbox hb;have Ab:=Aside0.mk (aQ (g:=zR) (o:=.cells #[.int .u64 zS,.slice (some zZ) zM.length zY] 49 (0,0)) (bk_ zQ.out) hb);have Ac:=Aside0.mk (aU (by repeat (first|(with_reducible first|exact HB.out|apply aD|apply ak|apply aC|refine aA ?_ zT.out)|exact HB.out)) hb);have Ad:=Aside0.mk (hbox);have BS:=Aside0.mk ((by rw [hg];exact (aW (by repeat (first|(with_reducible first|exact HB.out|apply aD|apply ak|apply aC|refine aA ?_ zT.out)|exact HB.out))) : w.heap.size ≤ zP));have EP:=Aside0.mk ((by rw [hg];exact (aW (by repeat (first|(with_reducible first|exact HB.out|apply aD|apply ak|apply aC|refine aA ?_ zT.out)|exact HB.out))) : w.heap.size ≤ zP));have ER:=Aside0.mk ((by rw [hg];exact Nat.ne_of_lt (bV (g:=zR) (o:=.cells #[.int .u64 zS,.slice (some zZ) zM.length zY] 49 (0,0)) (bk_ zQ.out)) : zR ≠ zP));have ES:=Aside0.mk ((by rw [hg];exact Nat.ne_of_gt (bV (g:=zR) (o:=.cells #[.int .u64 zS,.slice (some zZ) zM.length zY] 49 (0,0)) (bk_ zQ.out)) : zP ≠ zR));clear zQ;clear HB;have zQ:=Ab;have HB:=Ac;have zN:=Ad;have ET:=BS;have zX:=EP;have zO:=ER;have zU:=ES;clear Ab Ac Ad BS EP ER ES;clear hb hbox hg;have EU:=zU.out;have EW:=zO.out;have AO : Al.cell? ⟨zP,0,none⟩ = some (.string (⟨#[]⟩ : ByteArray)):=(ay zN.out 0).trans rfl;have AP : Al.cell? ⟨zP,1,none⟩ = some (.string (⟨#[]⟩ : ByteArray)):=(ay zN.out 1).trans rfl;have AQ : Al.cell? ⟨zP,2,none⟩ = some (.string (⟨#[]⟩ : ByteArray)):=(ay zN.out 2).trans rfl;have AU : Al.cell? ⟨zP,3,none⟩ = some (.int .u8 0):=(ay zN.out 3).trans rfl;have AV : Al.cell? ⟨zP,4,none⟩ = some (.int .u16 0):=(ay zN.out 4).trans rfl;have AX : Al.cell? ⟨zP,5,none⟩ = some (.slice none 0 0):=(ay zN.out 5).trans rfl;have AY:=av zN.out 0;have AZ:=av zN.out 1;have A9:=av zN.out 2;have Bf:=av zN.out 3;have Bg:=av zN.out 4;have Bh:=av zN.out 5));go_upto_region 6 with (first|((with_reducible refine dw (N:=4) rfl ?_);refine cB ?hg (N:=4) ?hd (cs:=#[.string (⟨#[]⟩ : ByteArray),.string (⟨#[]⟩ : ByteArray),.string (⟨#[]⟩ : ByteArray),.int .u8 0,.int .u16 0,.slice none 0 0]) (t:=98) ?hr ?_;(case hd=>rfl);(case hg=>rfl);(case hr=>first|(go_simp;done)|(go_simp;rfl));intro zP hg Al hbox hb;have Ab:=Aside0.mk (aQ (g:=zR) (o:=.cells #[.int .u64 zS,.slice (some zZ) zM.length zY] 49 (0,0)) (bk_ zQ.out) hb);have Ac:=Aside0.mk (aU (by repeat (first|(with_reducible first|exact HB.out|apply aD|apply ak|apply aC|refine aA ?_ zT.out)|exact HB.out)) hb);have Ad:=Aside0.mk (hbox);have BS:=Aside0.mk ((by rw [hg];exact (aW (by repeat (first|(with_reducible first|exact HB.out|apply aD|apply ak|apply aC|refine aA ?_ zT.out)|exact HB.out))) : w.heap.size ≤ zP));have EP:=Aside0.mk ((by rw [hg];exact (aW (by repeat (first|(with_reducible first|exact HB.out|apply aD|apply ak|apply aC|refine aA ?_ zT.out)|exact HB.out))) : w.heap.size ≤ zP));have ER:=Aside0.mk ((by rw [hg];exact Nat.ne_of_lt (bV (g:=zR) (o:=.cells #[.int .u64 zS,.slice (some zZ) zM.length zY] 49 (0,0)) (bk_ zQ.out)) : zR ≠ zP));have ES:=Aside0.mk ((by rw [hg];exact Nat.ne_of_gt (bV (g:=zR) (o:=.cells #[.int .u64 zS,.slice (some zZ) zM.length zY] 49 (0,0)) (bk_ zQ.out)) : zP ≠ zR));clear zQ;clear HB;have zQ:=Ab;have HB:=Ac;have zN:=Ad;have ET:=BS;have zX:=EP;have zO:=ER;have zU:=ES;clear Ab Ac Ad BS EP ER ES;clear hb hbox hg;have EU:=zU.out;have EW:=zO.out;have AO : Al.cell? ⟨zP,0,none⟩ = some (.string (⟨#[]⟩ : ByteArray)):=(ay zN.out 0).trans rfl;have AP : Al.cell? ⟨zP,1,none⟩ = some (.string (⟨#[]⟩ : ByteArray)):=(ay zN.out 1).trans rfl;have AQ : Al.cell? ⟨zP,2,none⟩ = some (.string (⟨#[]⟩ : ByteArray)):=(ay zN.out 2).trans rfl;have AU : Al.cell? ⟨zP,3,none⟩ = some (.int .u8 0):=(ay zN.out 3).trans rfl;have AV : Al.cell? ⟨zP,4,none⟩ = some (.int .u16 0):=(ay zN.out 4).trans rfl;have AX : Al.cell? ⟨zP,5,none⟩ = some (.slice none 0 0):=(ay zN.out 5).trans rfl;have AY:=av zN.out 0;have AZ:=av zN.out 1;have A9:=av zN.out 2;have Bf:=av zN.out 3;have Bg:=av zN.out 4;have Bh:=av zN.out 5)))
       (try simp only [Act.put,List.setIfInBounds_toArray,List.set_cons_zero,List.set_cons_succ])
       go_cut [18] (fun v18 wc=>∃ (kq : Nat) (Dh : Bool),v18 = .bool Dh ∧ Aside0 (aM.j1 kq zL zM (zM.length : Int) zL Dh zS zM ((aH zM zL).f0) ((aH zM zL).f1) ((aH zM zL).f2) ((aH zM zL).f3) ((aH zM zL).f4) ((aH zM zL).f5) = some r) ∧ Aside0 (kq ≤ k1) ∧ Aside0 (wc.heap[zR]? = some (.cells #[.int .u64 zS,(.slice (some zZ) zM.length zY)] 49 (0,0))) ∧ Aside0 (wc.heap[zP]? = some (.cells #[.string ((aH zM zL).f0),.string ((aH zM zL).f1),.string ((aH zM zL).f2),.int .u8 ((aH zM zL).f3),.int .u16 ((aH zM zL).f4),(.slice zV ((aH zM zL).f5).length zW)] 98 (0,0))) ∧ Aside0 (Below w.heap.size w wc))
       case first =>
        have H:=EY.out
        clear EY
        replace H:=Option.bind_eq_some_iff.mp H
        obtain ⟨DY,Fh,H⟩:=H
        replace H : (if DY = true then ((dR.f k1 ((aH zM zL).f1)).bind fun t138=>(if t138 = true then ((bB.f k1 ((aH zM zL).f2)).bind fun t139=>(aM.j1 k1 zL zM (zM.length : Int) zL (!t139) zS zM ((aH zM zL).f0) ((aH zM zL).f1) ((aH zM zL).f2) ((aH zM zL).f3) ((aH zM zL).f4) ((aH zM zL).f5))) else (aM.j1 k1 zL zM (zM.length : Int) zL true zS zM ((aH zM zL).f0) ((aH zM zL).f1) ((aH zM zL).f2) ((aH zM zL).f3) ((aH zM zL).f4) ((aH zM zL).f5)))) else (aM.j1 k1 zL zM (zM.length : Int) zL true zS zM ((aH zM zL).f0) ((aH zM zL).f1) ((aH zM zL).f2) ((aH zM zL).f3) ((aH zM zL).f4) ((aH zM zL).f5))) = some r:=H
        have DZ:=Aside0.mk Fh
        clear Fh
        by_cases c15 : DY = true
        ·subst c15
         have H1 : ((dR.f k1 ((aH zM zL).f1)).bind fun t138=>(if t138 = true then ((bB.f k1 ((aH zM zL).f2)).bind fun t139=>(aM.j1 k1 zL zM (zM.length : Int) zL (!t139) zS zM ((aH zM zL).f0) ((aH zM zL).f1) ((aH zM zL).f2) ((aH zM zL).f3) ((aH zM zL).f4) ((aH zM zL).f5))) else (aM.j1 k1 zL zM (zM.length : Int) zL true zS zM ((aH zM zL).f0) ((aH zM zL).f1) ((aH zM zL).f2) ((aH zM zL).f3) ((aH zM zL).f4) ((aH zM zL).f5)))) = some r:=by rw [if_pos rfl] at H;exact H
         clear H
         have H:=H1
         clear H1
         replace H:=Option.bind_eq_some_iff.mp H
         obtain ⟨t138,Fj,H⟩:=H
         replace H : (if t138 = true then ((bB.f k1 ((aH zM zL).f2)).bind fun t139=>(aM.j1 k1 zL zM (zM.length : Int) zL (!t139) zS zM ((aH zM zL).f0) ((aH zM zL).f1) ((aH zM zL).f2) ((aH zM zL).f3) ((aH zM zL).f4) ((aH zM zL).f5))) else (aM.j1 k1 zL zM (zM.length : Int) zL true zS zM ((aH zM zL).f0) ((aH zM zL).f1) ((aH zM zL).f2) ((aH zM zL).f3) ((aH zM zL).f4) ((aH zM zL).f5))) = some r:=H
         have Fb:=Aside0.mk Fj
         clear Fj
         by_cases c17 : t138 = true
         ·subst c17
          have H1 : ((bB.f k1 ((aH zM zL).f2)).bind fun t139=>(aM.j1 k1 zL zM (zM.length : Int) zL (!t139) zS zM ((aH zM zL).f0) ((aH zM zL).f1) ((aH zM zL).f2) ((aH zM zL).f3) ((aH zM zL).f4) ((aH zM zL).f5))) = some r:=by rw [if_pos rfl] at H;exact H
          clear H
          have H:=H1
          clear H1
          replace H:=Option.bind_eq_some_iff.mp H
          obtain ⟨t139,Fp,H⟩:=H
          replace H : (aM.j1 k1 zL zM (zM.length : Int) zL (!t139) zS zM ((aH zM zL).f0) ((aH zM zL).f1) ((aH zM zL).f2) ((aH zM zL).f3) ((aH zM zL).f4) ((aH zM zL).f5)) = some r:=H
          have Gc:=Aside0.mk Fp
          clear Fp
          have H':=Aside0.mk H
          clear H
          have Gj:=zU.out
          have Gl:=zO.out
          have Cb : Al.cell? ⟨zP,0,none⟩ = some (.string (⟨#[]⟩ : ByteArray)):=(ay zN.out 0).trans rfl
          have Cc : Al.cell? ⟨zP,1,none⟩ = some (.string (⟨#[]⟩ : ByteArray)):=(ay zN.out 1).trans rfl
          have Ce : Al.cell? ⟨zP,2,none⟩ = some (.string (⟨#[]⟩ : ByteArray)):=(ay zN.out 2).trans rfl
          have Cg : Al.cell? ⟨zP,3,none⟩ = some (.int .u8 0):=(ay zN.out 3).trans rfl
          have Ch : Al.cell? ⟨zP,4,none⟩ = some (.int .u16 0):=(ay zN.out 4).trans rfl
          have Ci : Al.cell? ⟨zP,5,none⟩ = some (.slice none 0 0):=(ay zN.out 5).trans rfl
          have Cj:=av zN.out 0
          have Ck:=av zN.out 1
          have Cm:=av zN.out 2
          have Cn:=av zN.out 3
          have Co:=av zN.out 4
          have Cq:=av zN.out 5
          go_wp2_with (first|(go_at_call 18;(with_reducible refine (bS.calls k1 ((aH zM zL).f0) true _ DZ.out).mono ?_);rintro e w' ⟨rfl,⟨nd,rfl⟩⟩;(try first|exact ⟨rfl,_,World.drewN_drewN _ _ _⟩|exact ⟨rfl,_,Eq.trans (World.drewN_drewN _ _ _) (congrArg (World.drewN _) (Nat.add_assoc _ _ _))⟩))|(go_at_call 41;(with_reducible refine (dR.calls k1 ((aH zM zL).f1) true _ Fb.out).mono ?_);rintro e Ca ⟨rfl,hb⟩;have Ab:=Aside0.mk (aQ (g:=zR) (o:=.cells #[.int .u64 zS,.slice (some zZ) zM.length zY] 49 (0,0)) (by (with_reducible repeat (first|apply aj|apply au|apply ah));refine aJ ?_ zO.out _;(with_reducible repeat (first|apply aj|apply au|apply ah));refine aJ ?_ zO.out _;(with_reducible repeat (first|apply aj|apply au|apply ah));refine aJ ?_ zO.out _;(with_reducible repeat (first|apply aj|apply au|apply ah));refine aJ ?_ zO.out _;(with_reducible repeat (first|apply aj|apply au|apply ah));refine aJ ?_ zO.out _;(with_reducible repeat (first|apply aj|apply au|apply ah));refine aJ ?_ zO.out _;(with_reducible repeat (first|apply aj|apply au|apply ah));exact zQ.out) hb);have Ac:=Aside0.mk (aQ (g:=zP) (o:=.cells #[.string ((aH zM zL).f0),.string ((aH zM zL).f1),.string ((aH zM zL).f2),.int .u8 ((aH zM zL).f3),.int .u16 ((aH zM zL).f4),.slice zV ((aH zM zL).f5).length zW] 98 (0,0)) (by (with_reducible repeat (first|apply aj|apply au|apply ah));refine aX (cs:=#[.string ((aH zM zL).f0),.string ((aH zM zL).f1),.string ((aH zM zL).f2),.int .u8 ((aH zM zL).f3),.int .u16 ((aH zM zL).f4),.slice none 0 0]) ?_ 5 _ rfl;(with_reducible repeat (first|apply aj|apply au|apply ah));refine aX (cs:=#[.string ((aH zM zL).f0),.string ((aH zM zL).f1),.string ((aH zM zL).f2),.int .u8 ((aH zM zL).f3),.int .u16 0,.slice none 0 0]) ?_ 4 _ rfl;(with_reducible repeat (first|apply aj|apply au|apply ah));refine aX (cs:=#[.string ((aH zM zL).f0),.string ((aH zM zL).f1),.string ((aH zM zL).f2),.int .u8 0,.int .u16 0,.slice none 0 0]) ?_ 3 _ rfl;(with_reducible repeat (first|apply aj|apply au|apply ah));refine aX (cs:=#[.string ((aH zM zL).f0),.string ((aH zM zL).f1),.string (⟨#[]⟩ : ByteArray),.int .u8 0,.int .u16 0,.slice none 0 0]) ?_ 2 _ rfl;(with_reducible repeat (first|apply aj|apply au|apply ah));refine aX (cs:=#[.string ((aH zM zL).f0),.string (⟨#[]⟩ : ByteArray),.string (⟨#[]⟩ : ByteArray),.int .u8 0,.int .u16 0,.slice none 0 0]) ?_ 1 _ rfl;(with_reducible repeat (first|apply aj|apply au|apply ah));refine aX (cs:=#[.string (⟨#[]⟩ : ByteArray),.string (⟨#[]⟩ : ByteArray),.string (⟨#[]⟩ : ByteArray),.int .u8 0,.int .u16 0,.slice none 0 0]) ?_ 0 _ rfl;(with_reducible repeat (first|apply aj|apply au|apply ah));exact zN.out) hb);have Ad:=Aside0.mk (aU (by repeat (first|(with_reducible first|exact HB.out|apply aD|apply ak|apply aC|refine aA ?_ zT.out|refine aA ?_ zX.out)|exact HB.out)) hb);clear zQ;clear zN;clear HB;have zQ:=Ab;have zN:=Ac;have HB:=Ad;clear Ab Ac Ad;(try clear hb);(try clear hb2);(try clear hk);(try clear hi);have Bj : Ca.cell? ⟨zP,0,none⟩ = some (.string ((aH zM zL).f0)):=(ay zN.out 0).trans rfl;have Bl : Ca.cell? ⟨zP,1,none⟩ = some (.string ((aH zM zL).f1)):=(ay zN.out 1).trans rfl;have Bn : Ca.cell? ⟨zP,2,none⟩ = some (.string ((aH zM zL).f2)):=(ay zN.out 2).trans rfl;have Bo : Ca.cell? ⟨zP,3,none⟩ = some (.int .u8 ((aH zM zL).f3)):=(ay zN.out 3).trans rfl;have Bp : Ca.cell? ⟨zP,4,none⟩ = some (.int .u16 ((aH zM zL).f4)):=(ay zN.out 4).trans rfl;have Bq : Ca.cell? ⟨zP,5,none⟩ = some (.slice zV ((aH zM zL).f5).length zW):=(ay zN.out 5).trans rfl;have Br:=av zN.out 0;have Bt:=av zN.out 1;have Bu:=av zN.out 2;have Bv:=av zN.out 3;have Bw:=av zN.out 4;have Bz:=av zN.out 5)|(go_at_call 56;(with_reducible refine (bB.calls k1 ((aH zM zL).f2) t139 _ Gc.out).mono ?_);rintro e w' ⟨rfl,⟨nd,rfl⟩⟩;(try first|exact ⟨rfl,_,World.drewN_drewN _ _ _⟩|exact ⟨rfl,_,Eq.trans (World.drewN_drewN _ _ _) (congrArg (World.drewN _) (Nat.add_assoc _ _ _))⟩)))
          repeat (go_quiet (first|(go_at_call 18;(with_reducible refine (bS.calls k1 ((aH zM zL).f0) true _ DZ.out).mono ?_);rintro e w' ⟨rfl,⟨nd,rfl⟩⟩;(try first|exact ⟨rfl,_,World.drewN_drewN _ _ _⟩|exact ⟨rfl,_,Eq.trans (World.drewN_drewN _ _ _) (congrArg (World.drewN _) (Nat.add_assoc _ _ _))⟩))|(go_at_call 41;(with_reducible refine (dR.calls k1 ((aH zM zL).f1) true _ Fb.out).mono ?_);rintro e Ca ⟨rfl,hb⟩;have Ab:=Aside0.mk (aQ (g:=zR) (o:=.cells #[.int .u64 zS,.slice (some zZ) zM.length zY] 49 (0,0)) (by (with_reducible repeat (first|apply aj|apply au|apply ah));refine aJ ?_ zO.out _;(with_reducible repeat (first|apply aj|apply au|apply ah));refine aJ ?_ zO.out _;(with_reducible repeat (first|apply aj|apply au|apply ah));refine aJ ?_ zO.out _;(with_reducible repeat (first|apply aj|apply au|apply ah));refine aJ ?_ zO.out _;(with_reducible repeat (first|apply aj|apply au|apply ah));refine aJ ?_ zO.out _;(with_reducible repeat (first|apply aj|apply au|apply ah));refine aJ ?_ zO.out _;(with_reducible repeat (first|apply aj|apply au|apply ah));exact zQ.out) hb);have Ac:=Aside0.mk (aQ (g:=zP) (o:=.cells #[.string ((aH zM zL).f0),.string ((aH zM zL).f1),.string ((aH zM zL).f2),.int .u8 ((aH zM zL).f3),.int .u16 ((aH zM zL).f4),.slice zV ((aH zM zL).f5).length zW] 98 (0,0)) (by (with_reducible repeat (first|apply aj|apply au|apply ah));refine aX (cs:=#[.string ((aH zM zL).f0),.string ((aH zM zL).f1),.string ((aH zM zL).f2),.int .u8 ((aH zM zL).f3),.int .u16 ((aH zM zL).f4),.slice none 0 0]) ?_ 5 _ rfl;(with_reducible repeat (first|apply aj|apply au|apply ah));refine aX (cs:=#[.string ((aH zM zL).f0),.string ((aH zM zL).f1),.string ((aH zM zL).f2),.int .u8 ((aH zM zL).f3),.int .u16 0,.slice none 0 0]) ?_ 4 _ rfl;(with_reducible repeat (first|apply aj|apply au|apply ah));refine aX (cs:=#[.string ((aH zM zL).f0),.string ((aH zM zL).f1),.string ((aH zM zL).f2),.int .u8 0,.int .u16 0,.slice none 0 0]) ?_ 3 _ rfl;(with_reducible repeat (first|apply aj|apply au|apply ah));refine aX (cs:=#[.string ((aH zM zL).f0),.string ((aH zM zL).f1),.string (⟨#[]⟩ : ByteArray),.int .u8 0,.int .u16 0,.slice none 0 0]) ?_ 2 _ rfl;(with_reducible repeat (first|apply aj|apply au|apply ah));refine aX (cs:=#[.string ((aH zM zL).f0),.string (⟨#[]⟩ : ByteArray),.string (⟨#[]⟩ : ByteArray),.int .u8 0,.int .u16 0,.slice none 0 0]) ?_ 1 _ rfl;(with_reducible repeat (first|apply aj|apply au|apply ah));refine aX (cs:=#[.string (⟨#[]⟩ : ByteArray),.string (⟨#[]⟩ : ByteArray),.string (⟨#[]⟩ : ByteArray),.int .u8 0,.int .u16 0,.slice none 0 0]) ?_ 0 _ rfl;(with_reducible repeat (first|apply aj|apply au|apply ah));exact zN.out) hb);have Ad:=Aside0.mk (aU (by repeat (first|(with_reducible first|exact HB.out|apply aD|apply ak|apply aC|refine aA ?_ zT.out|refine aA ?_ zX.out)|exact HB.out)) hb);clear zQ;clear zN;clear HB;have zQ:=Ab;have zN:=Ac;have HB:=Ad;clear Ab Ac Ad;(try clear hb);(try clear hb2);(try clear hk);(try clear hi);have Bj : Ca.cell? ⟨zP,0,none⟩ = some (.string ((aH zM zL).f0)):=(ay zN.out 0).trans rfl;have Bl : Ca.cell? ⟨zP,1,none⟩ = some (.string ((aH zM zL).f1)):=(ay zN.out 1).trans rfl;have Bn : Ca.cell? ⟨zP,2,none⟩ = some (.string ((aH zM zL).f2)):=(ay zN.out 2).trans rfl;have Bo : Ca.cell? ⟨zP,3,none⟩ = some (.int .u8 ((aH zM zL).f3)):=(ay zN.out 3).trans rfl;have Bp : Ca.cell? ⟨zP,4,none⟩ = some (.int .u16 ((aH zM zL).f4)):=(ay zN.out 4).trans rfl;have Bq : Ca.cell? ⟨zP,5,none⟩ = some (.slice zV ((aH zM zL).f5).length zW):=(ay zN.out 5).trans rfl;have Br:=av zN.out 0;have Bt:=av zN.out 1;have Bu:=av zN.out 2;have Bv:=av zN.out 3;have Bw:=av zN.out 4;have Bz:=av zN.out 5)|(go_at_call 56;(with_reducible refine (bB.calls k1 ((aH zM zL).f2) t139 _ Gc.out).mono ?_);rintro e w' ⟨rfl,⟨nd,rfl⟩⟩;(try first|exact ⟨rfl,_,World.drewN_drewN _ _ _⟩|exact ⟨rfl,_,Eq.trans (World.drewN_drewN _ _ _) (congrArg (World.drewN _) (Nat.add_assoc _ _ _))⟩)));try go_wp2_with (first|(go_at_call 18;(with_reducible refine (bS.calls k1 ((aH zM zL).f0) true _ DZ.out).mono ?_);rintro e w' ⟨rfl,⟨nd,rfl⟩⟩;(try first|exact ⟨rfl,_,World.drewN_drewN _ _ _⟩|exact ⟨rfl,_,Eq.trans (World.drewN_drewN _ _ _) (congrArg (World.drewN _) (Nat.add_assoc _ _ _))⟩))|(go_at_call 41;(with_reducible refine (dR.calls k1 ((aH zM zL).f1) true _ Fb.out).mono ?_);rintro e Ca ⟨rfl,hb⟩;have Ab:=Aside0.mk (aQ (g:=zR) (o:=.cells #[.int .u64 zS,.slice (some zZ) zM.length zY] 49 (0,0)) (by (with_reducible repeat (first|apply aj|apply au|apply ah));refine aJ ?_ zO.out _;(with_reducible repeat (first|apply aj|apply au|apply ah));refine aJ ?_ zO.out _;(with_reducible repeat (first|apply aj|apply au|apply ah));refine aJ ?_ zO.out _;(with_reducible repeat (first|apply aj|apply au|apply ah));refine aJ ?_ zO.out _;(with_reducible repeat (first|apply aj|apply au|apply ah));refine aJ ?_ zO.out _;(with_reducible repeat (first|apply aj|apply au|apply ah));refine aJ ?_ zO.out _;(with_reducible repeat (first|apply aj|apply au|apply ah));exact zQ.out) hb);have Ac:=Aside0.mk (aQ (g:=zP) (o:=.cells #[.string ((aH zM zL).f0),.string ((aH zM zL).f1),.string ((aH zM zL).f2),.int .u8 ((aH zM zL).f3),.int .u16 ((aH zM zL).f4),.slice zV ((aH zM zL).f5).length zW] 98 (0,0)) (by (with_reducible repeat (first|apply aj|apply au|apply ah));refine aX (cs:=#[.string ((aH zM zL).f0),.string ((aH zM zL).f1),.string ((aH zM zL).f2),.int .u8 ((aH zM zL).f3),.int .u16 ((aH zM zL).f4),.slice none 0 0]) ?_ 5 _ rfl;(with_reducible repeat (first|apply aj|apply au|apply ah));refine aX (cs:=#[.string ((aH zM zL).f0),.string ((aH zM zL).f1),.string ((aH zM zL).f2),.int .u8 ((aH zM zL).f3),.int .u16 0,.slice none 0 0]) ?_ 4 _ rfl;(with_reducible repeat (first|apply aj|apply au|apply ah));refine aX (cs:=#[.string ((aH zM zL).f0),.string ((aH zM zL).f1),.string ((aH zM zL).f2),.int .u8 0,.int .u16 0,.slice none 0 0]) ?_ 3 _ rfl;(with_reducible repeat (first|apply aj|apply au|apply ah));refine aX (cs:=#[.string ((aH zM zL).f0),.string ((aH zM zL).f1),.string (⟨#[]⟩ : ByteArray),.int .u8 0,.int .u16 0,.slice none 0 0]) ?_ 2 _ rfl;(with_reducible repeat (first|apply aj|apply au|apply ah));refine aX (cs:=#[.string ((aH zM zL).f0),.string (⟨#[]⟩ : ByteArray),.string (⟨#[]⟩ : ByteArray),.int .u8 0,.int .u16 0,.slice none 0 0]) ?_ 1 _ rfl;(with_reducible repeat (first|apply aj|apply au|apply ah));refine aX (cs:=#[.string (⟨#[]⟩ : ByteArray),.string (⟨#[]⟩ : ByteArray),.string (⟨#[]⟩ : ByteArray),.int .u8 0,.int .u16 0,.slice none 0 0]) ?_ 0 _ rfl;(with_reducible repeat (first|apply aj|apply au|apply ah));exact zN.out) hb);have Ad:=Aside0.mk (aU (by repeat (first|(with_reducible first|exact HB.out|apply aD|apply ak|apply aC|refine aA ?_ zT.out|refine aA ?_ zX.out)|exact HB.out)) hb);clear zQ;clear zN;clear HB;have zQ:=Ab;have zN:=Ac;have HB:=Ad;clear Ab Ac Ad;(try clear hb);(try clear hb2);(try clear hk);(try clear hi);have Bj : Ca.cell? ⟨zP,0,none⟩ = some (.string ((aH zM zL).f0)):=(ay zN.out 0).trans rfl;have Bl : Ca.cell? ⟨zP,1,none⟩ = some (.string ((aH zM zL).f1)):=(ay zN.out 1).trans rfl;have Bn : Ca.cell? ⟨zP,2,none⟩ = some (.string ((aH zM zL).f2)):=(ay zN.out 2).trans rfl;have Bo : Ca.cell? ⟨zP,3,none⟩ = some (.int .u8 ((aH zM zL).f3)):=(ay zN.out 3).trans rfl;have Bp : Ca.cell? ⟨zP,4,none⟩ = some (.int .u16 ((aH zM zL).f4)):=(ay zN.out 4).trans rfl;have Bq : Ca.cell? ⟨zP,5,none⟩ = some (.slice zV ((aH zM zL).f5).length zW):=(ay zN.out 5).trans rfl;have Br:=av zN.out 0;have Bt:=av zN.out 1;have Bu:=av zN.out 2;have Bv:=av zN.out 3;have Bw:=av zN.out 4;have Bz:=av zN.out 5)|(go_at_call 56;(with_reducible refine (bB.calls k1 ((aH zM zL).f2) t139 _ Gc.out).mono ?_);rintro e w' ⟨rfl,⟨nd,rfl⟩⟩;(try first|exact ⟨rfl,_,World.drewN_drewN _ _ _⟩|exact ⟨rfl,_,Eq.trans (World.drewN_drewN _ _ _) (congrArg (World.drewN _) (Nat.add_assoc _ _ _))⟩))))
          go_meet
          case rel=>exact ⟨_,(!t139),(by first|rfl|(simp;done)|(simp [*];done)),H',⟨by have:=DX.out;first|omega|exact Nat.le_refl _⟩,⟨by (with_reducible repeat (first|apply aj|apply au|apply ah));exact zQ.out⟩,⟨by (with_reducible repeat (first|apply aj|apply au|apply ah));exact zN.out⟩,⟨by repeat (first|(with_reducible first|exact HB.out|apply aD|apply ak|apply aC|refine aA ?_ zT.out|refine aA ?_ zX.out)|exact HB.out)⟩⟩
         ·replace c17:=Bool.eq_false_iff.mpr c17
          subst c17
          have H1 : (aM.j1 k1 zL zM (zM.length : Int) zL true zS zM ((aH zM zL).f0) ((aH zM zL).f1) ((aH zM zL).f2) ((aH zM zL).f3) ((aH zM zL).f4) ((aH zM zL).f5)) = some r:=by rw [if_neg (show ¬ (false = true) by decide)] at H;exact H
          clear H
          have H:=H1
          clear H1
          have H':=Aside0.mk H
          clear H
          have Gm:=zU.out
          have Gn:=zO.out
          have Cr : Al.cell? ⟨zP,0,none⟩ = some (.string (⟨#[]⟩ : ByteArray)):=(ay zN.out 0).trans rfl
          have Ct : Al.cell? ⟨zP,1,none⟩ = some (.string (⟨#[]⟩ : ByteArray)):=(ay zN.out 1).trans rfl
          have Cu : Al.cell? ⟨zP,2,none⟩ = some (.string (⟨#[]⟩ : ByteArray)):=(ay zN.out 2).trans rfl
          have Cv : Al.cell? ⟨zP,3,none⟩ = some (.int .u8 0):=(ay zN.out 3).trans rfl
          have Cw : Al.cell? ⟨zP,4,none⟩ = some (.int .u16 0):=(ay zN.out 4).trans rfl
          have Cx : Al.cell? ⟨zP,5,none⟩ = some (.slice none 0 0):=(ay zN.out 5).trans rfl
          have Cy:=av zN.out 0
          have Cz:=av zN.out 1
          have CB:=av zN.out 2
          have CF:=av zN.out 3
          have CG:=av zN.out 4
          have CJ:=av zN.out 5
          go_wp2_with (first|(go_at_call 18;(with_reducible refine (bS.calls k1 ((aH zM zL).f0) true _ DZ.out).mono ?_);rintro e w' ⟨rfl,⟨nd,rfl⟩⟩;(try first|exact ⟨rfl,_,World.drewN_drewN _ _ _⟩|exact ⟨rfl,_,Eq.trans (World.drewN_drewN _ _ _) (congrArg (World.drewN _) (Nat.add_assoc _ _ _))⟩))|(go_at_call 41;(with_reducible refine (dR.calls k1 ((aH zM zL).f1) false _ Fb.out).mono ?_);rintro e Gp ⟨rfl,hb⟩;have Ab:=Aside0.mk (aQ (g:=zR) (o:=.cells #[.int .u64 zS,.slice (some zZ) zM.length zY] 49 (0,0)) (by (with_reducible repeat (first|apply aj|apply au|apply ah));refine aJ ?_ zO.out _;(with_reducible repeat (first|apply aj|apply au|apply ah));refine aJ ?_ zO.out _;(with_reducible repeat (first|apply aj|apply au|apply ah));refine aJ ?_ zO.out _;(with_reducible repeat (first|apply aj|apply au|apply ah));refine aJ ?_ zO.out _;(with_reducible repeat (first|apply aj|apply au|apply ah));refine aJ ?_ zO.out _;(with_reducible repeat (first|apply aj|apply au|apply ah));refine aJ ?_ zO.out _;(with_reducible repeat (first|apply aj|apply au|apply ah));exact zQ.out) hb);have Ac:=Aside0.mk (aQ (g:=zP) (o:=.cells #[.string ((aH zM zL).f0),.string ((aH zM zL).f1),.string ((aH zM zL).f2),.int .u8 ((aH zM zL).f3),.int .u16 ((aH zM zL).f4),.slice zV ((aH zM zL).f5).length zW] 98 (0,0)) (by (with_reducible repeat (first|apply aj|apply au|apply ah));refine aX (cs:=#[.string ((aH zM zL).f0),.string ((aH zM zL).f1),.string ((aH zM zL).f2),.int .u8 ((aH zM zL).f3),.int .u16 ((aH zM zL).f4),.slice none 0 0]) ?_ 5 _ rfl;(with_reducible repeat (first|apply aj|apply au|apply ah));refine aX (cs:=#[.string ((aH zM zL).f0),.string ((aH zM zL).f1),.string ((aH zM zL).f2),.int .u8 ((aH zM zL).f3),.int .u16 0,.slice none 0 0]) ?_ 4 _ rfl;(with_reducible repeat (first|apply aj|apply au|apply ah));refine aX (cs:=#[.string ((aH zM zL).f0),.string ((aH zM zL).f1),.string ((aH zM zL).f2),.int .u8 0,.int .u16 0,.slice none 0 0]) ?_ 3 _ rfl;(with_reducible repeat (first|apply aj|apply au|apply ah));refine aX (cs:=#[.string ((aH zM zL).f0),.string ((aH zM zL).f1),.string (⟨#[]⟩ : ByteArray),.int .u8 0,.int .u16 0,.slice none 0 0]) ?_ 2 _ rfl;(with_reducible repeat (first|apply aj|apply au|apply ah));refine aX (cs:=#[.string ((aH zM zL).f0),.string (⟨#[]⟩ : ByteArray),.string (⟨#[]⟩ : ByteArray),.int .u8 0,.int .u16 0,.slice none 0 0]) ?_ 1 _ rfl;(with_reducible repeat (first|apply aj|apply au|apply ah));refine aX (cs:=#[.string (⟨#[]⟩ : ByteArray),.string (⟨#[]⟩ : ByteArray),.string (⟨#[]⟩ : ByteArray),.int .u8 0,.int .u16 0,.slice none 0 0]) ?_ 0 _ rfl;(with_reducible repeat (first|apply aj|apply au|apply ah));exact zN.out) hb);have Ad:=Aside0.mk (aU (by repeat (first|(with_reducible first|exact HB.out|apply aD|apply ak|apply aC|refine aA ?_ zT.out|refine aA ?_ zX.out)|exact HB.out)) hb);clear zQ;clear zN;clear HB;have zQ:=Ab;have zN:=Ac;have HB:=Ad;clear Ab Ac Ad;(try clear hb);(try clear hb2);(try clear hk);(try clear hi)))
          repeat (go_quiet (first|(go_at_call 18;(with_reducible refine (bS.calls k1 ((aH zM zL).f0) true _ DZ.out).mono ?_);rintro e w' ⟨rfl,⟨nd,rfl⟩⟩;(try first|exact ⟨rfl,_,World.drewN_drewN _ _ _⟩|exact ⟨rfl,_,Eq.trans (World.drewN_drewN _ _ _) (congrArg (World.drewN _) (Nat.add_assoc _ _ _))⟩))|(go_at_call 41;(with_reducible refine (dR.calls k1 ((aH zM zL).f1) false _ Fb.out).mono ?_);rintro e Gp ⟨rfl,hb⟩;have Ab:=Aside0.mk (aQ (g:=zR) (o:=.cells #[.int .u64 zS,.slice (some zZ) zM.length zY] 49 (0,0)) (by (with_reducible repeat (first|apply aj|apply au|apply ah));refine aJ ?_ zO.out _;(with_reducible repeat (first|apply aj|apply au|apply ah));refine aJ ?_ zO.out _;(with_reducible repeat (first|apply aj|apply au|apply ah));refine aJ ?_ zO.out _;(with_reducible repeat (first|apply aj|apply au|apply ah));refine aJ ?_ zO.out _;(with_reducible repeat (first|apply aj|apply au|apply ah));refine aJ ?_ zO.out _;(with_reducible repeat (first|apply aj|apply au|apply ah));refine aJ ?_ zO.out _;(with_reducible repeat (first|apply aj|apply au|apply ah));exact zQ.out) hb);have Ac:=Aside0.mk (aQ (g:=zP) (o:=.cells #[.string ((aH zM zL).f0),.string ((aH zM zL).f1),.string ((aH zM zL).f2),.int .u8 ((aH zM zL).f3),.int .u16 ((aH zM zL).f4),.slice zV ((aH zM zL).f5).length zW] 98 (0,0)) (by (with_reducible repeat (first|apply aj|apply au|apply ah));refine aX (cs:=#[.string ((aH zM zL).f0),.string ((aH zM zL).f1),.string ((aH zM zL).f2),.int .u8 ((aH zM zL).f3),.int .u16 ((aH zM zL).f4),.slice none 0 0]) ?_ 5 _ rfl;(with_reducible repeat (first|apply aj|apply au|apply ah));refine aX (cs:=#[.string ((aH zM zL).f0),.string ((aH zM zL).f1),.string ((aH zM zL).f2),.int .u8 ((aH zM zL).f3),.int .u16 0,.slice none 0 0]) ?_ 4 _ rfl;(with_reducible repeat (first|apply aj|apply au|apply ah));refine aX (cs:=#[.string ((aH zM zL).f0),.string ((aH zM zL).f1),.string ((aH zM zL).f2),.int .u8 0,.int .u16 0,.slice none 0 0]) ?_ 3 _ rfl;(with_reducible repeat (first|apply aj|apply au|apply ah));refine aX (cs:=#[.string ((aH zM zL).f0),.string ((aH zM zL).f1),.string (⟨#[]⟩ : ByteArray),.int .u8 0,.int .u16 0,.slice none 0 0]) ?_ 2 _ rfl;(with_reducible repeat (first|apply aj|apply au|apply ah));refine aX (cs:=#[.string ((aH zM zL).f0),.string (⟨#[]⟩ : ByteArray),.string (⟨#[]⟩ : ByteArray),.int .u8 0,.int .u16 0,.slice none 0 0]) ?_ 1 _ rfl;(with_reducible repeat (first|apply aj|apply au|apply ah));refine aX (cs:=#[.string (⟨#[]⟩ : ByteArray),.string (⟨#[]⟩ : ByteArray),.string (⟨#[]⟩ : ByteArray),.int .u8 0,.int .u16 0,.slice none 0 0]) ?_ 0 _ rfl;(with_reducible repeat (first|apply aj|apply au|apply ah));exact zN.out) hb);have Ad:=Aside0.mk (aU (by repeat (first|(with_reducible first|exact HB.out|apply aD|apply ak|apply aC|refine aA ?_ zT.out|refine aA ?_ zX.out)|exact HB.out)) hb);clear zQ;clear zN;clear HB;have zQ:=Ab;have zN:=Ac;have HB:=Ad;clear Ab Ac Ad;(try clear hb);(try clear hb2);(try clear hk);(try clear hi)));try go_wp2_with (first|(go_at_call 18;(with_reducible refine (bS.calls k1 ((aH zM zL).f0) true _ DZ.out).mono ?_);rintro e w' ⟨rfl,⟨nd,rfl⟩⟩;(try first|exact ⟨rfl,_,World.drewN_drewN _ _ _⟩|exact ⟨rfl,_,Eq.trans (World.drewN_drewN _ _ _) (congrArg (World.drewN _) (Nat.add_assoc _ _ _))⟩))|(go_at_call 41;(with_reducible refine (dR.calls k1 ((aH zM zL).f1) false _ Fb.out).mono ?_);rintro e Gp ⟨rfl,hb⟩;have Ab:=Aside0.mk (aQ (g:=zR) (o:=.cells #[.int .u64 zS,.slice (some zZ) zM.length zY] 49 (0,0)) (by (with_reducible repeat (first|apply aj|apply au|apply ah));refine aJ ?_ zO.out _;(with_reducible repeat (first|apply aj|apply au|apply ah));refine aJ ?_ zO.out _;(with_reducible repeat (first|apply aj|apply au|apply ah));refine aJ ?_ zO.out _;(with_reducible repeat (first|apply aj|apply au|apply ah));refine aJ ?_ zO.out _;(with_reducible repeat (first|apply aj|apply au|apply ah));refine aJ ?_ zO.out _;(with_reducible repeat (first|apply aj|apply au|apply ah));refine aJ ?_ zO.out _;(with_reducible repeat (first|apply aj|apply au|apply ah));exact zQ.out) hb);have Ac:=Aside0.mk (aQ (g:=zP) (o:=.cells #[.string ((aH zM zL).f0),.string ((aH zM zL).f1),.string ((aH zM zL).f2),.int .u8 ((aH zM zL).f3),.int .u16 ((aH zM zL).f4),.slice zV ((aH zM zL).f5).length zW] 98 (0,0)) (by (with_reducible repeat (first|apply aj|apply au|apply ah));refine aX (cs:=#[.string ((aH zM zL).f0),.string ((aH zM zL).f1),.string ((aH zM zL).f2),.int .u8 ((aH zM zL).f3),.int .u16 ((aH zM zL).f4),.slice none 0 0]) ?_ 5 _ rfl;(with_reducible repeat (first|apply aj|apply au|apply ah));refine aX (cs:=#[.string ((aH zM zL).f0),.string ((aH zM zL).f1),.string ((aH zM zL).f2),.int .u8 ((aH zM zL).f3),.int .u16 0,.slice none 0 0]) ?_ 4 _ rfl;(with_reducible repeat (first|apply aj|apply au|apply ah));refine aX (cs:=#[.string ((aH zM zL).f0),.string ((aH zM zL).f1),.string ((aH zM zL).f2),.int .u8 0,.int .u16 0,.slice none 0 0]) ?_ 3 _ rfl;(with_reducible repeat (first|apply aj|apply au|apply ah));refine aX (cs:=#[.string ((aH zM zL).f0),.string ((aH zM zL).f1),.string (⟨#[]⟩ : ByteArray),.int .u8 0,.int .u16 0,.slice none 0 0]) ?_ 2 _ rfl;(with_reducible repeat (first|apply aj|apply au|apply ah));refine aX (cs:=#[.string ((aH zM zL).f0),.string (⟨#[]⟩ : ByteArray),.string (⟨#[]⟩ : ByteArray),.int .u8 0,.int .u16 0,.slice none 0 0]) ?_ 1 _ rfl;(with_reducible repeat (first|apply aj|apply au|apply ah));refine aX (cs:=#[.string (⟨#[]⟩ : ByteArray),.string (⟨#[]⟩ : ByteArray),.string (⟨#[]⟩ : ByteArray),.int .u8 0,.int .u16 0,.slice none 0 0]) ?_ 0 _ rfl;(with_reducible repeat (first|apply aj|apply au|apply ah));exact zN.out) hb);have Ad:=Aside0.mk (aU (by repeat (first|(with_reducible first|exact HB.out|apply aD|apply ak|apply aC|refine aA ?_ zT.out|refine aA ?_ zX.out)|exact HB.out)) hb);clear zQ;clear zN;clear HB;have zQ:=Ab;have zN:=Ac;have HB:=Ad;clear Ab Ac Ad;(try clear hb);(try clear hb2);(try clear hk);(try clear hi))))
          go_meet
          case rel=>exact ⟨_,(true),(by first|rfl|(simp;done)|(simp [*];done)),H',⟨by have:=DX.out;first|omega|exact Nat.le_refl _⟩,⟨by (with_reducible repeat (first|apply aj|apply au|apply ah));exact zQ.out⟩,⟨by (with_reducible repeat (first|apply aj|apply au|apply ah));exact zN.out⟩,⟨by repeat (first|(with_reducible first|exact HB.out|apply aD|apply ak|apply aC|refine aA ?_ zT.out|refine aA ?_ zX.out)|exact HB.out)⟩⟩
        ·replace c15:=Bool.eq_false_iff.mpr c15
         subst c15
         have H1 : (aM.j1 k1 zL zM (zM.length : Int) zL true zS zM ((aH zM zL).f0) ((aH zM zL).f1) ((aH zM zL).f2) ((aH zM zL).f3) ((aH zM zL).f4) ((aH zM zL).f5)) = some r:=by rw [if_neg (show ¬ (false = true) by decide)] at H;exact H
         clear H
         have H:=H1
         clear H1
         have H':=Aside0.mk H
         clear H
         have Gq:=zU.out
         have Gr:=zO.out
         have CK : Al.cell? ⟨zP,0,none⟩ = some (.string (⟨#[]⟩ : ByteArray)):=(ay zN.out 0).trans rfl
         have CO : Al.cell? ⟨zP,1,none⟩ = some (.string (⟨#[]⟩ : ByteArray)):=(ay zN.out 1).trans rfl
         have CP : Al.cell? ⟨zP,2,none⟩ = some (.string (⟨#[]⟩ : ByteArray)):=(ay zN.out 2).trans rfl
         have CQ : Al.cell? ⟨zP,3,none⟩ = some (.int .u8 0):=(ay zN.out 3).trans rfl
         have CS : Al.cell? ⟨zP,4,none⟩ = some (.int .u16 0):=(ay zN.out 4).trans rfl
         have CU : Al.cell? ⟨zP,5,none⟩ = some (.slice none 0 0):=(ay zN.out 5).trans rfl
         have CV:=av zN.out 0
         have CW:=av zN.out 1
         have CX:=av zN.out 2
         have CY:=av zN.out 3
         have CZ:=av zN.out 4
         have C8:=av zN.out 5
         go_wp2_with (first|(go_at_call 18;(with_reducible refine (bS.calls k1 ((aH zM zL).f0) false _ DZ.out).mono ?_);rintro e w' ⟨rfl,⟨nd,rfl⟩⟩;(try first|exact ⟨rfl,_,World.drewN_drewN _ _ _⟩|exact ⟨rfl,_,Eq.trans (World.drewN_drewN _ _ _) (congrArg (World.drewN _) (Nat.add_assoc _ _ _))⟩)))
         repeat (go_quiet (first|(go_at_call 18;(with_reducible refine (bS.calls k1 ((aH zM zL).f0) false _ DZ.out).mono ?_);rintro e w' ⟨rfl,⟨nd,rfl⟩⟩;(try first|exact ⟨rfl,_,World.drewN_drewN _ _ _⟩|exact ⟨rfl,_,Eq.trans (World.drewN_drewN _ _ _) (congrArg (World.drewN _) (Nat.add_assoc _ _ _))⟩)));try go_wp2_with (first|(go_at_call 18;(with_reducible refine (bS.calls k1 ((aH zM zL).f0) false _ DZ.out).mono ?_);rintro e w' ⟨rfl,⟨nd,rfl⟩⟩;(try first|exact ⟨rfl,_,World.drewN_drewN _ _ _⟩|exact ⟨rfl,_,Eq.trans (World.drewN_drewN _ _ _) (congrArg (World.drewN _) (Nat.add_assoc _ _ _))⟩))))
         go_meet
         case rel=>exact ⟨_,(true),(by first|rfl|(simp;done)|(simp [*];done)),H',⟨by have:=DX.out;first|omega|exact Nat.le_refl _⟩,⟨by (with_reducible repeat (first|apply aj|apply au|apply ah));refine aJ ?_ zO.out _;(with_reducible repeat (first|apply aj|apply au|apply ah));refine aJ ?_ zO.out _;(with_reducible repeat (first|apply aj|apply au|apply ah));refine aJ ?_ zO.out _;(with_reducible repeat (first|apply aj|apply au|apply ah));refine aJ ?_ zO.out _;(with_reducible repeat (first|apply aj|apply au|apply ah));refine aJ ?_ zO.out _;(with_reducible repeat (first|apply aj|apply au|apply ah));refine aJ ?_ zO.out _;(with_reducible repeat (first|apply aj|apply au|apply ah));exact zQ.out⟩,⟨by (with_reducible repeat (first|apply aj|apply au|apply ah));refine aX (cs:=#[.string ((aH zM zL).f0),.string ((aH zM zL).f1),.string ((aH zM zL).f2),.int .u8 ((aH zM zL).f3),.int .u16 ((aH zM zL).f4),.slice none 0 0]) ?_ 5 _ rfl;(with_reducible repeat (first|apply aj|apply au|apply ah));refine aX (cs:=#[.string ((aH zM zL).f0),.string ((aH zM zL).f1),.string ((aH zM zL).f2),.int .u8 ((aH zM zL).f3),.int .u16 0,.slice none 0 0]) ?_ 4 _ rfl;(with_reducible repeat (first|apply aj|apply au|apply ah));refine aX (cs:=#[.string ((aH zM zL).f0),.string ((aH zM zL).f1),.string ((aH zM zL).f2),.int .u8 0,.int .u16 0,.slice none 0 0]) ?_ 3 _ rfl;(with_reducible repeat (first|apply aj|apply au|apply ah));refine aX (cs:=#[.string ((aH zM zL).f0),.string ((aH zM zL).f1),.string (⟨#[]⟩ : ByteArray),.int .u8 0,.int .u16 0,.slice none 0 0]) ?_ 2 _ rfl;(with_reducible repeat (first|apply aj|apply au|apply ah));refine aX (cs:=#[.string ((aH zM zL).f0),.string (⟨#[]⟩ : ByteArray),.string (⟨#[]⟩ : ByteArray),.int .u8 0,.int .u16 0,.slice none 0 0]) ?_ 1 _ rfl;(with_reducible repeat (first|apply aj|apply au|apply ah));refine aX (cs:=#[.string (⟨#[]⟩ : ByteArray),.string (⟨#[]⟩ : ByteArray),.string (⟨#[]⟩ : ByteArray),.int .u8 0,.int .u16 0,.slice none 0 0]) ?_ 0 _ rfl;(with_reducible repeat (first|apply aj|apply au|apply ah));exact zN.out⟩,⟨by repeat (first|(with_reducible first|exact HB.out|apply aD|apply ak|apply aC|refine aA ?_ zT.out|refine aA ?_ zX.out)|exact HB.out)⟩⟩
       case rest =>
        clear EY
        try clear c1
        try clear p1
        try clear q1
        try clear hx1
        try clear c2
        try clear c2b0
        try clear c2b1
        try clear p2
        try clear c7
        try clear c7b0
        try clear c8
        try clear c8b0
        try clear c9
        try clear c9b0
        try clear c12
        try clear c13
        try clear Fx
        try clear Fy
        try clear Fq
        try clear c15
        try clear c17
        try clear c19
        try clear c23
        try clear Gs
        try clear Gt
        try clear AO
        try clear AP
        try clear AQ
        try clear AU
        try clear AV
        try clear AX
        try clear Cb
        try clear Cc
        try clear Ce
        try clear Cg
        try clear Ch
        try clear Ci
        try clear Bj
        try clear Bl
        try clear Bn
        try clear Bo
        try clear Bp
        try clear Bq
        try clear Cr
        try clear Ct
        try clear Cu
        try clear Cv
        try clear Cw
        try clear Cx
        try clear CK
        try clear CO
        try clear CP
        try clear CQ
        try clear CS
        try clear CU
        try clear BK
        try clear BL
        try clear BO
        try clear BP
        try clear AY
        try clear AZ
        try clear A9
        try clear Bf
        try clear Bg
        try clear Bh
        try clear Cj
        try clear Ck
        try clear Cm
        try clear Cn
        try clear Co
        try clear Cq
        try clear Br
        try clear Bt
        try clear Bu
        try clear Bv
        try clear Bw
        try clear Bz
        try clear Cy
        try clear Cz
        try clear CB
        try clear CF
        try clear CG
        try clear CJ
        try clear CV
        try clear CW
        try clear CX
        try clear CY
        try clear CZ
        try clear C8
        try clear BM
        try clear BN
        try clear BQ
        try clear BR
        try clear Ar
        try clear Av
        try clear Aw
        try clear Ay
        try clear Az
        try clear AA
        try clear DK
        try clear p2
        try clear DL
        obtain ⟨kq,Dh,rfl,HA,EZ,zQ,zN,HB⟩:=hcut
        cases kq with
        | zero=>exact absurd HA.out (by simp [aM.j1])
        | succ Fz =>
         have H:=HA.out
         clear HA
         simp only [aM.j1] at H
         by_cases c28 : Dh = true
         ·subst c28
          have H1 : (some 13) = some r:=by rw [if_pos rfl] at H;exact H
          clear H
          have H:=H1
          clear H1
          obtain rfl:=Option.some.inj H
          go_wp2
          repeat (go_quiet (fail);try go_wp2)
          go_ret
          exact ⟨by first|rfl|(simp [aY,aZ] <;> rfl)|(simp [*,aY,aZ] <;> rfl),by repeat (first|(with_reducible first|exact HB.out|apply aD|apply ak|apply aC|refine aA ?_ zT.out|refine aA ?_ zX.out)|exact HB.out)⟩
         ·replace c28:=Bool.eq_false_iff.mpr c28
          subst c28
          have H1 : (if zL > 0 then (if 0 ≤ (wrap64 (zL - 1)) then (if (wrap64 (zL - 1)) < (zM.length : Int) then (aM.j2 Fz zM (zM.length : Int) zL (!(Op.bytesLess (((aH zM (wrap64 (zL - 1))).f0).toList) ((aH zM zL).f0).toList)) zS zM ((aH zM zL).f0) ((aH zM zL).f1) ((aH zM zL).f2) ((aH zM zL).f3) ((aH zM zL).f4) ((aH zM zL).f5)) else (none)) else (none)) else (aM.j2 Fz zM (zM.length : Int) zL false zS zM ((aH zM zL).f0) ((aH zM zL).f1) ((aH zM zL).f2) ((aH zM zL).f3) ((aH zM zL).f4) ((aH zM zL).f5))) = some r:=by rw [if_neg (show ¬ (false = true) by decide)] at H;exact H
          clear H
          have H:=H1
          clear H1
          have E5:=Aside0.mk H
          clear H
          go_upto_region 8 with (fail)
          repeat (go_quiet (fail);go_upto_region 8 with (fail))
          go_cut [35] (fun v35 wc=>∃ (kq : Nat) (C9 : Bool),v35 = .bool C9 ∧ Aside0 (aM.j2 kq zM (zM.length : Int) zL C9 zS zM ((aH zM zL).f0) ((aH zM zL).f1) ((aH zM zL).f2) ((aH zM zL).f3) ((aH zM zL).f4) ((aH zM zL).f5) = some r) ∧ Aside0 (kq ≤ Fz) ∧ Aside0 (wc.heap[zR]? = some (.cells #[.int .u64 zS,(.slice (some zZ) zM.length zY)] 49 (0,0))) ∧ Aside0 (wc.heap[zP]? = some (.cells #[.string ((aH zM zL).f0),.string ((aH zM zL).f1),.string ((aH zM zL).f2),.int .u8 ((aH zM zL).f3),.int .u16 ((aH zM zL).f4),(.slice zV ((aH zM zL).f5).length zW)] 98 (0,0))) ∧ Aside0 (Below w.heap.size w wc))
          case first =>
           have H:=E5.out
           clear E5
           by_cases EX : zL > 0
           ·rw [if_pos EX] at H
            have c30b0 : decide (0 < zL) = true:=decide_eq_true EX
            clear EX
            (first|rw [c30b0]|(simp only [bI,bN];rw [c30b0])|skip)
            obtain ⟨BU,Di⟩ : ∃ j_ : Int,(wrap64 (zL - 1)) = j_:=⟨_,rfl⟩
            replace H : (if 0 ≤ (BU) then (if (BU) < (zM.length : Int) then (aM.j2 Fz zM (zM.length : Int) zL (!(Op.bytesLess (((aH zM (BU)).f0).toList) ((aH zM zL).f0).toList)) zS zM ((aH zM zL).f0) ((aH zM zL).f1) ((aH zM zL).f2) ((aH zM zL).f3) ((aH zM zL).f4) ((aH zM zL).f5)) else (none)) else (none)) = some r:=by first|(rw [Di] at H;exact H)|(simp only [Di] at H ⊢;exact H)
            have hji31w : (IntKind.i64.wrap (zL - 1)) = BU:=(bI _).trans Di
            by_cases c32 : 0 ≤ (BU)
            ·rw [if_pos c32] at H
             have c32b0 : decide (0 ≤ (BU)) = true:=decide_eq_true c32
             clear c32
             by_cases Fe : (BU) < (zM.length : Int)
             ·rw [if_pos Fe] at H
              have c33b0 : decide ((BU) < (zM.length : Int)) = true:=decide_eq_true Fe
              clear Fe
              have H':=Aside0.mk H
              clear H
              have Gu:=zU.out
              have Gv:=zO.out
              have Dj : wc.cell? ⟨zP,0,none⟩ = some (.string ((aH zM zL).f0)):=(ay zN.out 0).trans rfl
              have Dk : wc.cell? ⟨zP,1,none⟩ = some (.string ((aH zM zL).f1)):=(ay zN.out 1).trans rfl
              have Dl : wc.cell? ⟨zP,2,none⟩ = some (.string ((aH zM zL).f2)):=(ay zN.out 2).trans rfl
              have Dm : wc.cell? ⟨zP,3,none⟩ = some (.int .u8 ((aH zM zL).f3)):=(ay zN.out 3).trans rfl
              have Dn : wc.cell? ⟨zP,4,none⟩ = some (.int .u16 ((aH zM zL).f4)):=(ay zN.out 4).trans rfl
              have Dp : wc.cell? ⟨zP,5,none⟩ = some (.slice zV ((aH zM zL).f5).length zW):=(ay zN.out 5).trans rfl
              have Dq:=av zN.out 0
              have Dr:=av zN.out 1
              have Dt:=av zN.out 2
              have Du:=av zN.out 3
              have Dv:=av zN.out 4
              have Dw:=av zN.out 5
              have Dx : wc.cell? ⟨zR,0,none⟩ = some (.int .u64 zS):=(ay zQ.out 0).trans rfl
              have Dy : wc.cell? ⟨zR,1,none⟩ = some (.slice (some zZ) zM.length zY):=(ay zQ.out 1).trans rfl
              have Dz:=av zQ.out 0
              have DC:=av zQ.out 1
              have DU : 0 ≤ ((BU) : Int):=of_decide_eq_true (by first|(with_reducible assumption)|assumption)
              have DV : (BU) < (zM.length : Int):=of_decide_eq_true (by first|(with_reducible assumption)|assumption)
              obtain ⟨Fu,Gd,Gf,Gg,BA,BF,BG,BH,BI,BJ,DF,DI⟩:=oV EO.out (BU) DU DV
              obtain rfl : zZ = Fu:=(by injection Gg)
              replace BA:=(HB.out.cell (World.block_lt_of_cell? w _ BA)).trans BA
              replace BF:=(HB.out.cell (World.block_lt_of_cell? w _ BF)).trans BF
              replace BG:=(HB.out.cell (World.block_lt_of_cell? w _ BG)).trans BG
              replace BH:=(HB.out.cell (World.block_lt_of_cell? w _ BH)).trans BH
              replace BI:=(HB.out.cell (World.block_lt_of_cell? w _ BI)).trans BI
              replace BJ:=(HB.out.cell (World.block_lt_of_cell? w _ BJ)).trans BJ
              have FB:=Aside0.mk DI
              have FC:=Aside0.mk DF
              clear DI DF
              replace DU:=eq_true DU
              replace DV:=eq_true DV
              go_wp2
              repeat (go_quiet (fail);try go_wp2)
              go_meet
              case rel=>exact ⟨_,(!(Op.bytesLess (((aH zM (BU)).f0).toList) ((aH zM zL).f0).toList)),(by first|rfl|(simp;done)|(simp only [← Di] <;> (first|rfl|simp))|(simp [*];done)),H',⟨by have:=DX.out;have:=EZ.out;first|omega|exact Nat.le_refl _⟩,⟨by (with_reducible repeat (first|apply aj|apply au|apply ah));exact zQ.out⟩,⟨by (with_reducible repeat (first|apply aj|apply au|apply ah));exact zN.out⟩,⟨by repeat (first|(with_reducible first|exact HB.out|apply aD|apply ak|apply aC|refine aA ?_ zT.out|refine aA ?_ zX.out)|exact HB.out)⟩⟩
             ·rw [if_neg Fe] at H
              exact absurd H (by simp)
            ·rw [if_neg c32] at H
             exact absurd H (by simp)
           ·rw [if_neg EX] at H
            have c30b0 : decide (0 < zL) = false:=decide_eq_false EX
            clear EX
            (first|rw [c30b0]|(simp only [bI,bN];rw [c30b0])|skip)
            have H':=Aside0.mk H
            clear H
            go_wp2
            repeat (go_quiet (fail);try go_wp2)
            go_meet
            case rel=>exact ⟨_,(false),(by first|rfl|(simp;done)|(simp [*];done)),H',⟨by have:=DX.out;have:=EZ.out;first|omega|exact Nat.le_refl _⟩,⟨by (with_reducible repeat (first|apply aj|apply au|apply ah));exact zQ.out⟩,⟨by (with_reducible repeat (first|apply aj|apply au|apply ah));exact zN.out⟩,⟨by repeat (first|(with_reducible first|exact HB.out|apply aD|apply ak|apply aC|refine aA ?_ zT.out|refine aA ?_ zX.out)|exact HB.out)⟩⟩
          case rest =>
           clear E5
           try clear c1
           try clear p1
           try clear q1
           try clear hx1
           try clear c2
           try clear c2b0
           try clear c2b1
           try clear p2
           try clear c3
           try clear p6
           try clear c7
           try clear c7b0
           try clear c8
           try clear c8b0
           try clear c9
           try clear c9b0
           try clear c12
           try clear c13
           try clear Fx
           try clear Fy
           try clear Fq
           try clear c14
           try clear Gw
           try clear Gx
           try clear Gh
           try clear c15
           try clear c17
           try clear c19
           try clear c23
           try clear Gs
           try clear Gt
           try clear c28
           try clear EX
           try clear c30b0
           try clear c32
           try clear c32b0
           try clear Fe
           try clear c33b0
           try clear c34
           try clear AO
           try clear AP
           try clear AQ
           try clear AU
           try clear AV
           try clear AX
           try clear Cb
           try clear Cc
           try clear Ce
           try clear Cg
           try clear Ch
           try clear Ci
           try clear Bj
           try clear Bl
           try clear Bn
           try clear Bo
           try clear Bp
           try clear Bq
           try clear Cr
           try clear Ct
           try clear Cu
           try clear Cv
           try clear Cw
           try clear Cx
           try clear CK
           try clear CO
           try clear CP
           try clear CQ
           try clear CS
           try clear CU
           try clear Dj
           try clear Dk
           try clear Dl
           try clear Dm
           try clear Dn
           try clear Dp
           try clear Dx
           try clear Dy
           try clear BK
           try clear BL
           try clear BO
           try clear BP
           try clear AY
           try clear AZ
           try clear A9
           try clear Bf
           try clear Bg
           try clear Bh
           try clear Cj
           try clear Ck
           try clear Cm
           try clear Cn
           try clear Co
           try clear Cq
           try clear Br
           try clear Bt
           try clear Bu
           try clear Bv
           try clear Bw
           try clear Bz
           try clear Cy
           try clear Cz
           try clear CB
           try clear CF
           try clear CG
           try clear CJ
           try clear CV
           try clear CW
           try clear CX
           try clear CY
           try clear CZ
           try clear C8
           try clear Dq
           try clear Dr
           try clear Dt
           try clear Du
           try clear Dv
           try clear Dw
           try clear Dz
           try clear DC
           try clear BM
           try clear BN
           try clear BQ
           try clear BR
           try clear Ar
           try clear Av
           try clear Aw
           try clear Ay
           try clear Az
           try clear AA
           try clear BA
           try clear BF
           try clear BG
           try clear BH
           try clear BI
           try clear BJ
           try clear p1
           try clear Fx
           try clear DK
           try clear DU
           try clear p2
           try clear q1
           try clear Fy
           try clear DL
           try clear DV
           obtain ⟨kq,C9,rfl,HA,DW,zQ,zN,HB⟩:=hcut
           cases kq with
           | zero=>exact absurd HA.out (by simp [aM.j2])
           | succ D5 =>
            have H:=HA.out
            clear HA
            simp only [aM.j2] at H
            by_cases c37 : C9 = true
            ·subst c37
             have H1 : (some 6) = some r:=by rw [if_pos rfl] at H;exact H
             clear H
             have H:=H1
             clear H1
             obtain rfl:=Option.some.inj H
             go_wp2
             repeat (go_quiet (fail);try go_wp2)
             go_ret
             exact ⟨by first|rfl|(simp [aY,aZ] <;> rfl)|(simp [*,aY,aZ] <;> rfl),by repeat (first|(with_reducible first|exact HB.out|apply aD|apply ak|apply aC|refine aA ?_ zT.out|refine aA ?_ zX.out)|exact HB.out)⟩
            ·replace c37:=Bool.eq_false_iff.mpr c37
             subst c37
             have H1 : (if ((aH zM zL).f3) > 2 then (aM.j3 D5 zM (zM.length : Int) zL true zS zM ((aH zM zL).f0) ((aH zM zL).f1) ((aH zM zL).f2) ((aH zM zL).f3) ((aH zM zL).f4) ((aH zM zL).f5)) else (if ((aH zM zL).f4) < 1 then (aM.j3 D5 zM (zM.length : Int) zL true zS zM ((aH zM zL).f0) ((aH zM zL).f1) ((aH zM zL).f2) ((aH zM zL).f3) ((aH zM zL).f4) ((aH zM zL).f5)) else (aM.j3 D5 zM (zM.length : Int) zL (decide (((aH zM zL).f4) > 3600)) zS zM ((aH zM zL).f0) ((aH zM zL).f1) ((aH zM zL).f2) ((aH zM zL).f3) ((aH zM zL).f4) ((aH zM zL).f5)))) = some r:=by rw [if_neg (show ¬ (false = true) by decide)] at H;exact H
             clear H
             have H:=H1
             clear H1
             have E8:=Aside0.mk H
             clear H
             go_upto_region 10 with (fail)
             repeat (go_quiet (fail);go_upto_region 10 with (fail))
             go_cut [50] (fun v50 wc=>∃ (kq : Nat) (Da : Bool),v50 = .bool Da ∧ Aside0 (aM.j3 kq zM (zM.length : Int) zL Da zS zM ((aH zM zL).f0) ((aH zM zL).f1) ((aH zM zL).f2) ((aH zM zL).f3) ((aH zM zL).f4) ((aH zM zL).f5) = some r) ∧ Aside0 (kq ≤ D5) ∧ Aside0 (wc.heap[zR]? = some (.cells #[.int .u64 zS,(.slice (some zZ) zM.length zY)] 49 (0,0))) ∧ Aside0 (wc.heap[zP]? = some (.cells #[.string ((aH zM zL).f0),.string ((aH zM zL).f1),.string ((aH zM zL).f2),.int .u8 ((aH zM zL).f3),.int .u16 ((aH zM zL).f4),(.slice zV ((aH zM zL).f5).length zW)] 98 (0,0))) ∧ Aside0 (Below w.heap.size w wc))
             case first =>
              have H:=E8.out
              clear E8
              by_cases E9 : ((aH zM zL).f3) > 2
              ·rw [if_pos E9] at H
               have c39b0 : decide (2 < ((aH zM zL).f3)) = true:=decide_eq_true E9
               clear E9
               (first|rw [c39b0]|(simp only [bI,bN];rw [c39b0])|skip)
               have H':=Aside0.mk H
               clear H
               have Gy:=zU.out
               have Gz:=zO.out
               have D6 : wc.cell? ⟨zP,0,none⟩ = some (.string ((aH zM zL).f0)):=(ay zN.out 0).trans rfl
               have D7 : wc.cell? ⟨zP,1,none⟩ = some (.string ((aH zM zL).f1)):=(ay zN.out 1).trans rfl
               have D8 : wc.cell? ⟨zP,2,none⟩ = some (.string ((aH zM zL).f2)):=(ay zN.out 2).trans rfl
               have D9 : wc.cell? ⟨zP,3,none⟩ = some (.int .u8 ((aH zM zL).f3)):=(ay zN.out 3).trans rfl
               have Ea : wc.cell? ⟨zP,4,none⟩ = some (.int .u16 ((aH zM zL).f4)):=(ay zN.out 4).trans rfl
               have Eb : wc.cell? ⟨zP,5,none⟩ = some (.slice zV ((aH zM zL).f5).length zW):=(ay zN.out 5).trans rfl
               have Ec:=av zN.out 0
               have Ed:=av zN.out 1
               have Ee:=av zN.out 2
               have Ef:=av zN.out 3
               have Eh:=av zN.out 4
               have Ei:=av zN.out 5
               go_wp2
               repeat (go_quiet (fail);try go_wp2)
               go_meet
               case rel=>exact ⟨_,(true),(by first|rfl|(simp;done)|(simp [*];done)),H',⟨by have:=DX.out;have:=EZ.out;have:=DW.out;first|omega|exact Nat.le_refl _⟩,⟨by (with_reducible repeat (first|apply aj|apply au|apply ah));exact zQ.out⟩,⟨by (with_reducible repeat (first|apply aj|apply au|apply ah));exact zN.out⟩,⟨by repeat (first|(with_reducible first|exact HB.out|apply aD|apply ak|apply aC|refine aA ?_ zT.out|refine aA ?_ zX.out)|exact HB.out)⟩⟩
              ·rw [if_neg E9] at H
               have c39b0 : decide (2 < ((aH zM zL).f3)) = false:=decide_eq_false E9
               clear E9
               (first|rw [c39b0]|(simp only [bI,bN];rw [c39b0])|skip)
               by_cases Fa : ((aH zM zL).f4) < 1
               ·rw [if_pos Fa] at H
                have c42b0 : decide (((aH zM zL).f4) < 1) = true:=decide_eq_true Fa
                clear Fa
                have H':=Aside0.mk H
                clear H
                have GA:=zU.out
                have GD:=zO.out
                have Ej : wc.cell? ⟨zP,0,none⟩ = some (.string ((aH zM zL).f0)):=(ay zN.out 0).trans rfl
                have El : wc.cell? ⟨zP,1,none⟩ = some (.string ((aH zM zL).f1)):=(ay zN.out 1).trans rfl
                have Em : wc.cell? ⟨zP,2,none⟩ = some (.string ((aH zM zL).f2)):=(ay zN.out 2).trans rfl
                have En : wc.cell? ⟨zP,3,none⟩ = some (.int .u8 ((aH zM zL).f3)):=(ay zN.out 3).trans rfl
                have Eo : wc.cell? ⟨zP,4,none⟩ = some (.int .u16 ((aH zM zL).f4)):=(ay zN.out 4).trans rfl
                have Ep : wc.cell? ⟨zP,5,none⟩ = some (.slice zV ((aH zM zL).f5).length zW):=(ay zN.out 5).trans rfl
                have Er:=av zN.out 0
                have Es:=av zN.out 1
                have Et:=av zN.out 2
                have Eu:=av zN.out 3
                have Ew:=av zN.out 4
                have Ey:=av zN.out 5
                go_wp2
                repeat (go_quiet (fail);try go_wp2)
                go_meet
                case rel=>exact ⟨_,(true),(by first|rfl|(simp;done)|(simp [*];done)),H',⟨by have:=DX.out;have:=EZ.out;have:=DW.out;first|omega|exact Nat.le_refl _⟩,⟨by (with_reducible repeat (first|apply aj|apply au|apply ah));exact zQ.out⟩,⟨by (with_reducible repeat (first|apply aj|apply au|apply ah));exact zN.out⟩,⟨by repeat (first|(with_reducible first|exact HB.out|apply aD|apply ak|apply aC|refine aA ?_ zT.out|refine aA ?_ zX.out)|exact HB.out)⟩⟩
               ·rw [if_neg Fa] at H
                have c42b0 : decide (((aH zM zL).f4) < 1) = false:=decide_eq_false Fa
                clear Fa
                have H':=Aside0.mk H
                clear H
                have GH:=zU.out
                have GI:=zO.out
                have Ez : wc.cell? ⟨zP,0,none⟩ = some (.string ((aH zM zL).f0)):=(ay zN.out 0).trans rfl
                have EA : wc.cell? ⟨zP,1,none⟩ = some (.string ((aH zM zL).f1)):=(ay zN.out 1).trans rfl
                have EB : wc.cell? ⟨zP,2,none⟩ = some (.string ((aH zM zL).f2)):=(ay zN.out 2).trans rfl
                have EC : wc.cell? ⟨zP,3,none⟩ = some (.int .u8 ((aH zM zL).f3)):=(ay zN.out 3).trans rfl
                have ED : wc.cell? ⟨zP,4,none⟩ = some (.int .u16 ((aH zM zL).f4)):=(ay zN.out 4).trans rfl
                have EF : wc.cell? ⟨zP,5,none⟩ = some (.slice zV ((aH zM zL).f5).length zW):=(ay zN.out 5).trans rfl
                have EG:=av zN.out 0
                have EH:=av zN.out 1
                have EI:=av zN.out 2
                have EJ:=av zN.out 3
                have EK:=av zN.out 4
                have EL:=av zN.out 5
                go_wp2
                repeat (go_quiet (fail);try go_wp2)
                go_meet
                case rel=>exact ⟨_,(decide (((aH zM zL).f4) > 3600)),(by first|rfl|(simp;done)|(simp [*];done)),H',⟨by have:=DX.out;have:=EZ.out;have:=DW.out;first|omega|exact Nat.le_refl _⟩,⟨by (with_reducible repeat (first|apply aj|apply au|apply ah));exact zQ.out⟩,⟨by (with_reducible repeat (first|apply aj|apply au|apply ah));exact zN.out⟩,⟨by repeat (first|(with_reducible first|exact HB.out|apply aD|apply ak|apply aC|refine aA ?_ zT.out|refine aA ?_ zX.out)|exact HB.out)⟩⟩
             case rest =>
              clear E8
              try clear c1
              try clear p1
              try clear q1
              try clear hx1
              try clear c2
              try clear c2b0
              try clear c2b1
              try clear p2
              try clear c3
              try clear c4
              try clear p6
              try clear c7
              try clear c7b0
              try clear c8
              try clear c8b0
              try clear c9
              try clear c9b0
              try clear c12
              try clear c13
              try clear Fx
              try clear Fy
              try clear Fq
              try clear c14
              try clear Gw
              try clear Gx
              try clear Gh
              try clear c15
              try clear c17
              try clear c19
              try clear c23
              try clear Gs
              try clear Gt
              try clear c28
              try clear EX
              try clear c30b0
              try clear c32
              try clear c32b0
              try clear Fe
              try clear c33b0
              try clear c34
              try clear c37
              try clear E9
              try clear c39b0
              try clear c40
              try clear Fa
              try clear c42b0
              try clear GZ
              try clear G5
              try clear AO
              try clear AP
              try clear AQ
              try clear AU
              try clear AV
              try clear AX
              try clear Cb
              try clear Cc
              try clear Ce
              try clear Cg
              try clear Ch
              try clear Ci
              try clear Bj
              try clear Bl
              try clear Bn
              try clear Bo
              try clear Bp
              try clear Bq
              try clear Cr
              try clear Ct
              try clear Cu
              try clear Cv
              try clear Cw
              try clear Cx
              try clear CK
              try clear CO
              try clear CP
              try clear CQ
              try clear CS
              try clear CU
              try clear Dj
              try clear Dk
              try clear Dl
              try clear Dm
              try clear Dn
              try clear Dp
              try clear Dx
              try clear Dy
              try clear D6
              try clear D7
              try clear D8
              try clear D9
              try clear Ea
              try clear Eb
              try clear Ej
              try clear El
              try clear Em
              try clear En
              try clear Eo
              try clear Ep
              try clear Ez
              try clear EA
              try clear EB
              try clear EC
              try clear ED
              try clear EF
              try clear BK
              try clear BL
              try clear BO
              try clear BP
              try clear AY
              try clear AZ
              try clear A9
              try clear Bf
              try clear Bg
              try clear Bh
              try clear Cj
              try clear Ck
              try clear Cm
              try clear Cn
              try clear Co
              try clear Cq
              try clear Br
              try clear Bt
              try clear Bu
              try clear Bv
              try clear Bw
              try clear Bz
              try clear Cy
              try clear Cz
              try clear CB
              try clear CF
              try clear CG
              try clear CJ
              try clear CV
              try clear CW
              try clear CX
              try clear CY
              try clear CZ
              try clear C8
              try clear Dq
              try clear Dr
              try clear Dt
              try clear Du
              try clear Dv
              try clear Dw
              try clear Dz
              try clear DC
              try clear Ec
              try clear Ed
              try clear Ee
              try clear Ef
              try clear Eh
              try clear Ei
              try clear Er
              try clear Es
              try clear Et
              try clear Eu
              try clear Ew
              try clear Ey
              try clear EG
              try clear EH
              try clear EI
              try clear EJ
              try clear EK
              try clear EL
              try clear BM
              try clear BN
              try clear BQ
              try clear BR
              try clear Ar
              try clear Av
              try clear Aw
              try clear Ay
              try clear Az
              try clear AA
              try clear BA
              try clear BF
              try clear BG
              try clear BH
              try clear BI
              try clear BJ
              try clear p1
              try clear Fx
              try clear DK
              try clear Gw
              try clear DU
              try clear p2
              try clear p6
              try clear q1
              try clear Fy
              try clear DL
              try clear Gx
              try clear DV
              obtain ⟨kq,Da,rfl,HA,Fv,zQ,zN,HB⟩:=hcut
              cases kq with
              | zero=>exact absurd HA.out (by simp [aM.j3])
              | succ BZ =>
               have H:=HA.out
               clear HA
               simp only [aM.j3] at H
               by_cases FD : Da = true
               ·subst FD
                have H1 : (some 7) = some r:=by rw [if_pos rfl] at H;exact H
                clear H
                have H:=H1
                clear H1
                obtain rfl:=Option.some.inj H
                go_wp2
                repeat (go_quiet (fail);try go_wp2)
                go_ret
                exact ⟨by first|rfl|(simp [aY,aZ] <;> rfl)|(simp [*,aY,aZ] <;> rfl),by repeat (first|(with_reducible first|exact HB.out|apply aD|apply ak|apply aC|refine aA ?_ zT.out|refine aA ?_ zX.out)|exact HB.out)⟩
               ·replace FD:=Bool.eq_false_iff.mpr FD
                subst FD
                have H1 : ((bZ.f BZ ((aH zM zL).f5)).bind fun t141=>(if t141 = 0 then (aM.l0 BZ zM (zM.length : Int) (wrap64 (zL + 1)) zS zM) else (some t141))) = some r:=by rw [if_neg (show ¬ (false = true) by decide)] at H;exact H
                clear H
                have H:=H1
                clear H1
                replace H:=Option.bind_eq_some_iff.mp H
                obtain ⟨t141,Fw,H⟩:=H
                replace H : (if t141 = 0 then (aM.l0 BZ zM (zM.length : Int) (wrap64 (zL + 1)) zS zM) else (some t141)) = some r:=H
                have Fg:=Aside0.mk Fw
                clear Fw
                by_cases c49 : t141 = 0
                ·rw [if_pos c49] at H
                 have c49b0 : (t141 == 0) = true:=beq_iff_eq.mpr c49
                 have c49b1 : (t141 != 0) = false:=bne_eq_false_iff_eq.mpr c49
                 clear c49
                 have H':=Aside0.mk H
                 clear H
                 have GJ:=zU.out
                 have GK:=zO.out
                 have FE : wc.cell? ⟨zP,0,none⟩ = some (.string ((aH zM zL).f0)):=(ay zN.out 0).trans rfl
                 have FH : wc.cell? ⟨zP,1,none⟩ = some (.string ((aH zM zL).f1)):=(ay zN.out 1).trans rfl
                 have FI : wc.cell? ⟨zP,2,none⟩ = some (.string ((aH zM zL).f2)):=(ay zN.out 2).trans rfl
                 have FJ : wc.cell? ⟨zP,3,none⟩ = some (.int .u8 ((aH zM zL).f3)):=(ay zN.out 3).trans rfl
                 have FL : wc.cell? ⟨zP,4,none⟩ = some (.int .u16 ((aH zM zL).f4)):=(ay zN.out 4).trans rfl
                 have FM : wc.cell? ⟨zP,5,none⟩ = some (.slice zV ((aH zM zL).f5).length zW):=(ay zN.out 5).trans rfl
                 have FN:=av zN.out 0
                 have FP:=av zN.out 1
                 have FQ:=av zN.out 2
                 have FR:=av zN.out 3
                 have FT:=av zN.out 4
                 have FU:=av zN.out 5
                 go_wp2_with (first|(go_at_call 57;(with_reducible refine (bZ.calls BZ _ _ ((aH zM zL).f5) t141 _ ?Am ?Ap Fg.out).mono ?_);(case Am=>repeat (first|exact (Kd.iF AB.out HB.out)|(with_reducible refine Kd.gQ ?_ _)|(with_reducible refine Kd.iA ?_ _)|(with_reducible refine Kd.iT ?_)));(case Ap=>exact AJ.out);rintro e GL ⟨rfl,hb⟩;have Ab:=Aside0.mk (aQ (g:=zR) (o:=.cells #[.int .u64 zS,.slice (some zZ) zM.length zY] 49 (0,0)) (bk_ zQ.out) hb);have Ac:=Aside0.mk (aQ (g:=zP) (o:=.cells #[.string ((aH zM zL).f0),.string ((aH zM zL).f1),.string ((aH zM zL).f2),.int .u8 ((aH zM zL).f3),.int .u16 ((aH zM zL).f4),.slice zV ((aH zM zL).f5).length zW] 98 (0,0)) (bk_ zN.out) hb);have Ad:=Aside0.mk (aU (by repeat (first|(with_reducible first|exact HB.out|apply aD|apply ak|apply aC|refine aA ?_ zT.out|refine aA ?_ zX.out)|exact HB.out)) hb);clear zQ;clear zN;clear HB;have zQ:=Ab;have zN:=Ac;have HB:=Ad;clear Ab Ac Ad;(try clear hb);(try clear hb2);(try clear hk);(try clear hi)))
                 repeat (go_quiet (first|(go_at_call 57;(with_reducible refine (bZ.calls BZ _ _ ((aH zM zL).f5) t141 _ ?Am ?Ap Fg.out).mono ?_);(case Am=>repeat (first|exact (Kd.iF AB.out HB.out)|(with_reducible refine Kd.gQ ?_ _)|(with_reducible refine Kd.iA ?_ _)|(with_reducible refine Kd.iT ?_)));(case Ap=>exact AJ.out);rintro e GL ⟨rfl,hb⟩;have Ab:=Aside0.mk (aQ (g:=zR) (o:=.cells #[.int .u64 zS,.slice (some zZ) zM.length zY] 49 (0,0)) (bk_ zQ.out) hb);have Ac:=Aside0.mk (aQ (g:=zP) (o:=.cells #[.string ((aH zM zL).f0),.string ((aH zM zL).f1),.string ((aH zM zL).f2),.int .u8 ((aH zM zL).f3),.int .u16 ((aH zM zL).f4),.slice zV ((aH zM zL).f5).length zW] 98 (0,0)) (bk_ zN.out) hb);have Ad:=Aside0.mk (aU (by repeat (first|(with_reducible first|exact HB.out|apply aD|apply ak|apply aC|refine aA ?_ zT.out|refine aA ?_ zX.out)|exact HB.out)) hb);clear zQ;clear zN;clear HB;have zQ:=Ab;have zN:=Ac;have HB:=Ad;clear Ab Ac Ad;(try clear hb);(try clear hb2);(try clear hk);(try clear hi)));try go_wp2_with (first|(go_at_call 57;(with_reducible refine (bZ.calls BZ _ _ ((aH zM zL).f5) t141 _ ?Am ?Ap Fg.out).mono ?_);(case Am=>repeat (first|exact (Kd.iF AB.out HB.out)|(with_reducible refine Kd.gQ ?_ _)|(with_reducible refine Kd.iA ?_ _)|(with_reducible refine Kd.iT ?_)));(case Ap=>exact AJ.out);rintro e GL ⟨rfl,hb⟩;have Ab:=Aside0.mk (aQ (g:=zR) (o:=.cells #[.int .u64 zS,.slice (some zZ) zM.length zY] 49 (0,0)) (bk_ zQ.out) hb);have Ac:=Aside0.mk (aQ (g:=zP) (o:=.cells #[.string ((aH zM zL).f0),.string ((aH zM zL).f1),.string ((aH zM zL).f2),.int .u8 ((aH zM zL).f3),.int .u16 ((aH zM zL).f4),.slice zV ((aH zM zL).f5).length zW] 98 (0,0)) (bk_ zN.out) hb);have Ad:=Aside0.mk (aU (by repeat (first|(with_reducible first|exact HB.out|apply aD|apply ak|apply aC|refine aA ?_ zT.out|refine aA ?_ zX.out)|exact HB.out)) hb);clear zQ;clear zN;clear HB;have zQ:=Ab;have zN:=Ac;have HB:=Ad;clear Ab Ac Ad;(try clear hb);(try clear hb2);(try clear hk);(try clear hi))))
                 go_roundg BZ
                 case measure=>have:=DX.out;have:=EZ.out;have:=DW.out;have:=Fv.out;omega
                 case rel=>exact ⟨(wrap64 (zL + 1)),(by first|rfl|(simp;done)|(simp [*];done)),H',⟨by have:=DX.out;have:=EZ.out;have:=DW.out;have:=Fv.out;omega⟩,⟨by (with_reducible repeat (first|apply aj|apply au|apply ah));exact zQ.out⟩,⟨by repeat (first|(with_reducible first|exact HB.out|apply aD|apply ak|apply aC|refine aA ?_ zT.out|refine aA ?_ zX.out)|exact HB.out)⟩⟩
                ·rw [if_neg c49] at H
                 have c49b0 : (t141 == 0) = false:=beq_eq_false_iff_ne.mpr c49
                 have c49b1 : (t141 != 0) = true:=bne_iff_ne.mpr c49
                 obtain rfl:=Option.some.inj H
                 have GN:=zU.out
                 have GQ:=zO.out
                 have FV : wc.cell? ⟨zP,0,none⟩ = some (.string ((aH zM zL).f0)):=(ay zN.out 0).trans rfl
                 have FW : wc.cell? ⟨zP,1,none⟩ = some (.string ((aH zM zL).f1)):=(ay zN.out 1).trans rfl
                 have FX : wc.cell? ⟨zP,2,none⟩ = some (.string ((aH zM zL).f2)):=(ay zN.out 2).trans rfl
                 have FY : wc.cell? ⟨zP,3,none⟩ = some (.int .u8 ((aH zM zL).f3)):=(ay zN.out 3).trans rfl
                 have FZ : wc.cell? ⟨zP,4,none⟩ = some (.int .u16 ((aH zM zL).f4)):=(ay zN.out 4).trans rfl
                 have F3 : wc.cell? ⟨zP,5,none⟩ = some (.slice zV ((aH zM zL).f5).length zW):=(ay zN.out 5).trans rfl
                 have F4:=av zN.out 0
                 have F5:=av zN.out 1
                 have F6:=av zN.out 2
                 have F7:=av zN.out 3
                 have F8:=av zN.out 4
                 have F9:=av zN.out 5
                 go_wp2_with (first|(go_at_call 57;(with_reducible refine (bZ.calls BZ _ _ ((aH zM zL).f5) t141 _ ?Am ?Ap Fg.out).mono ?_);(case Am=>repeat (first|exact (Kd.iF AB.out HB.out)|(with_reducible refine Kd.gQ ?_ _)|(with_reducible refine Kd.iA ?_ _)|(with_reducible refine Kd.iT ?_)));(case Ap=>exact AJ.out);rintro e GR ⟨rfl,hb⟩;have Ab:=Aside0.mk (aQ (g:=zR) (o:=.cells #[.int .u64 zS,.slice (some zZ) zM.length zY] 49 (0,0)) (bk_ zQ.out) hb);have Ac:=Aside0.mk (aQ (g:=zP) (o:=.cells #[.string ((aH zM zL).f0),.string ((aH zM zL).f1),.string ((aH zM zL).f2),.int .u8 ((aH zM zL).f3),.int .u16 ((aH zM zL).f4),.slice zV ((aH zM zL).f5).length zW] 98 (0,0)) (bk_ zN.out) hb);have Ad:=Aside0.mk (aU (by repeat (first|(with_reducible first|exact HB.out|apply aD|apply ak|apply aC|refine aA ?_ zT.out|refine aA ?_ zX.out)|exact HB.out)) hb);clear zQ;clear zN;clear HB;have zQ:=Ab;have zN:=Ac;have HB:=Ad;clear Ab Ac Ad;(try clear hb);(try clear hb2);(try clear hk);(try clear hi)))
                 repeat (go_quiet (first|(go_at_call 57;(with_reducible refine (bZ.calls BZ _ _ ((aH zM zL).f5) t141 _ ?Am ?Ap Fg.out).mono ?_);(case Am=>repeat (first|exact (Kd.iF AB.out HB.out)|(with_reducible refine Kd.gQ ?_ _)|(with_reducible refine Kd.iA ?_ _)|(with_reducible refine Kd.iT ?_)));(case Ap=>exact AJ.out);rintro e GR ⟨rfl,hb⟩;have Ab:=Aside0.mk (aQ (g:=zR) (o:=.cells #[.int .u64 zS,.slice (some zZ) zM.length zY] 49 (0,0)) (bk_ zQ.out) hb);have Ac:=Aside0.mk (aQ (g:=zP) (o:=.cells #[.string ((aH zM zL).f0),.string ((aH zM zL).f1),.string ((aH zM zL).f2),.int .u8 ((aH zM zL).f3),.int .u16 ((aH zM zL).f4),.slice zV ((aH zM zL).f5).length zW] 98 (0,0)) (bk_ zN.out) hb);have Ad:=Aside0.mk (aU (by repeat (first|(with_reducible first|exact HB.out|apply aD|apply ak|apply aC|refine aA ?_ zT.out|refine aA ?_ zX.out)|exact HB.out)) hb);clear zQ;clear zN;clear HB;have zQ:=Ab;have zN:=Ac;have HB:=Ad;clear Ab Ac Ad;(try clear hb);(try clear hb2);(try clear hk);(try clear hi)));try go_wp2_with (first|(go_at_call 57;(with_reducible refine (bZ.calls BZ _ _ ((aH zM zL).f5) t141 _ ?Am ?Ap Fg.out).mono ?_);(case Am=>repeat (first|exact (Kd.iF AB.out HB.out)|(with_reducible refine Kd.gQ ?_ _)|(with_reducible refine Kd.iA ?_ _)|(with_reducible refine Kd.iT ?_)));(case Ap=>exact AJ.out);rintro e GR ⟨rfl,hb⟩;have Ab:=Aside0.mk (aQ (g:=zR) (o:=.cells #[.int .u64 zS,.slice (some zZ) zM.length zY] 49 (0,0)) (bk_ zQ.out) hb);have Ac:=Aside0.mk (aQ (g:=zP) (o:=.cells #[.string ((aH zM zL).f0),.string ((aH zM zL).f1),.string ((aH zM zL).f2),.int .u8 ((aH zM zL).f3),.int .u16 ((aH zM zL).f4),.slice zV ((aH zM zL).f5).length zW] 98 (0,0)) (bk_ zN.out) hb);have Ad:=Aside0.mk (aU (by repeat (first|(with_reducible first|exact HB.out|apply aD|apply ak|apply aC|refine aA ?_ zT.out|refine aA ?_ zX.out)|exact HB.out)) hb);clear zQ;clear zN;clear HB;have zQ:=Ab;have zN:=Ac;have HB:=Ad;clear Ab Ac Ad;(try clear hb);(try clear hb2);(try clear hk);(try clear hi))))
                 go_ret
                 exact ⟨by first|rfl|(simp [aY,aZ] <;> rfl)|(simp [*,aY,aZ] <;> rfl),by repeat (first|(with_reducible first|exact HB.out|apply aD|apply ak|apply aC|refine aA ?_ zT.out|refine aA ?_ zX.out)|exact HB.out)⟩
      ·rw [if_neg c9] at H
       exact absurd H (by simp)
     ·rw [if_neg c8] at H
      exact absurd H (by simp)
    ·rw [if_neg c7] at H
     have c7b0 : decide (zL < (zM.length : Int)) = false:=decide_eq_false c7
     clear c7
     obtain rfl:=Option.some.inj H
     go_wp2
     repeat (go_quiet (fail);try go_wp2)
     go_ret
     exact ⟨by first|rfl|(simp [aY,aZ] <;> rfl)|(simp [*,aY,aZ] <;> rfl),by repeat (first|(with_reducible first|exact HB.out|apply aD|apply ak|apply aC|refine aA ?_ zT.out)|exact HB.out)⟩
end Go.Proofs.YtpmbdcljphpcnaaDoor.GC2
