/- Written by this session's own program (wip/gen.py) out of the translation: plain Lean functions of the Go functions, and proofs that the calls come to their answers. No conditions beside those in the statements. -/
import Derived.Test.YtpflenjhmeaeoaaGreatDoorCp
import Derived.Test.YtpflenjhmeaeoaaGreatDoorGUtx0
import Derived.Test.YtpflenjhmeaeoaaGreatDoorGUtx21
import Derived.Test.YtpflenjhmeaeoaaGreatDoorGUtRSame
namespace Go.Proofs.YtpflenjhmeaeoaaGreatDoor.GUt
open Go.RowKit Go.Proofs.YtpflenjhmeaeoaaGreatDoorW.PrintWords Go.Proofs.YtpflenjhmeaeoaaGreatDoorW.PrintLast Go.Proofs.YtpflenjhmeaeoaaGreatDoorW.PrintMore
attribute [local go_sem] fJ fK gH gI eO eP fM fO
set_option linter.unusedVariables false
set_option linter.unusedSimpArgs false
mutual
def aA.l0 : Nat → List (S43) → Int → Int → List (S59) → Int → List (S59) → Option ((List (S43)))
 | 0,_,_,_,_,_,_=>none
 | k + 1,x5,x6,Da,BG,Db,BD=>if x6 < (BD.length : Int) then (if 0 ≤ x6 then ((bC.f k Da BG ((aJ BD x6).f0)).bind fun Bp=>(if Bp < 0 then ((bA.f k x5 0 ((aJ BD x6).f0) ((aJ BD x6).f1.f0)).bind fun Et=>(aA.l0 k Et (wrap64 (x6 + 1)) Da BG Db BD)) else (if 0 ≤ Bp then (if Bp < (BG.length : Int) then ((bS.f k ((aJ BG Bp).f1.f0) ((aJ BG Bp).f1.f1) ((aJ BG Bp).f1.f2) ((aJ BG Bp).f1.f3) ((aJ BG Bp).f1.f4) ((aJ BG Bp).f1.f5) ((aJ BD x6).f1.f0) ((aJ BD x6).f1.f1) ((aJ BD x6).f1.f2) ((aJ BD x6).f1.f3) ((aJ BD x6).f1.f4) ((aJ BD x6).f1.f5)).bind fun EI=>(if EI = true then (aA.l0 k x5 (wrap64 (x6 + 1)) Da BG Db BD) else ((bA.f k x5 1 ((aJ BD x6).f0) ((aJ BD x6).f1.f0)).bind fun Ee=>(aA.l0 k Ee (wrap64 (x6 + 1)) Da BG Db BD)))) else (none)) else (none)))) else (none)) else (aA.l1 k x5 0 Da BG Db BD)
def aA.l1 : Nat → List (S43) → Int → Int → List (S59) → Int → List (S59) → Option ((List (S43)))
 | 0,_,_,_,_,_,_=>none
 | k + 1,x5,x9,Da,BG,Db,BD=>if x9 < (BG.length : Int) then (if 0 ≤ x9 then ((bC.f k Db BD ((aJ BG x9).f0)).bind fun En=>(if En < 0 then ((bA.f k x5 2 ((aJ BG x9).f0) ((aJ BG x9).f1.f0)).bind fun Eu=>(aA.l1 k Eu (wrap64 (x9 + 1)) Da BG Db BD)) else (aA.l1 k x5 (wrap64 (x9 + 1)) Da BG Db BD))) else (none)) else (some x5)
end
def aA.f (k : Nat) (Bz : Int) (Bj : List (S59)) (BF : Int) (AZ : List (S59)) : Option ((List (S43))):=aA.l0 k ([] : List (S43)) 0 Bz Bj BF AZ
theorem aA.dQ : ∀ k,(∀ y0 y1 y2 y3 y4 y5,LeO (aA.l0 k y0 y1 y2 y3 y4 y5) (aA.l0 (k + 1) y0 y1 y2 y3 y4 y5)) ∧ (∀ y0 y1 y2 y3 y4 y5,LeO (aA.l1 k y0 y1 y2 y3 y4 y5) (aA.l1 (k + 1) y0 y1 y2 y3 y4 y5))
 | 0=>⟨fun _ _ _ _ _ _ r h=>by simp [aA.l0] at h,fun _ _ _ _ _ _ r h=>by simp [aA.l1] at h⟩
 | k + 1=>by
  obtain ⟨Fj,ih1⟩:=aA.dQ k
  refine ⟨?_,?_⟩
  ·intro y0 y1 y2 y3 y4 y5
   unfold aA.l0
   repeat' first
   | (with_reducible exact Fj _ _ _ _ _ _)
   | (with_reducible exact ih1 _ _ _ _ _ _)
   | (with_reducible exact bS.mono _ _ _ _ _ _ _ _ _ _ _ _ _)
   | (with_reducible exact bC.mono _ _ _ _)
   | (with_reducible exact bA.mono _ _ _ _ _)
   | (with_reducible exact LeO.refl _)
   | (with_reducible exact LeO.none _)
   | (with_reducible refine LeO.ite ?_ ?_)
   | (with_reducible refine LeO.bind ?_ (fun _=>?_))
   | exact Fj _ _ _ _ _ _
   | exact ih1 _ _ _ _ _ _
   | exact bS.mono _ _ _ _ _ _ _ _ _ _ _ _ _
   | exact bC.mono _ _ _ _
   | exact bA.mono _ _ _ _ _
   | exact LeO.none _
   | refine LeO.ite ?_ ?_
   | refine LeO.bind ?_ (fun _=>?_)
  ·intro y0 y1 y2 y3 y4 y5
   unfold aA.l1
   repeat' first
   | (with_reducible exact Fj _ _ _ _ _ _)
   | (with_reducible exact ih1 _ _ _ _ _ _)
   | (with_reducible exact bS.mono _ _ _ _ _ _ _ _ _ _ _ _ _)
   | (with_reducible exact bC.mono _ _ _ _)
   | (with_reducible exact bA.mono _ _ _ _ _)
   | (with_reducible exact LeO.refl _)
   | (with_reducible exact LeO.none _)
   | (with_reducible refine LeO.ite ?_ ?_)
   | (with_reducible refine LeO.bind ?_ (fun _=>?_))
   | exact Fj _ _ _ _ _ _
   | exact ih1 _ _ _ _ _ _
   | exact bS.mono _ _ _ _ _ _ _ _ _ _ _ _ _
   | exact bC.mono _ _ _ _
   | exact bA.mono _ _ _ _ _
   | exact LeO.none _
   | refine LeO.ite ?_ ?_
   | refine LeO.bind ?_ (fun _=>?_)
theorem aA.mono : ∀ a0 a1 a2 a3 k,LeO (aA.f k a0 a1 a2 a3) (aA.f (k + 1) a0 a1 a2 a3):=by
 intro a0 a1 a2 a3 k
 obtain ⟨Fj,ih1⟩:=aA.dQ k
 unfold aA.f
 repeat' first
   | (with_reducible exact Fj _ _ _ _ _ _)
   | (with_reducible exact ih1 _ _ _ _ _ _)
   | (with_reducible exact bS.mono _ _ _ _ _ _ _ _ _ _ _ _ _)
   | (with_reducible exact bC.mono _ _ _ _)
   | (with_reducible exact bA.mono _ _ _ _ _)
   | (with_reducible exact LeO.refl _)
   | (with_reducible exact LeO.none _)
   | (with_reducible refine LeO.ite ?_ ?_)
   | (with_reducible refine LeO.bind ?_ (fun _=>?_))
   | exact Fj _ _ _ _ _ _
   | exact ih1 _ _ _ _ _ _
   | exact bS.mono _ _ _ _ _ _ _ _ _ _ _ _ _
   | exact bC.mono _ _ _ _
   | exact bA.mono _ _ _ _ _
   | exact LeO.none _
   | refine LeO.ite ?_ ?_
   | refine LeO.bind ?_ (fun _=>?_)
def aA.T9 : Bool × List (List Nat × List Nat):=(true,[([],[]),([0],[0]),([],[]),([1,2],[1,2]),([3],[3]),([4],[4]),([],[]),([6],[6]),([5,7],[5,7]),([8],[8])])
def aA.B9 : List Nat:=[0,1,0,7,15,31,0,64,255,511]
theorem aA.rE : gV .any (opsOf Tryz.f9 9) = aA.T9:=by kernel_rfl
theorem aA.ni : fQ aA.T9.2 aA.B9 = true:=by kernel_rfl
def aA.T14 : Bool × List (List Nat × List Nat):=(true,[([],[]),([],[]),([1],[1]),([],[]),([2,3],[2,3]),([4],[4]),([5],[5]),([0,6],[0,6]),([7],[7])])
def aA.B14 : List Nat:=[0,0,2,0,14,30,62,127,255]
theorem aA.yF : gV .any (opsOf Tryz.f9 14) = aA.T14:=by kernel_rfl
theorem aA.wJ : fQ aA.T14.2 aA.B14 = true:=by kernel_rfl
def aA.T15 : Bool × List (List Nat × List Nat):=(true,[([],[]),([],[]),([1],[1]),([],[]),([2,3],[2,3]),([4],[4]),([5],[5]),([],[]),([7],[7]),([],[]),([8,9],[8,9]),([10],[10]),([11],[11]),([12],[12]),([6,13],[6,13]),([0,14],[0,14]),([15,15,0,1,2,3,4,5,6,7,8,9,10,11,12,13,14,15],[0,15])])
def aA.B15 : List Nat:=[0,0,2,0,14,30,62,0,128,0,896,1920,3968,8064,16382,32767,65535]
theorem aA.Aq : gV .any (opsOf Tryz.f9 15) = aA.T15:=by kernel_rfl
theorem aA.zB : fQ aA.T15.2 aA.B15 = true:=by kernel_rfl
set_option maxHeartbeats 8000000 in
set_option maxRecDepth 100000 in
theorem aA.calls (k : Nat) (Bz : Int) (BN : Option Addr) (BI : Nat) (Bj : List (S59)) (BF : Int) (Dm : Option Addr) (BL : Nat) (AZ : List (S59)) (r : List (S43)) (w : World) (EY : Kd.C k59 w BN Bj.length Bj) (EZ : Bj.length ≤ BI) (E5 : Kd.C k59 w Dm AZ.length AZ) (E8 : AZ.length ≤ BL) (h : aA.f k Bz Bj BF AZ = some r) :
  Calls Tryz.prog 9 #[.agg #[.int .u64 Bz,.slice BN Bj.length BI],.agg #[.int .u64 BF,.slice Dm AZ.length BL]] w fun e w'=>∃ Jm : Value,e = .returned (Jm) ∧ Kd.R k43 43 w' w.heap.size (fun _=>True) Jm r ∧ Below w.heap.size w w':=by
 have J4:=Tryz.underlying38
 have J5:=Tryz.underlying59
 have J6:=Tryz.underlying43
 have J7:=Tryz.underlying57
 have Dp:=Aside0.mk EY
 have EJ:=Aside0.mk EZ
 clear EY EZ
 have Eo:=Aside0.mk E5
 have E9:=Aside0.mk E8
 clear E5 E8
 have HB:=Aside0.mk (Below.refl w.heap.size w)
 have H : (aA.l0 k ([] : List (S43)) 0 Bz Bj BF AZ) = some r:=h
 clear h
 have H':=Aside0.mk H
 clear H
 go_enter Tryz.func9,Tryz.ntmps9
 go_wp2_with (first|((with_reducible refine cZ (N:=2) rfl ?_);refine dA ?hg (N:=2) ?hd (cs:=#[.int .u64 Bz,.slice BN Bj.length BI]) (t:=38) ?hr ?_;(case hd=>rfl);(case hg=>rfl);(case hr=>first|(go_simp;done)|(go_simp;rfl));intro Bu hg w3 hbox hb;have BO:=Aside0.mk (aK hb_ hb);have BP:=Aside0.mk (hbox);have BQ:=Aside0.mk ((by rw [hg];exact (aM hb_) : w.heap.size ≤ Bu));have BR:=Aside0.mk ((by rw [hg];exact (aM hb_) : w.heap.size ≤ Bu));clear HB;have HB:=BO;have Bh:=BP;have Jo:=BQ;have Jp:=BR;clear BO BP BQ BR;clear hb hbox hg)|((with_reducible refine cZ (N:=3) rfl ?_);refine dA ?hg (N:=3) ?hd (cs:=#[.int .u64 BF,.slice Dm AZ.length BL]) (t:=38) ?hr ?_;(case hd=>rfl);(case hg=>rfl);(case hr=>first|(go_simp;done)|(go_simp;rfl));intro Bw hg w4 hbox hb;have BO:=Aside0.mk (aN (g:=Bu) (o:=.cells #[.int .u64 Bz,.slice BN Bj.length BI] 38 (0,0)) (bk_ Bh.out) hb);have BP:=Aside0.mk (aK hb_ hb);have BQ:=Aside0.mk (hbox);have BR:=Aside0.mk ((by rw [hg];exact (aM hb_) : w.heap.size ≤ Bw));have Dh:=Aside0.mk ((by rw [hg];exact (aM hb_) : w.heap.size ≤ Bw));have Ep:=Aside0.mk ((by rw [hg];exact Nat.ne_of_lt (dh (g:=Bu) (o:=.cells #[.int .u64 Bz,.slice BN Bj.length BI] 38 (0,0)) (bk_ Bh.out)) : Bu ≠ Bw));have EK:=Aside0.mk ((by rw [hg];exact Nat.ne_of_gt (dh (g:=Bu) (o:=.cells #[.int .u64 Bz,.slice BN Bj.length BI] 38 (0,0)) (bk_ Bh.out)) : Bw ≠ Bu));clear Bh;clear HB;have Bh:=BO;have HB:=BP;have Bl:=BQ;have Jq:=BR;have Jr:=Dh;have CF:=Ep;have CG:=EK;clear BO BP BQ BR Dh Ep EK;clear hb hbox hg))
 go_loopg [5,6] k (fun kq v5 v6 w'=>∃ (Dn : List (S43)) (Bf : Int),v6 = .int .i64 Bf ∧ Aside0 (aA.l0 kq Dn Bf Bz Bj BF AZ = some r) ∧ Aside0 (kq ≤ k) ∧ Aside0 (Kd.R k43 43 w' w.heap.size (fun _=>True) v5 Dn) ∧ Aside0 (w'.heap[Bu]? = some (.cells #[.int .u64 Bz,(.slice BN Bj.length BI)] 38 (0,0))) ∧ Aside0 (w'.heap[Bw]? = some (.cells #[.int .u64 BF,(.slice Dm AZ.length BL)] 38 (0,0))) ∧ Aside0 (Below w.heap.size w w'))
 case atStart=>exact ⟨(([] : List (S43))),(0),(by first|rfl|(simp;done)|(simp [*];done)),H',⟨Nat.le_refl _⟩,⟨by first|exact Kd.kJ _ _ _ _ _|exact Kd.qZ _ _ _ _ _|exact Kd.rA _ _ _ _ _|exact Kd.uY _ _ _ _ _|exact Kd.vo _ _ _ _ _⟩,⟨by (with_reducible repeat (first|apply ay|apply aG|apply aD));exact Bh.out⟩,⟨by (with_reducible repeat (first|apply ay|apply aG|apply aD));exact Bl.out⟩,⟨hb_⟩⟩
 case round =>
  clear H'
  obtain ⟨Dn,Bf,rfl,HA,EP,Bv,Bh,Bl,HB⟩:=hrel
  cases gk with
  | zero=>exact absurd HA.out (by simp [aA.l0])
  | succ k1 =>
   have H:=HA.out
   clear HA
   simp only [aA.l0] at H
   by_cases c5 : Bf < (AZ.length : Int)
   ·rw [if_pos c5] at H
    have c5b0 : decide (Bf < (AZ.length : Int)) = true:=decide_eq_true c5
    clear c5
    by_cases c6 : 0 ≤ Bf
    ·rw [if_pos c6] at H
     have c6b0 : decide (0 ≤ Bf) = true:=decide_eq_true c6
     clear c6
     replace H:=Option.bind_eq_some_iff.mp H
     obtain ⟨Bp,Js,H⟩:=H
     replace H : (if Bp < 0 then ((bA.f k1 Dn 0 ((aJ AZ Bf).f0) ((aJ AZ Bf).f1.f0)).bind fun Et=>(aA.l0 k1 Et (wrap64 (Bf + 1)) Bz Bj BF AZ)) else (if 0 ≤ Bp then (if Bp < (Bj.length : Int) then ((bS.f k1 ((aJ Bj Bp).f1.f0) ((aJ Bj Bp).f1.f1) ((aJ Bj Bp).f1.f2) ((aJ Bj Bp).f1.f3) ((aJ Bj Bp).f1.f4) ((aJ Bj Bp).f1.f5) ((aJ AZ Bf).f1.f0) ((aJ AZ Bf).f1.f1) ((aJ AZ Bf).f1.f2) ((aJ AZ Bf).f1.f3) ((aJ AZ Bf).f1.f4) ((aJ AZ Bf).f1.f5)).bind fun EI=>(if EI = true then (aA.l0 k1 Dn (wrap64 (Bf + 1)) Bz Bj BF AZ) else ((bA.f k1 Dn 1 ((aJ AZ Bf).f0) ((aJ AZ Bf).f1.f0)).bind fun Ee=>(aA.l0 k1 Ee (wrap64 (Bf + 1)) Bz Bj BF AZ)))) else (none)) else (none))) = some r:=H
     have A7:=Aside0.mk Js
     clear Js
     by_cases c8 : Bp < 0
     ·rw [if_pos c8] at H
      have c8b0 : decide (Bp < 0) = true:=decide_eq_true c8
      clear c8
      replace H:=Option.bind_eq_some_iff.mp H
      obtain ⟨Et,Jt,H⟩:=H
      replace H : (aA.l0 k1 Et (wrap64 (Bf + 1)) Bz Bj BF AZ) = some r:=H
      have A9:=Aside0.mk Jt
      clear Jt
      have H':=Aside0.mk H
      clear H
      have Ju:=CG.out
      have Jv:=CF.out
      have FP : wr.cell? ⟨Bw,0,none⟩ = some (.int .u64 BF):=(ah Bl.out 0).trans rfl
      have FQ : wr.cell? ⟨Bw,1,none⟩ = some (.slice Dm AZ.length BL):=(ah Bl.out 1).trans rfl
      have FR:=ak Bl.out 0
      have FT:=ak Bl.out 1
      have Ef : 0 ≤ (Bf : Int):=of_decide_eq_true (by first|(with_reducible assumption)|assumption)
      have Eh : Bf < (AZ.length : Int):=of_decide_eq_true (by first|(with_reducible assumption)|assumption)
      obtain ⟨CB,BJ,BK,e309,BS,BU,BX,BZ,Ca,Cb,Cc,Dc,Df⟩:=jR Eo.out Bf Ef Eh
      cases e309
      replace BS:=(HB.out.cell (World.block_lt_of_cell? w _ BS)).trans BS
      replace BU:=(HB.out.cell (World.block_lt_of_cell? w _ BU)).trans BU
      replace BX:=(HB.out.cell (World.block_lt_of_cell? w _ BX)).trans BX
      replace BZ:=(HB.out.cell (World.block_lt_of_cell? w _ BZ)).trans BZ
      replace Ca:=(HB.out.cell (World.block_lt_of_cell? w _ Ca)).trans Ca
      replace Cb:=(HB.out.cell (World.block_lt_of_cell? w _ Cb)).trans Cb
      replace Cc:=(HB.out.cell (World.block_lt_of_cell? w _ Cc)).trans Cc
      have DT:=Aside0.mk Df
      have DU:=Aside0.mk Dc
      clear Df Dc
      replace Ef:=eq_true Ef
      replace Eh:=eq_true Eh
      go_wp2_with (first|((with_reducible refine cZ (N:=7) rfl ?_);refine dA ?hg (N:=7) ?hd (cs:=#[.string (⟨#[]⟩ : ByteArray),.string (⟨#[]⟩ : ByteArray),.string (⟨#[]⟩ : ByteArray),.int .i64 0,.int .i64 0,.bool false,.slice none 0 0]) (t:=59) ?hr ?_;(case hd=>rfl);(case hg=>rfl);(case hr=>first|(go_simp;done)|(go_simp;rfl));intro Bn hg ER hbox hb;have BO:=Aside0.mk (Kd.fu (kr_ Bv.out) hb);have BP:=Aside0.mk (aN (g:=Bu) (o:=.cells #[.int .u64 Bz,.slice BN Bj.length BI] 38 (0,0)) (bk_ Bh.out) hb);have BQ:=Aside0.mk (aN (g:=Bw) (o:=.cells #[.int .u64 BF,.slice (some CB) AZ.length BL] 38 (0,0)) (bk_ Bl.out) hb);have BR:=Aside0.mk (aK hb_ hb);have Dh:=Aside0.mk (hbox);have Ep:=Aside0.mk ((by rw [hg];exact (aM hb_) : w.heap.size ≤ Bn));have EK:=Aside0.mk ((by rw [hg];exact (aM hb_) : w.heap.size ≤ Bn));have Fa:=Aside0.mk ((by rw [hg];exact Nat.ne_of_lt (dh (g:=Bu) (o:=.cells #[.int .u64 Bz,.slice BN Bj.length BI] 38 (0,0)) (bk_ Bh.out)) : Bu ≠ Bn));have Fb:=Aside0.mk ((by rw [hg];exact Nat.ne_of_gt (dh (g:=Bu) (o:=.cells #[.int .u64 Bz,.slice BN Bj.length BI] 38 (0,0)) (bk_ Bh.out)) : Bn ≠ Bu));have Fe:=Aside0.mk ((by rw [hg];exact Nat.ne_of_lt (dh (g:=Bw) (o:=.cells #[.int .u64 BF,.slice (some CB) AZ.length BL] 38 (0,0)) (bk_ Bl.out)) : Bw ≠ Bn));have Er:=Aside0.mk ((by rw [hg];exact Nat.ne_of_gt (dh (g:=Bw) (o:=.cells #[.int .u64 BF,.slice (some CB) AZ.length BL] 38 (0,0)) (bk_ Bl.out)) : Bn ≠ Bw));clear Bv;clear Bh;clear Bl;clear HB;have Bv:=BO;have Bh:=BP;have Bl:=BQ;have HB:=BR;have Bg:=Dh;have Fg:=Ep;have Fh:=EK;have Bq:=Fa;have Di:=Fb;have Br:=Fe;have Dj:=Er;clear BO BP BQ BR Dh Ep EK Fa Fb Fe Er;clear hb hbox hg;have Jw:=Di.out;have Jy:=Bq.out;have Jz:=Dj.out;have JA:=Br.out;have FU : ER.cell? ⟨Bn,0,none⟩ = some (.string (⟨#[]⟩ : ByteArray)):=(ah Bg.out 0).trans rfl;have FV : ER.cell? ⟨Bn,1,none⟩ = some (.string (⟨#[]⟩ : ByteArray)):=(ah Bg.out 1).trans rfl;have FW : ER.cell? ⟨Bn,2,none⟩ = some (.string (⟨#[]⟩ : ByteArray)):=(ah Bg.out 2).trans rfl;have FX : ER.cell? ⟨Bn,3,none⟩ = some (.int .i64 0):=(ah Bg.out 3).trans rfl;have FY : ER.cell? ⟨Bn,4,none⟩ = some (.int .i64 0):=(ah Bg.out 4).trans rfl;have FZ : ER.cell? ⟨Bn,5,none⟩ = some (.bool false):=(ah Bg.out 5).trans rfl;have F3 : ER.cell? ⟨Bn,6,none⟩ = some (.slice none 0 0):=(ah Bg.out 6).trans rfl;have F4:=ak Bg.out 0;have F5:=ak Bg.out 1;have F6:=ak Bg.out 2;have F7:=ak Bg.out 3;have F8:=ak Bg.out 4;have F9:=ak Bg.out 5;have Ga:=ak Bg.out 6;have Gb : ER.cell? ⟨Bu,0,none⟩ = some (.int .u64 Bz):=(ah Bh.out 0).trans rfl;have Gc : ER.cell? ⟨Bu,1,none⟩ = some (.slice BN Bj.length BI):=(ah Bh.out 1).trans rfl;have Gd:=ak Bh.out 0;have Gf:=ak Bh.out 1)|((with_reducible refine bF (f:=19) rfl ?_);refine dN (some 25) rfl rfl Tryz.func19 (by kernel_rfl) rfl #[.agg #[.int .u64 Bz,.slice BN Bj.length BI],.string ((aJ AZ Bf).f0)] rfl (by (try simp only [List.map_toArray,List.map_cons,List.map_nil]);first|done|rfl|(simp only [List.length_drop,List.length_take];rfl)|(simp (disch:=first|omega|(simp at *;omega)) only [dO,dG,eH];rfl)) ?_;(with_reducible refine (bC.calls k1 Bz _ _ Bj ((aJ AZ Bf).f0) Bp _ ?Ce ?Cg A7.out).mono ?_);(case Ce=>exact Kd.bO Dp.out hb_);(case Cg=>exact EJ.out);rintro e Fp ⟨rfl,hb⟩;refine ⟨_,rfl,?_⟩;have BO:=Aside0.mk (Kd.fu (by (with_reducible repeat (first|apply Kd.fG|apply Kd.fH|apply Kd.eD));exact (Kd.gW (Kd.iT (p:=⟨Bn,6,none⟩) (Kd.iT (p:=⟨Bn,5,none⟩) (Kd.iT (p:=⟨Bn,4,none⟩) (Kd.iT (p:=⟨Bn,3,none⟩) (Kd.iT (p:=⟨Bn,2,none⟩) (Kd.iT (p:=⟨Bn,1,none⟩) (Kd.iT (p:=⟨Bn,0,none⟩) (Kd.lW Bv.out Bg.out (by decide)) (fun _ hk=>hk.2) (.string ((aJ AZ Bf).f0))) (fun _ hk=>hk.2) (.string ((aJ AZ Bf).f1.f0))) (fun _ hk=>hk.2) (.string ((aJ AZ Bf).f1.f1))) (fun _ hk=>hk.2) (.int .i64 ((aJ AZ Bf).f1.f2))) (fun _ hk=>hk.2) (.int .i64 ((aJ AZ Bf).f1.f3))) (fun _ hk=>hk.2) (.bool ((aJ AZ Bf).f1.f4))) (fun _ hk=>hk.2) (.slice BJ ((aJ AZ Bf).f1.f5).length BK)) (fun _ h_=>h_.1))) hb);have BP:=Aside0.mk (aN (g:=Bu) (o:=.cells #[.int .u64 Bz,.slice BN Bj.length BI] 38 (0,0)) (by (with_reducible repeat (first|apply ay|apply aG|apply aD));refine bL ?_ Bq.out _;(with_reducible repeat (first|apply ay|apply aG|apply aD));refine bL ?_ Bq.out _;(with_reducible repeat (first|apply ay|apply aG|apply aD));refine bL ?_ Bq.out _;(with_reducible repeat (first|apply ay|apply aG|apply aD));refine bL ?_ Bq.out _;(with_reducible repeat (first|apply ay|apply aG|apply aD));refine bL ?_ Bq.out _;(with_reducible repeat (first|apply ay|apply aG|apply aD));refine bL ?_ Bq.out _;(with_reducible repeat (first|apply ay|apply aG|apply aD));refine bL ?_ Bq.out _;(with_reducible repeat (first|apply ay|apply aG|apply aD));exact Bh.out) hb);have BQ:=Aside0.mk (aN (g:=Bw) (o:=.cells #[.int .u64 BF,.slice (some CB) AZ.length BL] 38 (0,0)) (by (with_reducible repeat (first|apply ay|apply aG|apply aD));refine bL ?_ Br.out _;(with_reducible repeat (first|apply ay|apply aG|apply aD));refine bL ?_ Br.out _;(with_reducible repeat (first|apply ay|apply aG|apply aD));refine bL ?_ Br.out _;(with_reducible repeat (first|apply ay|apply aG|apply aD));refine bL ?_ Br.out _;(with_reducible repeat (first|apply ay|apply aG|apply aD));refine bL ?_ Br.out _;(with_reducible repeat (first|apply ay|apply aG|apply aD));refine bL ?_ Br.out _;(with_reducible repeat (first|apply ay|apply aG|apply aD));refine bL ?_ Br.out _;(with_reducible repeat (first|apply ay|apply aG|apply aD));exact Bl.out) hb);have BR:=Aside0.mk (aN (g:=Bn) (o:=.cells #[.string ((aJ AZ Bf).f0),.string ((aJ AZ Bf).f1.f0),.string ((aJ AZ Bf).f1.f1),.int .i64 ((aJ AZ Bf).f1.f2),.int .i64 ((aJ AZ Bf).f1.f3),.bool ((aJ AZ Bf).f1.f4),.slice BJ ((aJ AZ Bf).f1.f5).length BK] 59 (0,0)) (by (with_reducible repeat (first|apply ay|apply aG|apply aD));refine bN (cs:=#[.string ((aJ AZ Bf).f0),.string ((aJ AZ Bf).f1.f0),.string ((aJ AZ Bf).f1.f1),.int .i64 ((aJ AZ Bf).f1.f2),.int .i64 ((aJ AZ Bf).f1.f3),.bool ((aJ AZ Bf).f1.f4),.slice none 0 0]) ?_ 6 _ rfl;(with_reducible repeat (first|apply ay|apply aG|apply aD));refine bN (cs:=#[.string ((aJ AZ Bf).f0),.string ((aJ AZ Bf).f1.f0),.string ((aJ AZ Bf).f1.f1),.int .i64 ((aJ AZ Bf).f1.f2),.int .i64 ((aJ AZ Bf).f1.f3),.bool false,.slice none 0 0]) ?_ 5 _ rfl;(with_reducible repeat (first|apply ay|apply aG|apply aD));refine bN (cs:=#[.string ((aJ AZ Bf).f0),.string ((aJ AZ Bf).f1.f0),.string ((aJ AZ Bf).f1.f1),.int .i64 ((aJ AZ Bf).f1.f2),.int .i64 0,.bool false,.slice none 0 0]) ?_ 4 _ rfl;(with_reducible repeat (first|apply ay|apply aG|apply aD));refine bN (cs:=#[.string ((aJ AZ Bf).f0),.string ((aJ AZ Bf).f1.f0),.string ((aJ AZ Bf).f1.f1),.int .i64 0,.int .i64 0,.bool false,.slice none 0 0]) ?_ 3 _ rfl;(with_reducible repeat (first|apply ay|apply aG|apply aD));refine bN (cs:=#[.string ((aJ AZ Bf).f0),.string ((aJ AZ Bf).f1.f0),.string (⟨#[]⟩ : ByteArray),.int .i64 0,.int .i64 0,.bool false,.slice none 0 0]) ?_ 2 _ rfl;(with_reducible repeat (first|apply ay|apply aG|apply aD));refine bN (cs:=#[.string ((aJ AZ Bf).f0),.string (⟨#[]⟩ : ByteArray),.string (⟨#[]⟩ : ByteArray),.int .i64 0,.int .i64 0,.bool false,.slice none 0 0]) ?_ 1 _ rfl;(with_reducible repeat (first|apply ay|apply aG|apply aD));refine bN (cs:=#[.string (⟨#[]⟩ : ByteArray),.string (⟨#[]⟩ : ByteArray),.string (⟨#[]⟩ : ByteArray),.int .i64 0,.int .i64 0,.bool false,.slice none 0 0]) ?_ 0 _ rfl;(with_reducible repeat (first|apply ay|apply aG|apply aD));exact Bg.out) hb);have Dh:=Aside0.mk (aK hb_ hb);clear Bv;clear Bh;clear Bl;clear Bg;clear HB;have Bv:=BO;have Bh:=BP;have Bl:=BQ;have Bg:=BR;have HB:=Dh;clear BO BP BQ BR Dh;(try clear hb);(try clear hb2);(try clear hk);(try clear hi);have Gg : Fp.cell? ⟨Bn,0,none⟩ = some (.string ((aJ AZ Bf).f0)):=(ah Bg.out 0).trans rfl;have Gh : Fp.cell? ⟨Bn,1,none⟩ = some (.string ((aJ AZ Bf).f1.f0)):=(ah Bg.out 1).trans rfl;have Gi : Fp.cell? ⟨Bn,2,none⟩ = some (.string ((aJ AZ Bf).f1.f1)):=(ah Bg.out 2).trans rfl;have Gj : Fp.cell? ⟨Bn,3,none⟩ = some (.int .i64 ((aJ AZ Bf).f1.f2)):=(ah Bg.out 3).trans rfl;have Gl : Fp.cell? ⟨Bn,4,none⟩ = some (.int .i64 ((aJ AZ Bf).f1.f3)):=(ah Bg.out 4).trans rfl;have Gm : Fp.cell? ⟨Bn,5,none⟩ = some (.bool ((aJ AZ Bf).f1.f4)):=(ah Bg.out 5).trans rfl;have Gn : Fp.cell? ⟨Bn,6,none⟩ = some (.slice BJ ((aJ AZ Bf).f1.f5).length BK):=(ah Bg.out 6).trans rfl;have Gp:=ak Bg.out 0;have Gq:=ak Bg.out 1;have Gr:=ak Bg.out 2;have Gs:=ak Bg.out 3;have Gt:=ak Bg.out 4;have Gu:=ak Bg.out 5;have Gv:=ak Bg.out 6;obtain ⟨Jb,Jc,Jd⟩:=Kd.iE Bv.out;subst Jd)|((with_reducible refine bF (f:=20) rfl ?_);refine dN (some 35) rfl rfl Tryz.func20 (by kernel_rfl) rfl #[.slice Jb Dn.length Jc,.agg #[.int .i64 0,.string ((aJ AZ Bf).f0),.string ((aJ AZ Bf).f1.f0)]] rfl (by (try simp only [List.map_toArray,List.map_cons,List.map_nil]);first|done|rfl|(simp only [List.length_drop,List.length_take];rfl)|(simp (disch:=first|omega|(simp at *;omega)) only [dO,dG,eH];rfl)) ?_;(with_reducible refine (bA.calls k1 _ _ Dn 0 ((aJ AZ Bf).f0) ((aJ AZ Bf).f1.f0) Et _ ?Ce ?Cg A9.out).mono ?_);(case Ce=>repeat (first|exact (Kd.fI Bv.out).2.2|(with_reducible refine Kd.bD ?_ _)|(with_reducible refine Kd.bR ?_ _)|(with_reducible refine Kd.bZ ?_)));(case Cg=>exact (Kd.fI Bv.out).2.1);rintro e Km ⟨J8,rfl,ho0,hb⟩;refine ⟨_,rfl,?_⟩;have BO:=Aside0.mk (Kd.lX (kr_ Bv.out) (Kd.jo ho0) hb);have BP:=Aside0.mk (Kd.iD (Kd.ql ho0 (Kd.rX (kr_ Bv.out))) (aM hb_));have BQ:=Aside0.mk (aN (g:=Bu) (o:=.cells #[.int .u64 Bz,.slice BN Bj.length BI] 38 (0,0)) (bk_ Bh.out) hb);have BR:=Aside0.mk (aN (g:=Bw) (o:=.cells #[.int .u64 BF,.slice (some CB) AZ.length BL] 38 (0,0)) (bk_ Bl.out) hb);have Dh:=Aside0.mk (aN (g:=Bn) (o:=.cells #[.string ((aJ AZ Bf).f0),.string ((aJ AZ Bf).f1.f0),.string ((aJ AZ Bf).f1.f1),.int .i64 ((aJ AZ Bf).f1.f2),.int .i64 ((aJ AZ Bf).f1.f3),.bool ((aJ AZ Bf).f1.f4),.slice BJ ((aJ AZ Bf).f1.f5).length BK] 59 (0,0)) (bk_ Bg.out) hb);have Ep:=Aside0.mk (aK hb_ hb);clear Bv;clear Bh;clear Bl;clear Bg;clear HB;have Bv:=BO;have FB:=BP;have Bh:=BQ;have Bl:=BR;have Bg:=Dh;have HB:=Ep;clear BO BP BQ BR Dh Ep;(try clear hb);(try clear hb2);(try clear hk);(try clear hi);(try clear ho0)))
      go_roundg k1
      case measure=>have:=EP.out;omega
      case rel=>exact ⟨(Et),(wrap64 (Bf + 1)),(by first|rfl|(simp;done)|(simp [*];done)),H',⟨by have:=EP.out;omega⟩,⟨by (with_reducible repeat (first|apply Kd.fG|apply Kd.fH|apply Kd.eD));exact Kd.gW FB.out (fun _ hk=>trivial)⟩,⟨by (with_reducible repeat (first|apply ay|apply aG|apply aD));exact Bh.out⟩,⟨by (with_reducible repeat (first|apply ay|apply aG|apply aD));exact Bl.out⟩,⟨hb_⟩⟩
     ·rw [if_neg c8] at H
      have c8b0 : decide (Bp < 0) = false:=decide_eq_false c8
      clear c8
      by_cases c21 : 0 ≤ Bp
      ·rw [if_pos c21] at H
       have c21b0 : decide (0 ≤ Bp) = true:=decide_eq_true c21
       clear c21
       by_cases Gw : Bp < (Bj.length : Int)
       ·rw [if_pos Gw] at H
        have c22b0 : decide (Bp < (Bj.length : Int)) = true:=decide_eq_true Gw
        clear Gw
        replace H:=Option.bind_eq_some_iff.mp H
        obtain ⟨EI,FC,H⟩:=H
        replace H : (if EI = true then (aA.l0 k1 Dn (wrap64 (Bf + 1)) Bz Bj BF AZ) else ((bA.f k1 Dn 1 ((aJ AZ Bf).f0) ((aJ AZ Bf).f1.f0)).bind fun Ee=>(aA.l0 k1 Ee (wrap64 (Bf + 1)) Bz Bj BF AZ))) = some r:=H
        have JB:=Aside0.mk FC
        clear FC
        by_cases c24 : EI = true
        ·subst c24
         have H1 : (aA.l0 k1 Dn (wrap64 (Bf + 1)) Bz Bj BF AZ) = some r:=by rw [if_pos rfl] at H;exact H
         clear H
         have H:=H1
         clear H1
         have H':=Aside0.mk H
         clear H
         have JC:=CG.out
         have JD:=CF.out
         have Gx : wr.cell? ⟨Bw,0,none⟩ = some (.int .u64 BF):=(ah Bl.out 0).trans rfl
         have Gy : wr.cell? ⟨Bw,1,none⟩ = some (.slice Dm AZ.length BL):=(ah Bl.out 1).trans rfl
         have Gz:=ak Bl.out 0
         have GA:=ak Bl.out 1
         have Ef : 0 ≤ (Bf : Int):=of_decide_eq_true (by first|(with_reducible assumption)|assumption)
         have Eh : Bf < (AZ.length : Int):=of_decide_eq_true (by first|(with_reducible assumption)|assumption)
         obtain ⟨CB,BJ,BK,e309,BS,BU,BX,BZ,Ca,Cb,Cc,Dc,Df⟩:=jR Eo.out Bf Ef Eh
         cases e309
         replace BS:=(HB.out.cell (World.block_lt_of_cell? w _ BS)).trans BS
         replace BU:=(HB.out.cell (World.block_lt_of_cell? w _ BU)).trans BU
         replace BX:=(HB.out.cell (World.block_lt_of_cell? w _ BX)).trans BX
         replace BZ:=(HB.out.cell (World.block_lt_of_cell? w _ BZ)).trans BZ
         replace Ca:=(HB.out.cell (World.block_lt_of_cell? w _ Ca)).trans Ca
         replace Cb:=(HB.out.cell (World.block_lt_of_cell? w _ Cb)).trans Cb
         replace Cc:=(HB.out.cell (World.block_lt_of_cell? w _ Cc)).trans Cc
         have DT:=Aside0.mk Df
         have DU:=Aside0.mk Dc
         clear Df Dc
         replace Ef:=eq_true Ef
         replace Eh:=eq_true Eh
         try go_wp2_with (first|((with_reducible refine cZ (N:=7) rfl ?_);refine dA ?hg (N:=7) ?hd (cs:=#[.string (⟨#[]⟩ : ByteArray),.string (⟨#[]⟩ : ByteArray),.string (⟨#[]⟩ : ByteArray),.int .i64 0,.int .i64 0,.bool false,.slice none 0 0]) (t:=59) ?hr ?_;(case hd=>rfl);(case hg=>rfl);(case hr=>first|(go_simp;done)|(go_simp;rfl));intro Bn hg ES hbox hb;have BO:=Aside0.mk (Kd.fu (kr_ Bv.out) hb);have BP:=Aside0.mk (aN (g:=Bu) (o:=.cells #[.int .u64 Bz,.slice BN Bj.length BI] 38 (0,0)) (bk_ Bh.out) hb);have BQ:=Aside0.mk (aN (g:=Bw) (o:=.cells #[.int .u64 BF,.slice (some CB) AZ.length BL] 38 (0,0)) (bk_ Bl.out) hb);have BR:=Aside0.mk (aK hb_ hb);have Dh:=Aside0.mk (hbox);have Ep:=Aside0.mk ((by rw [hg];exact (aM hb_) : w.heap.size ≤ Bn));have EK:=Aside0.mk ((by rw [hg];exact (aM hb_) : w.heap.size ≤ Bn));have Fa:=Aside0.mk ((by rw [hg];exact Nat.ne_of_lt (dh (g:=Bu) (o:=.cells #[.int .u64 Bz,.slice BN Bj.length BI] 38 (0,0)) (bk_ Bh.out)) : Bu ≠ Bn));have Fb:=Aside0.mk ((by rw [hg];exact Nat.ne_of_gt (dh (g:=Bu) (o:=.cells #[.int .u64 Bz,.slice BN Bj.length BI] 38 (0,0)) (bk_ Bh.out)) : Bn ≠ Bu));have Fe:=Aside0.mk ((by rw [hg];exact Nat.ne_of_lt (dh (g:=Bw) (o:=.cells #[.int .u64 BF,.slice (some CB) AZ.length BL] 38 (0,0)) (bk_ Bl.out)) : Bw ≠ Bn));have Er:=Aside0.mk ((by rw [hg];exact Nat.ne_of_gt (dh (g:=Bw) (o:=.cells #[.int .u64 BF,.slice (some CB) AZ.length BL] 38 (0,0)) (bk_ Bl.out)) : Bn ≠ Bw));clear Bv;clear Bh;clear Bl;clear HB;have Bv:=BO;have Bh:=BP;have Bl:=BQ;have HB:=BR;have Bg:=Dh;have Fg:=Ep;have Fh:=EK;have Bq:=Fa;have Di:=Fb;have Br:=Fe;have Dj:=Er;clear BO BP BQ BR Dh Ep EK Fa Fb Fe Er;clear hb hbox hg;have JE:=Di.out;have JF:=Bq.out;have JG:=Dj.out;have JH:=Br.out;have GD : ES.cell? ⟨Bn,0,none⟩ = some (.string (⟨#[]⟩ : ByteArray)):=(ah Bg.out 0).trans rfl;have GI : ES.cell? ⟨Bn,1,none⟩ = some (.string (⟨#[]⟩ : ByteArray)):=(ah Bg.out 1).trans rfl;have GJ : ES.cell? ⟨Bn,2,none⟩ = some (.string (⟨#[]⟩ : ByteArray)):=(ah Bg.out 2).trans rfl;have GK : ES.cell? ⟨Bn,3,none⟩ = some (.int .i64 0):=(ah Bg.out 3).trans rfl;have GL : ES.cell? ⟨Bn,4,none⟩ = some (.int .i64 0):=(ah Bg.out 4).trans rfl;have GN : ES.cell? ⟨Bn,5,none⟩ = some (.bool false):=(ah Bg.out 5).trans rfl;have GQ : ES.cell? ⟨Bn,6,none⟩ = some (.slice none 0 0):=(ah Bg.out 6).trans rfl;have GR:=ak Bg.out 0;have GU:=ak Bg.out 1;have GV:=ak Bg.out 2;have GX:=ak Bg.out 3;have GY:=ak Bg.out 4;have GZ:=ak Bg.out 5;have G6:=ak Bg.out 6;have G7 : ES.cell? ⟨Bu,0,none⟩ = some (.int .u64 Bz):=(ah Bh.out 0).trans rfl;have G8 : ES.cell? ⟨Bu,1,none⟩ = some (.slice BN Bj.length BI):=(ah Bh.out 1).trans rfl;have G9:=ak Bh.out 0;have He:=ak Bh.out 1)|((with_reducible refine bF (f:=19) rfl ?_);refine dN (some 25) rfl rfl Tryz.func19 (by kernel_rfl) rfl #[.agg #[.int .u64 Bz,.slice BN Bj.length BI],.string ((aJ AZ Bf).f0)] rfl (by (try simp only [List.map_toArray,List.map_cons,List.map_nil]);first|done|rfl|(simp only [List.length_drop,List.length_take];rfl)|(simp (disch:=first|omega|(simp at *;omega)) only [dO,dG,eH];rfl)) ?_;(with_reducible refine (bC.calls k1 Bz _ _ Bj ((aJ AZ Bf).f0) Bp _ ?Ce ?Cg A7.out).mono ?_);(case Ce=>exact Kd.bO Dp.out hb_);(case Cg=>exact EJ.out);rintro e w32 ⟨rfl,hb⟩;refine ⟨_,rfl,?_⟩;have BO:=Aside0.mk (Kd.fu (by (with_reducible repeat (first|apply Kd.fG|apply Kd.fH|apply Kd.eD));exact (Kd.gW (Kd.iT (p:=⟨Bn,6,none⟩) (Kd.iT (p:=⟨Bn,5,none⟩) (Kd.iT (p:=⟨Bn,4,none⟩) (Kd.iT (p:=⟨Bn,3,none⟩) (Kd.iT (p:=⟨Bn,2,none⟩) (Kd.iT (p:=⟨Bn,1,none⟩) (Kd.iT (p:=⟨Bn,0,none⟩) (Kd.lW Bv.out Bg.out (by decide)) (fun _ hk=>hk.2) (.string ((aJ AZ Bf).f0))) (fun _ hk=>hk.2) (.string ((aJ AZ Bf).f1.f0))) (fun _ hk=>hk.2) (.string ((aJ AZ Bf).f1.f1))) (fun _ hk=>hk.2) (.int .i64 ((aJ AZ Bf).f1.f2))) (fun _ hk=>hk.2) (.int .i64 ((aJ AZ Bf).f1.f3))) (fun _ hk=>hk.2) (.bool ((aJ AZ Bf).f1.f4))) (fun _ hk=>hk.2) (.slice BJ ((aJ AZ Bf).f1.f5).length BK)) (fun _ h_=>h_.1))) hb);have BP:=Aside0.mk (aN (g:=Bu) (o:=.cells #[.int .u64 Bz,.slice BN Bj.length BI] 38 (0,0)) (by (with_reducible repeat (first|apply ay|apply aG|apply aD));refine bL ?_ Bq.out _;(with_reducible repeat (first|apply ay|apply aG|apply aD));refine bL ?_ Bq.out _;(with_reducible repeat (first|apply ay|apply aG|apply aD));refine bL ?_ Bq.out _;(with_reducible repeat (first|apply ay|apply aG|apply aD));refine bL ?_ Bq.out _;(with_reducible repeat (first|apply ay|apply aG|apply aD));refine bL ?_ Bq.out _;(with_reducible repeat (first|apply ay|apply aG|apply aD));refine bL ?_ Bq.out _;(with_reducible repeat (first|apply ay|apply aG|apply aD));refine bL ?_ Bq.out _;(with_reducible repeat (first|apply ay|apply aG|apply aD));exact Bh.out) hb);have BQ:=Aside0.mk (aN (g:=Bw) (o:=.cells #[.int .u64 BF,.slice (some CB) AZ.length BL] 38 (0,0)) (by (with_reducible repeat (first|apply ay|apply aG|apply aD));refine bL ?_ Br.out _;(with_reducible repeat (first|apply ay|apply aG|apply aD));refine bL ?_ Br.out _;(with_reducible repeat (first|apply ay|apply aG|apply aD));refine bL ?_ Br.out _;(with_reducible repeat (first|apply ay|apply aG|apply aD));refine bL ?_ Br.out _;(with_reducible repeat (first|apply ay|apply aG|apply aD));refine bL ?_ Br.out _;(with_reducible repeat (first|apply ay|apply aG|apply aD));refine bL ?_ Br.out _;(with_reducible repeat (first|apply ay|apply aG|apply aD));refine bL ?_ Br.out _;(with_reducible repeat (first|apply ay|apply aG|apply aD));exact Bl.out) hb);have BR:=Aside0.mk (aN (g:=Bn) (o:=.cells #[.string ((aJ AZ Bf).f0),.string ((aJ AZ Bf).f1.f0),.string ((aJ AZ Bf).f1.f1),.int .i64 ((aJ AZ Bf).f1.f2),.int .i64 ((aJ AZ Bf).f1.f3),.bool ((aJ AZ Bf).f1.f4),.slice BJ ((aJ AZ Bf).f1.f5).length BK] 59 (0,0)) (by (with_reducible repeat (first|apply ay|apply aG|apply aD));refine bN (cs:=#[.string ((aJ AZ Bf).f0),.string ((aJ AZ Bf).f1.f0),.string ((aJ AZ Bf).f1.f1),.int .i64 ((aJ AZ Bf).f1.f2),.int .i64 ((aJ AZ Bf).f1.f3),.bool ((aJ AZ Bf).f1.f4),.slice none 0 0]) ?_ 6 _ rfl;(with_reducible repeat (first|apply ay|apply aG|apply aD));refine bN (cs:=#[.string ((aJ AZ Bf).f0),.string ((aJ AZ Bf).f1.f0),.string ((aJ AZ Bf).f1.f1),.int .i64 ((aJ AZ Bf).f1.f2),.int .i64 ((aJ AZ Bf).f1.f3),.bool false,.slice none 0 0]) ?_ 5 _ rfl;(with_reducible repeat (first|apply ay|apply aG|apply aD));refine bN (cs:=#[.string ((aJ AZ Bf).f0),.string ((aJ AZ Bf).f1.f0),.string ((aJ AZ Bf).f1.f1),.int .i64 ((aJ AZ Bf).f1.f2),.int .i64 0,.bool false,.slice none 0 0]) ?_ 4 _ rfl;(with_reducible repeat (first|apply ay|apply aG|apply aD));refine bN (cs:=#[.string ((aJ AZ Bf).f0),.string ((aJ AZ Bf).f1.f0),.string ((aJ AZ Bf).f1.f1),.int .i64 0,.int .i64 0,.bool false,.slice none 0 0]) ?_ 3 _ rfl;(with_reducible repeat (first|apply ay|apply aG|apply aD));refine bN (cs:=#[.string ((aJ AZ Bf).f0),.string ((aJ AZ Bf).f1.f0),.string (⟨#[]⟩ : ByteArray),.int .i64 0,.int .i64 0,.bool false,.slice none 0 0]) ?_ 2 _ rfl;(with_reducible repeat (first|apply ay|apply aG|apply aD));refine bN (cs:=#[.string ((aJ AZ Bf).f0),.string (⟨#[]⟩ : ByteArray),.string (⟨#[]⟩ : ByteArray),.int .i64 0,.int .i64 0,.bool false,.slice none 0 0]) ?_ 1 _ rfl;(with_reducible repeat (first|apply ay|apply aG|apply aD));refine bN (cs:=#[.string (⟨#[]⟩ : ByteArray),.string (⟨#[]⟩ : ByteArray),.string (⟨#[]⟩ : ByteArray),.int .i64 0,.int .i64 0,.bool false,.slice none 0 0]) ?_ 0 _ rfl;(with_reducible repeat (first|apply ay|apply aG|apply aD));exact Bg.out) hb);have Dh:=Aside0.mk (aK hb_ hb);clear Bv;clear Bh;clear Bl;clear Bg;clear HB;have Bv:=BO;have Bh:=BP;have Bl:=BQ;have Bg:=BR;have HB:=Dh;clear BO BP BQ BR Dh;(try clear hb);(try clear hb2);(try clear hk);(try clear hi)))
         have BO:=Aside0.mk (Kd.eD Bv.out)
         have BP:=Aside0.mk (aG Bh.out)
         have BQ:=Aside0.mk (aG Bl.out)
         have BR:=Aside0.mk (aG Bg.out)
         have Dh:=Aside0.mk (bB HB.out)
         clear Bv
         clear Bh
         clear Bl
         clear Bg
         clear HB
         have Bv:=BO
         have Bh:=BP
         have Bl:=BQ
         have Bg:=BR
         have HB:=Dh
         clear BO BP BQ BR Dh
         have Ew : 0 ≤ (Bp : Int):=of_decide_eq_true (by first|(with_reducible assumption)|assumption)
         have Ey : Bp < (Bj.length : Int):=of_decide_eq_true (by first|(with_reducible assumption)|assumption)
         obtain ⟨BH,Ei,Ej,e315,Ch,Ci,Cj,Ck,Cm,Cn,Co,Dq,Dr⟩:=jR Dp.out Bp Ew Ey
         have CJ:=Co
         have CK:=Cn
         have CO:=Cm
         have CP:=Ck
         have CQ:=Cj
         have CS:=Ci
         have CU:=Ch
         cases e315
         replace Ch:=(HB.out.cell (World.block_lt_of_cell? w _ Ch)).trans Ch
         replace Ci:=(HB.out.cell (World.block_lt_of_cell? w _ Ci)).trans Ci
         replace Cj:=(HB.out.cell (World.block_lt_of_cell? w _ Cj)).trans Cj
         replace Ck:=(HB.out.cell (World.block_lt_of_cell? w _ Ck)).trans Ck
         replace Cm:=(HB.out.cell (World.block_lt_of_cell? w _ Cm)).trans Cm
         replace Cn:=(HB.out.cell (World.block_lt_of_cell? w _ Cn)).trans Cn
         replace Co:=(HB.out.cell (World.block_lt_of_cell? w _ Co)).trans Co
         have Dt:=Aside0.mk Dr
         have El:=Aside0.mk Dq
         clear Dr Dq
         replace Ew:=eq_true Ew
         replace Ey:=eq_true Ey
         refine fU (n:=10) (S:=fun w'=>w'.cell? ⟨Bu,0,none⟩ = some (.int .u64 Bz) ∧ w'.cell? ⟨Bu,1,none⟩ = some (.slice (some BH) Bj.length BI) ∧ w'.cell? ⟨Bn,0,none⟩ = some (.string ((aJ AZ Bf).f0)) ∧ w'.cell? ⟨Bn,1,none⟩ = some (.string ((aJ AZ Bf).f1.f0)) ∧ w'.cell? ⟨Bn,2,none⟩ = some (.string ((aJ AZ Bf).f1.f1)) ∧ w'.cell? ⟨Bn,3,none⟩ = some (.int .i64 ((aJ AZ Bf).f1.f2)) ∧ w'.cell? ⟨Bn,4,none⟩ = some (.int .i64 ((aJ AZ Bf).f1.f3)) ∧ w'.cell? ⟨Bn,5,none⟩ = some (.bool ((aJ AZ Bf).f1.f4)) ∧ w'.cell? ⟨Bn,6,none⟩ = some (.slice BJ ((aJ AZ Bf).f1.f5).length BK) ∧ w'.cell? (BH.add ((Bp).toNat * 7)) = some (.string ((aJ Bj Bp).f0)) ∧ w'.cell? ⟨(BH.add ((Bp).toNat * 7)).block,(BH.add ((Bp).toNat * 7)).off + 1,none⟩ = some (.string ((aJ Bj Bp).f1.f0)) ∧ w'.cell? ⟨(BH.add ((Bp).toNat * 7)).block,(BH.add ((Bp).toNat * 7)).off + 2,none⟩ = some (.string ((aJ Bj Bp).f1.f1)) ∧ w'.cell? ⟨(BH.add ((Bp).toNat * 7)).block,(BH.add ((Bp).toNat * 7)).off + 3,none⟩ = some (.int .i64 ((aJ Bj Bp).f1.f2)) ∧ w'.cell? ⟨(BH.add ((Bp).toNat * 7)).block,(BH.add ((Bp).toNat * 7)).off + 4,none⟩ = some (.int .i64 ((aJ Bj Bp).f1.f3)) ∧ w'.cell? ⟨(BH.add ((Bp).toNat * 7)).block,(BH.add ((Bp).toNat * 7)).off + 5,none⟩ = some (.bool ((aJ Bj Bp).f1.f4)) ∧ w'.cell? ⟨(BH.add ((Bp).toNat * 7)).block,(BH.add ((Bp).toNat * 7)).off + 6,none⟩ = some (.slice Ei ((aJ Bj Bp).f1.f5).length Ej)) (ds:=[]) #[O,O,O,O,O,O,O,O,O,O] (by kernel_rfl) rfl rfl ⟨(ah Bh.out 0).trans rfl,(ah Bh.out 1).trans rfl,(ah Bg.out 0).trans rfl,(ah Bg.out 1).trans rfl,(ah Bg.out 2).trans rfl,(ah Bg.out 3).trans rfl,(ah Bg.out 4).trans rfl,(ah Bg.out 5).trans rfl,(ah Bg.out 6).trans rfl,((HB.out.cell (World.block_lt_of_cell? w _ CU)).trans CU),((HB.out.cell (World.block_lt_of_cell? w _ CS)).trans CS),((HB.out.cell (World.block_lt_of_cell? w _ CQ)).trans CQ),((HB.out.cell (World.block_lt_of_cell? w _ CP)).trans CP),((HB.out.cell (World.block_lt_of_cell? w _ CO)).trans CO),((HB.out.cell (World.block_lt_of_cell? w _ CK)).trans CK),((HB.out.cell (World.block_lt_of_cell? w _ CJ)).trans CJ)⟩ (fun hHeld=>?_);refine dY aA.rE aA.ni (fun HT_ HW_=>?_)
         generalize w32.drew = Kn at Bv Bh Bl Bg HB Dt Ch Ci Cj Ck Cm Cn Co hHeld ⊢
         refine pu_ 0 36 #[I,O,O,O,O,O,O,O,O,O] HT_.out ?_
         refine pu_ 2 38 #[I,O,I,O,O,O,O,O,O,O] HT_.out ?_
         refine pu_ 6 42 #[I,O,I,O,O,O,I,O,O,O] HT_.out ?_
         refine ta_ 1 37 #[I,I,I,O,O,O,I,O,O,O] HT_.out HW_.out hHeld ?_
         refine pu_ 3 39 #[I,I,I,I,O,O,I,O,O,O] HT_.out ?_
         refine pu_ 4 40 #[I,I,I,I,I,O,I,O,O,O] HT_.out ?_
         refine ta_ 5 41 #[I,I,I,I,I,I,I,O,O,O] HT_.out HW_.out hHeld ?_
         refine ta_ 7 43 #[I,I,I,I,I,I,I,I,O,O] HT_.out HW_.out hHeld ?_
         refine gq (i:=8) (N:=some 44) #[I,I,I,I,I,I,I,I,I,O] rfl rfl (dD HT_.out (by kernel_rfl)) (by decide) (fun K hK=>?_)
         refine eX Tryz.func21 (by kernel_rfl) rfl #[.agg #[.string ((aJ Bj Bp).f1.f0),.string ((aJ Bj Bp).f1.f1),.int .i64 ((aJ Bj Bp).f1.f2),.int .i64 ((aJ Bj Bp).f1.f3),.bool ((aJ Bj Bp).f1.f4),.slice Ei ((aJ Bj Bp).f1.f5).length Ej],.agg #[.string ((aJ AZ Bf).f1.f0),.string ((aJ AZ Bf).f1.f1),.int .i64 ((aJ AZ Bf).f1.f2),.int .i64 ((aJ AZ Bf).f1.f3),.bool ((aJ AZ Bf).f1.f4),.slice BJ ((aJ AZ Bf).f1.f5).length BK]] (by rfl) rfl rfl (by (try simp only [List.map_toArray,List.map_cons,List.map_nil]);first|done|rfl|(simp only [List.length_drop,List.length_take];rfl)) ?_
         with_reducible refine (bS.calls k1 ((aJ Bj Bp).f1.f0) ((aJ Bj Bp).f1.f1) ((aJ Bj Bp).f1.f2) ((aJ Bj Bp).f1.f3) ((aJ Bj Bp).f1.f4) _ _ ((aJ Bj Bp).f1.f5) ((aJ AZ Bf).f1.f0) ((aJ AZ Bf).f1.f1) ((aJ AZ Bf).f1.f2) ((aJ AZ Bf).f1.f3) ((aJ AZ Bf).f1.f4) _ _ ((aJ AZ Bf).f1.f5) true _ ?Ce ?Cg ?EL ?EM JB.out).mono ?_
         (case Ce=>repeat (first|exact (Kd.bO Dt.out HB.out)|(with_reducible refine Kd.bD ?_ _)|(with_reducible refine Kd.bR ?_ _)|(with_reducible refine Kd.bZ ?_)))
         (case Cg=>exact El.out)
         (case EL=>repeat (first|exact (Kd.bO DT.out HB.out)|(with_reducible refine Kd.bD ?_ _)|(with_reducible refine Kd.bR ?_ _)|(with_reducible refine Kd.bZ ?_)))
         (case EM=>exact DU.out)
         rintro e Ko ⟨rfl,hb⟩
         refine ⟨_,rfl,?_⟩
         have BO:=Aside0.mk (Kd.fu (kr_ Bv.out) hb)
         have BP:=Aside0.mk (aN (g:=Bu) (o:=.cells #[.int .u64 Bz,.slice (some BH) Bj.length BI] 38 (0,0)) (bk_ Bh.out) hb)
         have BQ:=Aside0.mk (aN (g:=Bw) (o:=.cells #[.int .u64 BF,.slice (some CB) AZ.length BL] 38 (0,0)) (bk_ Bl.out) hb)
         have BR:=Aside0.mk (aN (g:=Bn) (o:=.cells #[.string ((aJ AZ Bf).f0),.string ((aJ AZ Bf).f1.f0),.string ((aJ AZ Bf).f1.f1),.int .i64 ((aJ AZ Bf).f1.f2),.int .i64 ((aJ AZ Bf).f1.f3),.bool ((aJ AZ Bf).f1.f4),.slice BJ ((aJ AZ Bf).f1.f5).length BK] 59 (0,0)) (bk_ Bg.out) hb)
         have Dh:=Aside0.mk (aK hb_ hb)
         clear Bv
         clear Bh
         clear Bl
         clear Bg
         clear HB
         have Bv:=BO
         have Bh:=BP
         have Bl:=BQ
         have Bg:=BR
         have HB:=Dh
         clear BO BP BQ BR Dh
         refine hK.out _ _ ⟨(ah Bh.out 0).trans rfl,(ah Bh.out 1).trans rfl,(ah Bg.out 0).trans rfl,(ah Bg.out 1).trans rfl,(ah Bg.out 2).trans rfl,(ah Bg.out 3).trans rfl,(ah Bg.out 4).trans rfl,(ah Bg.out 5).trans rfl,(ah Bg.out 6).trans rfl,((HB.out.cell (World.block_lt_of_cell? w _ CU)).trans CU),((HB.out.cell (World.block_lt_of_cell? w _ CS)).trans CS),((HB.out.cell (World.block_lt_of_cell? w _ CQ)).trans CQ),((HB.out.cell (World.block_lt_of_cell? w _ CP)).trans CP),((HB.out.cell (World.block_lt_of_cell? w _ CO)).trans CO),((HB.out.cell (World.block_lt_of_cell? w _ CK)).trans CK),((HB.out.cell (World.block_lt_of_cell? w _ CJ)).trans CJ)⟩ (fun hHeld=>?_)
         clear hK K
         refine dW (a':=?_) ?_ ?_
         rotate_left
         ·show Act.put _ (some 44) _ = _
          simp only [Act.put,List.setIfInBounds_toArray,List.set_cons_zero,List.set_cons_succ,bJ,bM]
          rfl
         refine pu_ 9 45 #[I,I,I,I,I,I,I,I,I,I] HT_.out ?_
         refine gP (fF HT_.out (by kernel_rfl)) ?_
         try go_wp2
         go_roundg k1
         case measure=>have:=EP.out;omega
         case rel=>exact ⟨(Dn),(wrap64 (Bf + 1)),(by first|rfl|(simp;done)|(simp [*];done)),H',⟨by have:=EP.out;omega⟩,⟨by (with_reducible repeat (first|apply Kd.fG|apply Kd.fH|apply Kd.eD));exact Bv.out⟩,⟨by (with_reducible repeat (first|apply ay|apply aG|apply aD));exact Bh.out⟩,⟨by (with_reducible repeat (first|apply ay|apply aG|apply aD));exact Bl.out⟩,⟨hb_⟩⟩
        ·replace c24:=Bool.eq_false_iff.mpr c24
         subst c24
         have H1 : ((bA.f k1 Dn 1 ((aJ AZ Bf).f0) ((aJ AZ Bf).f1.f0)).bind fun Ee=>(aA.l0 k1 Ee (wrap64 (Bf + 1)) Bz Bj BF AZ)) = some r:=by rw [if_neg (show ¬ (false = true) by decide)] at H;exact H
         clear H
         have H:=H1
         clear H1
         replace H:=Option.bind_eq_some_iff.mp H
         obtain ⟨Ee,FD,H⟩:=H
         replace H : (aA.l0 k1 Ee (wrap64 (Bf + 1)) Bz Bj BF AZ) = some r:=H
         have J9:=Aside0.mk FD
         clear FD
         have H':=Aside0.mk H
         clear H
         have JI:=CG.out
         have JJ:=CF.out
         have Hf : wr.cell? ⟨Bw,0,none⟩ = some (.int .u64 BF):=(ah Bl.out 0).trans rfl
         have Hg : wr.cell? ⟨Bw,1,none⟩ = some (.slice Dm AZ.length BL):=(ah Bl.out 1).trans rfl
         have Hl:=ak Bl.out 0
         have Ho:=ak Bl.out 1
         have Ef : 0 ≤ (Bf : Int):=of_decide_eq_true (by first|(with_reducible assumption)|assumption)
         have Eh : Bf < (AZ.length : Int):=of_decide_eq_true (by first|(with_reducible assumption)|assumption)
         obtain ⟨CB,BJ,BK,e309,BS,BU,BX,BZ,Ca,Cb,Cc,Dc,Df⟩:=jR Eo.out Bf Ef Eh
         cases e309
         replace BS:=(HB.out.cell (World.block_lt_of_cell? w _ BS)).trans BS
         replace BU:=(HB.out.cell (World.block_lt_of_cell? w _ BU)).trans BU
         replace BX:=(HB.out.cell (World.block_lt_of_cell? w _ BX)).trans BX
         replace BZ:=(HB.out.cell (World.block_lt_of_cell? w _ BZ)).trans BZ
         replace Ca:=(HB.out.cell (World.block_lt_of_cell? w _ Ca)).trans Ca
         replace Cb:=(HB.out.cell (World.block_lt_of_cell? w _ Cb)).trans Cb
         replace Cc:=(HB.out.cell (World.block_lt_of_cell? w _ Cc)).trans Cc
         have DT:=Aside0.mk Df
         have DU:=Aside0.mk Dc
         clear Df Dc
         replace Ef:=eq_true Ef
         replace Eh:=eq_true Eh
         try go_wp2_with (first|((with_reducible refine cZ (N:=7) rfl ?_);refine dA ?hg (N:=7) ?hd (cs:=#[.string (⟨#[]⟩ : ByteArray),.string (⟨#[]⟩ : ByteArray),.string (⟨#[]⟩ : ByteArray),.int .i64 0,.int .i64 0,.bool false,.slice none 0 0]) (t:=59) ?hr ?_;(case hd=>rfl);(case hg=>rfl);(case hr=>first|(go_simp;done)|(go_simp;rfl));intro Bn hg ET hbox hb;have BO:=Aside0.mk (Kd.fu (kr_ Bv.out) hb);have BP:=Aside0.mk (aN (g:=Bu) (o:=.cells #[.int .u64 Bz,.slice BN Bj.length BI] 38 (0,0)) (bk_ Bh.out) hb);have BQ:=Aside0.mk (aN (g:=Bw) (o:=.cells #[.int .u64 BF,.slice (some CB) AZ.length BL] 38 (0,0)) (bk_ Bl.out) hb);have BR:=Aside0.mk (aK hb_ hb);have Dh:=Aside0.mk (hbox);have Ep:=Aside0.mk ((by rw [hg];exact (aM hb_) : w.heap.size ≤ Bn));have EK:=Aside0.mk ((by rw [hg];exact (aM hb_) : w.heap.size ≤ Bn));have Fa:=Aside0.mk ((by rw [hg];exact Nat.ne_of_lt (dh (g:=Bu) (o:=.cells #[.int .u64 Bz,.slice BN Bj.length BI] 38 (0,0)) (bk_ Bh.out)) : Bu ≠ Bn));have Fb:=Aside0.mk ((by rw [hg];exact Nat.ne_of_gt (dh (g:=Bu) (o:=.cells #[.int .u64 Bz,.slice BN Bj.length BI] 38 (0,0)) (bk_ Bh.out)) : Bn ≠ Bu));have Fe:=Aside0.mk ((by rw [hg];exact Nat.ne_of_lt (dh (g:=Bw) (o:=.cells #[.int .u64 BF,.slice (some CB) AZ.length BL] 38 (0,0)) (bk_ Bl.out)) : Bw ≠ Bn));have Er:=Aside0.mk ((by rw [hg];exact Nat.ne_of_gt (dh (g:=Bw) (o:=.cells #[.int .u64 BF,.slice (some CB) AZ.length BL] 38 (0,0)) (bk_ Bl.out)) : Bn ≠ Bw));clear Bv;clear Bh;clear Bl;clear HB;have Bv:=BO;have Bh:=BP;have Bl:=BQ;have HB:=BR;have Bg:=Dh;have Fg:=Ep;have Fh:=EK;have Bq:=Fa;have Di:=Fb;have Br:=Fe;have Dj:=Er;clear BO BP BQ BR Dh Ep EK Fa Fb Fe Er;clear hb hbox hg;have JK:=Di.out;have JL:=Bq.out;have JM:=Dj.out;have JN:=Br.out;have Hq : ET.cell? ⟨Bn,0,none⟩ = some (.string (⟨#[]⟩ : ByteArray)):=(ah Bg.out 0).trans rfl;have Hr : ET.cell? ⟨Bn,1,none⟩ = some (.string (⟨#[]⟩ : ByteArray)):=(ah Bg.out 1).trans rfl;have Ht : ET.cell? ⟨Bn,2,none⟩ = some (.string (⟨#[]⟩ : ByteArray)):=(ah Bg.out 2).trans rfl;have Hu : ET.cell? ⟨Bn,3,none⟩ = some (.int .i64 0):=(ah Bg.out 3).trans rfl;have Hw : ET.cell? ⟨Bn,4,none⟩ = some (.int .i64 0):=(ah Bg.out 4).trans rfl;have Hy : ET.cell? ⟨Bn,5,none⟩ = some (.bool false):=(ah Bg.out 5).trans rfl;have Hz : ET.cell? ⟨Bn,6,none⟩ = some (.slice none 0 0):=(ah Bg.out 6).trans rfl;have H6:=ak Bg.out 0;have H7:=ak Bg.out 1;have H8:=ak Bg.out 2;have H9:=ak Bg.out 3;have Ia:=ak Bg.out 4;have Ib:=ak Bg.out 5;have Ic:=ak Bg.out 6;have Ie : ET.cell? ⟨Bu,0,none⟩ = some (.int .u64 Bz):=(ah Bh.out 0).trans rfl;have Ig : ET.cell? ⟨Bu,1,none⟩ = some (.slice BN Bj.length BI):=(ah Bh.out 1).trans rfl;have Ih:=ak Bh.out 0;have Ii:=ak Bh.out 1)|((with_reducible refine bF (f:=19) rfl ?_);refine dN (some 25) rfl rfl Tryz.func19 (by kernel_rfl) rfl #[.agg #[.int .u64 Bz,.slice BN Bj.length BI],.string ((aJ AZ Bf).f0)] rfl (by (try simp only [List.map_toArray,List.map_cons,List.map_nil]);first|done|rfl|(simp only [List.length_drop,List.length_take];rfl)|(simp (disch:=first|omega|(simp at *;omega)) only [dO,dG,eH];rfl)) ?_;(with_reducible refine (bC.calls k1 Bz _ _ Bj ((aJ AZ Bf).f0) Bp _ ?Ce ?Cg A7.out).mono ?_);(case Ce=>exact Kd.bO Dp.out hb_);(case Cg=>exact EJ.out);rintro e Ka ⟨rfl,hb⟩;refine ⟨_,rfl,?_⟩;have BO:=Aside0.mk (Kd.fu (by (with_reducible repeat (first|apply Kd.fG|apply Kd.fH|apply Kd.eD));exact (Kd.gW (Kd.iT (p:=⟨Bn,6,none⟩) (Kd.iT (p:=⟨Bn,5,none⟩) (Kd.iT (p:=⟨Bn,4,none⟩) (Kd.iT (p:=⟨Bn,3,none⟩) (Kd.iT (p:=⟨Bn,2,none⟩) (Kd.iT (p:=⟨Bn,1,none⟩) (Kd.iT (p:=⟨Bn,0,none⟩) (Kd.lW Bv.out Bg.out (by decide)) (fun _ hk=>hk.2) (.string ((aJ AZ Bf).f0))) (fun _ hk=>hk.2) (.string ((aJ AZ Bf).f1.f0))) (fun _ hk=>hk.2) (.string ((aJ AZ Bf).f1.f1))) (fun _ hk=>hk.2) (.int .i64 ((aJ AZ Bf).f1.f2))) (fun _ hk=>hk.2) (.int .i64 ((aJ AZ Bf).f1.f3))) (fun _ hk=>hk.2) (.bool ((aJ AZ Bf).f1.f4))) (fun _ hk=>hk.2) (.slice BJ ((aJ AZ Bf).f1.f5).length BK)) (fun _ h_=>h_.1))) hb);have BP:=Aside0.mk (aN (g:=Bu) (o:=.cells #[.int .u64 Bz,.slice BN Bj.length BI] 38 (0,0)) (by (with_reducible repeat (first|apply ay|apply aG|apply aD));refine bL ?_ Bq.out _;(with_reducible repeat (first|apply ay|apply aG|apply aD));refine bL ?_ Bq.out _;(with_reducible repeat (first|apply ay|apply aG|apply aD));refine bL ?_ Bq.out _;(with_reducible repeat (first|apply ay|apply aG|apply aD));refine bL ?_ Bq.out _;(with_reducible repeat (first|apply ay|apply aG|apply aD));refine bL ?_ Bq.out _;(with_reducible repeat (first|apply ay|apply aG|apply aD));refine bL ?_ Bq.out _;(with_reducible repeat (first|apply ay|apply aG|apply aD));refine bL ?_ Bq.out _;(with_reducible repeat (first|apply ay|apply aG|apply aD));exact Bh.out) hb);have BQ:=Aside0.mk (aN (g:=Bw) (o:=.cells #[.int .u64 BF,.slice (some CB) AZ.length BL] 38 (0,0)) (by (with_reducible repeat (first|apply ay|apply aG|apply aD));refine bL ?_ Br.out _;(with_reducible repeat (first|apply ay|apply aG|apply aD));refine bL ?_ Br.out _;(with_reducible repeat (first|apply ay|apply aG|apply aD));refine bL ?_ Br.out _;(with_reducible repeat (first|apply ay|apply aG|apply aD));refine bL ?_ Br.out _;(with_reducible repeat (first|apply ay|apply aG|apply aD));refine bL ?_ Br.out _;(with_reducible repeat (first|apply ay|apply aG|apply aD));refine bL ?_ Br.out _;(with_reducible repeat (first|apply ay|apply aG|apply aD));refine bL ?_ Br.out _;(with_reducible repeat (first|apply ay|apply aG|apply aD));exact Bl.out) hb);have BR:=Aside0.mk (aN (g:=Bn) (o:=.cells #[.string ((aJ AZ Bf).f0),.string ((aJ AZ Bf).f1.f0),.string ((aJ AZ Bf).f1.f1),.int .i64 ((aJ AZ Bf).f1.f2),.int .i64 ((aJ AZ Bf).f1.f3),.bool ((aJ AZ Bf).f1.f4),.slice BJ ((aJ AZ Bf).f1.f5).length BK] 59 (0,0)) (by (with_reducible repeat (first|apply ay|apply aG|apply aD));refine bN (cs:=#[.string ((aJ AZ Bf).f0),.string ((aJ AZ Bf).f1.f0),.string ((aJ AZ Bf).f1.f1),.int .i64 ((aJ AZ Bf).f1.f2),.int .i64 ((aJ AZ Bf).f1.f3),.bool ((aJ AZ Bf).f1.f4),.slice none 0 0]) ?_ 6 _ rfl;(with_reducible repeat (first|apply ay|apply aG|apply aD));refine bN (cs:=#[.string ((aJ AZ Bf).f0),.string ((aJ AZ Bf).f1.f0),.string ((aJ AZ Bf).f1.f1),.int .i64 ((aJ AZ Bf).f1.f2),.int .i64 ((aJ AZ Bf).f1.f3),.bool false,.slice none 0 0]) ?_ 5 _ rfl;(with_reducible repeat (first|apply ay|apply aG|apply aD));refine bN (cs:=#[.string ((aJ AZ Bf).f0),.string ((aJ AZ Bf).f1.f0),.string ((aJ AZ Bf).f1.f1),.int .i64 ((aJ AZ Bf).f1.f2),.int .i64 0,.bool false,.slice none 0 0]) ?_ 4 _ rfl;(with_reducible repeat (first|apply ay|apply aG|apply aD));refine bN (cs:=#[.string ((aJ AZ Bf).f0),.string ((aJ AZ Bf).f1.f0),.string ((aJ AZ Bf).f1.f1),.int .i64 0,.int .i64 0,.bool false,.slice none 0 0]) ?_ 3 _ rfl;(with_reducible repeat (first|apply ay|apply aG|apply aD));refine bN (cs:=#[.string ((aJ AZ Bf).f0),.string ((aJ AZ Bf).f1.f0),.string (⟨#[]⟩ : ByteArray),.int .i64 0,.int .i64 0,.bool false,.slice none 0 0]) ?_ 2 _ rfl;(with_reducible repeat (first|apply ay|apply aG|apply aD));refine bN (cs:=#[.string ((aJ AZ Bf).f0),.string (⟨#[]⟩ : ByteArray),.string (⟨#[]⟩ : ByteArray),.int .i64 0,.int .i64 0,.bool false,.slice none 0 0]) ?_ 1 _ rfl;(with_reducible repeat (first|apply ay|apply aG|apply aD));refine bN (cs:=#[.string (⟨#[]⟩ : ByteArray),.string (⟨#[]⟩ : ByteArray),.string (⟨#[]⟩ : ByteArray),.int .i64 0,.int .i64 0,.bool false,.slice none 0 0]) ?_ 0 _ rfl;(with_reducible repeat (first|apply ay|apply aG|apply aD));exact Bg.out) hb);have Dh:=Aside0.mk (aK hb_ hb);clear Bv;clear Bh;clear Bl;clear Bg;clear HB;have Bv:=BO;have Bh:=BP;have Bl:=BQ;have Bg:=BR;have HB:=Dh;clear BO BP BQ BR Dh;(try clear hb);(try clear hb2);(try clear hk);(try clear hi)))
         have BO:=Aside0.mk (Kd.eD Bv.out)
         have BP:=Aside0.mk (aG Bh.out)
         have BQ:=Aside0.mk (aG Bl.out)
         have BR:=Aside0.mk (aG Bg.out)
         have Dh:=Aside0.mk (bB HB.out)
         clear Bv
         clear Bh
         clear Bl
         clear Bg
         clear HB
         have Bv:=BO
         have Bh:=BP
         have Bl:=BQ
         have Bg:=BR
         have HB:=Dh
         clear BO BP BQ BR Dh
         have Ew : 0 ≤ (Bp : Int):=of_decide_eq_true (by first|(with_reducible assumption)|assumption)
         have Ey : Bp < (Bj.length : Int):=of_decide_eq_true (by first|(with_reducible assumption)|assumption)
         obtain ⟨BH,Ei,Ej,e315,Ch,Ci,Cj,Ck,Cm,Cn,Co,Dq,Dr⟩:=jR Dp.out Bp Ew Ey
         have CJ:=Co
         have CK:=Cn
         have CO:=Cm
         have CP:=Ck
         have CQ:=Cj
         have CS:=Ci
         have CU:=Ch
         cases e315
         replace Ch:=(HB.out.cell (World.block_lt_of_cell? w _ Ch)).trans Ch
         replace Ci:=(HB.out.cell (World.block_lt_of_cell? w _ Ci)).trans Ci
         replace Cj:=(HB.out.cell (World.block_lt_of_cell? w _ Cj)).trans Cj
         replace Ck:=(HB.out.cell (World.block_lt_of_cell? w _ Ck)).trans Ck
         replace Cm:=(HB.out.cell (World.block_lt_of_cell? w _ Cm)).trans Cm
         replace Cn:=(HB.out.cell (World.block_lt_of_cell? w _ Cn)).trans Cn
         replace Co:=(HB.out.cell (World.block_lt_of_cell? w _ Co)).trans Co
         have Dt:=Aside0.mk Dr
         have El:=Aside0.mk Dq
         clear Dr Dq
         replace Ew:=eq_true Ew
         replace Ey:=eq_true Ey
         refine fU (n:=10) (S:=fun w'=>w'.cell? ⟨Bu,0,none⟩ = some (.int .u64 Bz) ∧ w'.cell? ⟨Bu,1,none⟩ = some (.slice (some BH) Bj.length BI) ∧ w'.cell? ⟨Bn,0,none⟩ = some (.string ((aJ AZ Bf).f0)) ∧ w'.cell? ⟨Bn,1,none⟩ = some (.string ((aJ AZ Bf).f1.f0)) ∧ w'.cell? ⟨Bn,2,none⟩ = some (.string ((aJ AZ Bf).f1.f1)) ∧ w'.cell? ⟨Bn,3,none⟩ = some (.int .i64 ((aJ AZ Bf).f1.f2)) ∧ w'.cell? ⟨Bn,4,none⟩ = some (.int .i64 ((aJ AZ Bf).f1.f3)) ∧ w'.cell? ⟨Bn,5,none⟩ = some (.bool ((aJ AZ Bf).f1.f4)) ∧ w'.cell? ⟨Bn,6,none⟩ = some (.slice BJ ((aJ AZ Bf).f1.f5).length BK) ∧ w'.cell? (BH.add ((Bp).toNat * 7)) = some (.string ((aJ Bj Bp).f0)) ∧ w'.cell? ⟨(BH.add ((Bp).toNat * 7)).block,(BH.add ((Bp).toNat * 7)).off + 1,none⟩ = some (.string ((aJ Bj Bp).f1.f0)) ∧ w'.cell? ⟨(BH.add ((Bp).toNat * 7)).block,(BH.add ((Bp).toNat * 7)).off + 2,none⟩ = some (.string ((aJ Bj Bp).f1.f1)) ∧ w'.cell? ⟨(BH.add ((Bp).toNat * 7)).block,(BH.add ((Bp).toNat * 7)).off + 3,none⟩ = some (.int .i64 ((aJ Bj Bp).f1.f2)) ∧ w'.cell? ⟨(BH.add ((Bp).toNat * 7)).block,(BH.add ((Bp).toNat * 7)).off + 4,none⟩ = some (.int .i64 ((aJ Bj Bp).f1.f3)) ∧ w'.cell? ⟨(BH.add ((Bp).toNat * 7)).block,(BH.add ((Bp).toNat * 7)).off + 5,none⟩ = some (.bool ((aJ Bj Bp).f1.f4)) ∧ w'.cell? ⟨(BH.add ((Bp).toNat * 7)).block,(BH.add ((Bp).toNat * 7)).off + 6,none⟩ = some (.slice Ei ((aJ Bj Bp).f1.f5).length Ej)) (ds:=[]) #[O,O,O,O,O,O,O,O,O,O] (by kernel_rfl) rfl rfl ⟨(ah Bh.out 0).trans rfl,(ah Bh.out 1).trans rfl,(ah Bg.out 0).trans rfl,(ah Bg.out 1).trans rfl,(ah Bg.out 2).trans rfl,(ah Bg.out 3).trans rfl,(ah Bg.out 4).trans rfl,(ah Bg.out 5).trans rfl,(ah Bg.out 6).trans rfl,((HB.out.cell (World.block_lt_of_cell? w _ CU)).trans CU),((HB.out.cell (World.block_lt_of_cell? w _ CS)).trans CS),((HB.out.cell (World.block_lt_of_cell? w _ CQ)).trans CQ),((HB.out.cell (World.block_lt_of_cell? w _ CP)).trans CP),((HB.out.cell (World.block_lt_of_cell? w _ CO)).trans CO),((HB.out.cell (World.block_lt_of_cell? w _ CK)).trans CK),((HB.out.cell (World.block_lt_of_cell? w _ CJ)).trans CJ)⟩ (fun hHeld=>?_);refine dY aA.rE aA.ni (fun HT_ HW_=>?_)
         generalize Ka.drew = Kq at Bv Bh Bl Bg HB Dt Ch Ci Cj Ck Cm Cn Co hHeld ⊢
         refine pu_ 0 36 #[I,O,O,O,O,O,O,O,O,O] HT_.out ?_
         refine pu_ 2 38 #[I,O,I,O,O,O,O,O,O,O] HT_.out ?_
         refine pu_ 6 42 #[I,O,I,O,O,O,I,O,O,O] HT_.out ?_
         refine ta_ 1 37 #[I,I,I,O,O,O,I,O,O,O] HT_.out HW_.out hHeld ?_
         refine pu_ 3 39 #[I,I,I,I,O,O,I,O,O,O] HT_.out ?_
         refine pu_ 4 40 #[I,I,I,I,I,O,I,O,O,O] HT_.out ?_
         refine ta_ 5 41 #[I,I,I,I,I,I,I,O,O,O] HT_.out HW_.out hHeld ?_
         refine ta_ 7 43 #[I,I,I,I,I,I,I,I,O,O] HT_.out HW_.out hHeld ?_
         refine gq (i:=8) (N:=some 44) #[I,I,I,I,I,I,I,I,I,O] rfl rfl (dD HT_.out (by kernel_rfl)) (by decide) (fun K hK=>?_)
         refine eX Tryz.func21 (by kernel_rfl) rfl #[.agg #[.string ((aJ Bj Bp).f1.f0),.string ((aJ Bj Bp).f1.f1),.int .i64 ((aJ Bj Bp).f1.f2),.int .i64 ((aJ Bj Bp).f1.f3),.bool ((aJ Bj Bp).f1.f4),.slice Ei ((aJ Bj Bp).f1.f5).length Ej],.agg #[.string ((aJ AZ Bf).f1.f0),.string ((aJ AZ Bf).f1.f1),.int .i64 ((aJ AZ Bf).f1.f2),.int .i64 ((aJ AZ Bf).f1.f3),.bool ((aJ AZ Bf).f1.f4),.slice BJ ((aJ AZ Bf).f1.f5).length BK]] (by rfl) rfl rfl (by (try simp only [List.map_toArray,List.map_cons,List.map_nil]);first|done|rfl|(simp only [List.length_drop,List.length_take];rfl)) ?_
         with_reducible refine (bS.calls k1 ((aJ Bj Bp).f1.f0) ((aJ Bj Bp).f1.f1) ((aJ Bj Bp).f1.f2) ((aJ Bj Bp).f1.f3) ((aJ Bj Bp).f1.f4) _ _ ((aJ Bj Bp).f1.f5) ((aJ AZ Bf).f1.f0) ((aJ AZ Bf).f1.f1) ((aJ AZ Bf).f1.f2) ((aJ AZ Bf).f1.f3) ((aJ AZ Bf).f1.f4) _ _ ((aJ AZ Bf).f1.f5) false _ ?Ce ?Cg ?EL ?EM JB.out).mono ?_
         (case Ce=>repeat (first|exact (Kd.bO Dt.out HB.out)|(with_reducible refine Kd.bD ?_ _)|(with_reducible refine Kd.bR ?_ _)|(with_reducible refine Kd.bZ ?_)))
         (case Cg=>exact El.out)
         (case EL=>repeat (first|exact (Kd.bO DT.out HB.out)|(with_reducible refine Kd.bD ?_ _)|(with_reducible refine Kd.bR ?_ _)|(with_reducible refine Kd.bZ ?_)))
         (case EM=>exact DU.out)
         rintro e Fq ⟨rfl,hb⟩
         refine ⟨_,rfl,?_⟩
         have BO:=Aside0.mk (Kd.fu (kr_ Bv.out) hb)
         have BP:=Aside0.mk (aN (g:=Bu) (o:=.cells #[.int .u64 Bz,.slice (some BH) Bj.length BI] 38 (0,0)) (bk_ Bh.out) hb)
         have BQ:=Aside0.mk (aN (g:=Bw) (o:=.cells #[.int .u64 BF,.slice (some CB) AZ.length BL] 38 (0,0)) (bk_ Bl.out) hb)
         have BR:=Aside0.mk (aN (g:=Bn) (o:=.cells #[.string ((aJ AZ Bf).f0),.string ((aJ AZ Bf).f1.f0),.string ((aJ AZ Bf).f1.f1),.int .i64 ((aJ AZ Bf).f1.f2),.int .i64 ((aJ AZ Bf).f1.f3),.bool ((aJ AZ Bf).f1.f4),.slice BJ ((aJ AZ Bf).f1.f5).length BK] 59 (0,0)) (bk_ Bg.out) hb)
         have Dh:=Aside0.mk (aK hb_ hb)
         clear Bv
         clear Bh
         clear Bl
         clear Bg
         clear HB
         have Bv:=BO
         have Bh:=BP
         have Bl:=BQ
         have Bg:=BR
         have HB:=Dh
         clear BO BP BQ BR Dh
         refine hK.out _ _ ⟨(ah Bh.out 0).trans rfl,(ah Bh.out 1).trans rfl,(ah Bg.out 0).trans rfl,(ah Bg.out 1).trans rfl,(ah Bg.out 2).trans rfl,(ah Bg.out 3).trans rfl,(ah Bg.out 4).trans rfl,(ah Bg.out 5).trans rfl,(ah Bg.out 6).trans rfl,((HB.out.cell (World.block_lt_of_cell? w _ CU)).trans CU),((HB.out.cell (World.block_lt_of_cell? w _ CS)).trans CS),((HB.out.cell (World.block_lt_of_cell? w _ CQ)).trans CQ),((HB.out.cell (World.block_lt_of_cell? w _ CP)).trans CP),((HB.out.cell (World.block_lt_of_cell? w _ CO)).trans CO),((HB.out.cell (World.block_lt_of_cell? w _ CK)).trans CK),((HB.out.cell (World.block_lt_of_cell? w _ CJ)).trans CJ)⟩ (fun hHeld=>?_)
         clear hK K
         refine dW (a':=?_) ?_ ?_
         rotate_left
         ·show Act.put _ (some 44) _ = _
          simp only [Act.put,List.setIfInBounds_toArray,List.set_cons_zero,List.set_cons_succ,bJ,bM]
          rfl
         refine pu_ 9 45 #[I,I,I,I,I,I,I,I,I,I] HT_.out ?_
         refine gP (fF HT_.out (by kernel_rfl)) ?_
         have Ij : Fq.cell? ⟨Bn,0,none⟩ = some (.string ((aJ AZ Bf).f0)):=(ah Bg.out 0).trans rfl
         have Ik : Fq.cell? ⟨Bn,1,none⟩ = some (.string ((aJ AZ Bf).f1.f0)):=(ah Bg.out 1).trans rfl
         have Il : Fq.cell? ⟨Bn,2,none⟩ = some (.string ((aJ AZ Bf).f1.f1)):=(ah Bg.out 2).trans rfl
         have Im : Fq.cell? ⟨Bn,3,none⟩ = some (.int .i64 ((aJ AZ Bf).f1.f2)):=(ah Bg.out 3).trans rfl
         have Io : Fq.cell? ⟨Bn,4,none⟩ = some (.int .i64 ((aJ AZ Bf).f1.f3)):=(ah Bg.out 4).trans rfl
         have Ip : Fq.cell? ⟨Bn,5,none⟩ = some (.bool ((aJ AZ Bf).f1.f4)):=(ah Bg.out 5).trans rfl
         have Iq : Fq.cell? ⟨Bn,6,none⟩ = some (.slice BJ ((aJ AZ Bf).f1.f5).length BK):=(ah Bg.out 6).trans rfl
         have Ir:=ak Bg.out 0
         have Iu:=ak Bg.out 1
         have Iw:=ak Bg.out 2
         have Iy:=ak Bg.out 3
         have Iz:=ak Bg.out 4
         have IB:=ak Bg.out 5
         have IC:=ak Bg.out 6
         obtain ⟨Je,Jf,Jg⟩:=Kd.iE Bv.out
         subst Jg
         try go_wp2_with (first|((with_reducible refine bF (f:=20) rfl ?_);refine dN (some 53) rfl rfl Tryz.func20 (by kernel_rfl) rfl #[.slice Je Dn.length Jf,.agg #[.int .i64 1,.string ((aJ AZ Bf).f0),.string ((aJ AZ Bf).f1.f0)]] rfl (by (try simp only [List.map_toArray,List.map_cons,List.map_nil]);first|done|rfl|(simp only [List.length_drop,List.length_take];rfl)|(simp (disch:=first|omega|(simp at *;omega)) only [dO,dG,eH];rfl)) ?_;(with_reducible refine (bA.calls k1 _ _ Dn 1 ((aJ AZ Bf).f0) ((aJ AZ Bf).f1.f0) Ee _ ?Ce ?Cg J9.out).mono ?_);(case Ce=>repeat (first|exact (Kd.fI Bv.out).2.2|(with_reducible refine Kd.bD ?_ _)|(with_reducible refine Kd.bR ?_ _)|(with_reducible refine Kd.bZ ?_)));(case Cg=>exact (Kd.fI Bv.out).2.1);rintro e Kr ⟨Ke,rfl,ho0,hb⟩;refine ⟨_,rfl,?_⟩;have BO:=Aside0.mk (Kd.lX (kr_ Bv.out) (Kd.jo ho0) hb);have BP:=Aside0.mk (Kd.iD (Kd.ql ho0 (Kd.rX (kr_ Bv.out))) (aM hb_));have BQ:=Aside0.mk (aN (g:=Bu) (o:=.cells #[.int .u64 Bz,.slice (some BH) Bj.length BI] 38 (0,0)) (bk_ Bh.out) hb);have BR:=Aside0.mk (aN (g:=Bw) (o:=.cells #[.int .u64 BF,.slice (some CB) AZ.length BL] 38 (0,0)) (bk_ Bl.out) hb);have Dh:=Aside0.mk (aN (g:=Bn) (o:=.cells #[.string ((aJ AZ Bf).f0),.string ((aJ AZ Bf).f1.f0),.string ((aJ AZ Bf).f1.f1),.int .i64 ((aJ AZ Bf).f1.f2),.int .i64 ((aJ AZ Bf).f1.f3),.bool ((aJ AZ Bf).f1.f4),.slice BJ ((aJ AZ Bf).f1.f5).length BK] 59 (0,0)) (bk_ Bg.out) hb);have Ep:=Aside0.mk (aK hb_ hb);clear Bv;clear Bh;clear Bl;clear Bg;clear HB;have Bv:=BO;have FE:=BP;have Bh:=BQ;have Bl:=BR;have Bg:=Dh;have HB:=Ep;clear BO BP BQ BR Dh Ep;(try clear hb);(try clear hb2);(try clear hk);(try clear hi);(try clear ho0)))
         go_roundg k1
         case measure=>have:=EP.out;omega
         case rel=>exact ⟨(Ee),(wrap64 (Bf + 1)),(by first|rfl|(simp;done)|(simp [*];done)),H',⟨by have:=EP.out;omega⟩,⟨by (with_reducible repeat (first|apply Kd.fG|apply Kd.fH|apply Kd.eD));exact Kd.gW FE.out (fun _ hk=>trivial)⟩,⟨by (with_reducible repeat (first|apply ay|apply aG|apply aD));exact Bh.out⟩,⟨by (with_reducible repeat (first|apply ay|apply aG|apply aD));exact Bl.out⟩,⟨hb_⟩⟩
       ·rw [if_neg Gw] at H
        exact absurd H (by simp)
      ·rw [if_neg c21] at H
       exact absurd H (by simp)
    ·rw [if_neg c6] at H
     exact absurd H (by simp)
   ·rw [if_neg c5] at H
    have c5b0 : decide (Bf < (AZ.length : Int)) = false:=decide_eq_false c5
    clear c5
    have H':=Aside0.mk H
    clear H
    have JO:=CG.out
    have JQ:=CF.out
    have IE : wr.cell? ⟨Bw,0,none⟩ = some (.int .u64 BF):=(ah Bl.out 0).trans rfl
    have IG : wr.cell? ⟨Bw,1,none⟩ = some (.slice Dm AZ.length BL):=(ah Bl.out 1).trans rfl
    have II:=ak Bl.out 0
    have IJ:=ak Bl.out 1
    go_wp2
    go_loopg [5,9] k1 (fun kq v5 v9 w'=>∃ (Es : List (S43)) (Bo : Int),v9 = .int .i64 Bo ∧ Aside0 (aA.l1 kq Es Bo Bz Bj BF AZ = some r) ∧ Aside0 (kq ≤ k1) ∧ Aside0 (Kd.R k43 43 w' w.heap.size (fun _=>True) v5 Es) ∧ Aside0 (w'.heap[Bu]? = some (.cells #[.int .u64 Bz,(.slice BN Bj.length BI)] 38 (0,0))) ∧ Aside0 (w'.heap[Bw]? = some (.cells #[.int .u64 BF,(.slice Dm AZ.length BL)] 38 (0,0))) ∧ Aside0 (Below w.heap.size w w'))
    case atStart=>exact ⟨(Dn),(0),(by first|rfl|(simp;done)|(simp [*];done)),H',⟨Nat.le_refl _⟩,⟨by (with_reducible repeat (first|apply Kd.fG|apply Kd.fH|apply Kd.eD));exact Bv.out⟩,⟨by (with_reducible repeat (first|apply ay|apply aG|apply aD));exact Bh.out⟩,⟨by (with_reducible repeat (first|apply ay|apply aG|apply aD));exact Bl.out⟩,⟨hb_⟩⟩
    case round =>
     clear H'
     obtain ⟨Es,Bo,rfl,HA,IK,Bv,Bh,Bl,HB⟩:=hrel
     cases gk with
     | zero=>exact absurd HA.out (by simp [aA.l1])
     | succ k2 =>
      have H:=HA.out
      clear HA
      simp only [aA.l1] at H
      by_cases c51 : Bo < (Bj.length : Int)
      ·rw [if_pos c51] at H
       have c51b0 : decide (Bo < (Bj.length : Int)) = true:=decide_eq_true c51
       clear c51
       by_cases IL : 0 ≤ Bo
       ·rw [if_pos IL] at H
        have c52b0 : decide (0 ≤ Bo) = true:=decide_eq_true IL
        clear IL
        replace H:=Option.bind_eq_some_iff.mp H
        obtain ⟨En,FH,H⟩:=H
        replace H : (if En < 0 then ((bA.f k2 Es 2 ((aJ Bj Bo).f0) ((aJ Bj Bo).f1.f0)).bind fun Eu=>(aA.l1 k2 Eu (wrap64 (Bo + 1)) Bz Bj BF AZ)) else (aA.l1 k2 Es (wrap64 (Bo + 1)) Bz Bj BF AZ)) = some r:=H
        have JR:=Aside0.mk FH
        clear FH
        by_cases Fz : En < 0
        ·rw [if_pos Fz] at H
         have c54b0 : decide (En < 0) = true:=decide_eq_true Fz
         clear Fz
         replace H:=Option.bind_eq_some_iff.mp H
         obtain ⟨Eu,FI,H⟩:=H
         replace H : (aA.l1 k2 Eu (wrap64 (Bo + 1)) Bz Bj BF AZ) = some r:=H
         have Kg:=Aside0.mk FI
         clear FI
         have H':=Aside0.mk H
         clear H
         have JU:=CF.out
         have JV:=CG.out
         have IQ : wr.cell? ⟨Bu,0,none⟩ = some (.int .u64 Bz):=(ah Bh.out 0).trans rfl
         have IU : wr.cell? ⟨Bu,1,none⟩ = some (.slice BN Bj.length BI):=(ah Bh.out 1).trans rfl
         have IV:=ak Bh.out 0
         have IW:=ak Bh.out 1
         try go_wp2
         have BO:=Aside0.mk (Kd.eD Bv.out)
         have BP:=Aside0.mk (aG Bh.out)
         have BQ:=Aside0.mk (aG Bl.out)
         have BR:=Aside0.mk (bB HB.out)
         clear Bv
         clear Bh
         clear Bl
         clear HB
         have Bv:=BO
         have Bh:=BP
         have Bl:=BQ
         have HB:=BR
         clear BO BP BQ BR
         have Ez : 0 ≤ (Bo : Int):=of_decide_eq_true (by first|(with_reducible assumption)|assumption)
         have EA : Bo < (Bj.length : Int):=of_decide_eq_true (by first|(with_reducible assumption)|assumption)
         obtain ⟨Bt,EB,EC,Fu,Cq,Cr,Ct,Cu,Cv,Cw,Cz,Du,Dv⟩:=jR Dp.out Bo Ez EA
         have CV:=Cz
         have CW:=Cw
         have CX:=Cv
         have CY:=Cu
         have CZ:=Ct
         have C8:=Cr
         have C9:=Cq
         cases Fu
         replace Cq:=(HB.out.cell (World.block_lt_of_cell? w _ Cq)).trans Cq
         replace Cr:=(HB.out.cell (World.block_lt_of_cell? w _ Cr)).trans Cr
         replace Ct:=(HB.out.cell (World.block_lt_of_cell? w _ Ct)).trans Ct
         replace Cu:=(HB.out.cell (World.block_lt_of_cell? w _ Cu)).trans Cu
         replace Cv:=(HB.out.cell (World.block_lt_of_cell? w _ Cv)).trans Cv
         replace Cw:=(HB.out.cell (World.block_lt_of_cell? w _ Cw)).trans Cw
         replace Cz:=(HB.out.cell (World.block_lt_of_cell? w _ Cz)).trans Cz
         have Em:=Aside0.mk Dv
         have EU:=Aside0.mk Du
         clear Dv Du
         replace Ez:=eq_true Ez
         replace EA:=eq_true EA
         refine fU (n:=9) (S:=fun w'=>w'.cell? ⟨Bw,0,none⟩ = some (.int .u64 BF) ∧ w'.cell? ⟨Bw,1,none⟩ = some (.slice Dm AZ.length BL) ∧ w'.cell? ⟨Bu,0,none⟩ = some (.int .u64 Bz) ∧ w'.cell? ⟨Bu,1,none⟩ = some (.slice (some Bt) Bj.length BI) ∧ w'.cell? (Bt.add ((Bo).toNat * 7)) = some (.string ((aJ Bj Bo).f0)) ∧ w'.cell? ⟨(Bt.add ((Bo).toNat * 7)).block,(Bt.add ((Bo).toNat * 7)).off + 1,none⟩ = some (.string ((aJ Bj Bo).f1.f0)) ∧ w'.cell? ⟨(Bt.add ((Bo).toNat * 7)).block,(Bt.add ((Bo).toNat * 7)).off + 2,none⟩ = some (.string ((aJ Bj Bo).f1.f1)) ∧ w'.cell? ⟨(Bt.add ((Bo).toNat * 7)).block,(Bt.add ((Bo).toNat * 7)).off + 3,none⟩ = some (.int .i64 ((aJ Bj Bo).f1.f2)) ∧ w'.cell? ⟨(Bt.add ((Bo).toNat * 7)).block,(Bt.add ((Bo).toNat * 7)).off + 4,none⟩ = some (.int .i64 ((aJ Bj Bo).f1.f3)) ∧ w'.cell? ⟨(Bt.add ((Bo).toNat * 7)).block,(Bt.add ((Bo).toNat * 7)).off + 5,none⟩ = some (.bool ((aJ Bj Bo).f1.f4)) ∧ w'.cell? ⟨(Bt.add ((Bo).toNat * 7)).block,(Bt.add ((Bo).toNat * 7)).off + 6,none⟩ = some (.slice EB ((aJ Bj Bo).f1.f5).length EC)) (ds:=[]) #[O,O,O,O,O,O,O,O,O] (by kernel_rfl) rfl rfl ⟨(ah Bl.out 0).trans rfl,(ah Bl.out 1).trans rfl,(ah Bh.out 0).trans rfl,(ah Bh.out 1).trans rfl,((HB.out.cell (World.block_lt_of_cell? w _ C9)).trans C9),((HB.out.cell (World.block_lt_of_cell? w _ C8)).trans C8),((HB.out.cell (World.block_lt_of_cell? w _ CZ)).trans CZ),((HB.out.cell (World.block_lt_of_cell? w _ CY)).trans CY),((HB.out.cell (World.block_lt_of_cell? w _ CX)).trans CX),((HB.out.cell (World.block_lt_of_cell? w _ CW)).trans CW),((HB.out.cell (World.block_lt_of_cell? w _ CV)).trans CV)⟩ (fun hHeld=>?_);refine dY aA.yF aA.wJ (fun HT_ HW_=>?_)
         generalize wr.drew = Kt at Bv Bh Bl HB Em Cq Cr Ct Cu Cv Cw Cz hHeld ⊢
         refine pu_ 1 62 #[O,I,O,O,O,O,O,O,O] HT_.out ?_
         refine pu_ 3 64 #[O,I,O,I,O,O,O,O,O] HT_.out ?_
         refine ta_ 0 61 #[I,I,O,I,O,O,O,O,O] HT_.out HW_.out hHeld ?_
         refine ta_ 2 63 #[I,I,I,I,O,O,O,O,O] HT_.out HW_.out hHeld ?_
         refine pu_ 4 65 #[I,I,I,I,I,O,O,O,O] HT_.out ?_
         refine pu_ 5 66 #[I,I,I,I,I,I,O,O,O] HT_.out ?_
         refine ta_ 6 67 #[I,I,I,I,I,I,I,O,O] HT_.out HW_.out hHeld ?_
         refine gq (i:=7) (N:=some 68) #[I,I,I,I,I,I,I,I,O] rfl rfl (dD HT_.out (by kernel_rfl)) (by decide) (fun K hK=>?_)
         refine eX Tryz.func19 (by kernel_rfl) rfl #[.agg #[.int .u64 BF,.slice Dm AZ.length BL],.string ((aJ Bj Bo).f0)] (by rfl) rfl rfl (by (try simp only [List.map_toArray,List.map_cons,List.map_nil]);first|done|rfl|(simp only [List.length_drop,List.length_take];rfl)) ?_
         with_reducible refine (bC.calls k2 BF _ _ AZ ((aJ Bj Bo).f0) En _ ?Ce ?Cg JR.out).mono ?_
         (case Ce=>repeat (first|exact (Kd.bO Eo.out HB.out)|(with_reducible refine Kd.bD ?_ _)|(with_reducible refine Kd.bR ?_ _)|(with_reducible refine Kd.bZ ?_)))
         (case Cg=>exact E9.out)
         rintro e Kh ⟨rfl,hb⟩
         refine ⟨_,rfl,?_⟩
         have BO:=Aside0.mk (Kd.fu (kr_ Bv.out) hb)
         have BP:=Aside0.mk (aN (g:=Bu) (o:=.cells #[.int .u64 Bz,.slice (some Bt) Bj.length BI] 38 (0,0)) (bk_ Bh.out) hb)
         have BQ:=Aside0.mk (aN (g:=Bw) (o:=.cells #[.int .u64 BF,.slice Dm AZ.length BL] 38 (0,0)) (bk_ Bl.out) hb)
         have BR:=Aside0.mk (aK hb_ hb)
         clear Bv
         clear Bh
         clear Bl
         clear HB
         have Bv:=BO
         have Bh:=BP
         have Bl:=BQ
         have HB:=BR
         clear BO BP BQ BR
         refine hK.out _ _ ⟨(ah Bl.out 0).trans rfl,(ah Bl.out 1).trans rfl,(ah Bh.out 0).trans rfl,(ah Bh.out 1).trans rfl,((HB.out.cell (World.block_lt_of_cell? w _ C9)).trans C9),((HB.out.cell (World.block_lt_of_cell? w _ C8)).trans C8),((HB.out.cell (World.block_lt_of_cell? w _ CZ)).trans CZ),((HB.out.cell (World.block_lt_of_cell? w _ CY)).trans CY),((HB.out.cell (World.block_lt_of_cell? w _ CX)).trans CX),((HB.out.cell (World.block_lt_of_cell? w _ CW)).trans CW),((HB.out.cell (World.block_lt_of_cell? w _ CV)).trans CV)⟩ (fun hHeld=>?_)
         clear hK K
         refine dW (a':=?_) ?_ ?_
         rotate_left
         ·show Act.put _ (some 68) _ = _
          simp only [Act.put,List.setIfInBounds_toArray,List.set_cons_zero,List.set_cons_succ,bJ,bM]
          rfl
         refine pu_ 8 69 #[I,I,I,I,I,I,I,I,I] HT_.out ?_
         refine gP (fF HT_.out (by kernel_rfl)) ?_
         try go_wp2
         have BO:=Aside0.mk (Kd.eD Bv.out)
         have BP:=Aside0.mk (aG Bh.out)
         have BQ:=Aside0.mk (aG Bl.out)
         have BR:=Aside0.mk (bB HB.out)
         clear Bv
         clear Bh
         clear Bl
         clear HB
         have Bv:=BO
         have Bh:=BP
         have Bl:=BQ
         have HB:=BR
         clear BO BP BQ BR
         have Fv : 0 ≤ (Bo : Int):=of_decide_eq_true (by first|(with_reducible assumption)|assumption)
         have Fw : Bo < (Bj.length : Int):=of_decide_eq_true (by first|(with_reducible assumption)|assumption)
         obtain ⟨FJ,EN,EO,Jh,Dw,Dx,Dy,Dz,DC,DF,Dk,ED,EF⟩:=jR Dp.out Bo Fv Fw
         have DV:=Dk
         have DW:=DF
         have DX:=DC
         have DY:=Dz
         have DZ:=Dy
         have D5:=Dx
         have D6:=Dw
         obtain rfl : Bt = FJ:=(by injection Jh)
         replace Dw:=(HB.out.cell (World.block_lt_of_cell? w _ Dw)).trans Dw
         replace Dx:=(HB.out.cell (World.block_lt_of_cell? w _ Dx)).trans Dx
         replace Dy:=(HB.out.cell (World.block_lt_of_cell? w _ Dy)).trans Dy
         replace Dz:=(HB.out.cell (World.block_lt_of_cell? w _ Dz)).trans Dz
         replace DC:=(HB.out.cell (World.block_lt_of_cell? w _ DC)).trans DC
         replace DF:=(HB.out.cell (World.block_lt_of_cell? w _ DF)).trans DF
         replace Dk:=(HB.out.cell (World.block_lt_of_cell? w _ Dk)).trans Dk
         have EW:=Aside0.mk EF
         have IX:=Aside0.mk ED
         clear EF ED
         replace Fv:=eq_true Fv
         replace Fw:=eq_true Fw
         have Fx : 0 ≤ (Bo : Int):=of_decide_eq_true (by first|(with_reducible assumption)|assumption)
         have Fy : Bo < (Bj.length : Int):=of_decide_eq_true (by first|(with_reducible assumption)|assumption)
         obtain ⟨FL,Ji,Jj,e323,DI,DJ,DK,DL,DN,DR,Dl,EG,EH⟩:=jR Dp.out Bo Fx Fy
         have D7:=Dl
         have D8:=DR
         have D9:=DN
         have Ea:=DL
         have Eb:=DK
         have Ec:=DJ
         have Ed:=DI
         obtain rfl : Bt = FL:=(by injection e323)
         replace DI:=(HB.out.cell (World.block_lt_of_cell? w _ DI)).trans DI
         replace DJ:=(HB.out.cell (World.block_lt_of_cell? w _ DJ)).trans DJ
         replace DK:=(HB.out.cell (World.block_lt_of_cell? w _ DK)).trans DK
         replace DL:=(HB.out.cell (World.block_lt_of_cell? w _ DL)).trans DL
         replace DN:=(HB.out.cell (World.block_lt_of_cell? w _ DN)).trans DN
         replace DR:=(HB.out.cell (World.block_lt_of_cell? w _ DR)).trans DR
         replace Dl:=(HB.out.cell (World.block_lt_of_cell? w _ Dl)).trans Dl
         have EX:=Aside0.mk EH
         have IY:=Aside0.mk EG
         clear EH EG
         replace Fx:=eq_true Fx
         replace Fy:=eq_true Fy
         have ea_:=Option.some.inj (Dk.symm.trans Dl)
         injection ea_ with ea_ en_ ec_
         subst ea_
         subst ec_
         clear en_
         obtain ⟨Jk,Jl,FM⟩:=Kd.iE Bv.out
         (first|subst FM|(injection FM with JW Ki JX;have Kj:=JW.symm;have Kk:=JX.symm;clear JW Ki JX;subst Kj;subst Kk))
         refine fU (n:=17) (S:=fun w'=>w'.cell? ⟨Bu,0,none⟩ = some (.int .u64 Bz) ∧ w'.cell? ⟨Bu,1,none⟩ = some (.slice (some Bt) Bj.length BI) ∧ w'.cell? (Bt.add ((Bo).toNat * 7)) = some (.string ((aJ Bj Bo).f0)) ∧ w'.cell? ⟨(Bt.add ((Bo).toNat * 7)).block,(Bt.add ((Bo).toNat * 7)).off + 1,none⟩ = some (.string ((aJ Bj Bo).f1.f0)) ∧ w'.cell? ⟨(Bt.add ((Bo).toNat * 7)).block,(Bt.add ((Bo).toNat * 7)).off + 2,none⟩ = some (.string ((aJ Bj Bo).f1.f1)) ∧ w'.cell? ⟨(Bt.add ((Bo).toNat * 7)).block,(Bt.add ((Bo).toNat * 7)).off + 3,none⟩ = some (.int .i64 ((aJ Bj Bo).f1.f2)) ∧ w'.cell? ⟨(Bt.add ((Bo).toNat * 7)).block,(Bt.add ((Bo).toNat * 7)).off + 4,none⟩ = some (.int .i64 ((aJ Bj Bo).f1.f3)) ∧ w'.cell? ⟨(Bt.add ((Bo).toNat * 7)).block,(Bt.add ((Bo).toNat * 7)).off + 5,none⟩ = some (.bool ((aJ Bj Bo).f1.f4)) ∧ w'.cell? ⟨(Bt.add ((Bo).toNat * 7)).block,(Bt.add ((Bo).toNat * 7)).off + 6,none⟩ = some (.slice EN ((aJ Bj Bo).f1.f5).length EO) ∧ w'.cell? (Bt.add ((Bo).toNat * 7)) = some (.string ((aJ Bj Bo).f0)) ∧ w'.cell? ⟨(Bt.add ((Bo).toNat * 7)).block,(Bt.add ((Bo).toNat * 7)).off + 1,none⟩ = some (.string ((aJ Bj Bo).f1.f0)) ∧ w'.cell? ⟨(Bt.add ((Bo).toNat * 7)).block,(Bt.add ((Bo).toNat * 7)).off + 2,none⟩ = some (.string ((aJ Bj Bo).f1.f1)) ∧ w'.cell? ⟨(Bt.add ((Bo).toNat * 7)).block,(Bt.add ((Bo).toNat * 7)).off + 3,none⟩ = some (.int .i64 ((aJ Bj Bo).f1.f2)) ∧ w'.cell? ⟨(Bt.add ((Bo).toNat * 7)).block,(Bt.add ((Bo).toNat * 7)).off + 4,none⟩ = some (.int .i64 ((aJ Bj Bo).f1.f3)) ∧ w'.cell? ⟨(Bt.add ((Bo).toNat * 7)).block,(Bt.add ((Bo).toNat * 7)).off + 5,none⟩ = some (.bool ((aJ Bj Bo).f1.f4)) ∧ w'.cell? ⟨(Bt.add ((Bo).toNat * 7)).block,(Bt.add ((Bo).toNat * 7)).off + 6,none⟩ = some (.slice EN ((aJ Bj Bo).f1.f5).length EO)) (ds:=[]) #[O,O,O,O,O,O,O,O,O,O,O,O,O,O,O,O,O] (by kernel_rfl) rfl rfl ⟨(ah Bh.out 0).trans rfl,(ah Bh.out 1).trans rfl,((HB.out.cell (World.block_lt_of_cell? w _ D6)).trans D6),((HB.out.cell (World.block_lt_of_cell? w _ D5)).trans D5),((HB.out.cell (World.block_lt_of_cell? w _ DZ)).trans DZ),((HB.out.cell (World.block_lt_of_cell? w _ DY)).trans DY),((HB.out.cell (World.block_lt_of_cell? w _ DX)).trans DX),((HB.out.cell (World.block_lt_of_cell? w _ DW)).trans DW),((HB.out.cell (World.block_lt_of_cell? w _ DV)).trans DV),((HB.out.cell (World.block_lt_of_cell? w _ Ed)).trans Ed),((HB.out.cell (World.block_lt_of_cell? w _ Ec)).trans Ec),((HB.out.cell (World.block_lt_of_cell? w _ Eb)).trans Eb),((HB.out.cell (World.block_lt_of_cell? w _ Ea)).trans Ea),((HB.out.cell (World.block_lt_of_cell? w _ D9)).trans D9),((HB.out.cell (World.block_lt_of_cell? w _ D8)).trans D8),((HB.out.cell (World.block_lt_of_cell? w _ D7)).trans D7)⟩ (fun hHeld=>?_);refine dY aA.Aq aA.zB (fun HT_ HW_=>?_)
         generalize Kh.drew = Ku at Bv Bh Bl HB EW EX Dw Dx Dy Dz DC DF Dk DI DJ DK DL DN DR Dl hHeld ⊢
         refine pu_ 0 70 #[I,O,O,O,O,O,O,O,O,O,O,O,O,O,O,O,O] HT_.out ?_
         refine pu_ 1 71 #[I,I,O,O,O,O,O,O,O,O,O,O,O,O,O,O,O] HT_.out ?_
         refine pu_ 3 73 #[I,I,O,I,O,O,O,O,O,O,O,O,O,O,O,O,O] HT_.out ?_
         refine pu_ 7 77 #[I,I,O,I,O,O,O,I,O,O,O,O,O,O,O,O,O] HT_.out ?_
         refine pu_ 9 79 #[I,I,O,I,O,O,O,I,O,I,O,O,O,O,O,O,O] HT_.out ?_
         refine ta_ 2 72 #[I,I,I,I,O,O,O,I,O,I,O,O,O,O,O,O,O] HT_.out HW_.out hHeld ?_
         refine pu_ 4 74 #[I,I,I,I,I,O,O,I,O,I,O,O,O,O,O,O,O] HT_.out ?_
         refine pu_ 5 75 #[I,I,I,I,I,I,O,I,O,I,O,O,O,O,O,O,O] HT_.out ?_
         refine ta_ 6 76 #[I,I,I,I,I,I,I,I,O,I,O,O,O,O,O,O,O] HT_.out HW_.out hHeld ?_
         refine ta_ 8 78 #[I,I,I,I,I,I,I,I,I,I,O,O,O,O,O,O,O] HT_.out HW_.out hHeld ?_
         refine pu_ 10 80 #[I,I,I,I,I,I,I,I,I,I,I,O,O,O,O,O,O] HT_.out ?_
         refine pu_ 11 81 #[I,I,I,I,I,I,I,I,I,I,I,I,O,O,O,O,O] HT_.out ?_
         refine pu_ 12 82 #[I,I,I,I,I,I,I,I,I,I,I,I,I,O,O,O,O] HT_.out ?_
         refine ta_ 13 83 #[I,I,I,I,I,I,I,I,I,I,I,I,I,I,O,O,O] HT_.out HW_.out hHeld ?_
         refine pu_ 14 84 #[I,I,I,I,I,I,I,I,I,I,I,I,I,I,I,O,O] HT_.out ?_
         refine gq (i:=15) (N:=some 85) #[I,I,I,I,I,I,I,I,I,I,I,I,I,I,I,I,O] rfl rfl (dD HT_.out (by kernel_rfl)) (by decide) (fun K hK=>?_)
         refine eX Tryz.func20 (by kernel_rfl) rfl #[.slice Jk Es.length Jl,.agg #[.int .i64 2,.string ((aJ Bj Bo).f0),.string ((aJ Bj Bo).f1.f0)]] (by rfl) rfl rfl (by (try simp only [List.map_toArray,List.map_cons,List.map_nil]);first|done|rfl|(simp only [List.length_drop,List.length_take];rfl)) ?_
         with_reducible refine (bA.calls k2 _ _ Es 2 ((aJ Bj Bo).f0) ((aJ Bj Bo).f1.f0) Eu _ ?Ce ?Cg Kg.out).mono ?_
         (case Ce=>repeat (first|exact (Kd.fI Bv.out).2.2|(with_reducible refine Kd.bD ?_ _)|(with_reducible refine Kd.bR ?_ _)|(with_reducible refine Kd.bZ ?_)))
         (case Cg=>exact (Kd.fI Bv.out).2.1)
         rintro e Kv ⟨Kl,rfl,ho0,hb⟩
         refine ⟨_,rfl,?_⟩
         have BO:=Aside0.mk (Kd.lX (kr_ Bv.out) (Kd.jo ho0) hb)
         have BP:=Aside0.mk (Kd.iD (Kd.ql ho0 (Kd.rX (kr_ Bv.out))) (aM hb_))
         have BQ:=Aside0.mk (aN (g:=Bu) (o:=.cells #[.int .u64 Bz,.slice (some Bt) Bj.length BI] 38 (0,0)) (bk_ Bh.out) hb)
         have BR:=Aside0.mk (aN (g:=Bw) (o:=.cells #[.int .u64 BF,.slice Dm AZ.length BL] 38 (0,0)) (bk_ Bl.out) hb)
         have Dh:=Aside0.mk (aK hb_ hb)
         clear Bv
         clear Bh
         clear Bl
         clear HB
         have Bv:=BO
         have FN:=BP
         have Bh:=BQ
         have Bl:=BR
         have HB:=Dh
         clear BO BP BQ BR Dh
         refine hK.out _ _ ⟨(ah Bh.out 0).trans rfl,(ah Bh.out 1).trans rfl,((HB.out.cell (World.block_lt_of_cell? w _ D6)).trans D6),((HB.out.cell (World.block_lt_of_cell? w _ D5)).trans D5),((HB.out.cell (World.block_lt_of_cell? w _ DZ)).trans DZ),((HB.out.cell (World.block_lt_of_cell? w _ DY)).trans DY),((HB.out.cell (World.block_lt_of_cell? w _ DX)).trans DX),((HB.out.cell (World.block_lt_of_cell? w _ DW)).trans DW),((HB.out.cell (World.block_lt_of_cell? w _ DV)).trans DV),((HB.out.cell (World.block_lt_of_cell? w _ Ed)).trans Ed),((HB.out.cell (World.block_lt_of_cell? w _ Ec)).trans Ec),((HB.out.cell (World.block_lt_of_cell? w _ Eb)).trans Eb),((HB.out.cell (World.block_lt_of_cell? w _ Ea)).trans Ea),((HB.out.cell (World.block_lt_of_cell? w _ D9)).trans D9),((HB.out.cell (World.block_lt_of_cell? w _ D8)).trans D8),((HB.out.cell (World.block_lt_of_cell? w _ D7)).trans D7)⟩ (fun hHeld=>?_)
         clear hK K
         refine dW (a':=?_) ?_ ?_
         rotate_left
         ·show Act.put _ (some 85) _ = _
          simp only [Act.put,List.setIfInBounds_toArray,List.set_cons_zero,List.set_cons_succ,bJ,bM]
          rfl
         refine pu_ 16 5 #[I,I,I,I,I,I,I,I,I,I,I,I,I,I,I,I,I] HT_.out ?_
         refine gP (fF HT_.out (by kernel_rfl)) ?_
         try go_wp2
         go_roundg k2
         case measure=>have:=EP.out;have:=IK.out;omega
         case rel=>exact ⟨(Eu),(wrap64 (Bo + 1)),(by first|rfl|(simp;done)|(simp [*];done)),H',⟨by have:=EP.out;have:=IK.out;omega⟩,⟨by (with_reducible repeat (first|apply Kd.fG|apply Kd.fH|apply Kd.eD));exact Kd.gW FN.out (fun _ hk=>trivial)⟩,⟨by (with_reducible repeat (first|apply ay|apply aG|apply aD));exact Bh.out⟩,⟨by (with_reducible repeat (first|apply ay|apply aG|apply aD));exact Bl.out⟩,⟨hb_⟩⟩
        ·rw [if_neg Fz] at H
         have c54b0 : decide (En < 0) = false:=decide_eq_false Fz
         clear Fz
         have H':=Aside0.mk H
         clear H
         have JY:=CF.out
         have JZ:=CG.out
         have IZ : wr.cell? ⟨Bu,0,none⟩ = some (.int .u64 Bz):=(ah Bh.out 0).trans rfl
         have I4 : wr.cell? ⟨Bu,1,none⟩ = some (.slice BN Bj.length BI):=(ah Bh.out 1).trans rfl
         have I5:=ak Bh.out 0
         have I6:=ak Bh.out 1
         try go_wp2
         have BO:=Aside0.mk (Kd.eD Bv.out)
         have BP:=Aside0.mk (aG Bh.out)
         have BQ:=Aside0.mk (aG Bl.out)
         have BR:=Aside0.mk (bB HB.out)
         clear Bv
         clear Bh
         clear Bl
         clear HB
         have Bv:=BO
         have Bh:=BP
         have Bl:=BQ
         have HB:=BR
         clear BO BP BQ BR
         have Ez : 0 ≤ (Bo : Int):=of_decide_eq_true (by first|(with_reducible assumption)|assumption)
         have EA : Bo < (Bj.length : Int):=of_decide_eq_true (by first|(with_reducible assumption)|assumption)
         obtain ⟨Bt,EB,EC,Fu,Cq,Cr,Ct,Cu,Cv,Cw,Cz,Du,Dv⟩:=jR Dp.out Bo Ez EA
         have CV:=Cz
         have CW:=Cw
         have CX:=Cv
         have CY:=Cu
         have CZ:=Ct
         have C8:=Cr
         have C9:=Cq
         cases Fu
         replace Cq:=(HB.out.cell (World.block_lt_of_cell? w _ Cq)).trans Cq
         replace Cr:=(HB.out.cell (World.block_lt_of_cell? w _ Cr)).trans Cr
         replace Ct:=(HB.out.cell (World.block_lt_of_cell? w _ Ct)).trans Ct
         replace Cu:=(HB.out.cell (World.block_lt_of_cell? w _ Cu)).trans Cu
         replace Cv:=(HB.out.cell (World.block_lt_of_cell? w _ Cv)).trans Cv
         replace Cw:=(HB.out.cell (World.block_lt_of_cell? w _ Cw)).trans Cw
         replace Cz:=(HB.out.cell (World.block_lt_of_cell? w _ Cz)).trans Cz
         have Em:=Aside0.mk Dv
         have EU:=Aside0.mk Du
         clear Dv Du
         replace Ez:=eq_true Ez
         replace EA:=eq_true EA
         refine fU (n:=9) (S:=fun w'=>w'.cell? ⟨Bw,0,none⟩ = some (.int .u64 BF) ∧ w'.cell? ⟨Bw,1,none⟩ = some (.slice Dm AZ.length BL) ∧ w'.cell? ⟨Bu,0,none⟩ = some (.int .u64 Bz) ∧ w'.cell? ⟨Bu,1,none⟩ = some (.slice (some Bt) Bj.length BI) ∧ w'.cell? (Bt.add ((Bo).toNat * 7)) = some (.string ((aJ Bj Bo).f0)) ∧ w'.cell? ⟨(Bt.add ((Bo).toNat * 7)).block,(Bt.add ((Bo).toNat * 7)).off + 1,none⟩ = some (.string ((aJ Bj Bo).f1.f0)) ∧ w'.cell? ⟨(Bt.add ((Bo).toNat * 7)).block,(Bt.add ((Bo).toNat * 7)).off + 2,none⟩ = some (.string ((aJ Bj Bo).f1.f1)) ∧ w'.cell? ⟨(Bt.add ((Bo).toNat * 7)).block,(Bt.add ((Bo).toNat * 7)).off + 3,none⟩ = some (.int .i64 ((aJ Bj Bo).f1.f2)) ∧ w'.cell? ⟨(Bt.add ((Bo).toNat * 7)).block,(Bt.add ((Bo).toNat * 7)).off + 4,none⟩ = some (.int .i64 ((aJ Bj Bo).f1.f3)) ∧ w'.cell? ⟨(Bt.add ((Bo).toNat * 7)).block,(Bt.add ((Bo).toNat * 7)).off + 5,none⟩ = some (.bool ((aJ Bj Bo).f1.f4)) ∧ w'.cell? ⟨(Bt.add ((Bo).toNat * 7)).block,(Bt.add ((Bo).toNat * 7)).off + 6,none⟩ = some (.slice EB ((aJ Bj Bo).f1.f5).length EC)) (ds:=[]) #[O,O,O,O,O,O,O,O,O] (by kernel_rfl) rfl rfl ⟨(ah Bl.out 0).trans rfl,(ah Bl.out 1).trans rfl,(ah Bh.out 0).trans rfl,(ah Bh.out 1).trans rfl,((HB.out.cell (World.block_lt_of_cell? w _ C9)).trans C9),((HB.out.cell (World.block_lt_of_cell? w _ C8)).trans C8),((HB.out.cell (World.block_lt_of_cell? w _ CZ)).trans CZ),((HB.out.cell (World.block_lt_of_cell? w _ CY)).trans CY),((HB.out.cell (World.block_lt_of_cell? w _ CX)).trans CX),((HB.out.cell (World.block_lt_of_cell? w _ CW)).trans CW),((HB.out.cell (World.block_lt_of_cell? w _ CV)).trans CV)⟩ (fun hHeld=>?_);refine dY aA.yF aA.wJ (fun HT_ HW_=>?_)
         generalize wr.drew = Kw at Bv Bh Bl HB Em Cq Cr Ct Cu Cv Cw Cz hHeld ⊢
         refine pu_ 1 62 #[O,I,O,O,O,O,O,O,O] HT_.out ?_
         refine pu_ 3 64 #[O,I,O,I,O,O,O,O,O] HT_.out ?_
         refine ta_ 0 61 #[I,I,O,I,O,O,O,O,O] HT_.out HW_.out hHeld ?_
         refine ta_ 2 63 #[I,I,I,I,O,O,O,O,O] HT_.out HW_.out hHeld ?_
         refine pu_ 4 65 #[I,I,I,I,I,O,O,O,O] HT_.out ?_
         refine pu_ 5 66 #[I,I,I,I,I,I,O,O,O] HT_.out ?_
         refine ta_ 6 67 #[I,I,I,I,I,I,I,O,O] HT_.out HW_.out hHeld ?_
         refine gq (i:=7) (N:=some 68) #[I,I,I,I,I,I,I,I,O] rfl rfl (dD HT_.out (by kernel_rfl)) (by decide) (fun K hK=>?_)
         refine eX Tryz.func19 (by kernel_rfl) rfl #[.agg #[.int .u64 BF,.slice Dm AZ.length BL],.string ((aJ Bj Bo).f0)] (by rfl) rfl rfl (by (try simp only [List.map_toArray,List.map_cons,List.map_nil]);first|done|rfl|(simp only [List.length_drop,List.length_take];rfl)) ?_
         with_reducible refine (bC.calls k2 BF _ _ AZ ((aJ Bj Bo).f0) En _ ?Ce ?Cg JR.out).mono ?_
         (case Ce=>repeat (first|exact (Kd.bO Eo.out HB.out)|(with_reducible refine Kd.bD ?_ _)|(with_reducible refine Kd.bR ?_ _)|(with_reducible refine Kd.bZ ?_)))
         (case Cg=>exact E9.out)
         rintro e Ky ⟨rfl,hb⟩
         refine ⟨_,rfl,?_⟩
         have BO:=Aside0.mk (Kd.fu (kr_ Bv.out) hb)
         have BP:=Aside0.mk (aN (g:=Bu) (o:=.cells #[.int .u64 Bz,.slice (some Bt) Bj.length BI] 38 (0,0)) (bk_ Bh.out) hb)
         have BQ:=Aside0.mk (aN (g:=Bw) (o:=.cells #[.int .u64 BF,.slice Dm AZ.length BL] 38 (0,0)) (bk_ Bl.out) hb)
         have BR:=Aside0.mk (aK hb_ hb)
         clear Bv
         clear Bh
         clear Bl
         clear HB
         have Bv:=BO
         have Bh:=BP
         have Bl:=BQ
         have HB:=BR
         clear BO BP BQ BR
         refine hK.out _ _ ⟨(ah Bl.out 0).trans rfl,(ah Bl.out 1).trans rfl,(ah Bh.out 0).trans rfl,(ah Bh.out 1).trans rfl,((HB.out.cell (World.block_lt_of_cell? w _ C9)).trans C9),((HB.out.cell (World.block_lt_of_cell? w _ C8)).trans C8),((HB.out.cell (World.block_lt_of_cell? w _ CZ)).trans CZ),((HB.out.cell (World.block_lt_of_cell? w _ CY)).trans CY),((HB.out.cell (World.block_lt_of_cell? w _ CX)).trans CX),((HB.out.cell (World.block_lt_of_cell? w _ CW)).trans CW),((HB.out.cell (World.block_lt_of_cell? w _ CV)).trans CV)⟩ (fun hHeld=>?_)
         clear hK K
         refine dW (a':=?_) ?_ ?_
         rotate_left
         ·show Act.put _ (some 68) _ = _
          simp only [Act.put,List.setIfInBounds_toArray,List.set_cons_zero,List.set_cons_succ,bJ,bM]
          rfl
         refine pu_ 8 69 #[I,I,I,I,I,I,I,I,I] HT_.out ?_
         refine gP (fF HT_.out (by kernel_rfl)) ?_
         try go_wp2
         go_roundg k2
         case measure=>have:=EP.out;have:=IK.out;omega
         case rel=>exact ⟨(Es),(wrap64 (Bo + 1)),(by first|rfl|(simp;done)|(simp [*];done)),H',⟨by have:=EP.out;have:=IK.out;omega⟩,⟨by (with_reducible repeat (first|apply Kd.fG|apply Kd.fH|apply Kd.eD));exact Bv.out⟩,⟨by (with_reducible repeat (first|apply ay|apply aG|apply aD));exact Bh.out⟩,⟨by (with_reducible repeat (first|apply ay|apply aG|apply aD));exact Bl.out⟩,⟨hb_⟩⟩
       ·rw [if_neg IL] at H
        exact absurd H (by simp)
      ·rw [if_neg c51] at H
       have c51b0 : decide (Bo < (Bj.length : Int)) = false:=decide_eq_false c51
       clear c51
       obtain rfl:=Option.some.inj H
       have J2:=CF.out
       have J3:=CG.out
       have I7 : wr.cell? ⟨Bu,0,none⟩ = some (.int .u64 Bz):=(ah Bh.out 0).trans rfl
       have I8 : wr.cell? ⟨Bu,1,none⟩ = some (.slice BN Bj.length BI):=(ah Bh.out 1).trans rfl
       have I9:=ak Bh.out 0
       have Ja:=ak Bh.out 1
       go_wp2
       go_ret
       exact ⟨_,by first|rfl|(simp [aY,aZ] <;> rfl)|(simp [*,aY,aZ] <;> rfl),by (with_reducible repeat (first|apply Kd.fG|apply Kd.fH|apply Kd.eD));exact Bv.out,hb_⟩
end Go.Proofs.YtpflenjhmeaeoaaGreatDoor.GUt
