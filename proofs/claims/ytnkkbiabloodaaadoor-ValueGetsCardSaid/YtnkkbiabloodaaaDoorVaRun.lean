/- law05's ValueGets: its contract where it is true. No conditions beside those stated. -/
import Derived.Test.YtnkkbiabloodaaaDoorVaCall
import Derived.Test.YtnkkbiabloodaaaDoorGW
import Derived.Test.YtnkkbiabloodaaaDoorGVax6
namespace Go.Proofs.YtnkkbiabloodaaaDoor.GVa
open Go.RowKit Go.Proofs.YtnkkbiabloodaaaDoorW.PrintWords Go.Proofs.YtnkkbiabloodaaaDoorW.PrintLast Go.Proofs.YtnkkbiabloodaaaDoorW.PrintMore
attribute [local go_sem] fG fH fV fZ eO eP fI fJ
set_option linter.unusedVariables false
set_option linter.unusedSimpArgs false
noncomputable def bA.f (k : Nat) (l0 : List S75) (a1 : ByteArray) (a2 : Int) (a3 : Bool) : Option Bool := by
  classical exact if bA.Good k l0 a1 then some true else none
def bA.T6 : Bool × List (List Nat × List Nat) := (true, [([], []), ([], []), ([0, 1], [0, 1]), ([2], [2]), ([3], [3]), ([4, 3, 3], [3, 4]), ([3], [3]), ([5, 6, 5, 3], [3, 5, 6]), ([7, 3], [3, 7]), ([3, 8], [3, 8])])
def bA.B6 : List Nat := [0, 0, 3, 7, 15, 31, 15, 127, 255, 511]
theorem bA.xP : gW .any (opsOf Tryd.f3 6) = bA.T6 := by kernel_rfl
theorem bA.wZ : gF bA.T6.2 bA.B6 = true := by kernel_rfl
def bA.T10 : Bool × List (List Nat × List Nat) := (true, [([], []), ([0, 0], [0]), ([1], [1]), ([1], [1]), ([2, 3, 1], [1, 2, 3]), ([4, 1, 1], [1, 4]), ([5, 5, 1], [1, 5]), ([1], [1]), ([1], [1]), ([7, 8, 1], [1, 7, 8]), ([9, 1], [1, 9]), ([6, 10, 6, 1], [1, 6, 10]), ([1, 11], [1, 11]), ([12, 11], [12]), ([13], [13]), ([13], [13]), ([14, 15, 13], [13, 14, 15]), ([16, 13], [13, 16]), ([17, 13, 13], [13, 17]), ([18, 18, 13], [13, 18]), ([13], [13]), ([13], [13]), ([20, 21, 13], [13, 20, 21]), ([22, 13], [13, 22]), ([23, 13], [13, 23]), ([19, 24, 19, 13], [13, 19, 24]), ([13, 25], [13, 25]), ([26, 25, 0, 1, 2, 3, 4, 5, 6, 7, 8, 9, 10, 11, 12, 13, 14, 15, 16, 17, 18, 19, 20, 21, 22, 23, 24, 25, 26], [26])])
def bA.B10 : List Nat := [0, 1, 3, 3, 15, 31, 63, 3, 3, 387, 899, 2047, 4095, 8191, 16383, 16383, 65535, 131071, 262143, 524287, 16383, 16383, 3162111, 7356415, 15745023, 33554431, 67108863, 134217727]
theorem bA.tN : gW .any (opsOf Tryd.f3 10) = bA.T10 := by kernel_rfl
theorem bA.qj : gF bA.T10.2 bA.B10 = true := by kernel_rfl
set_option maxHeartbeats 16000000 in
set_option maxRecDepth 100000 in
theorem bA.calls (k : Nat) (A0 : Option Addr) (c0 : Nat) (l0 : List (S75)) (a1 : ByteArray) (a2 : Int) (a3 : Bool) (r : Bool) (w : World) (hr0 : Kd.C k75 w A0 l0.length l0) (hc0 : l0.length ≤ c0) (h : bA.f k l0 a1 a2 a3 = some r) (hG : GW.GW w) (hT : r = true) :
    Calls Tryd.prog 3 #[.slice A0 l0.length c0, .string a1, .int .i64 a2, .bool a3] w fun e w' => e = .returned (.bool r) ∧ Below w.heap.size w w' := by
  subst hT
  have hgood : bA.Good k l0 a1 := Classical.byContradiction fun hn => by
    unfold bA.f at h
    rw [if_neg hn] at h; cases h
  clear h
  obtain ⟨hk, hgood⟩ := hgood
  have zP := Tryd.underlying29
  have zQ := Tryd.underlying33
  have zR := Tryd.underlying48
  have zS := Tryd.underlying50
  have zl := Aside0.mk hr0
  have zm := Aside0.mk hc0
  have HK := Aside0.mk hk
  have HG := Aside0.mk hG
  have HA := Aside0.mk (tF k (by omega))
  clear hr0 hc0 hk hG
  rcases hgood with ⟨s, hs, hor⟩ | ⟨hs, hz, x, hx, hO⟩
  · have HS := Aside0.mk hs
    clear hs
    go_enter Tryd.func3, Tryd.ntmps3
    cases s with
    | false =>
      clear hor
      go_wp2_with (first | ((with_reducible refine bV (f := 8) rfl ?_); refine dM (some 16) rfl rfl Tryd.func8 (by kernel_rfl) rfl #[.slice A0 l0.length c0] rfl (by (try simp only [List.map_toArray, List.map_cons, List.map_nil]); first | done | rfl) ?_; refine (bJ.calls k A0 c0 l0 false _ zl.out zm.out HS.out).mono ?_; rintro e w1 ⟨rfl, hb⟩; refine ⟨_, rfl, ?_⟩; have HB := Aside0.mk hb; clear hb) | ((with_reducible refine bV (f := 9) rfl ?_); refine dM (some 23) rfl rfl Tryd.func9 (by kernel_rfl) rfl #[] rfl (by (try simp only [List.map_toArray, List.map_cons, List.map_nil]); first | done | rfl) ?_; refine (dH.calls k true _ HA.out (GW.below HG.out HB.out)).mono ?_; rintro e w2 ⟨rfl, hb⟩; refine ⟨_, rfl, ?_⟩; have HB2 := Aside0.mk (aK HB.out hb); clear hb))
      go_ret
      exact ⟨rfl, HB2.out⟩
    | true =>
      have hz : 5000 < a1.size := by
        rcases hor with h | h
        · cases h
        · exact h
      have z1 : decide (5000 < (a1.size : Int)) = true := decide_eq_true (by omega)
      have z2 : decide (5000 < a1.size) = true := decide_eq_true hz
      have z3 : (5000 < a1.size) = True := eq_true hz
      clear hor hz
      go_wp2_with (first | ((with_reducible refine bV (f := 8) rfl ?_); refine dM (some 16) rfl rfl Tryd.func8 (by kernel_rfl) rfl #[.slice A0 l0.length c0] rfl (by (try simp only [List.map_toArray, List.map_cons, List.map_nil]); first | done | rfl) ?_; refine (bJ.calls k A0 c0 l0 true _ zl.out zm.out HS.out).mono ?_; rintro e w1 ⟨rfl, hb⟩; refine ⟨_, rfl, ?_⟩; have HB := Aside0.mk hb; clear hb) | ((with_reducible refine bV (f := 9) rfl ?_); refine dM (some 23) rfl rfl Tryd.func9 (by kernel_rfl) rfl #[] rfl (by (try simp only [List.map_toArray, List.map_cons, List.map_nil]); first | done | rfl) ?_; refine (dH.calls k true _ HA.out (GW.below HG.out HB.out)).mono ?_; rintro e w2 ⟨rfl, hb⟩; refine ⟨_, rfl, ?_⟩; have HB2 := Aside0.mk (aK HB.out hb); clear hb))
      go_ret
      exact ⟨rfl, HB2.out⟩
  · have HS := Aside0.mk hs
    obtain ⟨X, fb, hX, hget⟩ := vR (n := 81) hO (by omega) a1
    obtain ⟨hg1, hg2⟩ := hget k (by have := HK.out; omega)
    have HO := Aside0.mk hO
    have HOX := Aside0.mk hX.more
    have zT := Aside0.mk hg1
    have HG2 := Aside0.mk hg2
    have HX := Aside0.mk hx
    have HZ := Aside0.mk hz
    have HM := Aside0.mk (show 1000000 ≤ k from Nat.le_trans (by omega) HK.out)
    have z1 : decide (5000 < (a1.size : Int)) = false := decide_eq_false (by omega)
    have z2 : decide (5000 < a1.size) = false := decide_eq_false (by omega)
    have z3 : (5000 < a1.size) = False := eq_false (by omega)
    clear hs hX hget hg1 hg2 hO hx hz
    go_enter Tryd.func3, Tryd.ntmps3
    go_upto_region 3 with (first | ((with_reducible refine bV (f := 8) rfl ?_); refine dM (some 16) rfl rfl Tryd.func8 (by kernel_rfl) rfl #[.slice A0 l0.length c0] rfl (by (try simp only [List.map_toArray, List.map_cons, List.map_nil]); first | done | rfl) ?_; refine (bJ.calls k A0 c0 l0 true _ zl.out zm.out HS.out).mono ?_; rintro e w1 ⟨rfl, hb⟩; refine ⟨_, rfl, ?_⟩; have HB := Aside0.mk hb; clear hb))
    (try simp only [Act.put, List.setIfInBounds_toArray, List.set_cons_zero, List.set_cons_succ])
    clear z1 z2 z3
    go_upto_region 4 with (first | ((with_reducible refine bV (f := 10) rfl ?_); refine dM (some 26) rfl rfl Tryd.func10 (by kernel_rfl) rfl #[.slice A0 l0.length c0] rfl (by (try simp only [List.map_toArray, List.map_cons, List.map_nil]); first | done | rfl) ?_; refine (ql (Kd.bQ zl.out HB.out) zm.out HX.out).mono ?_; rintro e w2 ⟨A4, A4c, A5, A5c, B4, B4c, B5, B5c, rfl, hv, hr, hb⟩; refine ⟨_, rfl, ?_⟩; have HV := Aside0.mk hv; have HR := Aside0.mk hr; replace HB := Aside0.mk (aK HB.out hb); clear hv hr hb) | ((with_reducible refine bH (N := 9) rfl ?_); refine bF ?hg (N := 9) ?hd (cs := #[.int .i64 0,.bool false,.int .i64 0,.string (⟨#[]⟩ : ByteArray),.slice none 0 0,.slice none 0 0]) (t := 29) ?hr ?_; (case hd => rfl); (case hg => rfl); (case hr => first | (go_simp; done) | (go_simp; rfl)); intro g9 hg w3 hbox hb; have H9 := Aside0.mk hbox; have B3 := Aside0.mk hb; have E9 := Aside0.mk hg; clear hbox hb hg; have zo : w3.cell? ⟨g9,0,none⟩ = some (.int .i64 0) := (ah H9.out 0).trans rfl; have zq := aj H9.out 0; have zu : w3.cell? ⟨g9,1,none⟩ = some (.bool false) := (ah H9.out 1).trans rfl; have zw := aj H9.out 1; have zx : w3.cell? ⟨g9,2,none⟩ = some (.int .i64 0) := (ah H9.out 2).trans rfl; have zy := aj H9.out 2; have zA : w3.cell? ⟨g9,3,none⟩ = some (.string (⟨#[]⟩ : ByteArray)) := (ah H9.out 3).trans rfl; have zB := aj H9.out 3; have zC : w3.cell? ⟨g9,4,none⟩ = some (.slice none 0 0) := (ah H9.out 4).trans rfl; have zD := aj H9.out 4; have zF : w3.cell? ⟨g9,5,none⟩ = some (.slice none 0 0) := (ah H9.out 5).trans rfl; have zG := aj H9.out 5) | ((with_reducible refine bH (N := 10) rfl ?_); refine bF ?hg (N := 10) ?hd (cs := #[.int .i64 0,.bool false,.int .i64 0,.string (⟨#[]⟩ : ByteArray),.slice none 0 0,.slice none 0 0]) (t := 33) ?hr ?_; (case hd => rfl); (case hg => rfl); (case hr => first | (go_simp; done) | (go_simp; rfl)); intro g10 hg w4 hbox hb; have xS := Aside0.mk hbox; have xW := Aside0.mk hb; have zL := Aside0.mk hg; clear hbox hb hg; have yh : w4.cell? ⟨g10,0,none⟩ = some (.int .i64 0) := (ah xS.out 0).trans rfl; have yj := aj xS.out 0; have yt : w4.cell? ⟨g10,1,none⟩ = some (.bool false) := (ah xS.out 1).trans rfl; have yu := aj xS.out 1; have yw : w4.cell? ⟨g10,2,none⟩ = some (.int .i64 0) := (ah xS.out 2).trans rfl; have yx := aj xS.out 2; have yA : w4.cell? ⟨g10,3,none⟩ = some (.string (⟨#[]⟩ : ByteArray)) := (ah xS.out 3).trans rfl; have yB := aj xS.out 3; have yC : w4.cell? ⟨g10,4,none⟩ = some (.slice none 0 0) := (ah xS.out 4).trans rfl; have yD := aj xS.out 4; have yE : w4.cell? ⟨g10,5,none⟩ = some (.slice none 0 0) := (ah xS.out 5).trans rfl; have yF := aj xS.out 5; have N1 := Aside0.mk (iN (aI H9.out xW.out) xS.out (by decide)); have n1 := N1.out; have n2 := N1.out.symm; have y0 : w4.cell? ⟨g9,0,none⟩ = some (.int .i64 0) := (ah (aI H9.out xW.out) 0).trans rfl; have zU := aj (aI H9.out xW.out) 0; have y1 : w4.cell? ⟨g9,1,none⟩ = some (.bool false) := (ah (aI H9.out xW.out) 1).trans rfl; have zV := aj (aI H9.out xW.out) 1; have y2 : w4.cell? ⟨g9,2,none⟩ = some (.int .i64 0) := (ah (aI H9.out xW.out) 2).trans rfl; have zW := aj (aI H9.out xW.out) 2; have y3 : w4.cell? ⟨g9,3,none⟩ = some (.string (⟨#[]⟩ : ByteArray)) := (ah (aI H9.out xW.out) 3).trans rfl; have zX := aj (aI H9.out xW.out) 3; have y4 : w4.cell? ⟨g9,4,none⟩ = some (.slice none 0 0) := (ah (aI H9.out xW.out) 4).trans rfl; have zY := aj (aI H9.out xW.out) 4; have y5 : w4.cell? ⟨g9,5,none⟩ = some (.slice none 0 0) := (ah (aI H9.out xW.out) 5).trans rfl; have zZ := aj (aI H9.out xW.out) 5))
    (try simp only [Act.put, List.setIfInBounds_toArray, List.set_cons_zero, List.set_cons_succ])
    have b4 : Below w2.heap.size w2 w4 := aK B3.out xW.out
    obtain ⟨wa, ea, h9, zM, zN, z8⟩ := lX (.int .i64 x.f0) (.bool x.f1) (.int .i64 x.f2) (.string x.f3) (.slice A4 x.f4.length A4c) (.slice A5 x.f5.length A5c) b4 (aI H9.out xW.out) (by rw [E9.out]; exact Nat.le_refl _)
    rw [ea]
    obtain ⟨wb, eb, h10, xZ, hk10, zH⟩ := lX (.int .i64 x.f0) (.bool x.f1) (.int .i64 x.f2) (.string x.f3) (.slice B4 (cZ x.f4).length B4c) (.slice B5 (dz x.f5).length B5c) zM ((zN g10 N1.out.symm).trans xS.out) (by rw [zL.out]; exact B3.out.size)
    rw [eb]
    replace H9 := Aside0.mk ((hk10 g9 N1.out).trans h9)
    replace xS := Aside0.mk h10
    replace HV := Aside0.mk (HV.out.below xZ)
    replace HR := Aside0.mk (HR.out.below xZ)
    replace HB := Aside0.mk (aK HB.out xZ)
    clear ea h9 zM zN z8 eb h10 xZ hk10 zH b4 B3 xW E9 zL n1 n2 N1
    clear y0 zU y1 zV y2 zW y3 zX y4 zY y5 zZ
    clear zo zq zu zw zx zy zA zB zC zD zF zG yh yj yt yu yw yx yA yB yC yD yE yF
    have p0 : wb.cell? ⟨g9,0,none⟩ = some (.int .i64 x.f0) := (ah H9.out 0).trans rfl
    have p1 : wb.cell? ⟨g9,1,none⟩ = some (.bool x.f1) := (ah H9.out 1).trans rfl
    have p2 : wb.cell? ⟨g9,2,none⟩ = some (.int .i64 x.f2) := (ah H9.out 2).trans rfl
    have p3 : wb.cell? ⟨g9,3,none⟩ = some (.string x.f3) := (ah H9.out 3).trans rfl
    have p4 : wb.cell? ⟨g9,4,none⟩ = some (.slice A4 x.f4.length A4c) := (ah H9.out 4).trans rfl
    have p5 : wb.cell? ⟨g9,5,none⟩ = some (.slice A5 x.f5.length A5c) := (ah H9.out 5).trans rfl
    go_upto_region 5 with (first | ((with_reducible refine bV (f := 11) rfl ?_); refine dM (some 32) rfl rfl Tryd.func11 (by kernel_rfl) rfl #[.agg (vc x A4 A4c A5 A5c), .string a1] rfl (by (try simp only [List.map_toArray, List.map_cons, List.map_nil]); first | done | rfl) ?_; refine (tO (X := X) HV.out zT.out).mono ?_; rintro e w5 ⟨C4, C4c, C5, C5c, rfl, hv, hb⟩; refine ⟨_, rfl, ?_⟩; have HVX := Aside0.mk hv; replace HV := Aside0.mk (HV.out.below hb); replace HR := Aside0.mk (HR.out.below hb); replace H9 := Aside0.mk (aI H9.out hb); replace xS := Aside0.mk (aI xS.out hb); replace HB := Aside0.mk (aK HB.out hb); clear hv hb) | ((with_reducible refine bH (N := 11) rfl ?_); refine bF ?hg (N := 11) ?hd (cs := #[.int .i64 0,.bool false,.int .i64 0,.string (⟨#[]⟩ : ByteArray),.slice none 0 0,.slice none 0 0]) (t := 29) ?hr ?_; (case hd => rfl); (case hg => rfl); (case hr => first | (go_simp; done) | (go_simp; rfl)); intro g11 hg w6 hbox hb; have xU := Aside0.mk hbox; have B6 := Aside0.mk hb; have zn := Aside0.mk hg; clear hbox hb hg; have yG : w6.cell? ⟨g11,0,none⟩ = some (.int .i64 0) := (ah xU.out 0).trans rfl; have yH := aj xU.out 0; have yI : w6.cell? ⟨g11,1,none⟩ = some (.bool false) := (ah xU.out 1).trans rfl; have yJ := aj xU.out 1; have yK : w6.cell? ⟨g11,2,none⟩ = some (.int .i64 0) := (ah xU.out 2).trans rfl; have yL := aj xU.out 2; have yM : w6.cell? ⟨g11,3,none⟩ = some (.string (⟨#[]⟩ : ByteArray)) := (ah xU.out 3).trans rfl; have yN := aj xU.out 3; have yO : w6.cell? ⟨g11,4,none⟩ = some (.slice none 0 0) := (ah xU.out 4).trans rfl; have yP := aj xU.out 4; have yQ : w6.cell? ⟨g11,5,none⟩ = some (.slice none 0 0) := (ah xU.out 5).trans rfl; have yR := aj xU.out 5))
    (try simp only [Act.put, List.setIfInBounds_toArray, List.set_cons_zero, List.set_cons_succ])
    obtain ⟨wc, ec, h11, xY, yg, zI⟩ := lX (.int .i64 X.f0) (.bool X.f1) (.int .i64 X.f2) (.string X.f3) (.slice C4 X.f4.length C4c) (.slice C5 X.f5.length C5c) B6.out xU.out (by rw [zn.out]; exact Nat.le_refl _)
    rw [ec]
    replace H9 := Aside0.mk ((yg g9 (by have := bO H9.out; have := zn.out; omega)).trans (aI H9.out B6.out))
    replace xS := Aside0.mk ((yg g10 (by have := bO xS.out; have := zn.out; omega)).trans (aI xS.out B6.out))
    replace xU := Aside0.mk h11
    replace HV := Aside0.mk (HV.out.below xY)
    replace HR := Aside0.mk (HR.out.below xY)
    replace HVX := Aside0.mk (HVX.out.below xY)
    replace HB := Aside0.mk (aK HB.out xY)
    clear ec h11 xY yg zI B6 zn p0 p1 p2 p3 p4 p5
    clear yG yH yI yJ yK yL yM yN yO yP yQ yR
    have p0 : wc.cell? ⟨g10,0,none⟩ = some (.int .i64 x.f0) := (ah xS.out 0).trans rfl
    have p1 : wc.cell? ⟨g10,1,none⟩ = some (.bool x.f1) := (ah xS.out 1).trans rfl
    have p2 : wc.cell? ⟨g10,2,none⟩ = some (.int .i64 x.f2) := (ah xS.out 2).trans rfl
    have p3 : wc.cell? ⟨g10,3,none⟩ = some (.string x.f3) := (ah xS.out 3).trans rfl
    have p4 : wc.cell? ⟨g10,4,none⟩ = some (.slice B4 (cZ x.f4).length B4c) := (ah xS.out 4).trans rfl
    have p5 : wc.cell? ⟨g10,5,none⟩ = some (.slice B5 (dz x.f5).length B5c) := (ah xS.out 5).trans rfl
    go_upto_region 6 with (first | ((with_reducible refine bV (f := 12) rfl ?_); refine dM (some 38) rfl rfl Tryd.func12 (by kernel_rfl) rfl #[.agg (rc x B4 B4c B5 B5c), .string a1] rfl (by (try simp only [List.map_toArray, List.map_cons, List.map_nil]); first | done | rfl) ?_; refine (rF (X := X) HR.out HG2.out).mono ?_; rintro e w7 ⟨D4, D4c, D5, D5c, rfl, hv, hb⟩; refine ⟨_, rfl, ?_⟩; have HRX := Aside0.mk hv; replace HV := Aside0.mk (HV.out.below hb); replace HR := Aside0.mk (HR.out.below hb); replace HVX := Aside0.mk (HVX.out.below hb); replace H9 := Aside0.mk (aI H9.out hb); replace xS := Aside0.mk (aI xS.out hb); replace xU := Aside0.mk (aI xU.out hb); replace HB := Aside0.mk (aK HB.out hb); clear hv hb) | ((with_reducible refine bH (N := 13) rfl ?_); refine bF ?hg (N := 13) ?hd (cs := #[.int .i64 0,.bool false,.int .i64 0,.string (⟨#[]⟩ : ByteArray),.slice none 0 0,.slice none 0 0]) (t := 33) ?hr ?_; (case hd => rfl); (case hg => rfl); (case hr => first | (go_simp; done) | (go_simp; rfl)); intro g13 hg w8 hbox hb; have xV := Aside0.mk hbox; have B8 := Aside0.mk hb; have yS := Aside0.mk hg; clear hbox hb hg; have yT : w8.cell? ⟨g13,0,none⟩ = some (.int .i64 0) := (ah xV.out 0).trans rfl; have yU := aj xV.out 0; have yV : w8.cell? ⟨g13,1,none⟩ = some (.bool false) := (ah xV.out 1).trans rfl; have yX := aj xV.out 1; have yY : w8.cell? ⟨g13,2,none⟩ = some (.int .i64 0) := (ah xV.out 2).trans rfl; have yZ := aj xV.out 2; have za : w8.cell? ⟨g13,3,none⟩ = some (.string (⟨#[]⟩ : ByteArray)) := (ah xV.out 3).trans rfl; have ze := aj xV.out 3; have zf : w8.cell? ⟨g13,4,none⟩ = some (.slice none 0 0) := (ah xV.out 4).trans rfl; have zh := aj xV.out 4; have zi : w8.cell? ⟨g13,5,none⟩ = some (.slice none 0 0) := (ah xV.out 5).trans rfl; have zk := aj xV.out 5))
    (try simp only [Act.put, List.setIfInBounds_toArray, List.set_cons_zero, List.set_cons_succ])
    obtain ⟨wz, ez, zO, xX, yc, zJ⟩ := lX (.int .i64 X.f0) (.bool X.f1) (.int .i64 X.f2) (.string X.f3) (.slice D4 (cZ X.f4).length D4c) (.slice D5 (dz X.f5).length D5c) B8.out xV.out (by rw [yS.out]; exact Nat.le_refl _)
    rw [ez]
    replace H9 := Aside0.mk ((yc g9 (by have := bO H9.out; have := yS.out; omega)).trans (aI H9.out B8.out))
    replace xS := Aside0.mk ((yc g10 (by have := bO xS.out; have := yS.out; omega)).trans (aI xS.out B8.out))
    replace xU := Aside0.mk ((yc g11 (by have := bO xU.out; have := yS.out; omega)).trans (aI xU.out B8.out))
    replace xV := Aside0.mk zO
    replace HV := Aside0.mk (HV.out.below xX)
    replace HR := Aside0.mk (HR.out.below xX)
    replace HVX := Aside0.mk (HVX.out.below xX)
    replace HRX := Aside0.mk (HRX.out.below xX)
    replace HB := Aside0.mk (aK HB.out xX)
    clear ez zO xX yc zJ B8 yS p0 p1 p2 p3 p4 p5
    clear yT yU yV yX yY yZ za ze zf zh zi zk
    have HBW := HB
    refine iE (n := 10) (S := fun w' => Below wz.heap.size wz w') (ds := []) #[false, false, false, false, false, false, false, false, false, false] (by kernel_rfl) rfl rfl (dQ (Below.refl _ _)) (fun hHeld => ?_)
    refine fB bA.xP bA.wZ (fun HT_ HW_ => ?_)
    have HD := Aside0.mk hHeld
    refine bE (i := 0) (N := some 41) (v := ?_) (a' := ?_) #[true, false, false, false, false, false, false, false, false, false] rfl rfl (bg HT_.out (by kernel_rfl)) (fun _ _ _ h => h) (Or.inl ⟨by rfl, ?_⟩) ?_ ?_
    rotate_left
    · intro w'
      go_simp
      with_reducible rfl
    rotate_left
    · simp only [Act.put, List.setIfInBounds_toArray, List.set_cons_zero, List.set_cons_succ, aT, aU]
      rfl
    refine bE (i := 1) (N := some 42) (v := ?_) (a' := ?_) #[true, true, false, false, false, false, false, false, false, false] rfl rfl (bg HT_.out (by kernel_rfl)) (fun _ _ _ h => h) (Or.inl ⟨by rfl, ?_⟩) ?_ ?_
    rotate_left
    · intro w'
      go_simp
      with_reducible rfl
    rotate_left
    · simp only [Act.put, List.setIfInBounds_toArray, List.set_cons_zero, List.set_cons_succ, aT, aU]
      rfl
    refine bE (i := 2) (N := some 43) (v := ?_) (a' := ?_) #[true, true, true, false, false, false, false, false, false, false] rfl rfl (bg HT_.out (by kernel_rfl)) (fun _ _ _ h => h) (Or.inl ⟨by rfl, ?_⟩) ?_ ?_
    rotate_left
    · intro w'
      go_simp
      with_reducible rfl
    rotate_left
    · simp only [Act.put, List.setIfInBounds_toArray, List.set_cons_zero, List.set_cons_succ, aT, aU]
      rfl
    refine bE (i := 3) (N := some 44) (v := ?_) (a' := ?_) #[true, true, true, true, false, false, false, false, false, false] rfl rfl (bg HT_.out (by kernel_rfl)) (fun _ _ _ h => h) (Or.inl ⟨by rfl, ?_⟩) ?_ ?_
    rotate_left
    · intro w'
      go_simp
      with_reducible rfl
    rotate_left
    · simp only [Act.put, List.setIfInBounds_toArray, List.set_cons_zero, List.set_cons_succ, aT, aU]
      rfl
    refine dI (i := 4) (N := some 45) (v := ?_) (a' := ?_) #[true, true, true, true, true, false, false, false, false, false] rfl rfl (bU HT_.out HW_.out (by kernel_rfl)) (fun _ _ _ h => h) (Or.inl ⟨by rfl, ?_⟩) hHeld ?_ ?_
    rotate_left
    · intro w' s0
      have c0 : w'.cell? ⟨g11,0,none⟩ = some (.int .i64 X.f0) := (ah (aI xU.out s0) 0).trans rfl
      have c1 : w'.cell? ⟨g11,1,none⟩ = some (.bool X.f1) := (ah (aI xU.out s0) 1).trans rfl
      have c2 : w'.cell? ⟨g11,2,none⟩ = some (.int .i64 X.f2) := (ah (aI xU.out s0) 2).trans rfl
      have c3 : w'.cell? ⟨g11,3,none⟩ = some (.string X.f3) := (ah (aI xU.out s0) 3).trans rfl
      have c4 : w'.cell? ⟨g11,4,none⟩ = some (.slice C4 X.f4.length C4c) := (ah (aI xU.out s0) 4).trans rfl
      have c5 : w'.cell? ⟨g11,5,none⟩ = some (.slice C5 X.f5.length C5c) := (ah (aI xU.out s0) 5).trans rfl
      have d0 : w'.cell? ⟨g13,0,none⟩ = some (.int .i64 X.f0) := (ah (aI xV.out s0) 0).trans rfl
      have d1 : w'.cell? ⟨g13,1,none⟩ = some (.bool X.f1) := (ah (aI xV.out s0) 1).trans rfl
      have d2 : w'.cell? ⟨g13,2,none⟩ = some (.int .i64 X.f2) := (ah (aI xV.out s0) 2).trans rfl
      have d3 : w'.cell? ⟨g13,3,none⟩ = some (.string X.f3) := (ah (aI xV.out s0) 3).trans rfl
      have d4 : w'.cell? ⟨g13,4,none⟩ = some (.slice D4 (cZ X.f4).length D4c) := (ah (aI xV.out s0) 4).trans rfl
      have d5 : w'.cell? ⟨g13,5,none⟩ = some (.slice D5 (dz X.f5).length D5c) := (ah (aI xV.out s0) 5).trans rfl
      go_simp
      with_reducible rfl
    rotate_left
    · simp only [Act.put, List.setIfInBounds_toArray, List.set_cons_zero, List.set_cons_succ, aT, aU]
      rfl
    refine dI (i := 6) (N := some 47) (v := ?_) (a' := ?_) #[true, true, true, true, true, false, true, false, false, false] rfl rfl (bU HT_.out HW_.out (by kernel_rfl)) (fun _ _ _ h => h) (Or.inl ⟨by rfl, ?_⟩) hHeld ?_ ?_
    rotate_left
    · intro w' s0
      have c0 : w'.cell? ⟨g11,0,none⟩ = some (.int .i64 X.f0) := (ah (aI xU.out s0) 0).trans rfl
      have c1 : w'.cell? ⟨g11,1,none⟩ = some (.bool X.f1) := (ah (aI xU.out s0) 1).trans rfl
      have c2 : w'.cell? ⟨g11,2,none⟩ = some (.int .i64 X.f2) := (ah (aI xU.out s0) 2).trans rfl
      have c3 : w'.cell? ⟨g11,3,none⟩ = some (.string X.f3) := (ah (aI xU.out s0) 3).trans rfl
      have c4 : w'.cell? ⟨g11,4,none⟩ = some (.slice C4 X.f4.length C4c) := (ah (aI xU.out s0) 4).trans rfl
      have c5 : w'.cell? ⟨g11,5,none⟩ = some (.slice C5 X.f5.length C5c) := (ah (aI xU.out s0) 5).trans rfl
      have d0 : w'.cell? ⟨g13,0,none⟩ = some (.int .i64 X.f0) := (ah (aI xV.out s0) 0).trans rfl
      have d1 : w'.cell? ⟨g13,1,none⟩ = some (.bool X.f1) := (ah (aI xV.out s0) 1).trans rfl
      have d2 : w'.cell? ⟨g13,2,none⟩ = some (.int .i64 X.f2) := (ah (aI xV.out s0) 2).trans rfl
      have d3 : w'.cell? ⟨g13,3,none⟩ = some (.string X.f3) := (ah (aI xV.out s0) 3).trans rfl
      have d4 : w'.cell? ⟨g13,4,none⟩ = some (.slice D4 (cZ X.f4).length D4c) := (ah (aI xV.out s0) 4).trans rfl
      have d5 : w'.cell? ⟨g13,5,none⟩ = some (.slice D5 (dz X.f5).length D5c) := (ah (aI xV.out s0) 5).trans rfl
      go_simp
      with_reducible rfl
    rotate_left
    · simp only [Act.put, List.setIfInBounds_toArray, List.set_cons_zero, List.set_cons_succ, aT, aU]
      rfl
    refine fM (i := 5) (N := some 46) #[true, true, true, true, true, true, true, false, false, false] rfl rfl (dx HT_.out (by kernel_rfl)) (by decide) (fun K hK => ?_)
    refine gq Tryd.func14 (by kernel_rfl) rfl #[.agg (vc X C4 C4c C5 C5c)] (by rfl) rfl rfl (by (try simp only [List.map_toArray, List.map_cons, List.map_nil]); first | done | rfl) ?_
    refine (iy HOX.out (by omega) HM.out (HVX.out.below HD.out)).mono ?_
    rintro e wn ⟨F4, F4c, F5, F5c, rfl, hr, hb⟩
    refine ⟨_, rfl, ?_⟩
    have HQ := Aside0.mk hr
    replace HD := Aside0.mk (aK HD.out hb)
    clear hr hb
    refine hK.out _ _ (HD.out) (fun hHeld => ?_)
    clear hK K
    refine cB (a' := ?_) ?_ ?_
    rotate_left
    · show Act.put _ (some 46) _ = _
      simp only [Act.put, List.setIfInBounds_toArray, List.set_cons_zero, List.set_cons_succ, aT, aU]
      rfl
    refine fM (i := 7) (N := some 48) #[true, true, true, true, true, true, true, true, false, false] rfl rfl (dx HT_.out (by kernel_rfl)) (by decide) (fun K hK => ?_)
    refine gq Tryd.func13 (by kernel_rfl) rfl #[.agg (rc X F4 F4c F5 F5c), .agg (rc X D4 D4c D5 D5c)] (by rfl) rfl rfl (by (try simp only [List.map_toArray, List.map_cons, List.map_nil]); first | done | rfl) ?_
    refine (iU HOX.out (by omega) HM.out HQ.out (HRX.out.below HD.out)).mono ?_
    rintro e wn ⟨rfl, hb⟩
    refine ⟨_, rfl, ?_⟩
    replace HD := Aside0.mk (aK HD.out hb)
    clear hb HQ
    refine hK.out _ _ (HD.out) (fun hHeld => ?_)
    clear hK K
    refine cB (a' := ?_) ?_ ?_
    rotate_left
    · show Act.put _ (some 48) _ = _
      simp only [Act.put, List.setIfInBounds_toArray, List.set_cons_zero, List.set_cons_succ, aT, aU]
      rfl
    refine bE (i := 8) (N := some 49) (v := ?_) (a' := ?_) #[true, true, true, true, true, true, true, true, true, false] rfl rfl (bg HT_.out (by kernel_rfl)) (fun _ _ _ h => h) (Or.inl ⟨by rfl, ?_⟩) ?_ ?_
    rotate_left
    · intro w'
      go_simp
      with_reducible rfl
    rotate_left
    · simp only [Act.put, List.setIfInBounds_toArray, List.set_cons_zero, List.set_cons_succ, aT, aU]
      rfl
    refine bE (i := 9) (N := some 50) (v := ?_) (a' := ?_) #[true, true, true, true, true, true, true, true, true, true] rfl rfl (bg HT_.out (by kernel_rfl)) (fun _ _ _ h => h) (Or.inl ⟨by rfl, ?_⟩) ?_ ?_
    rotate_left
    · intro w'
      go_simp
      with_reducible rfl
    rotate_left
    · simp only [Act.put, List.setIfInBounds_toArray, List.set_cons_zero, List.set_cons_succ, aT, aU]
      rfl
    refine jh (gL HT_.out (by kernel_rfl)) ?_
    go_wp2_with (first | ((with_reducible refine bV (f := 15) rfl ?_); refine dM (some 52) rfl rfl Tryd.func15 (by kernel_rfl) rfl #[.string a1] rfl (by (try simp only [List.map_toArray, List.map_cons, List.map_nil]); first | done | rfl) ?_; refine (lM (a := 3) (b := false) (c := 0) (d := a1) (gQ.calls a1 _ _ _ _ _ _ _ rfl)).mono ?_; rintro e wn ⟨F4, F4c, F5, F5c, rfl, hv, hb⟩; refine ⟨_, rfl, ?_⟩; have HQ := Aside0.mk hv; clear hv; replace HD := Aside0.mk (aK HD.out hb); clear hb) | ((with_reducible refine bV (f := 14) rfl ?_); refine dM (some 53) rfl rfl Tryd.func14 (by kernel_rfl) rfl #[.agg (vc (flat 3 false 0 a1) F4 F4c F5 F5c)] rfl (by (try simp only [List.map_toArray, List.map_cons, List.map_nil]); first | done | rfl) ?_; refine (iy (n := 1) (x := flat 3 false 0 a1) (⟨by show ByteArray.size a1 ≤ 100000; have := HZ.out; omega, Nat.zero_le _, Nat.zero_le _, fun v hv => (by cases hv), fun q hq => (by cases hq)⟩) (by omega) HM.out HQ.out).mono ?_; rintro e wn ⟨E4, E4c, E5, E5c, rfl, hv, hb⟩; refine ⟨_, rfl, ?_⟩; replace HQ := Aside0.mk hv; clear hv; replace HD := Aside0.mk (aK HD.out hb); clear hb) | ((with_reducible refine bV (f := 13) rfl ?_); refine dM (some 56) rfl rfl Tryd.func13 (by kernel_rfl) rfl #[.agg (rc (flat 3 false 0 a1) E4 E4c E5 E5c), .agg (rc (flat 3 false 0 a1) none 0 none 0)] rfl (by (try simp only [List.map_toArray, List.map_cons, List.map_nil]); first | done | rfl) ?_; refine (iU (n := 1) (x := flat 3 false 0 a1) (⟨by show ByteArray.size a1 ≤ 100000; have := HZ.out; omega, Nat.zero_le _, Nat.zero_le _, fun v hv => (by cases hv), fun q hq => (by cases hq)⟩) (by omega) HM.out HQ.out (RR.nil _ _ _ _)).mono ?_; rintro e wn ⟨rfl, hb⟩; refine ⟨_, rfl, ?_⟩; clear HQ; replace HD := Aside0.mk (aK HD.out hb); clear hb))
    go_wp2_with (first | (go_at_call 16; refine (lM (a := 2) (b := false) (c := a2) (d := ⟨#[]⟩) (gT.calls a2 _ _ _ _ _ _ _ rfl)).mono ?_; rintro e wn ⟨F4, F4c, F5, F5c, rfl, hv, hb⟩; have HQ := Aside0.mk hv; clear hv; replace HD := Aside0.mk (aK HD.out hb); clear hb) | (go_at_call 14; refine (iy (n := 1) (x := flat 2 false a2 ⟨#[]⟩) (⟨by show (0 : Nat) ≤ 100000; omega, Nat.zero_le _, Nat.zero_le _, fun v hv => (by cases hv), fun q hq => (by cases hq)⟩) (by omega) HM.out HQ.out).mono ?_; rintro e wn ⟨E4, E4c, E5, E5c, rfl, hv, hb⟩; replace HQ := Aside0.mk hv; clear hv; replace HD := Aside0.mk (aK HD.out hb); clear hb) | (go_at_call 13; refine (iU (n := 1) (x := flat 2 false a2 ⟨#[]⟩) (⟨by show (0 : Nat) ≤ 100000; omega, Nat.zero_le _, Nat.zero_le _, fun v hv => (by cases hv), fun q hq => (by cases hq)⟩) (by omega) HM.out HQ.out (RR.nil _ _ _ _)).mono ?_; rintro e wn ⟨rfl, hb⟩; clear HQ; replace HD := Aside0.mk (aK HD.out hb); clear hb))
    go_wp2_with (first | (go_at_call 17; refine (lM (a := 1) (b := a3) (c := 0) (d := ⟨#[]⟩) (lK.calls a3 _ _ _ _ _ _ _ rfl)).mono ?_; rintro e wn ⟨F4, F4c, F5, F5c, rfl, hv, hb⟩; have HQ := Aside0.mk hv; clear hv; replace HD := Aside0.mk (aK HD.out hb); clear hb) | (go_at_call 14; refine (iy (n := 1) (x := flat 1 a3 0 ⟨#[]⟩) (⟨by show (0 : Nat) ≤ 100000; omega, Nat.zero_le _, Nat.zero_le _, fun v hv => (by cases hv), fun q hq => (by cases hq)⟩) (by omega) HM.out HQ.out).mono ?_; rintro e wn ⟨E4, E4c, E5, E5c, rfl, hv, hb⟩; replace HQ := Aside0.mk hv; clear hv; replace HD := Aside0.mk (aK HD.out hb); clear hb) | (go_at_call 13; refine (iU (n := 1) (x := flat 1 a3 0 ⟨#[]⟩) (⟨by show (0 : Nat) ≤ 100000; omega, Nat.zero_le _, Nat.zero_le _, fun v hv => (by cases hv), fun q hq => (by cases hq)⟩) (by omega) HM.out HQ.out (RR.nil _ _ _ _)).mono ?_; rintro e wn ⟨rfl, hb⟩; clear HQ; replace HD := Aside0.mk (aK HD.out hb); clear hb))
    replace HV := Aside0.mk (HV.out.below HD.out)
    replace HR := Aside0.mk (HR.out.below HD.out)
    replace HVX := Aside0.mk (HVX.out.below HD.out)
    replace HRX := Aside0.mk (HRX.out.below HD.out)
    replace H9 := Aside0.mk (aI H9.out HD.out)
    replace xS := Aside0.mk (aI xS.out HD.out)
    replace xU := Aside0.mk (aI xU.out HD.out)
    replace xV := Aside0.mk (aI xV.out HD.out)
    replace HBW := Aside0.mk (aK HBW.out HD.out)
    clear HB HD
    obtain ⟨wy, hwy⟩ : ∃ q, q = wn := ⟨_, rfl⟩
    subst hwy
    try go_wp2
    have HOKR := Aside0.mk (vW HO.out HOX.out)
    have HOKM := Aside0.mk (vX (key := a1) HO.out (by have := HZ.out; omega))
    refine iE (n := 28) (S := fun w' => Below wy.heap.size wy w') (ds := []) #[false, false, false, false, false, false, false, false, false, false, false, false, false, false, false, false, false, false, false, false, false, false, false, false, false, false, false, false] (by kernel_rfl) rfl rfl (dQ (Below.refl _ _)) (fun hHeld => ?_)
    refine fB bA.tN bA.qj (fun HT_ HW_ => ?_)
    have HD := Aside0.mk hHeld
    refine fM (i := 0) (N := some 76) #[true, false, false, false, false, false, false, false, false, false, false, false, false, false, false, false, false, false, false, false, false, false, false, false, false, false, false, false] rfl rfl (dx HT_.out (by kernel_rfl)) (by decide) (fun K hK => ?_)
    refine gq Tryd.func9 (by kernel_rfl) rfl #[] (by rfl) rfl rfl (by (try simp only [List.map_toArray, List.map_cons, List.map_nil]); first | done | rfl) ?_
    refine (dH.calls k true _ HA.out (GW.below HG.out (aK HBW.out HD.out))).mono ?_
    rintro e wn ⟨rfl, hb⟩
    refine ⟨_, rfl, ?_⟩
    replace HD := Aside0.mk (aK HD.out hb)
    clear hb
    refine hK.out _ _ (HD.out) (fun hHeld => ?_)
    clear hK K
    refine cB (a' := ?_) ?_ ?_
    rotate_left
    · show Act.put _ (some 76) _ = _
      simp only [Act.put, List.setIfInBounds_toArray, List.set_cons_zero, List.set_cons_succ, aT, aU]
      rfl
    refine bE (i := 1) (N := some 77) (v := ?_) (a' := ?_) #[true, true, false, false, false, false, false, false, false, false, false, false, false, false, false, false, false, false, false, false, false, false, false, false, false, false, false, false] rfl rfl (bg HT_.out (by kernel_rfl)) (fun _ _ _ h => h) (Or.inl ⟨by rfl, ?_⟩) ?_ ?_
    rotate_left
    · intro w'
      go_simp
      with_reducible rfl
    rotate_left
    · simp only [Act.put, List.setIfInBounds_toArray, List.set_cons_zero, List.set_cons_succ, aT, aU]
      rfl
    refine dI (i := 2) (N := some 78) (v := ?_) (a' := ?_) #[true, true, true, false, false, false, false, false, false, false, false, false, false, false, false, false, false, false, false, false, false, false, false, false, false, false, false, false] rfl rfl (bU HT_.out HW_.out (by kernel_rfl)) (fun _ _ _ h => h) (Or.inl ⟨by rfl, ?_⟩) hHeld ?_ ?_
    rotate_left
    · intro w' s0
      have a0 : w'.cell? ⟨g9,0,none⟩ = some (.int .i64 x.f0) := (ah (aI H9.out s0) 0).trans rfl
      have a1 : w'.cell? ⟨g9,1,none⟩ = some (.bool x.f1) := (ah (aI H9.out s0) 1).trans rfl
      have a2 : w'.cell? ⟨g9,2,none⟩ = some (.int .i64 x.f2) := (ah (aI H9.out s0) 2).trans rfl
      have a3 : w'.cell? ⟨g9,3,none⟩ = some (.string x.f3) := (ah (aI H9.out s0) 3).trans rfl
      have a4 : w'.cell? ⟨g9,4,none⟩ = some (.slice A4 x.f4.length A4c) := (ah (aI H9.out s0) 4).trans rfl
      have a5 : w'.cell? ⟨g9,5,none⟩ = some (.slice A5 x.f5.length A5c) := (ah (aI H9.out s0) 5).trans rfl
      have b0 : w'.cell? ⟨g10,0,none⟩ = some (.int .i64 x.f0) := (ah (aI xS.out s0) 0).trans rfl
      have b1 : w'.cell? ⟨g10,1,none⟩ = some (.bool x.f1) := (ah (aI xS.out s0) 1).trans rfl
      have b2 : w'.cell? ⟨g10,2,none⟩ = some (.int .i64 x.f2) := (ah (aI xS.out s0) 2).trans rfl
      have b3 : w'.cell? ⟨g10,3,none⟩ = some (.string x.f3) := (ah (aI xS.out s0) 3).trans rfl
      have b4 : w'.cell? ⟨g10,4,none⟩ = some (.slice B4 (cZ x.f4).length B4c) := (ah (aI xS.out s0) 4).trans rfl
      have b5 : w'.cell? ⟨g10,5,none⟩ = some (.slice B5 (dz x.f5).length B5c) := (ah (aI xS.out s0) 5).trans rfl
      have c0 : w'.cell? ⟨g11,0,none⟩ = some (.int .i64 X.f0) := (ah (aI xU.out s0) 0).trans rfl
      have c1 : w'.cell? ⟨g11,1,none⟩ = some (.bool X.f1) := (ah (aI xU.out s0) 1).trans rfl
      have c2 : w'.cell? ⟨g11,2,none⟩ = some (.int .i64 X.f2) := (ah (aI xU.out s0) 2).trans rfl
      have c3 : w'.cell? ⟨g11,3,none⟩ = some (.string X.f3) := (ah (aI xU.out s0) 3).trans rfl
      have c4 : w'.cell? ⟨g11,4,none⟩ = some (.slice C4 X.f4.length C4c) := (ah (aI xU.out s0) 4).trans rfl
      have c5 : w'.cell? ⟨g11,5,none⟩ = some (.slice C5 X.f5.length C5c) := (ah (aI xU.out s0) 5).trans rfl
      have d0 : w'.cell? ⟨g13,0,none⟩ = some (.int .i64 X.f0) := (ah (aI xV.out s0) 0).trans rfl
      have d1 : w'.cell? ⟨g13,1,none⟩ = some (.bool X.f1) := (ah (aI xV.out s0) 1).trans rfl
      have d2 : w'.cell? ⟨g13,2,none⟩ = some (.int .i64 X.f2) := (ah (aI xV.out s0) 2).trans rfl
      have d3 : w'.cell? ⟨g13,3,none⟩ = some (.string X.f3) := (ah (aI xV.out s0) 3).trans rfl
      have d4 : w'.cell? ⟨g13,4,none⟩ = some (.slice D4 (cZ X.f4).length D4c) := (ah (aI xV.out s0) 4).trans rfl
      have d5 : w'.cell? ⟨g13,5,none⟩ = some (.slice D5 (dz X.f5).length D5c) := (ah (aI xV.out s0) 5).trans rfl
      go_simp
      with_reducible rfl
    rotate_left
    · simp only [Act.put, List.setIfInBounds_toArray, List.set_cons_zero, List.set_cons_succ, aT, aU]
      rfl
    refine dI (i := 3) (N := some 79) (v := ?_) (a' := ?_) #[true, true, true, true, false, false, false, false, false, false, false, false, false, false, false, false, false, false, false, false, false, false, false, false, false, false, false, false] rfl rfl (bU HT_.out HW_.out (by kernel_rfl)) (fun _ _ _ h => h) (Or.inl ⟨by rfl, ?_⟩) hHeld ?_ ?_
    rotate_left
    · intro w' s0
      have a0 : w'.cell? ⟨g9,0,none⟩ = some (.int .i64 x.f0) := (ah (aI H9.out s0) 0).trans rfl
      have a1 : w'.cell? ⟨g9,1,none⟩ = some (.bool x.f1) := (ah (aI H9.out s0) 1).trans rfl
      have a2 : w'.cell? ⟨g9,2,none⟩ = some (.int .i64 x.f2) := (ah (aI H9.out s0) 2).trans rfl
      have a3 : w'.cell? ⟨g9,3,none⟩ = some (.string x.f3) := (ah (aI H9.out s0) 3).trans rfl
      have a4 : w'.cell? ⟨g9,4,none⟩ = some (.slice A4 x.f4.length A4c) := (ah (aI H9.out s0) 4).trans rfl
      have a5 : w'.cell? ⟨g9,5,none⟩ = some (.slice A5 x.f5.length A5c) := (ah (aI H9.out s0) 5).trans rfl
      have b0 : w'.cell? ⟨g10,0,none⟩ = some (.int .i64 x.f0) := (ah (aI xS.out s0) 0).trans rfl
      have b1 : w'.cell? ⟨g10,1,none⟩ = some (.bool x.f1) := (ah (aI xS.out s0) 1).trans rfl
      have b2 : w'.cell? ⟨g10,2,none⟩ = some (.int .i64 x.f2) := (ah (aI xS.out s0) 2).trans rfl
      have b3 : w'.cell? ⟨g10,3,none⟩ = some (.string x.f3) := (ah (aI xS.out s0) 3).trans rfl
      have b4 : w'.cell? ⟨g10,4,none⟩ = some (.slice B4 (cZ x.f4).length B4c) := (ah (aI xS.out s0) 4).trans rfl
      have b5 : w'.cell? ⟨g10,5,none⟩ = some (.slice B5 (dz x.f5).length B5c) := (ah (aI xS.out s0) 5).trans rfl
      have c0 : w'.cell? ⟨g11,0,none⟩ = some (.int .i64 X.f0) := (ah (aI xU.out s0) 0).trans rfl
      have c1 : w'.cell? ⟨g11,1,none⟩ = some (.bool X.f1) := (ah (aI xU.out s0) 1).trans rfl
      have c2 : w'.cell? ⟨g11,2,none⟩ = some (.int .i64 X.f2) := (ah (aI xU.out s0) 2).trans rfl
      have c3 : w'.cell? ⟨g11,3,none⟩ = some (.string X.f3) := (ah (aI xU.out s0) 3).trans rfl
      have c4 : w'.cell? ⟨g11,4,none⟩ = some (.slice C4 X.f4.length C4c) := (ah (aI xU.out s0) 4).trans rfl
      have c5 : w'.cell? ⟨g11,5,none⟩ = some (.slice C5 X.f5.length C5c) := (ah (aI xU.out s0) 5).trans rfl
      have d0 : w'.cell? ⟨g13,0,none⟩ = some (.int .i64 X.f0) := (ah (aI xV.out s0) 0).trans rfl
      have d1 : w'.cell? ⟨g13,1,none⟩ = some (.bool X.f1) := (ah (aI xV.out s0) 1).trans rfl
      have d2 : w'.cell? ⟨g13,2,none⟩ = some (.int .i64 X.f2) := (ah (aI xV.out s0) 2).trans rfl
      have d3 : w'.cell? ⟨g13,3,none⟩ = some (.string X.f3) := (ah (aI xV.out s0) 3).trans rfl
      have d4 : w'.cell? ⟨g13,4,none⟩ = some (.slice D4 (cZ X.f4).length D4c) := (ah (aI xV.out s0) 4).trans rfl
      have d5 : w'.cell? ⟨g13,5,none⟩ = some (.slice D5 (dz X.f5).length D5c) := (ah (aI xV.out s0) 5).trans rfl
      go_simp
      with_reducible rfl
    rotate_left
    · simp only [Act.put, List.setIfInBounds_toArray, List.set_cons_zero, List.set_cons_succ, aT, aU]
      rfl
    refine dI (i := 7) (N := some 83) (v := ?_) (a' := ?_) #[true, true, true, true, false, false, false, true, false, false, false, false, false, false, false, false, false, false, false, false, false, false, false, false, false, false, false, false] rfl rfl (bU HT_.out HW_.out (by kernel_rfl)) (fun _ _ _ h => h) (Or.inl ⟨by rfl, ?_⟩) hHeld ?_ ?_
    rotate_left
    · intro w' s0
      have a0 : w'.cell? ⟨g9,0,none⟩ = some (.int .i64 x.f0) := (ah (aI H9.out s0) 0).trans rfl
      have a1 : w'.cell? ⟨g9,1,none⟩ = some (.bool x.f1) := (ah (aI H9.out s0) 1).trans rfl
      have a2 : w'.cell? ⟨g9,2,none⟩ = some (.int .i64 x.f2) := (ah (aI H9.out s0) 2).trans rfl
      have a3 : w'.cell? ⟨g9,3,none⟩ = some (.string x.f3) := (ah (aI H9.out s0) 3).trans rfl
      have a4 : w'.cell? ⟨g9,4,none⟩ = some (.slice A4 x.f4.length A4c) := (ah (aI H9.out s0) 4).trans rfl
      have a5 : w'.cell? ⟨g9,5,none⟩ = some (.slice A5 x.f5.length A5c) := (ah (aI H9.out s0) 5).trans rfl
      have b0 : w'.cell? ⟨g10,0,none⟩ = some (.int .i64 x.f0) := (ah (aI xS.out s0) 0).trans rfl
      have b1 : w'.cell? ⟨g10,1,none⟩ = some (.bool x.f1) := (ah (aI xS.out s0) 1).trans rfl
      have b2 : w'.cell? ⟨g10,2,none⟩ = some (.int .i64 x.f2) := (ah (aI xS.out s0) 2).trans rfl
      have b3 : w'.cell? ⟨g10,3,none⟩ = some (.string x.f3) := (ah (aI xS.out s0) 3).trans rfl
      have b4 : w'.cell? ⟨g10,4,none⟩ = some (.slice B4 (cZ x.f4).length B4c) := (ah (aI xS.out s0) 4).trans rfl
      have b5 : w'.cell? ⟨g10,5,none⟩ = some (.slice B5 (dz x.f5).length B5c) := (ah (aI xS.out s0) 5).trans rfl
      have c0 : w'.cell? ⟨g11,0,none⟩ = some (.int .i64 X.f0) := (ah (aI xU.out s0) 0).trans rfl
      have c1 : w'.cell? ⟨g11,1,none⟩ = some (.bool X.f1) := (ah (aI xU.out s0) 1).trans rfl
      have c2 : w'.cell? ⟨g11,2,none⟩ = some (.int .i64 X.f2) := (ah (aI xU.out s0) 2).trans rfl
      have c3 : w'.cell? ⟨g11,3,none⟩ = some (.string X.f3) := (ah (aI xU.out s0) 3).trans rfl
      have c4 : w'.cell? ⟨g11,4,none⟩ = some (.slice C4 X.f4.length C4c) := (ah (aI xU.out s0) 4).trans rfl
      have c5 : w'.cell? ⟨g11,5,none⟩ = some (.slice C5 X.f5.length C5c) := (ah (aI xU.out s0) 5).trans rfl
      have d0 : w'.cell? ⟨g13,0,none⟩ = some (.int .i64 X.f0) := (ah (aI xV.out s0) 0).trans rfl
      have d1 : w'.cell? ⟨g13,1,none⟩ = some (.bool X.f1) := (ah (aI xV.out s0) 1).trans rfl
      have d2 : w'.cell? ⟨g13,2,none⟩ = some (.int .i64 X.f2) := (ah (aI xV.out s0) 2).trans rfl
      have d3 : w'.cell? ⟨g13,3,none⟩ = some (.string X.f3) := (ah (aI xV.out s0) 3).trans rfl
      have d4 : w'.cell? ⟨g13,4,none⟩ = some (.slice D4 (cZ X.f4).length D4c) := (ah (aI xV.out s0) 4).trans rfl
      have d5 : w'.cell? ⟨g13,5,none⟩ = some (.slice D5 (dz X.f5).length D5c) := (ah (aI xV.out s0) 5).trans rfl
      go_simp
      with_reducible rfl
    rotate_left
    · simp only [Act.put, List.setIfInBounds_toArray, List.set_cons_zero, List.set_cons_succ, aT, aU]
      rfl
    refine dI (i := 8) (N := some 84) (v := ?_) (a' := ?_) #[true, true, true, true, false, false, false, true, true, false, false, false, false, false, false, false, false, false, false, false, false, false, false, false, false, false, false, false] rfl rfl (bU HT_.out HW_.out (by kernel_rfl)) (fun _ _ _ h => h) (Or.inl ⟨by rfl, ?_⟩) hHeld ?_ ?_
    rotate_left
    · intro w' s0
      have a0 : w'.cell? ⟨g9,0,none⟩ = some (.int .i64 x.f0) := (ah (aI H9.out s0) 0).trans rfl
      have a1 : w'.cell? ⟨g9,1,none⟩ = some (.bool x.f1) := (ah (aI H9.out s0) 1).trans rfl
      have a2 : w'.cell? ⟨g9,2,none⟩ = some (.int .i64 x.f2) := (ah (aI H9.out s0) 2).trans rfl
      have a3 : w'.cell? ⟨g9,3,none⟩ = some (.string x.f3) := (ah (aI H9.out s0) 3).trans rfl
      have a4 : w'.cell? ⟨g9,4,none⟩ = some (.slice A4 x.f4.length A4c) := (ah (aI H9.out s0) 4).trans rfl
      have a5 : w'.cell? ⟨g9,5,none⟩ = some (.slice A5 x.f5.length A5c) := (ah (aI H9.out s0) 5).trans rfl
      have b0 : w'.cell? ⟨g10,0,none⟩ = some (.int .i64 x.f0) := (ah (aI xS.out s0) 0).trans rfl
      have b1 : w'.cell? ⟨g10,1,none⟩ = some (.bool x.f1) := (ah (aI xS.out s0) 1).trans rfl
      have b2 : w'.cell? ⟨g10,2,none⟩ = some (.int .i64 x.f2) := (ah (aI xS.out s0) 2).trans rfl
      have b3 : w'.cell? ⟨g10,3,none⟩ = some (.string x.f3) := (ah (aI xS.out s0) 3).trans rfl
      have b4 : w'.cell? ⟨g10,4,none⟩ = some (.slice B4 (cZ x.f4).length B4c) := (ah (aI xS.out s0) 4).trans rfl
      have b5 : w'.cell? ⟨g10,5,none⟩ = some (.slice B5 (dz x.f5).length B5c) := (ah (aI xS.out s0) 5).trans rfl
      have c0 : w'.cell? ⟨g11,0,none⟩ = some (.int .i64 X.f0) := (ah (aI xU.out s0) 0).trans rfl
      have c1 : w'.cell? ⟨g11,1,none⟩ = some (.bool X.f1) := (ah (aI xU.out s0) 1).trans rfl
      have c2 : w'.cell? ⟨g11,2,none⟩ = some (.int .i64 X.f2) := (ah (aI xU.out s0) 2).trans rfl
      have c3 : w'.cell? ⟨g11,3,none⟩ = some (.string X.f3) := (ah (aI xU.out s0) 3).trans rfl
      have c4 : w'.cell? ⟨g11,4,none⟩ = some (.slice C4 X.f4.length C4c) := (ah (aI xU.out s0) 4).trans rfl
      have c5 : w'.cell? ⟨g11,5,none⟩ = some (.slice C5 X.f5.length C5c) := (ah (aI xU.out s0) 5).trans rfl
      have d0 : w'.cell? ⟨g13,0,none⟩ = some (.int .i64 X.f0) := (ah (aI xV.out s0) 0).trans rfl
      have d1 : w'.cell? ⟨g13,1,none⟩ = some (.bool X.f1) := (ah (aI xV.out s0) 1).trans rfl
      have d2 : w'.cell? ⟨g13,2,none⟩ = some (.int .i64 X.f2) := (ah (aI xV.out s0) 2).trans rfl
      have d3 : w'.cell? ⟨g13,3,none⟩ = some (.string X.f3) := (ah (aI xV.out s0) 3).trans rfl
      have d4 : w'.cell? ⟨g13,4,none⟩ = some (.slice D4 (cZ X.f4).length D4c) := (ah (aI xV.out s0) 4).trans rfl
      have d5 : w'.cell? ⟨g13,5,none⟩ = some (.slice D5 (dz X.f5).length D5c) := (ah (aI xV.out s0) 5).trans rfl
      go_simp
      with_reducible rfl
    rotate_left
    · simp only [Act.put, List.setIfInBounds_toArray, List.set_cons_zero, List.set_cons_succ, aT, aU]
      rfl
    refine oQ (σ := Value × Value × Value × Value) 17 #[true, true, true, true, true, true, true, true, true, true, true, false, false, false, false, false, false, false, false, false, false, false, false, false, false, false, false, false] (fun s => [(80, s.1), (81, s.2.1), (82, s.2.2.1), (85, s.2.2.2), (86, .agg #[.int .i64 4, .bool false, .int .i64 0, .string (⟨#[]⟩ : ByteArray), s.2.2.2, .slice none 0 0])]) (fun s w' => Aside0 (Below wy.heap.size wy w') ∧ (∃ E4 E4c E5 E5c, s.2.2.1 = .agg (rc (iL x X) E4 E4c E5 E5c) ∧ Aside0 (RR w' (iL x X) E4 E4c E5 E5c)) ∧ Aside0 (Kd.V k33 33 w' 0 yes s.2.2.2 [toR x, toR X])) ?_ ?_
    rotate_left
    · intro hCont
      refine mR (i := 4) (j := 9) (Ni := some 80) (Nj := some 85) #[true, true, true, true, true, false, false, true, true, false, false, false, false, false, false, false, false, false, false, false, false, false, false, false, false, false, false, false] #[true, true, true, true, false, false, false, true, true, true, false, false, false, false, false, false, false, false, false, false, false, false, false, false, false, false, false, false] rfl rfl rfl rfl (iW HT_.out (by kernel_rfl)) (by decide) (by decide) (fun K hK => ?_) (fun K hK => ?_)
      · skip
        refine Kd.dA k29 (w0 := wy) wy.heap.size 29 ?hg (N' := 80) ?hd (xs := [x, X]) (inner := [.int .i64 x.f0, .bool x.f1, .int .i64 x.f2, .string x.f3, .slice A4 x.f4.length A4c, .slice A5 x.f5.length A5c, .int .i64 X.f0, .bool X.f1, .int .i64 X.f2, .string X.f3, .slice C4 X.f4.length C4c, .slice C5 X.f5.length C5c]) (ok := yes) (okp := yes) ?hr ?hp (fun _ hk => hk) trivial HD.out HD.out.size (by simp) ?_
        (case hd => rfl)
        (case hg => rfl)
        (case hr => first | (go_simp; done) | (go_simp; rfl))
        (case hp => exact cu.c6 (HV.out.below HD.out).fk (cu.c6 (HVX.out.below HD.out).fk (cu.none _ _)))
        intro v80 wa hn hb_ hg_ hnew_
        have hb2 := dB hg_
        clear hb_ hg_ hnew_
        replace HD := Aside0.mk (aK HD.out hb2)
        have HL := Aside0.mk (Kd.N_V (base' := 0) hn)
        clear hn hb2
        obtain ⟨HLA, HLc, eHL⟩ := Kd.dJ HL.out
        subst eHL
        refine hK.out _ _ (HD.out) (fun hHeld => ?_)
        clear hK K
        refine cB (a' := ?_) ?_ ?_
        rotate_left
        · show Act.put _ (some 80) _ = _
          simp only [Act.put, List.setIfInBounds_toArray, List.set_cons_zero, List.set_cons_succ, aT, aU]
          rfl
        refine mR (i := 5) (j := 9) (Ni := some 81) (Nj := some 85) #[true, true, true, true, true, true, false, true, true, false, false, false, false, false, false, false, false, false, false, false, false, false, false, false, false, false, false, false] #[true, true, true, true, true, false, false, true, true, true, false, false, false, false, false, false, false, false, false, false, false, false, false, false, false, false, false, false] rfl rfl rfl rfl (iW HT_.out (by kernel_rfl)) (by decide) (by decide) (fun K hK => ?_) (fun K hK => ?_)
        · skip
          refine gq Tryd.func18 (by kernel_rfl) rfl #[.slice HLA [x, X].length HLc] (by rfl) rfl rfl (by (try simp only [List.map_toArray, List.map_cons, List.map_nil]); first | done | rfl) ?_
          refine (nC (by show (2 : Nat) ≤ 1000; omega) HL.out).mono ?_
          rintro e wn ⟨F4, F4c, F5, F5c, rfl, hv, hb⟩
          refine ⟨_, rfl, ?_⟩
          have hb2 := hb
          clear hb
          have HQ := Aside0.mk (show VV _ (iL x X) F4 F4c F5 F5c from hv)
          clear hv HL
          replace HD := Aside0.mk (aK HD.out hb2)
          clear hb2
          refine hK.out _ _ (HD.out) (fun hHeld => ?_)
          clear hK K
          refine cB (a' := ?_) ?_ ?_
          rotate_left
          · show Act.put _ (some 81) _ = _
            simp only [Act.put, List.setIfInBounds_toArray, List.set_cons_zero, List.set_cons_succ, aT, aU]
            rfl
          refine mR (i := 6) (j := 9) (Ni := some 82) (Nj := some 85) #[true, true, true, true, true, true, true, true, true, false, false, false, false, false, false, false, false, false, false, false, false, false, false, false, false, false, false, false] #[true, true, true, true, true, true, false, true, true, true, false, false, false, false, false, false, false, false, false, false, false, false, false, false, false, false, false, false] rfl rfl rfl rfl (iW HT_.out (by kernel_rfl)) (by decide) (by decide) (fun K hK => ?_) (fun K hK => ?_)
          · skip
            refine gq Tryd.func14 (by kernel_rfl) rfl #[.agg (vc (iL x X) F4 F4c F5 F5c)] (by rfl) rfl rfl (by (try simp only [List.map_toArray, List.map_cons, List.map_nil]); first | done | rfl) ?_
            refine (iy (n := 83) (x := (iL x X)) HOKR.out (by omega) HM.out HQ.out).mono ?_
            rintro e wn ⟨E4, E4c, E5, E5c, rfl, hv, hb⟩
            refine ⟨_, rfl, ?_⟩
            have hb2 := hb
            clear hb
            have HU := Aside0.mk hv
            clear hv HQ
            replace HD := Aside0.mk (aK HD.out hb2)
            clear hb2
            refine hK.out _ _ (HD.out) (fun hHeld => ?_)
            clear hK K
            refine cB (a' := ?_) ?_ ?_
            rotate_left
            · show Act.put _ (some 82) _ = _
              simp only [Act.put, List.setIfInBounds_toArray, List.set_cons_zero, List.set_cons_succ, aT, aU]
              rfl
            refine fM (i := 9) (N := some 85) #[true, true, true, true, true, true, true, true, true, true, false, false, false, false, false, false, false, false, false, false, false, false, false, false, false, false, false, false] rfl rfl (dx HT_.out (by kernel_rfl)) (by decide) (fun K hK => ?_)
            refine Kd.dA k33 (w0 := wy) wy.heap.size 33 ?hg (N' := 85) ?hd (xs := [toR x, toR X]) (inner := [.int .i64 x.f0, .bool x.f1, .int .i64 x.f2, .string x.f3, .slice B4 (cZ x.f4).length B4c, .slice B5 (dz x.f5).length B5c, .int .i64 X.f0, .bool X.f1, .int .i64 X.f2, .string X.f3, .slice D4 (cZ X.f4).length D4c, .slice D5 (dz X.f5).length D5c]) (ok := yes) (okp := yes) ?hr ?hp (fun _ hk => hk) trivial HD.out HD.out.size (by simp) ?_
            (case hd => rfl)
            (case hg => rfl)
            (case hr => first | (go_simp; done) | (go_simp; rfl))
            (case hp => exact cu.c6 (HR.out.below HD.out).fk (cu.c6 (HRX.out.below HD.out).fk (cu.none _ _)))
            intro v85 wa hn hb_ hg_ hnew_
            have hb2 := dB hg_
            clear hb_ hg_ hnew_
            replace HU := Aside0.mk (HU.out.below hb2)
            replace HD := Aside0.mk (aK HD.out hb2)
            have LY := Aside0.mk (Kd.N_V (base' := 0) hn)
            clear hn hb2
            obtain ⟨LYA, LYc, eLY⟩ := Kd.dJ LY.out
            subst eLY
            refine hK.out _ _ (HD.out) (fun hHeld => ?_)
            clear hK K
            refine cB (a' := ?_) ?_ ?_
            rotate_left
            · show Act.put _ (some 85) _ = _
              simp only [Act.put, List.setIfInBounds_toArray, List.set_cons_zero, List.set_cons_succ, aT, aU]
              rfl
            refine bE (i := 10) (N := some 86) (v := ?_) (a' := ?_) #[true, true, true, true, true, true, true, true, true, true, true, false, false, false, false, false, false, false, false, false, false, false, false, false, false, false, false, false] rfl rfl (bg HT_.out (by kernel_rfl)) (fun _ _ _ h => h) (Or.inl ⟨by rfl, ?_⟩) ?_ ?_
            rotate_left
            · intro w'
              go_simp
              with_reducible rfl
            rotate_left
            · simp only [Act.put, List.setIfInBounds_toArray, List.set_cons_zero, List.set_cons_succ, aT, aU]
              rfl
            exact cB (by simp only [fO, Act.put, List.setIfInBounds_toArray, List.set_cons_zero, List.set_cons_succ]; rfl) (hCont (Value.slice HLA [x, X].length HLc, .agg (vc (iL x X) F4 F4c F5 F5c), .agg (rc (iL x X) E4 E4c E5 E5c), Value.slice LYA [toR x, toR X].length LYc) _ ⟨HD, ⟨E4, E4c, E5, E5c, rfl, HU⟩, LY⟩)
          · skip
            refine Kd.dA k33 (w0 := wy) wy.heap.size 33 ?hg (N' := 85) ?hd (xs := [toR x, toR X]) (inner := [.int .i64 x.f0, .bool x.f1, .int .i64 x.f2, .string x.f3, .slice B4 (cZ x.f4).length B4c, .slice B5 (dz x.f5).length B5c, .int .i64 X.f0, .bool X.f1, .int .i64 X.f2, .string X.f3, .slice D4 (cZ X.f4).length D4c, .slice D5 (dz X.f5).length D5c]) (ok := yes) (okp := yes) ?hr ?hp (fun _ hk => hk) trivial HD.out HD.out.size (by simp) ?_
            (case hd => rfl)
            (case hg => rfl)
            (case hr => first | (go_simp; done) | (go_simp; rfl))
            (case hp => exact cu.c6 (HR.out.below HD.out).fk (cu.c6 (HRX.out.below HD.out).fk (cu.none _ _)))
            intro v85 wa hn hb_ hg_ hnew_
            have hb2 := dB hg_
            clear hb_ hg_ hnew_
            replace HQ := Aside0.mk (HQ.out.below hb2)
            replace HD := Aside0.mk (aK HD.out hb2)
            have LY := Aside0.mk (Kd.N_V (base' := 0) hn)
            clear hn hb2
            obtain ⟨LYA, LYc, eLY⟩ := Kd.dJ LY.out
            subst eLY
            refine hK.out _ _ (HD.out) (fun hHeld => ?_)
            clear hK K
            refine cB (a' := ?_) ?_ ?_
            rotate_left
            · show Act.put _ (some 85) _ = _
              simp only [Act.put, List.setIfInBounds_toArray, List.set_cons_zero, List.set_cons_succ, aT, aU]
              rfl
            refine bE (i := 10) (N := some 86) (v := ?_) (a' := ?_) #[true, true, true, true, true, true, false, true, true, true, true, false, false, false, false, false, false, false, false, false, false, false, false, false, false, false, false, false] rfl rfl (bg HT_.out (by kernel_rfl)) (fun _ _ _ h => h) (Or.inl ⟨by rfl, ?_⟩) ?_ ?_
            rotate_left
            · intro w'
              go_simp
              with_reducible rfl
            rotate_left
            · simp only [Act.put, List.setIfInBounds_toArray, List.set_cons_zero, List.set_cons_succ, aT, aU]
              rfl
            refine fM (i := 6) (N := some 82) #[true, true, true, true, true, true, true, true, true, true, true, false, false, false, false, false, false, false, false, false, false, false, false, false, false, false, false, false] rfl rfl (dx HT_.out (by kernel_rfl)) (by decide) (fun K hK => ?_)
            refine gq Tryd.func14 (by kernel_rfl) rfl #[.agg (vc (iL x X) F4 F4c F5 F5c)] (by rfl) rfl rfl (by (try simp only [List.map_toArray, List.map_cons, List.map_nil]); first | done | rfl) ?_
            refine (iy (n := 83) (x := (iL x X)) HOKR.out (by omega) HM.out HQ.out).mono ?_
            rintro e wn ⟨E4, E4c, E5, E5c, rfl, hv, hb⟩
            refine ⟨_, rfl, ?_⟩
            have hb2 := hb
            clear hb
            replace LY := Aside0.mk (Kd.bB LY.out hb2)
            have HU := Aside0.mk hv
            clear hv HQ
            replace HD := Aside0.mk (aK HD.out hb2)
            clear hb2
            refine hK.out _ _ (HD.out) (fun hHeld => ?_)
            clear hK K
            refine cB (a' := ?_) ?_ ?_
            rotate_left
            · show Act.put _ (some 82) _ = _
              simp only [Act.put, List.setIfInBounds_toArray, List.set_cons_zero, List.set_cons_succ, aT, aU]
              rfl
            exact cB (by simp only [fO, Act.put, List.setIfInBounds_toArray, List.set_cons_zero, List.set_cons_succ]; rfl) (hCont (Value.slice HLA [x, X].length HLc, .agg (vc (iL x X) F4 F4c F5 F5c), .agg (rc (iL x X) E4 E4c E5 E5c), Value.slice LYA [toR x, toR X].length LYc) _ ⟨HD, ⟨E4, E4c, E5, E5c, rfl, HU⟩, LY⟩)
        · skip
          refine Kd.dA k33 (w0 := wy) wy.heap.size 33 ?hg (N' := 85) ?hd (xs := [toR x, toR X]) (inner := [.int .i64 x.f0, .bool x.f1, .int .i64 x.f2, .string x.f3, .slice B4 (cZ x.f4).length B4c, .slice B5 (dz x.f5).length B5c, .int .i64 X.f0, .bool X.f1, .int .i64 X.f2, .string X.f3, .slice D4 (cZ X.f4).length D4c, .slice D5 (dz X.f5).length D5c]) (ok := yes) (okp := yes) ?hr ?hp (fun _ hk => hk) trivial HD.out HD.out.size (by simp) ?_
          (case hd => rfl)
          (case hg => rfl)
          (case hr => first | (go_simp; done) | (go_simp; rfl))
          (case hp => exact cu.c6 (HR.out.below HD.out).fk (cu.c6 (HRX.out.below HD.out).fk (cu.none _ _)))
          intro v85 wa hn hb_ hg_ hnew_
          have hb2 := dB hg_
          clear hb_ hg_ hnew_
          replace HL := Aside0.mk (Kd.bB HL.out hb2)
          replace HD := Aside0.mk (aK HD.out hb2)
          have LY := Aside0.mk (Kd.N_V (base' := 0) hn)
          clear hn hb2
          obtain ⟨LYA, LYc, eLY⟩ := Kd.dJ LY.out
          subst eLY
          refine hK.out _ _ (HD.out) (fun hHeld => ?_)
          clear hK K
          refine cB (a' := ?_) ?_ ?_
          rotate_left
          · show Act.put _ (some 85) _ = _
            simp only [Act.put, List.setIfInBounds_toArray, List.set_cons_zero, List.set_cons_succ, aT, aU]
            rfl
          refine bE (i := 10) (N := some 86) (v := ?_) (a' := ?_) #[true, true, true, true, true, false, false, true, true, true, true, false, false, false, false, false, false, false, false, false, false, false, false, false, false, false, false, false] rfl rfl (bg HT_.out (by kernel_rfl)) (fun _ _ _ h => h) (Or.inl ⟨by rfl, ?_⟩) ?_ ?_
          rotate_left
          · intro w'
            go_simp
            with_reducible rfl
          rotate_left
          · simp only [Act.put, List.setIfInBounds_toArray, List.set_cons_zero, List.set_cons_succ, aT, aU]
            rfl
          refine fM (i := 5) (N := some 81) #[true, true, true, true, true, true, false, true, true, true, true, false, false, false, false, false, false, false, false, false, false, false, false, false, false, false, false, false] rfl rfl (dx HT_.out (by kernel_rfl)) (by decide) (fun K hK => ?_)
          refine gq Tryd.func18 (by kernel_rfl) rfl #[.slice HLA [x, X].length HLc] (by rfl) rfl rfl (by (try simp only [List.map_toArray, List.map_cons, List.map_nil]); first | done | rfl) ?_
          refine (nC (by show (2 : Nat) ≤ 1000; omega) HL.out).mono ?_
          rintro e wn ⟨F4, F4c, F5, F5c, rfl, hv, hb⟩
          refine ⟨_, rfl, ?_⟩
          have hb2 := hb
          clear hb
          replace LY := Aside0.mk (Kd.bB LY.out hb2)
          have HQ := Aside0.mk (show VV _ (iL x X) F4 F4c F5 F5c from hv)
          clear hv HL
          replace HD := Aside0.mk (aK HD.out hb2)
          clear hb2
          refine hK.out _ _ (HD.out) (fun hHeld => ?_)
          clear hK K
          refine cB (a' := ?_) ?_ ?_
          rotate_left
          · show Act.put _ (some 81) _ = _
            simp only [Act.put, List.setIfInBounds_toArray, List.set_cons_zero, List.set_cons_succ, aT, aU]
            rfl
          refine fM (i := 6) (N := some 82) #[true, true, true, true, true, true, true, true, true, true, true, false, false, false, false, false, false, false, false, false, false, false, false, false, false, false, false, false] rfl rfl (dx HT_.out (by kernel_rfl)) (by decide) (fun K hK => ?_)
          refine gq Tryd.func14 (by kernel_rfl) rfl #[.agg (vc (iL x X) F4 F4c F5 F5c)] (by rfl) rfl rfl (by (try simp only [List.map_toArray, List.map_cons, List.map_nil]); first | done | rfl) ?_
          refine (iy (n := 83) (x := (iL x X)) HOKR.out (by omega) HM.out HQ.out).mono ?_
          rintro e wn ⟨E4, E4c, E5, E5c, rfl, hv, hb⟩
          refine ⟨_, rfl, ?_⟩
          have hb2 := hb
          clear hb
          replace LY := Aside0.mk (Kd.bB LY.out hb2)
          have HU := Aside0.mk hv
          clear hv HQ
          replace HD := Aside0.mk (aK HD.out hb2)
          clear hb2
          refine hK.out _ _ (HD.out) (fun hHeld => ?_)
          clear hK K
          refine cB (a' := ?_) ?_ ?_
          rotate_left
          · show Act.put _ (some 82) _ = _
            simp only [Act.put, List.setIfInBounds_toArray, List.set_cons_zero, List.set_cons_succ, aT, aU]
            rfl
          exact cB (by simp only [fO, Act.put, List.setIfInBounds_toArray, List.set_cons_zero, List.set_cons_succ]; rfl) (hCont (Value.slice HLA [x, X].length HLc, .agg (vc (iL x X) F4 F4c F5 F5c), .agg (rc (iL x X) E4 E4c E5 E5c), Value.slice LYA [toR x, toR X].length LYc) _ ⟨HD, ⟨E4, E4c, E5, E5c, rfl, HU⟩, LY⟩)
      · skip
        refine Kd.dA k33 (w0 := wy) wy.heap.size 33 ?hg (N' := 85) ?hd (xs := [toR x, toR X]) (inner := [.int .i64 x.f0, .bool x.f1, .int .i64 x.f2, .string x.f3, .slice B4 (cZ x.f4).length B4c, .slice B5 (dz x.f5).length B5c, .int .i64 X.f0, .bool X.f1, .int .i64 X.f2, .string X.f3, .slice D4 (cZ X.f4).length D4c, .slice D5 (dz X.f5).length D5c]) (ok := yes) (okp := yes) ?hr ?hp (fun _ hk => hk) trivial HD.out HD.out.size (by simp) ?_
        (case hd => rfl)
        (case hg => rfl)
        (case hr => first | (go_simp; done) | (go_simp; rfl))
        (case hp => exact cu.c6 (HR.out.below HD.out).fk (cu.c6 (HRX.out.below HD.out).fk (cu.none _ _)))
        intro v85 wa hn hb_ hg_ hnew_
        have hb2 := dB hg_
        clear hb_ hg_ hnew_
        replace HD := Aside0.mk (aK HD.out hb2)
        have LY := Aside0.mk (Kd.N_V (base' := 0) hn)
        clear hn hb2
        obtain ⟨LYA, LYc, eLY⟩ := Kd.dJ LY.out
        subst eLY
        refine hK.out _ _ (HD.out) (fun hHeld => ?_)
        clear hK K
        refine cB (a' := ?_) ?_ ?_
        rotate_left
        · show Act.put _ (some 85) _ = _
          simp only [Act.put, List.setIfInBounds_toArray, List.set_cons_zero, List.set_cons_succ, aT, aU]
          rfl
        refine bE (i := 10) (N := some 86) (v := ?_) (a' := ?_) #[true, true, true, true, false, false, false, true, true, true, true, false, false, false, false, false, false, false, false, false, false, false, false, false, false, false, false, false] rfl rfl (bg HT_.out (by kernel_rfl)) (fun _ _ _ h => h) (Or.inl ⟨by rfl, ?_⟩) ?_ ?_
        rotate_left
        · intro w'
          go_simp
          with_reducible rfl
        rotate_left
        · simp only [Act.put, List.setIfInBounds_toArray, List.set_cons_zero, List.set_cons_succ, aT, aU]
          rfl
        refine fM (i := 4) (N := some 80) #[true, true, true, true, true, false, false, true, true, true, true, false, false, false, false, false, false, false, false, false, false, false, false, false, false, false, false, false] rfl rfl (dx HT_.out (by kernel_rfl)) (by decide) (fun K hK => ?_)
        refine Kd.dA k29 (w0 := wy) wy.heap.size 29 ?hg (N' := 80) ?hd (xs := [x, X]) (inner := [.int .i64 x.f0, .bool x.f1, .int .i64 x.f2, .string x.f3, .slice A4 x.f4.length A4c, .slice A5 x.f5.length A5c, .int .i64 X.f0, .bool X.f1, .int .i64 X.f2, .string X.f3, .slice C4 X.f4.length C4c, .slice C5 X.f5.length C5c]) (ok := yes) (okp := yes) ?hr ?hp (fun _ hk => hk) trivial HD.out HD.out.size (by simp) ?_
        (case hd => rfl)
        (case hg => rfl)
        (case hr => first | (go_simp; done) | (go_simp; rfl))
        (case hp => exact cu.c6 (HV.out.below HD.out).fk (cu.c6 (HVX.out.below HD.out).fk (cu.none _ _)))
        intro v80 wa hn hb_ hg_ hnew_
        have hb2 := dB hg_
        clear hb_ hg_ hnew_
        replace LY := Aside0.mk (Kd.bB LY.out hb2)
        replace HD := Aside0.mk (aK HD.out hb2)
        have HL := Aside0.mk (Kd.N_V (base' := 0) hn)
        clear hn hb2
        obtain ⟨HLA, HLc, eHL⟩ := Kd.dJ HL.out
        subst eHL
        refine hK.out _ _ (HD.out) (fun hHeld => ?_)
        clear hK K
        refine cB (a' := ?_) ?_ ?_
        rotate_left
        · show Act.put _ (some 80) _ = _
          simp only [Act.put, List.setIfInBounds_toArray, List.set_cons_zero, List.set_cons_succ, aT, aU]
          rfl
        refine fM (i := 5) (N := some 81) #[true, true, true, true, true, true, false, true, true, true, true, false, false, false, false, false, false, false, false, false, false, false, false, false, false, false, false, false] rfl rfl (dx HT_.out (by kernel_rfl)) (by decide) (fun K hK => ?_)
        refine gq Tryd.func18 (by kernel_rfl) rfl #[.slice HLA [x, X].length HLc] (by rfl) rfl rfl (by (try simp only [List.map_toArray, List.map_cons, List.map_nil]); first | done | rfl) ?_
        refine (nC (by show (2 : Nat) ≤ 1000; omega) HL.out).mono ?_
        rintro e wn ⟨F4, F4c, F5, F5c, rfl, hv, hb⟩
        refine ⟨_, rfl, ?_⟩
        have hb2 := hb
        clear hb
        replace LY := Aside0.mk (Kd.bB LY.out hb2)
        have HQ := Aside0.mk (show VV _ (iL x X) F4 F4c F5 F5c from hv)
        clear hv HL
        replace HD := Aside0.mk (aK HD.out hb2)
        clear hb2
        refine hK.out _ _ (HD.out) (fun hHeld => ?_)
        clear hK K
        refine cB (a' := ?_) ?_ ?_
        rotate_left
        · show Act.put _ (some 81) _ = _
          simp only [Act.put, List.setIfInBounds_toArray, List.set_cons_zero, List.set_cons_succ, aT, aU]
          rfl
        refine fM (i := 6) (N := some 82) #[true, true, true, true, true, true, true, true, true, true, true, false, false, false, false, false, false, false, false, false, false, false, false, false, false, false, false, false] rfl rfl (dx HT_.out (by kernel_rfl)) (by decide) (fun K hK => ?_)
        refine gq Tryd.func14 (by kernel_rfl) rfl #[.agg (vc (iL x X) F4 F4c F5 F5c)] (by rfl) rfl rfl (by (try simp only [List.map_toArray, List.map_cons, List.map_nil]); first | done | rfl) ?_
        refine (iy (n := 83) (x := (iL x X)) HOKR.out (by omega) HM.out HQ.out).mono ?_
        rintro e wn ⟨E4, E4c, E5, E5c, rfl, hv, hb⟩
        refine ⟨_, rfl, ?_⟩
        have hb2 := hb
        clear hb
        replace LY := Aside0.mk (Kd.bB LY.out hb2)
        have HU := Aside0.mk hv
        clear hv HQ
        replace HD := Aside0.mk (aK HD.out hb2)
        clear hb2
        refine hK.out _ _ (HD.out) (fun hHeld => ?_)
        clear hK K
        refine cB (a' := ?_) ?_ ?_
        rotate_left
        · show Act.put _ (some 82) _ = _
          simp only [Act.put, List.setIfInBounds_toArray, List.set_cons_zero, List.set_cons_succ, aT, aU]
          rfl
        exact cB (by simp only [fO, Act.put, List.setIfInBounds_toArray, List.set_cons_zero, List.set_cons_succ]; rfl) (hCont (Value.slice HLA [x, X].length HLc, .agg (vc (iL x X) F4 F4c F5 F5c), .agg (rc (iL x X) E4 E4c E5 E5c), Value.slice LYA [toR x, toR X].length LYc) _ ⟨HD, ⟨E4, E4c, E5, E5c, rfl, HU⟩, LY⟩)
    rintro ⟨va, vb, vd, ve⟩ wq ⟨HD, ⟨E4, E4c, E5, E5c, hvd, HU⟩, LY⟩
    dsimp only at HD hvd HU LY
    subst hvd
    have hHeld : Below wy.heap.size wy wq := HD.out
    obtain ⟨LYA, LYc, eLY⟩ := Kd.dJ LY.out
    subst eLY
    refine cB (a' := ?_) ?_ ?_
    rotate_left
    · simp only [fO, Act.put, List.setIfInBounds_toArray, List.set_cons_zero, List.set_cons_succ]
      rfl
    refine fM (i := 11) (N := some 87) #[true, true, true, true, true, true, true, true, true, true, true, true, false, false, false, false, false, false, false, false, false, false, false, false, false, false, false, false] rfl rfl (dx HT_.out (by kernel_rfl)) (by decide) (fun K hK => ?_)
    refine gq Tryd.func13 (by kernel_rfl) rfl #[.agg (rc (iL x X) E4 E4c E5 E5c), .agg #[.int .i64 4, .bool false, .int .i64 0, .string (⟨#[]⟩ : ByteArray), .slice LYA [toR x, toR X].length LYc, .slice none 0 0]] (by rfl) rfl rfl (by (try simp only [List.map_toArray, List.map_cons, List.map_nil]); first | done | rfl) ?_
    refine (iU (n := 83) (x := (iL x X)) HOKR.out (by omega) HM.out HU.out (RR.row LY.out)).mono ?_
    rintro e wn ⟨rfl, hb⟩
    refine ⟨_, rfl, ?_⟩
    replace HD := Aside0.mk (aK HD.out hb)
    clear hb HU LY
    refine hK.out _ _ (HD.out) (fun hHeld => ?_)
    clear hK K
    refine cB (a' := ?_) ?_ ?_
    rotate_left
    · show Act.put _ (some 87) _ = _
      simp only [Act.put, List.setIfInBounds_toArray, List.set_cons_zero, List.set_cons_succ, aT, aU]
      rfl
    refine bE (i := 12) (N := some 88) (v := ?_) (a' := ?_) #[true, true, true, true, true, true, true, true, true, true, true, true, true, false, false, false, false, false, false, false, false, false, false, false, false, false, false, false] rfl rfl (bg HT_.out (by kernel_rfl)) (fun _ _ _ h => h) (Or.inl ⟨by rfl, ?_⟩) ?_ ?_
    rotate_left
    · intro w'
      go_simp
      with_reducible rfl
    rotate_left
    · simp only [Act.put, List.setIfInBounds_toArray, List.set_cons_zero, List.set_cons_succ, aT, aU]
      rfl
    refine bE (i := 13) (N := some 89) (v := ?_) (a' := ?_) #[true, true, true, true, true, true, true, true, true, true, true, true, true, true, false, false, false, false, false, false, false, false, false, false, false, false, false, false] rfl rfl (bg HT_.out (by kernel_rfl)) (fun _ _ _ h => h) (Or.inl ⟨by rfl, ?_⟩) ?_ ?_
    rotate_left
    · intro w'
      go_simp
      with_reducible rfl
    rotate_left
    · simp only [Act.put, List.setIfInBounds_toArray, List.set_cons_zero, List.set_cons_succ, aT, aU]
      rfl
    refine bE (i := 14) (N := some 90) (v := ?_) (a' := ?_) #[true, true, true, true, true, true, true, true, true, true, true, true, true, true, true, false, false, false, false, false, false, false, false, false, false, false, false, false] rfl rfl (bg HT_.out (by kernel_rfl)) (fun _ _ _ h => h) (Or.inl ⟨by rfl, ?_⟩) ?_ ?_
    rotate_left
    · intro w'
      go_simp
      with_reducible rfl
    rotate_left
    · simp only [Act.put, List.setIfInBounds_toArray, List.set_cons_zero, List.set_cons_succ, aT, aU]
      rfl
    refine bE (i := 20) (N := some 96) (v := ?_) (a' := ?_) #[true, true, true, true, true, true, true, true, true, true, true, true, true, true, true, false, false, false, false, false, true, false, false, false, false, false, false, false] rfl rfl (bg HT_.out (by kernel_rfl)) (fun _ _ _ h => h) (Or.inl ⟨by rfl, ?_⟩) ?_ ?_
    rotate_left
    · intro w'
      go_simp
      with_reducible rfl
    rotate_left
    · simp only [Act.put, List.setIfInBounds_toArray, List.set_cons_zero, List.set_cons_succ, aT, aU]
      rfl
    refine dI (i := 15) (N := some 91) (v := ?_) (a' := ?_) #[true, true, true, true, true, true, true, true, true, true, true, true, true, true, true, true, false, false, false, false, true, false, false, false, false, false, false, false] rfl rfl (bU HT_.out HW_.out (by kernel_rfl)) (fun _ _ _ h => h) (Or.inl ⟨by rfl, ?_⟩) hHeld ?_ ?_
    rotate_left
    · intro w' s0
      have a0 : w'.cell? ⟨g9,0,none⟩ = some (.int .i64 x.f0) := (ah (aI H9.out s0) 0).trans rfl
      have a1 : w'.cell? ⟨g9,1,none⟩ = some (.bool x.f1) := (ah (aI H9.out s0) 1).trans rfl
      have a2 : w'.cell? ⟨g9,2,none⟩ = some (.int .i64 x.f2) := (ah (aI H9.out s0) 2).trans rfl
      have a3 : w'.cell? ⟨g9,3,none⟩ = some (.string x.f3) := (ah (aI H9.out s0) 3).trans rfl
      have a4 : w'.cell? ⟨g9,4,none⟩ = some (.slice A4 x.f4.length A4c) := (ah (aI H9.out s0) 4).trans rfl
      have a5 : w'.cell? ⟨g9,5,none⟩ = some (.slice A5 x.f5.length A5c) := (ah (aI H9.out s0) 5).trans rfl
      have b0 : w'.cell? ⟨g10,0,none⟩ = some (.int .i64 x.f0) := (ah (aI xS.out s0) 0).trans rfl
      have b1 : w'.cell? ⟨g10,1,none⟩ = some (.bool x.f1) := (ah (aI xS.out s0) 1).trans rfl
      have b2 : w'.cell? ⟨g10,2,none⟩ = some (.int .i64 x.f2) := (ah (aI xS.out s0) 2).trans rfl
      have b3 : w'.cell? ⟨g10,3,none⟩ = some (.string x.f3) := (ah (aI xS.out s0) 3).trans rfl
      have b4 : w'.cell? ⟨g10,4,none⟩ = some (.slice B4 (cZ x.f4).length B4c) := (ah (aI xS.out s0) 4).trans rfl
      have b5 : w'.cell? ⟨g10,5,none⟩ = some (.slice B5 (dz x.f5).length B5c) := (ah (aI xS.out s0) 5).trans rfl
      have c0 : w'.cell? ⟨g11,0,none⟩ = some (.int .i64 X.f0) := (ah (aI xU.out s0) 0).trans rfl
      have c1 : w'.cell? ⟨g11,1,none⟩ = some (.bool X.f1) := (ah (aI xU.out s0) 1).trans rfl
      have c2 : w'.cell? ⟨g11,2,none⟩ = some (.int .i64 X.f2) := (ah (aI xU.out s0) 2).trans rfl
      have c3 : w'.cell? ⟨g11,3,none⟩ = some (.string X.f3) := (ah (aI xU.out s0) 3).trans rfl
      have c4 : w'.cell? ⟨g11,4,none⟩ = some (.slice C4 X.f4.length C4c) := (ah (aI xU.out s0) 4).trans rfl
      have c5 : w'.cell? ⟨g11,5,none⟩ = some (.slice C5 X.f5.length C5c) := (ah (aI xU.out s0) 5).trans rfl
      have d0 : w'.cell? ⟨g13,0,none⟩ = some (.int .i64 X.f0) := (ah (aI xV.out s0) 0).trans rfl
      have d1 : w'.cell? ⟨g13,1,none⟩ = some (.bool X.f1) := (ah (aI xV.out s0) 1).trans rfl
      have d2 : w'.cell? ⟨g13,2,none⟩ = some (.int .i64 X.f2) := (ah (aI xV.out s0) 2).trans rfl
      have d3 : w'.cell? ⟨g13,3,none⟩ = some (.string X.f3) := (ah (aI xV.out s0) 3).trans rfl
      have d4 : w'.cell? ⟨g13,4,none⟩ = some (.slice D4 (cZ X.f4).length D4c) := (ah (aI xV.out s0) 4).trans rfl
      have d5 : w'.cell? ⟨g13,5,none⟩ = some (.slice D5 (dz X.f5).length D5c) := (ah (aI xV.out s0) 5).trans rfl
      go_simp
      with_reducible rfl
    rotate_left
    · simp only [Act.put, List.setIfInBounds_toArray, List.set_cons_zero, List.set_cons_succ, aT, aU]
      rfl
    refine bE (i := 16) (N := some 92) (v := ?_) (a' := ?_) #[true, true, true, true, true, true, true, true, true, true, true, true, true, true, true, true, true, false, false, false, true, false, false, false, false, false, false, false] rfl rfl (bg HT_.out (by kernel_rfl)) (fun _ _ _ h => h) (Or.inl ⟨by rfl, ?_⟩) ?_ ?_
    rotate_left
    · intro w'
      go_simp
      with_reducible rfl
    rotate_left
    · simp only [Act.put, List.setIfInBounds_toArray, List.set_cons_zero, List.set_cons_succ, aT, aU]
      rfl
    refine dI (i := 21) (N := some 97) (v := ?_) (a' := ?_) #[true, true, true, true, true, true, true, true, true, true, true, true, true, true, true, true, true, false, false, false, true, true, false, false, false, false, false, false] rfl rfl (bU HT_.out HW_.out (by kernel_rfl)) (fun _ _ _ h => h) (Or.inl ⟨by rfl, ?_⟩) hHeld ?_ ?_
    rotate_left
    · intro w' s0
      have a0 : w'.cell? ⟨g9,0,none⟩ = some (.int .i64 x.f0) := (ah (aI H9.out s0) 0).trans rfl
      have a1 : w'.cell? ⟨g9,1,none⟩ = some (.bool x.f1) := (ah (aI H9.out s0) 1).trans rfl
      have a2 : w'.cell? ⟨g9,2,none⟩ = some (.int .i64 x.f2) := (ah (aI H9.out s0) 2).trans rfl
      have a3 : w'.cell? ⟨g9,3,none⟩ = some (.string x.f3) := (ah (aI H9.out s0) 3).trans rfl
      have a4 : w'.cell? ⟨g9,4,none⟩ = some (.slice A4 x.f4.length A4c) := (ah (aI H9.out s0) 4).trans rfl
      have a5 : w'.cell? ⟨g9,5,none⟩ = some (.slice A5 x.f5.length A5c) := (ah (aI H9.out s0) 5).trans rfl
      have b0 : w'.cell? ⟨g10,0,none⟩ = some (.int .i64 x.f0) := (ah (aI xS.out s0) 0).trans rfl
      have b1 : w'.cell? ⟨g10,1,none⟩ = some (.bool x.f1) := (ah (aI xS.out s0) 1).trans rfl
      have b2 : w'.cell? ⟨g10,2,none⟩ = some (.int .i64 x.f2) := (ah (aI xS.out s0) 2).trans rfl
      have b3 : w'.cell? ⟨g10,3,none⟩ = some (.string x.f3) := (ah (aI xS.out s0) 3).trans rfl
      have b4 : w'.cell? ⟨g10,4,none⟩ = some (.slice B4 (cZ x.f4).length B4c) := (ah (aI xS.out s0) 4).trans rfl
      have b5 : w'.cell? ⟨g10,5,none⟩ = some (.slice B5 (dz x.f5).length B5c) := (ah (aI xS.out s0) 5).trans rfl
      have c0 : w'.cell? ⟨g11,0,none⟩ = some (.int .i64 X.f0) := (ah (aI xU.out s0) 0).trans rfl
      have c1 : w'.cell? ⟨g11,1,none⟩ = some (.bool X.f1) := (ah (aI xU.out s0) 1).trans rfl
      have c2 : w'.cell? ⟨g11,2,none⟩ = some (.int .i64 X.f2) := (ah (aI xU.out s0) 2).trans rfl
      have c3 : w'.cell? ⟨g11,3,none⟩ = some (.string X.f3) := (ah (aI xU.out s0) 3).trans rfl
      have c4 : w'.cell? ⟨g11,4,none⟩ = some (.slice C4 X.f4.length C4c) := (ah (aI xU.out s0) 4).trans rfl
      have c5 : w'.cell? ⟨g11,5,none⟩ = some (.slice C5 X.f5.length C5c) := (ah (aI xU.out s0) 5).trans rfl
      have d0 : w'.cell? ⟨g13,0,none⟩ = some (.int .i64 X.f0) := (ah (aI xV.out s0) 0).trans rfl
      have d1 : w'.cell? ⟨g13,1,none⟩ = some (.bool X.f1) := (ah (aI xV.out s0) 1).trans rfl
      have d2 : w'.cell? ⟨g13,2,none⟩ = some (.int .i64 X.f2) := (ah (aI xV.out s0) 2).trans rfl
      have d3 : w'.cell? ⟨g13,3,none⟩ = some (.string X.f3) := (ah (aI xV.out s0) 3).trans rfl
      have d4 : w'.cell? ⟨g13,4,none⟩ = some (.slice D4 (cZ X.f4).length D4c) := (ah (aI xV.out s0) 4).trans rfl
      have d5 : w'.cell? ⟨g13,5,none⟩ = some (.slice D5 (dz X.f5).length D5c) := (ah (aI xV.out s0) 5).trans rfl
      go_simp
      with_reducible rfl
    rotate_left
    · simp only [Act.put, List.setIfInBounds_toArray, List.set_cons_zero, List.set_cons_succ, aT, aU]
      rfl
    refine bE (i := 22) (N := some 98) (v := ?_) (a' := ?_) #[true, true, true, true, true, true, true, true, true, true, true, true, true, true, true, true, true, false, false, false, true, true, true, false, false, false, false, false] rfl rfl (bg HT_.out (by kernel_rfl)) (fun _ _ _ h => h) (Or.inl ⟨by rfl, ?_⟩) ?_ ?_
    rotate_left
    · intro w'
      go_simp
      with_reducible rfl
    rotate_left
    · simp only [Act.put, List.setIfInBounds_toArray, List.set_cons_zero, List.set_cons_succ, aT, aU]
      rfl
    refine oQ (σ := Value × Value × Value × Value) 3 #[true, true, true, true, true, true, true, true, true, true, true, true, true, true, true, true, true, true, true, true, true, true, true, true, true, false, false, false] (fun s => [(93, s.1), (94, s.2.1), (95, s.2.2.1), (99, s.2.2.2), (100, .agg #[.int .i64 5, .bool false, .int .i64 0, .string (⟨#[]⟩ : ByteArray), .slice none 0 0, s.2.2.2])]) (fun s w' => Aside0 (Below wy.heap.size wy w') ∧ (∃ E4 E4c E5 E5c, s.2.2.1 = .agg (rc (iM a1 x) E4 E4c E5 E5c) ∧ Aside0 (RR w' (iM a1 x) E4 E4c E5 E5c)) ∧ Aside0 (Kd.V k50 50 w' 0 yes s.2.2.2 [(⟨a1, toR x⟩ : S50)])) ?_ ?_
    rotate_left
    · intro hCont
      refine mR (i := 17) (j := 23) (Ni := some 93) (Nj := some 99) #[true, true, true, true, true, true, true, true, true, true, true, true, true, true, true, true, true, true, false, false, true, true, true, false, false, false, false, false] #[true, true, true, true, true, true, true, true, true, true, true, true, true, true, true, true, true, false, false, false, true, true, true, true, false, false, false, false] rfl rfl rfl rfl (iW HT_.out (by kernel_rfl)) (by decide) (by decide) (fun K hK => ?_) (fun K hK => ?_)
      · skip
        refine Kd.dA k48 (w0 := wy) wy.heap.size 48 ?hg (N' := 93) ?hd (xs := [(⟨a1, x⟩ : S48)]) (inner := [.string a1, .int .i64 x.f0, .bool x.f1, .int .i64 x.f2, .string x.f3, .slice A4 x.f4.length A4c, .slice A5 x.f5.length A5c]) (ok := yes) (okp := yes) ?hr ?hp (fun _ hk => hk) trivial HD.out HD.out.size (by simp) ?_
        (case hd => rfl)
        (case hg => rfl)
        (case hr => first | (go_simp; done) | (go_simp; rfl))
        (case hp => exact cu.c7 ((HV.out.below HD.out).fp a1) (cu.none _ _))
        intro v93 wa hn hb_ hg_ hnew_
        have hb2 := dB hg_
        clear hb_ hg_ hnew_
        replace HD := Aside0.mk (aK HD.out hb2)
        have HL := Aside0.mk (Kd.N_V (base' := 0) hn)
        clear hn hb2
        obtain ⟨HLA, HLc, eHL⟩ := Kd.dJ HL.out
        subst eHL
        refine hK.out _ _ (HD.out) (fun hHeld => ?_)
        clear hK K
        refine cB (a' := ?_) ?_ ?_
        rotate_left
        · show Act.put _ (some 93) _ = _
          simp only [Act.put, List.setIfInBounds_toArray, List.set_cons_zero, List.set_cons_succ, aT, aU]
          rfl
        refine mR (i := 18) (j := 23) (Ni := some 94) (Nj := some 99) #[true, true, true, true, true, true, true, true, true, true, true, true, true, true, true, true, true, true, true, false, true, true, true, false, false, false, false, false] #[true, true, true, true, true, true, true, true, true, true, true, true, true, true, true, true, true, true, false, false, true, true, true, true, false, false, false, false] rfl rfl rfl rfl (iW HT_.out (by kernel_rfl)) (by decide) (by decide) (fun K hK => ?_) (fun K hK => ?_)
        · skip
          refine gq Tryd.func19 (by kernel_rfl) rfl #[.slice HLA [(⟨a1, x⟩ : S48)].length HLc] (by rfl) rfl rfl (by (try simp only [List.map_toArray, List.map_cons, List.map_nil]); first | done | rfl) ?_
          refine (nD (by show (1 : Nat) ≤ 1000; omega) HL.out).mono ?_
          rintro e wn ⟨F4, F4c, F5, F5c, rfl, hv, hb⟩
          refine ⟨_, rfl, ?_⟩
          have hb2 := hb
          clear hb
          have HQ := Aside0.mk (show VV _ (iM a1 x) F4 F4c F5 F5c from hv)
          clear hv HL
          replace HD := Aside0.mk (aK HD.out hb2)
          clear hb2
          refine hK.out _ _ (HD.out) (fun hHeld => ?_)
          clear hK K
          refine cB (a' := ?_) ?_ ?_
          rotate_left
          · show Act.put _ (some 94) _ = _
            simp only [Act.put, List.setIfInBounds_toArray, List.set_cons_zero, List.set_cons_succ, aT, aU]
            rfl
          refine mR (i := 19) (j := 23) (Ni := some 95) (Nj := some 99) #[true, true, true, true, true, true, true, true, true, true, true, true, true, true, true, true, true, true, true, true, true, true, true, false, false, false, false, false] #[true, true, true, true, true, true, true, true, true, true, true, true, true, true, true, true, true, true, true, false, true, true, true, true, false, false, false, false] rfl rfl rfl rfl (iW HT_.out (by kernel_rfl)) (by decide) (by decide) (fun K hK => ?_) (fun K hK => ?_)
          · skip
            refine gq Tryd.func14 (by kernel_rfl) rfl #[.agg (vc (iM a1 x) F4 F4c F5 F5c)] (by rfl) rfl rfl (by (try simp only [List.map_toArray, List.map_cons, List.map_nil]); first | done | rfl) ?_
            refine (iy (n := 83) (x := (iM a1 x)) HOKM.out (by omega) HM.out HQ.out).mono ?_
            rintro e wn ⟨E4, E4c, E5, E5c, rfl, hv, hb⟩
            refine ⟨_, rfl, ?_⟩
            have hb2 := hb
            clear hb
            have HU := Aside0.mk hv
            clear hv HQ
            replace HD := Aside0.mk (aK HD.out hb2)
            clear hb2
            refine hK.out _ _ (HD.out) (fun hHeld => ?_)
            clear hK K
            refine cB (a' := ?_) ?_ ?_
            rotate_left
            · show Act.put _ (some 95) _ = _
              simp only [Act.put, List.setIfInBounds_toArray, List.set_cons_zero, List.set_cons_succ, aT, aU]
              rfl
            refine fM (i := 23) (N := some 99) #[true, true, true, true, true, true, true, true, true, true, true, true, true, true, true, true, true, true, true, true, true, true, true, true, false, false, false, false] rfl rfl (dx HT_.out (by kernel_rfl)) (by decide) (fun K hK => ?_)
            refine Kd.dA k50 (w0 := wy) wy.heap.size 50 ?hg (N' := 99) ?hd (xs := [(⟨a1, toR x⟩ : S50)]) (inner := [.string a1, .int .i64 x.f0, .bool x.f1, .int .i64 x.f2, .string x.f3, .slice B4 (cZ x.f4).length B4c, .slice B5 (dz x.f5).length B5c]) (ok := yes) (okp := yes) ?hr ?hp (fun _ hk => hk) trivial HD.out HD.out.size (by simp) ?_
            (case hd => rfl)
            (case hg => rfl)
            (case hr => first | (go_simp; done) | (go_simp; rfl))
            (case hp => exact cu.c7 ((HR.out.below HD.out).fp a1) (cu.none _ _))
            intro zK wa hn hb_ hg_ hnew_
            have hb2 := dB hg_
            clear hb_ hg_ hnew_
            replace HU := Aside0.mk (HU.out.below hb2)
            replace HD := Aside0.mk (aK HD.out hb2)
            have LY := Aside0.mk (Kd.N_V (base' := 0) hn)
            clear hn hb2
            obtain ⟨LYA, LYc, eLY⟩ := Kd.dJ LY.out
            subst eLY
            refine hK.out _ _ (HD.out) (fun hHeld => ?_)
            clear hK K
            refine cB (a' := ?_) ?_ ?_
            rotate_left
            · show Act.put _ (some 99) _ = _
              simp only [Act.put, List.setIfInBounds_toArray, List.set_cons_zero, List.set_cons_succ, aT, aU]
              rfl
            refine bE (i := 24) (N := some 100) (v := ?_) (a' := ?_) #[true, true, true, true, true, true, true, true, true, true, true, true, true, true, true, true, true, true, true, true, true, true, true, true, true, false, false, false] rfl rfl (bg HT_.out (by kernel_rfl)) (fun _ _ _ h => h) (Or.inl ⟨by rfl, ?_⟩) ?_ ?_
            rotate_left
            · intro w'
              go_simp
              with_reducible rfl
            rotate_left
            · simp only [Act.put, List.setIfInBounds_toArray, List.set_cons_zero, List.set_cons_succ, aT, aU]
              rfl
            exact cB (by simp only [fO, Act.put, List.setIfInBounds_toArray, List.set_cons_zero, List.set_cons_succ]; rfl) (hCont (Value.slice HLA [(⟨a1, x⟩ : S48)].length HLc, .agg (vc (iM a1 x) F4 F4c F5 F5c), .agg (rc (iM a1 x) E4 E4c E5 E5c), Value.slice LYA [(⟨a1, toR x⟩ : S50)].length LYc) _ ⟨HD, ⟨E4, E4c, E5, E5c, rfl, HU⟩, LY⟩)
          · skip
            refine Kd.dA k50 (w0 := wy) wy.heap.size 50 ?hg (N' := 99) ?hd (xs := [(⟨a1, toR x⟩ : S50)]) (inner := [.string a1, .int .i64 x.f0, .bool x.f1, .int .i64 x.f2, .string x.f3, .slice B4 (cZ x.f4).length B4c, .slice B5 (dz x.f5).length B5c]) (ok := yes) (okp := yes) ?hr ?hp (fun _ hk => hk) trivial HD.out HD.out.size (by simp) ?_
            (case hd => rfl)
            (case hg => rfl)
            (case hr => first | (go_simp; done) | (go_simp; rfl))
            (case hp => exact cu.c7 ((HR.out.below HD.out).fp a1) (cu.none _ _))
            intro zK wa hn hb_ hg_ hnew_
            have hb2 := dB hg_
            clear hb_ hg_ hnew_
            replace HQ := Aside0.mk (HQ.out.below hb2)
            replace HD := Aside0.mk (aK HD.out hb2)
            have LY := Aside0.mk (Kd.N_V (base' := 0) hn)
            clear hn hb2
            obtain ⟨LYA, LYc, eLY⟩ := Kd.dJ LY.out
            subst eLY
            refine hK.out _ _ (HD.out) (fun hHeld => ?_)
            clear hK K
            refine cB (a' := ?_) ?_ ?_
            rotate_left
            · show Act.put _ (some 99) _ = _
              simp only [Act.put, List.setIfInBounds_toArray, List.set_cons_zero, List.set_cons_succ, aT, aU]
              rfl
            refine bE (i := 24) (N := some 100) (v := ?_) (a' := ?_) #[true, true, true, true, true, true, true, true, true, true, true, true, true, true, true, true, true, true, true, false, true, true, true, true, true, false, false, false] rfl rfl (bg HT_.out (by kernel_rfl)) (fun _ _ _ h => h) (Or.inl ⟨by rfl, ?_⟩) ?_ ?_
            rotate_left
            · intro w'
              go_simp
              with_reducible rfl
            rotate_left
            · simp only [Act.put, List.setIfInBounds_toArray, List.set_cons_zero, List.set_cons_succ, aT, aU]
              rfl
            refine fM (i := 19) (N := some 95) #[true, true, true, true, true, true, true, true, true, true, true, true, true, true, true, true, true, true, true, true, true, true, true, true, true, false, false, false] rfl rfl (dx HT_.out (by kernel_rfl)) (by decide) (fun K hK => ?_)
            refine gq Tryd.func14 (by kernel_rfl) rfl #[.agg (vc (iM a1 x) F4 F4c F5 F5c)] (by rfl) rfl rfl (by (try simp only [List.map_toArray, List.map_cons, List.map_nil]); first | done | rfl) ?_
            refine (iy (n := 83) (x := (iM a1 x)) HOKM.out (by omega) HM.out HQ.out).mono ?_
            rintro e wn ⟨E4, E4c, E5, E5c, rfl, hv, hb⟩
            refine ⟨_, rfl, ?_⟩
            have hb2 := hb
            clear hb
            replace LY := Aside0.mk (Kd.bB LY.out hb2)
            have HU := Aside0.mk hv
            clear hv HQ
            replace HD := Aside0.mk (aK HD.out hb2)
            clear hb2
            refine hK.out _ _ (HD.out) (fun hHeld => ?_)
            clear hK K
            refine cB (a' := ?_) ?_ ?_
            rotate_left
            · show Act.put _ (some 95) _ = _
              simp only [Act.put, List.setIfInBounds_toArray, List.set_cons_zero, List.set_cons_succ, aT, aU]
              rfl
            exact cB (by simp only [fO, Act.put, List.setIfInBounds_toArray, List.set_cons_zero, List.set_cons_succ]; rfl) (hCont (Value.slice HLA [(⟨a1, x⟩ : S48)].length HLc, .agg (vc (iM a1 x) F4 F4c F5 F5c), .agg (rc (iM a1 x) E4 E4c E5 E5c), Value.slice LYA [(⟨a1, toR x⟩ : S50)].length LYc) _ ⟨HD, ⟨E4, E4c, E5, E5c, rfl, HU⟩, LY⟩)
        · skip
          refine Kd.dA k50 (w0 := wy) wy.heap.size 50 ?hg (N' := 99) ?hd (xs := [(⟨a1, toR x⟩ : S50)]) (inner := [.string a1, .int .i64 x.f0, .bool x.f1, .int .i64 x.f2, .string x.f3, .slice B4 (cZ x.f4).length B4c, .slice B5 (dz x.f5).length B5c]) (ok := yes) (okp := yes) ?hr ?hp (fun _ hk => hk) trivial HD.out HD.out.size (by simp) ?_
          (case hd => rfl)
          (case hg => rfl)
          (case hr => first | (go_simp; done) | (go_simp; rfl))
          (case hp => exact cu.c7 ((HR.out.below HD.out).fp a1) (cu.none _ _))
          intro zK wa hn hb_ hg_ hnew_
          have hb2 := dB hg_
          clear hb_ hg_ hnew_
          replace HL := Aside0.mk (Kd.bB HL.out hb2)
          replace HD := Aside0.mk (aK HD.out hb2)
          have LY := Aside0.mk (Kd.N_V (base' := 0) hn)
          clear hn hb2
          obtain ⟨LYA, LYc, eLY⟩ := Kd.dJ LY.out
          subst eLY
          refine hK.out _ _ (HD.out) (fun hHeld => ?_)
          clear hK K
          refine cB (a' := ?_) ?_ ?_
          rotate_left
          · show Act.put _ (some 99) _ = _
            simp only [Act.put, List.setIfInBounds_toArray, List.set_cons_zero, List.set_cons_succ, aT, aU]
            rfl
          refine bE (i := 24) (N := some 100) (v := ?_) (a' := ?_) #[true, true, true, true, true, true, true, true, true, true, true, true, true, true, true, true, true, true, false, false, true, true, true, true, true, false, false, false] rfl rfl (bg HT_.out (by kernel_rfl)) (fun _ _ _ h => h) (Or.inl ⟨by rfl, ?_⟩) ?_ ?_
          rotate_left
          · intro w'
            go_simp
            with_reducible rfl
          rotate_left
          · simp only [Act.put, List.setIfInBounds_toArray, List.set_cons_zero, List.set_cons_succ, aT, aU]
            rfl
          refine fM (i := 18) (N := some 94) #[true, true, true, true, true, true, true, true, true, true, true, true, true, true, true, true, true, true, true, false, true, true, true, true, true, false, false, false] rfl rfl (dx HT_.out (by kernel_rfl)) (by decide) (fun K hK => ?_)
          refine gq Tryd.func19 (by kernel_rfl) rfl #[.slice HLA [(⟨a1, x⟩ : S48)].length HLc] (by rfl) rfl rfl (by (try simp only [List.map_toArray, List.map_cons, List.map_nil]); first | done | rfl) ?_
          refine (nD (by show (1 : Nat) ≤ 1000; omega) HL.out).mono ?_
          rintro e wn ⟨F4, F4c, F5, F5c, rfl, hv, hb⟩
          refine ⟨_, rfl, ?_⟩
          have hb2 := hb
          clear hb
          replace LY := Aside0.mk (Kd.bB LY.out hb2)
          have HQ := Aside0.mk (show VV _ (iM a1 x) F4 F4c F5 F5c from hv)
          clear hv HL
          replace HD := Aside0.mk (aK HD.out hb2)
          clear hb2
          refine hK.out _ _ (HD.out) (fun hHeld => ?_)
          clear hK K
          refine cB (a' := ?_) ?_ ?_
          rotate_left
          · show Act.put _ (some 94) _ = _
            simp only [Act.put, List.setIfInBounds_toArray, List.set_cons_zero, List.set_cons_succ, aT, aU]
            rfl
          refine fM (i := 19) (N := some 95) #[true, true, true, true, true, true, true, true, true, true, true, true, true, true, true, true, true, true, true, true, true, true, true, true, true, false, false, false] rfl rfl (dx HT_.out (by kernel_rfl)) (by decide) (fun K hK => ?_)
          refine gq Tryd.func14 (by kernel_rfl) rfl #[.agg (vc (iM a1 x) F4 F4c F5 F5c)] (by rfl) rfl rfl (by (try simp only [List.map_toArray, List.map_cons, List.map_nil]); first | done | rfl) ?_
          refine (iy (n := 83) (x := (iM a1 x)) HOKM.out (by omega) HM.out HQ.out).mono ?_
          rintro e wn ⟨E4, E4c, E5, E5c, rfl, hv, hb⟩
          refine ⟨_, rfl, ?_⟩
          have hb2 := hb
          clear hb
          replace LY := Aside0.mk (Kd.bB LY.out hb2)
          have HU := Aside0.mk hv
          clear hv HQ
          replace HD := Aside0.mk (aK HD.out hb2)
          clear hb2
          refine hK.out _ _ (HD.out) (fun hHeld => ?_)
          clear hK K
          refine cB (a' := ?_) ?_ ?_
          rotate_left
          · show Act.put _ (some 95) _ = _
            simp only [Act.put, List.setIfInBounds_toArray, List.set_cons_zero, List.set_cons_succ, aT, aU]
            rfl
          exact cB (by simp only [fO, Act.put, List.setIfInBounds_toArray, List.set_cons_zero, List.set_cons_succ]; rfl) (hCont (Value.slice HLA [(⟨a1, x⟩ : S48)].length HLc, .agg (vc (iM a1 x) F4 F4c F5 F5c), .agg (rc (iM a1 x) E4 E4c E5 E5c), Value.slice LYA [(⟨a1, toR x⟩ : S50)].length LYc) _ ⟨HD, ⟨E4, E4c, E5, E5c, rfl, HU⟩, LY⟩)
      · skip
        refine Kd.dA k50 (w0 := wy) wy.heap.size 50 ?hg (N' := 99) ?hd (xs := [(⟨a1, toR x⟩ : S50)]) (inner := [.string a1, .int .i64 x.f0, .bool x.f1, .int .i64 x.f2, .string x.f3, .slice B4 (cZ x.f4).length B4c, .slice B5 (dz x.f5).length B5c]) (ok := yes) (okp := yes) ?hr ?hp (fun _ hk => hk) trivial HD.out HD.out.size (by simp) ?_
        (case hd => rfl)
        (case hg => rfl)
        (case hr => first | (go_simp; done) | (go_simp; rfl))
        (case hp => exact cu.c7 ((HR.out.below HD.out).fp a1) (cu.none _ _))
        intro zK wa hn hb_ hg_ hnew_
        have hb2 := dB hg_
        clear hb_ hg_ hnew_
        replace HD := Aside0.mk (aK HD.out hb2)
        have LY := Aside0.mk (Kd.N_V (base' := 0) hn)
        clear hn hb2
        obtain ⟨LYA, LYc, eLY⟩ := Kd.dJ LY.out
        subst eLY
        refine hK.out _ _ (HD.out) (fun hHeld => ?_)
        clear hK K
        refine cB (a' := ?_) ?_ ?_
        rotate_left
        · show Act.put _ (some 99) _ = _
          simp only [Act.put, List.setIfInBounds_toArray, List.set_cons_zero, List.set_cons_succ, aT, aU]
          rfl
        refine bE (i := 24) (N := some 100) (v := ?_) (a' := ?_) #[true, true, true, true, true, true, true, true, true, true, true, true, true, true, true, true, true, false, false, false, true, true, true, true, true, false, false, false] rfl rfl (bg HT_.out (by kernel_rfl)) (fun _ _ _ h => h) (Or.inl ⟨by rfl, ?_⟩) ?_ ?_
        rotate_left
        · intro w'
          go_simp
          with_reducible rfl
        rotate_left
        · simp only [Act.put, List.setIfInBounds_toArray, List.set_cons_zero, List.set_cons_succ, aT, aU]
          rfl
        refine fM (i := 17) (N := some 93) #[true, true, true, true, true, true, true, true, true, true, true, true, true, true, true, true, true, true, false, false, true, true, true, true, true, false, false, false] rfl rfl (dx HT_.out (by kernel_rfl)) (by decide) (fun K hK => ?_)
        refine Kd.dA k48 (w0 := wy) wy.heap.size 48 ?hg (N' := 93) ?hd (xs := [(⟨a1, x⟩ : S48)]) (inner := [.string a1, .int .i64 x.f0, .bool x.f1, .int .i64 x.f2, .string x.f3, .slice A4 x.f4.length A4c, .slice A5 x.f5.length A5c]) (ok := yes) (okp := yes) ?hr ?hp (fun _ hk => hk) trivial HD.out HD.out.size (by simp) ?_
        (case hd => rfl)
        (case hg => rfl)
        (case hr => first | (go_simp; done) | (go_simp; rfl))
        (case hp => exact cu.c7 ((HV.out.below HD.out).fp a1) (cu.none _ _))
        intro v93 wa hn hb_ hg_ hnew_
        have hb2 := dB hg_
        clear hb_ hg_ hnew_
        replace LY := Aside0.mk (Kd.bB LY.out hb2)
        replace HD := Aside0.mk (aK HD.out hb2)
        have HL := Aside0.mk (Kd.N_V (base' := 0) hn)
        clear hn hb2
        obtain ⟨HLA, HLc, eHL⟩ := Kd.dJ HL.out
        subst eHL
        refine hK.out _ _ (HD.out) (fun hHeld => ?_)
        clear hK K
        refine cB (a' := ?_) ?_ ?_
        rotate_left
        · show Act.put _ (some 93) _ = _
          simp only [Act.put, List.setIfInBounds_toArray, List.set_cons_zero, List.set_cons_succ, aT, aU]
          rfl
        refine fM (i := 18) (N := some 94) #[true, true, true, true, true, true, true, true, true, true, true, true, true, true, true, true, true, true, true, false, true, true, true, true, true, false, false, false] rfl rfl (dx HT_.out (by kernel_rfl)) (by decide) (fun K hK => ?_)
        refine gq Tryd.func19 (by kernel_rfl) rfl #[.slice HLA [(⟨a1, x⟩ : S48)].length HLc] (by rfl) rfl rfl (by (try simp only [List.map_toArray, List.map_cons, List.map_nil]); first | done | rfl) ?_
        refine (nD (by show (1 : Nat) ≤ 1000; omega) HL.out).mono ?_
        rintro e wn ⟨F4, F4c, F5, F5c, rfl, hv, hb⟩
        refine ⟨_, rfl, ?_⟩
        have hb2 := hb
        clear hb
        replace LY := Aside0.mk (Kd.bB LY.out hb2)
        have HQ := Aside0.mk (show VV _ (iM a1 x) F4 F4c F5 F5c from hv)
        clear hv HL
        replace HD := Aside0.mk (aK HD.out hb2)
        clear hb2
        refine hK.out _ _ (HD.out) (fun hHeld => ?_)
        clear hK K
        refine cB (a' := ?_) ?_ ?_
        rotate_left
        · show Act.put _ (some 94) _ = _
          simp only [Act.put, List.setIfInBounds_toArray, List.set_cons_zero, List.set_cons_succ, aT, aU]
          rfl
        refine fM (i := 19) (N := some 95) #[true, true, true, true, true, true, true, true, true, true, true, true, true, true, true, true, true, true, true, true, true, true, true, true, true, false, false, false] rfl rfl (dx HT_.out (by kernel_rfl)) (by decide) (fun K hK => ?_)
        refine gq Tryd.func14 (by kernel_rfl) rfl #[.agg (vc (iM a1 x) F4 F4c F5 F5c)] (by rfl) rfl rfl (by (try simp only [List.map_toArray, List.map_cons, List.map_nil]); first | done | rfl) ?_
        refine (iy (n := 83) (x := (iM a1 x)) HOKM.out (by omega) HM.out HQ.out).mono ?_
        rintro e wn ⟨E4, E4c, E5, E5c, rfl, hv, hb⟩
        refine ⟨_, rfl, ?_⟩
        have hb2 := hb
        clear hb
        replace LY := Aside0.mk (Kd.bB LY.out hb2)
        have HU := Aside0.mk hv
        clear hv HQ
        replace HD := Aside0.mk (aK HD.out hb2)
        clear hb2
        refine hK.out _ _ (HD.out) (fun hHeld => ?_)
        clear hK K
        refine cB (a' := ?_) ?_ ?_
        rotate_left
        · show Act.put _ (some 95) _ = _
          simp only [Act.put, List.setIfInBounds_toArray, List.set_cons_zero, List.set_cons_succ, aT, aU]
          rfl
        exact cB (by simp only [fO, Act.put, List.setIfInBounds_toArray, List.set_cons_zero, List.set_cons_succ]; rfl) (hCont (Value.slice HLA [(⟨a1, x⟩ : S48)].length HLc, .agg (vc (iM a1 x) F4 F4c F5 F5c), .agg (rc (iM a1 x) E4 E4c E5 E5c), Value.slice LYA [(⟨a1, toR x⟩ : S50)].length LYc) _ ⟨HD, ⟨E4, E4c, E5, E5c, rfl, HU⟩, LY⟩)
    rintro ⟨va, vb, vd, ve⟩ wq ⟨HD, ⟨E4, E4c, E5, E5c, hvd, HU⟩, LY⟩
    dsimp only at HD hvd HU LY
    subst hvd
    have hHeld : Below wy.heap.size wy wq := HD.out
    obtain ⟨LYA, LYc, eLY⟩ := Kd.dJ LY.out
    subst eLY
    refine cB (a' := ?_) ?_ ?_
    rotate_left
    · simp only [fO, Act.put, List.setIfInBounds_toArray, List.set_cons_zero, List.set_cons_succ]
      rfl
    refine fM (i := 25) (N := some 101) #[true, true, true, true, true, true, true, true, true, true, true, true, true, true, true, true, true, true, true, true, true, true, true, true, true, true, false, false] rfl rfl (dx HT_.out (by kernel_rfl)) (by decide) (fun K hK => ?_)
    refine gq Tryd.func13 (by kernel_rfl) rfl #[.agg (rc (iM a1 x) E4 E4c E5 E5c), .agg #[.int .i64 5, .bool false, .int .i64 0, .string (⟨#[]⟩ : ByteArray), .slice none 0 0, .slice LYA [(⟨a1, toR x⟩ : S50)].length LYc]] (by rfl) rfl rfl (by (try simp only [List.map_toArray, List.map_cons, List.map_nil]); first | done | rfl) ?_
    refine (iU (n := 83) (x := (iM a1 x)) HOKM.out (by omega) HM.out HU.out (RR.map LY.out)).mono ?_
    rintro e wn ⟨rfl, hb⟩
    refine ⟨_, rfl, ?_⟩
    replace HD := Aside0.mk (aK HD.out hb)
    clear hb HU LY
    refine hK.out _ _ (HD.out) (fun hHeld => ?_)
    clear hK K
    refine cB (a' := ?_) ?_ ?_
    rotate_left
    · show Act.put _ (some 101) _ = _
      simp only [Act.put, List.setIfInBounds_toArray, List.set_cons_zero, List.set_cons_succ, aT, aU]
      rfl
    refine bE (i := 26) (N := some 102) (v := ?_) (a' := ?_) #[true, true, true, true, true, true, true, true, true, true, true, true, true, true, true, true, true, true, true, true, true, true, true, true, true, true, true, false] rfl rfl (bg HT_.out (by kernel_rfl)) (fun _ _ _ h => h) (Or.inl ⟨by rfl, ?_⟩) ?_ ?_
    rotate_left
    · intro w'
      go_simp
      with_reducible rfl
    rotate_left
    · simp only [Act.put, List.setIfInBounds_toArray, List.set_cons_zero, List.set_cons_succ, aT, aU]
      rfl
    refine bE (i := 27) (N := some 8) (v := ?_) (a' := ?_) #[true, true, true, true, true, true, true, true, true, true, true, true, true, true, true, true, true, true, true, true, true, true, true, true, true, true, true, true] rfl rfl (bg HT_.out (by kernel_rfl)) (fun _ _ _ h => h) (Or.inl ⟨by rfl, ?_⟩) ?_ ?_
    rotate_left
    · intro w'
      go_simp
      with_reducible rfl
    rotate_left
    · simp only [Act.put, List.setIfInBounds_toArray, List.set_cons_zero, List.set_cons_succ, aT, aU]
      rfl
    refine jh (gL HT_.out (by kernel_rfl)) ?_
    try go_wp2
    go_ret
    exact ⟨rfl, aK HBW.out HD.out⟩
end Go.Proofs.YtnkkbiabloodaaaDoor.GVa
