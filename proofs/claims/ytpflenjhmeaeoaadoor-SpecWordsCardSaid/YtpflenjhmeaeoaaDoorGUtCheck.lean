/- spec.Pod.Check of a pod of one container without lists: its contract, in terms of plain functions. Printed by this session's own program for a pretended function without its map, and mended. No conditions beside those stated. -/
import Derived.Test.YtpflenjhmeaeoaaDoorGUtName
import Derived.Test.YtpflenjhmeaeoaaDoorGUtx2
import Derived.Test.YtpflenjhmeaeoaaDoorGUtParts
namespace Go.Proofs.YtpflenjhmeaeoaaDoor.GUt
open Go.RowKit Go.Maps Go.WideMaps Go.Proofs.YtpflenjhmeaeoaaDoorW.PrintWords Go.Proofs.YtpflenjhmeaeoaaDoorW.PrintLast Go.Proofs.YtpflenjhmeaeoaaDoorW.PrintMore
set_option linter.unusedVariables false
set_option linter.unusedSimpArgs false
theorem w01 : wrap64 ((0 : Int) + 1) = 1 := by rw [bg (by omega) (by omega)]; rfl
theorem l9 : Keyed Tryd.prog 9 := string_keyed Tryd.underlying9
theorem pG (w : World) : (zeroValue 3).run Tryd.prog w = .ok (.int .i64 0) w := by kernel_rfl
theorem jW {w w' : World} {P : Program} {k : TypeId} {R : Value → Option (DataW Unit × List MemPlace)} {b n : Nat} {D : DataW Unit} (h : w.ownsMap P k R b n D) (hb : Below w.heap.size w w') : w'.ownsMap P k R b n D := by
  have hlt := h.lt
  obtain ⟨es, clock, hh, F, hs, hD⟩ := h
  exact ⟨es, clock, (hb.block b hlt).trans hh, F, hs, hD⟩
theorem lC {w : World} {P : Program} {k : TypeId} {R : Value → Option (DataW Unit × List MemPlace)} {b n g : Nat} {D : DataW Unit} (h : w.ownsMap P k R b n D) (hne : b ≠ g) (j : Nat) (u : Value) : (w.setCell ⟨g, j, none⟩ u).ownsMap P k R b n D := by
  obtain ⟨es, clock, hh, F, hs, hD⟩ := h
  exact ⟨es, clock, (Below.heap_setCell w ⟨g, j, none⟩ u b hne).trans hh, F, hs, hD⟩
theorem mK {a b : Int} (h : (.lit (.int .i64 a) : DataW Unit) = .lit (.int .i64 b)) : a = b := by
  injection h with h
  injection h
theorem moved {W w3 : World} {g m : Nat} {o : Obj} (hg : W.grownBy w3 (some m)) (h : W.heap[g]? = some o) (hne : g ≠ m) : w3.heap[g]? = some o := (hg.block g (gW h) (fun e => hne (by injection e))).trans h
theorem oQ {w : World} {b n : Nat} {D : DataW Unit} {s : ByteArray} {kl : Lit} (h : w.ownsMap Tryd.prog 9 (plainElem Tryd.prog 3) b n D) (hkey : keyOf Tryd.prog 9 (.string s) = some kl) (hat : D.atKey kl (.lit (.int .i64 0)) = .lit (.int .i64 1)) :
    ∃ o : Obj, w.heap[b]? = some o ∧ ∀ W : World, W.heap[b]? = some o → (Instr.lookup 89 (.map (some b)) (.string s) false).run Tryd.prog W = .ok (.int .i64 1) W := by
  obtain ⟨es, clock, hh, F, hs, hD⟩ := h
  refine ⟨_, hh, fun W hW => ?_⟩
  have hW' : W.ownsMap Tryd.prog 9 (plainElem Tryd.prog 3) b n D := ⟨es, clock, hW, F, hs, hD⟩
  obtain ⟨c, hrun, hc, _⟩ := hW'.lookup_int l9 Tryd.underlying89 Tryd.underlying3 (pG W) hkey
  rw [hrun, mK (hc.symm.trans hat)]
theorem oU (l : List Int) : ∀ (k : Nat) (t : Int), aD.f k (13 :: l) = some t → t = 13
  | 0, t, h => by simp [aD.f, aD.l0] at h
  | k + 1, t, h => by
    rw [aD.f, aD.l0, if_pos (by simp), if_pos (by decide), if_pos (by simp)] at h
    have e : rd (13 :: l) 0 = 13 := rfl
    simp only [e] at h
    simpa using h.symm
theorem qp {k : Nat} {a : ByteArray} {b : Bool} {t : Int} {l : List Int} (h1 : aK.f k a = some b) (h2 : aB.f (!b) 13 = some t) (h3 : aD.f k (t :: l) = some 0) : aK.f k a = some true := by
  cases b with
  | true => exact h1
  | false =>
    have e : t = 13 := by simpa [aB.f] using h2.symm
    subst e
    exact absurd (oU l k 0 h3) (by decide)
theorem nV {l : List S43} (h1 : l.length = 1) (h2 : (ah l 0).f2.length = 0) (h3 : (ah l 0).f3.length = 0) (h6 : (ah l 0).f6.length = 0) : ∀ i : Int, (ah l i).f2.length = 0 ∧ (ah l i).f3.length = 0 ∧ (ah l i).f6.length = 0 := fun i => by
  by_cases hi : i.toNat = 0
  · have e : ah l i = ah l 0 := by unfold ah; rw [hi]; rfl
    rw [e]; exact ⟨h2, h3, h6⟩
  · have e : ah l i = z43 := by unfold ah; rw [List.getD_eq_getElem?_getD, List.getElem?_eq_none (by omega)]; rfl
    rw [e]; exact ⟨rfl, rfl, rfl⟩
mutual
def au.j0 : Nat → Int → ByteArray → ByteArray → Int → Int → Bool → List (S43) → Option (Int)
 | 0,_,_,_,_,_,_,_=>none
 | k + 1,x3,zV,zW,zX,zY,zZ,vG=>if x3 = 0 then (au.l0 k vG (vG.length : Int) 0) else (some x3)
def au.l0 : Nat → List (S43) → Int → Int → Option (Int)
 | 0,_,_,_=>none
 | k + 1,tJ,wL,tC=>if tC < wL then (if 0 ≤ tC then (if tC < (tJ.length : Int) then ((aK.f k ((ah tJ tC).f0)).bind fun vT=>((aB.f (!vT) 13).bind fun sK=>((aB.f (decide (1 > 1)) 8).bind fun t171=>((aR.f k ((ah tJ tC).f1)).bind fun uN=>((aB.f (!uN) 6).bind fun t173=>((aX.f (((ah tJ tC).f2).length : Int)).bind fun uD=>(if uD = true then ((aB.f true 18).bind fun t175=>((aS.f ((ah tJ tC).f4) 64000).bind fun uF=>(if uF = true then ((aS.f ((ah tJ tC).f5) 1048576).bind fun uG=>((aB.f (!uG) 7).bind fun uH=>((aD.f k (([sK,t171,t173,t175,uH] : List Int))).bind fun t182=>(au.j2 k t182 tJ wL tC ((ah tJ tC).f0) ((ah tJ tC).f1) ((ah tJ tC).f2) ((ah tJ tC).f3) ((ah tJ tC).f4) ((ah tJ tC).f5) ((ah tJ tC).f6))))) else ((aB.f true 7).bind fun t183=>((aD.f k (([sK,t171,t173,t175,t183] : List Int))).bind fun uI=>(au.j2 k uI tJ wL tC ((ah tJ tC).f0) ((ah tJ tC).f1) ((ah tJ tC).f2) ((ah tJ tC).f3) ((ah tJ tC).f4) ((ah tJ tC).f5) ((ah tJ tC).f6))))))) else ((aX.f (((ah tJ tC).f3).length : Int)).bind fun ug=>(if ug = true then ((aB.f true 18).bind fun tO=>((aS.f ((ah tJ tC).f4) 64000).bind fun uj=>(if uj = true then ((aS.f ((ah tJ tC).f5) 1048576).bind fun um=>((aB.f (!um) 7).bind fun uo=>((aD.f k (([sK,t171,t173,tO,uo] : List Int))).bind fun t196=>(au.j2 k t196 tJ wL tC ((ah tJ tC).f0) ((ah tJ tC).f1) ((ah tJ tC).f2) ((ah tJ tC).f3) ((ah tJ tC).f4) ((ah tJ tC).f5) ((ah tJ tC).f6))))) else ((aB.f true 7).bind fun uq=>((aD.f k (([sK,t171,t173,tO,uq] : List Int))).bind fun t201=>(au.j2 k t201 tJ wL tC ((ah tJ tC).f0) ((ah tJ tC).f1) ((ah tJ tC).f2) ((ah tJ tC).f3) ((ah tJ tC).f4) ((ah tJ tC).f5) ((ah tJ tC).f6))))))) else ((aX.f (((ah tJ tC).f6).length : Int)).bind fun tY=>((aB.f tY 18).bind fun t203=>((aS.f ((ah tJ tC).f4) 64000).bind fun tQ=>(if tQ = true then ((aS.f ((ah tJ tC).f5) 1048576).bind fun tu=>((aB.f (!tu) 7).bind fun t206=>((aD.f k (([sK,t171,t173,t203,t206] : List Int))).bind fun t210=>(au.j2 k t210 tJ wL tC ((ah tJ tC).f0) ((ah tJ tC).f1) ((ah tJ tC).f2) ((ah tJ tC).f3) ((ah tJ tC).f4) ((ah tJ tC).f5) ((ah tJ tC).f6))))) else ((aB.f true 7).bind fun tT=>((aD.f k (([sK,t171,t173,t203,tT] : List Int))).bind fun tV=>(au.j2 k tV tJ wL tC ((ah tJ tC).f0) ((ah tJ tC).f1) ((ah tJ tC).f2) ((ah tJ tC).f3) ((ah tJ tC).f4) ((ah tJ tC).f5) ((ah tJ tC).f6))))))))))))))))) else (none)) else (none)) else (some 0)
def au.j2 : Nat → Int → List (S43) → Int → Int → ByteArray → ByteArray → List ByteArray → List (S46) → Int → Int → List (S82) → Option (Int)
 | 0,_,_,_,_,_,_,_,_,_,_,_=>none
 | k + 1,x7,tJ,wL,tC,wM,wN,wO,wP,wQ,wR,wS=>if x7 = 0 then ((dK.f wM wN wO wP wQ wR wS).bind fun uO=>(if uO = 0 then (au.l0 k tJ wL (wrap64 (tC + 1))) else (some uO))) else (some x7)
end
def au.g (k : Nat) (sO : ByteArray) (sM : ByteArray) (sJ : Int) (sN : Int) (sP : Bool) (sF : List (S43)) : Option (Int):=(cK.f k sO).bind fun vU=>(if vU = true then ((aK.f k sM).bind fun uP=>((aB.f (!uP) 13).bind fun tq=>(if sJ < 0 then ((aB.f true 7).bind fun t116=>((aB.f ((sF.length : Int) == 0) 16).bind fun t117=>((aX.f (sF.length : Int)).bind fun uQ=>((aB.f uQ 18).bind fun t119=>((aD.f k (([tq,t116,t117,t119] : List Int))).bind fun uR=>(au.j0 k uR sO sM sJ sN sP sF)))))) else (if sJ > 2 then ((aB.f true 7).bind fun t124=>((aB.f ((sF.length : Int) == 0) 16).bind fun uS=>((aX.f (sF.length : Int)).bind fun uT=>((aB.f uT 18).bind fun t127=>((aD.f k (([tq,t124,uS,t127] : List Int))).bind fun t131=>(au.j0 k t131 sO sM sJ sN sP sF)))))) else ((aS.f sN 3600).bind fun uw=>((aB.f (!uw) 7).bind fun tZ=>((aB.f ((sF.length : Int) == 0) 16).bind fun tX=>((aX.f (sF.length : Int)).bind fun uf=>((aB.f uf 18).bind fun tL=>((aD.f k (([tq,tZ,tX,tL] : List Int))).bind fun tN=>(au.j0 k tN sO sM sJ sN sP sF))))))))))) else ((aB.f true 13).bind fun t141=>(if sJ < 0 then ((aB.f true 7).bind fun vX=>((aB.f ((sF.length : Int) == 0) 16).bind fun t143=>((aX.f (sF.length : Int)).bind fun vY=>((aB.f vY 18).bind fun t145=>((aD.f k (([t141,vX,t143,t145] : List Int))).bind fun vZ=>(au.j0 k vZ sO sM sJ sN sP sF)))))) else (if sJ > 2 then ((aB.f true 7).bind fun wh=>((aB.f ((sF.length : Int) == 0) 16).bind fun wm=>((aX.f (sF.length : Int)).bind fun t152=>((aB.f t152 18).bind fun wo=>((aD.f k (([t141,wh,wm,wo] : List Int))).bind fun t157=>(au.j0 k t157 sO sM sJ sN sP sF)))))) else ((aS.f sN 3600).bind fun wu=>((aB.f (!wu) 7).bind fun t159=>((aB.f ((sF.length : Int) == 0) 16).bind fun t160=>((aX.f (sF.length : Int)).bind fun wB=>((aB.f wB 18).bind fun t162=>((aD.f k (([t141,t159,t160,t162] : List Int))).bind fun wC=>(au.j0 k wC sO sM sJ sN sP sF)))))))))))
theorem au.eu : ∀ k,(∀ y0 y1 y2 y3 y4 y5 y6,LeO (au.j0 k y0 y1 y2 y3 y4 y5 y6) (au.j0 (k + 1) y0 y1 y2 y3 y4 y5 y6)) ∧ (∀ y0 y1 y2,LeO (au.l0 k y0 y1 y2) (au.l0 (k + 1) y0 y1 y2)) ∧ (∀ y0 y1 y2 y3 y4 y5 y6 y7 y8 y9 Ac,LeO (au.j2 k y0 y1 y2 y3 y4 y5 y6 y7 y8 y9 Ac) (au.j2 (k + 1) y0 y1 y2 y3 y4 y5 y6 y7 y8 y9 Ac))
 | 0=>⟨fun _ _ _ _ _ _ _ r h=>by simp [au.j0] at h,fun _ _ _ r h=>by simp [au.l0] at h,fun _ _ _ _ _ _ _ _ _ _ _ r h=>by simp [au.j2] at h⟩
 | k + 1=>by
  obtain ⟨wT,ih1,ih2⟩:=au.eu k
  refine ⟨?_,?_,?_⟩
  ·intro y0 y1 y2 y3 y4 y5 y6
   unfold au.j0
   repeat' first
   | (with_reducible exact wT _ _ _ _ _ _ _)
   | (with_reducible exact ih1 _ _ _)
   | (with_reducible exact ih2 _ _ _ _ _ _ _ _ _ _ _)
   | (with_reducible exact aR.mono _ _)
   | (with_reducible exact aK.mono _ _)
   | (with_reducible exact cK.mono _ _)
   | (with_reducible exact aD.mono _ _)
   | (with_reducible exact LeO.refl _)
   | (with_reducible exact LeO.none _)
   | (with_reducible refine LeO.ite ?_ ?_)
   | (with_reducible refine LeO.bind ?_ (fun _=>?_))
   | exact wT _ _ _ _ _ _ _
   | exact ih1 _ _ _
   | exact ih2 _ _ _ _ _ _ _ _ _ _ _
   | exact aR.mono _ _
   | exact aK.mono _ _
   | exact cK.mono _ _
   | exact aD.mono _ _
   | exact LeO.none _
   | refine LeO.ite ?_ ?_
   | refine LeO.bind ?_ (fun _=>?_)
  ·intro y0 y1 y2
   unfold au.l0
   repeat' first
   | (with_reducible exact wT _ _ _ _ _ _ _)
   | (with_reducible exact ih1 _ _ _)
   | (with_reducible exact ih2 _ _ _ _ _ _ _ _ _ _ _)
   | (with_reducible exact aR.mono _ _)
   | (with_reducible exact aK.mono _ _)
   | (with_reducible exact cK.mono _ _)
   | (with_reducible exact aD.mono _ _)
   | (with_reducible exact LeO.refl _)
   | (with_reducible exact LeO.none _)
   | (with_reducible refine LeO.ite ?_ ?_)
   | (with_reducible refine LeO.bind ?_ (fun _=>?_))
   | exact wT _ _ _ _ _ _ _
   | exact ih1 _ _ _
   | exact ih2 _ _ _ _ _ _ _ _ _ _ _
   | exact aR.mono _ _
   | exact aK.mono _ _
   | exact cK.mono _ _
   | exact aD.mono _ _
   | exact LeO.none _
   | refine LeO.ite ?_ ?_
   | refine LeO.bind ?_ (fun _=>?_)
  ·intro y0 y1 y2 y3 y4 y5 y6 y7 y8 y9 Ac
   unfold au.j2
   repeat' first
   | (with_reducible exact wT _ _ _ _ _ _ _)
   | (with_reducible exact ih1 _ _ _)
   | (with_reducible exact ih2 _ _ _ _ _ _ _ _ _ _ _)
   | (with_reducible exact aR.mono _ _)
   | (with_reducible exact aK.mono _ _)
   | (with_reducible exact cK.mono _ _)
   | (with_reducible exact aD.mono _ _)
   | (with_reducible exact LeO.refl _)
   | (with_reducible exact LeO.none _)
   | (with_reducible refine LeO.ite ?_ ?_)
   | (with_reducible refine LeO.bind ?_ (fun _=>?_))
   | exact wT _ _ _ _ _ _ _
   | exact ih1 _ _ _
   | exact ih2 _ _ _ _ _ _ _ _ _ _ _
   | exact aR.mono _ _
   | exact aK.mono _ _
   | exact cK.mono _ _
   | exact aD.mono _ _
   | exact LeO.none _
   | refine LeO.ite ?_ ?_
   | refine LeO.bind ?_ (fun _=>?_)
theorem au.qY : ∀ a0 a1 a2 a3 a4 a5 k,LeO (au.g k a0 a1 a2 a3 a4 a5) (au.g (k + 1) a0 a1 a2 a3 a4 a5):=by
 intro a0 a1 a2 a3 a4 a5 k
 obtain ⟨wT,ih1,ih2⟩:=au.eu k
 unfold au.g
 repeat' first
   | (with_reducible exact wT _ _ _ _ _ _ _)
   | (with_reducible exact ih1 _ _ _)
   | (with_reducible exact ih2 _ _ _ _ _ _ _ _ _ _ _)
   | (with_reducible exact aR.mono _ _)
   | (with_reducible exact aK.mono _ _)
   | (with_reducible exact cK.mono _ _)
   | (with_reducible exact aD.mono _ _)
   | (with_reducible exact LeO.refl _)
   | (with_reducible exact LeO.none _)
   | (with_reducible refine LeO.ite ?_ ?_)
   | (with_reducible refine LeO.bind ?_ (fun _=>?_))
   | exact wT _ _ _ _ _ _ _
   | exact ih1 _ _ _
   | exact ih2 _ _ _ _ _ _ _ _ _ _ _
   | exact aR.mono _ _
   | exact aK.mono _ _
   | exact cK.mono _ _
   | exact aD.mono _ _
   | exact LeO.none _
   | refine LeO.ite ?_ ?_
   | refine LeO.bind ?_ (fun _=>?_)
def au.Ok (k : Nat) (sO sM : ByteArray) (sJ : Int) (sF : List (S43)) : Prop := cK.f k sO = some true ∧ sJ = 0 ∧ sF.length = 1 ∧ (ah sF 0).f2.length = 0 ∧ (ah sF 0).f3.length = 0 ∧ (ah sF 0).f6.length = 0 ∧ (aK.f k sM = some true → aS.f (ah sF 0).f4 64000 = some true) ∧ (ah sF 0).f0.size ≤ 1000000000
instance (k : Nat) (sO sM : ByteArray) (sJ : Int) (sF : List (S43)) : Decidable (au.Ok k sO sM sJ sF) := by unfold au.Ok; infer_instance
def au.f (k : Nat) (sO : ByteArray) (sM : ByteArray) (sJ : Int) (sN : Int) (sP : Bool) (sF : List (S43)) : Option (Int) := if au.Ok k sO sM sJ sF then au.g k sO sM sJ sN sP sF else none
theorem au.mono : ∀ a0 a1 a2 a3 a4 a5 k, LeO (au.f k a0 a1 a2 a3 a4 a5) (au.f (k + 1) a0 a1 a2 a3 a4 a5) := fun a0 a1 a2 a3 a4 a5 k r h => by
  unfold au.f at h ⊢
  split at h
  case isFalse => cases h
  rename_i hc
  have hb : ∃ b, aK.f k a1 = some b := by
    unfold au.g at h
    rw [hc.1, Option.bind_some, if_pos rfl] at h
    obtain ⟨b, hb, _⟩ := Option.bind_eq_some_iff.1 h
    exact ⟨b, hb⟩
  obtain ⟨b, hb⟩ := hb
  have hb' := aK.mono _ _ _ hb
  rw [if_pos (show au.Ok (k + 1) a0 a1 a2 a5 from ⟨cK.mono _ _ _ hc.1, hc.2.1, hc.2.2.1, hc.2.2.2.1, hc.2.2.2.2.1, hc.2.2.2.2.2.1, fun h => hc.2.2.2.2.2.2.1 (by rw [hb'] at h; rw [hb]; exact h), hc.2.2.2.2.2.2.2⟩)]
  exact au.qY _ _ _ _ _ _ _ _ h
def au.T1 : Bool × List (List Nat × List Nat):=(true,[([],[]),([0],[0]),([1],[1]),([2],[2]),([3,2],[3]),([4],[4]),([5,4],[4,5]),([6,4,4],[4,6]),([7,4],[4,7]),([4,8],[4,8]),([9,7],[9]),([],[]),([11],[11]),([12],[12]),([13,10],[13]),([14],[14]),([15,14],[14,15]),([16,14],[14,16]),([14,17],[14,17]),([18,14],[18]),([19],[19]),([20,19],[19,20]),([21,19,19],[19,21]),([22,19],[19,22]),([19,23],[19,23]),([24,22],[24]),([],[]),([26],[26]),([27],[27]),([28],[28]),([29,25],[29]),([],[]),([31],[31]),([32],[32]),([33,30],[33]),([34,34],[34]),([10,25,30,35],[10,25,30,35]),([36,35],[36]),([37,37,0,1,2,3,4,5,6,7,8,9,10,11,12,13,14,15,16,17,18,19,20,21,22,23,24,25,26,27,28,29,30,31,32,33,34,35,36,37],[37])])
def au.B1 : List Nat:=[0,1,3,7,15,31,63,127,255,511,1023,0,2048,6144,16383,32767,65535,131071,262143,524287,1048575,2097151,4194303,8388607,16777215,33554431,0,67108864,201326592,469762048,1073741823,0,2147483648,6442450944,17179869183,34359738367,68719476735,137438953471,274877906943]
theorem au.rV : fV .any (opsOf Tryd.f10 1) = au.T1:=by kernel_rfl
theorem au.qZ : gu au.T1.2 au.B1 = true:=by kernel_rfl
def au.T9 : Bool × List (List Nat × List Nat) := (true, [([], []), ([0], [0]), ([1], [1]), ([2], [2]), ([3, 2], [3]), ([], []), ([], []), ([6], [6]), ([5, 7], [5, 7]), ([8], [8]), ([9, 4], [9]), ([], []), ([11], [11]), ([12, 10], [12]), ([13], [13]), ([14, 13], [14]), ([], []), ([16], [16]), ([17], [17]), ([18, 15], [18]), ([19, 19], [19]), ([20], [20]), ([21, 20], [20, 21]), ([22, 20], [20, 22]), ([23, 20, 20], [20, 23]), ([20, 24], [20, 24]), ([25, 24], [25]), ([26], [26]), ([27, 26], [26, 27]), ([28, 26], [26, 28]), ([29, 26, 26], [26, 29]), ([26, 30], [26, 30]), ([31, 30], [31]), ([], []), ([33], [33]), ([34, 32], [34]), ([35], [35]), ([36, 35], [36]), ([37], [37]), ([38, 37], [37, 38]), ([39, 37, 37], [37, 39]), ([40, 37], [37, 40]), ([37, 41], [37, 41]), ([42, 40], [42]), ([4, 10, 15, 32, 43], [4, 10, 15, 32, 43]), ([44, 43], [44]), ([45, 45, 0, 1, 2, 3, 4, 5, 6, 7, 8, 9, 10, 11, 12, 13, 14, 15, 16, 17, 18, 19, 20, 21, 22, 23, 24, 25, 26, 27, 28, 29, 30, 31, 32, 33, 34, 35, 36, 37, 38, 39, 40, 41, 42, 43, 44, 45], [45])])
def au.B9 : List Nat := [0, 1, 3, 7, 15, 0, 0, 64, 224, 480, 1023, 0, 2048, 8191, 16383, 32767, 0, 65536, 196608, 524287, 1048575, 2097151, 4194303, 8388607, 16777215, 33554431, 67108863, 134217727, 268435455, 536870911, 1073741823, 2147483647, 4294967295, 0, 8589934592, 34359738367, 68719476735, 137438953471, 274877906943, 549755813887, 1099511627775, 2199023255551, 4398046511103, 8796093022207, 17592186044415, 35184372088831, 70368744177663]
theorem au.qw : fV .any (opsOf Tryd.f10 9) = au.T9:=by kernel_rfl
theorem au.nW : gu au.T9.2 au.B9 = true:=by kernel_rfl
set_option maxHeartbeats 8000000 in
set_option maxRecDepth 100000 in
theorem au.calls (k : Nat) (sO : ByteArray) (sM : ByteArray) (sJ : Int) (sN : Int) (sP : Bool) (uW : Option Addr) (uh : Nat) (sF : List (S43)) (r : Int) (w : World) (xS : Kd.C k43 w uW sF.length sF) (xU : sF.length ≤ uh) (h : au.f k sO sM sJ sN sP sF = some r) :
  Calls Tryd.prog 10 #[.agg #[.string sO,.string sM,.int .i64 sJ,.int .i64 sN,.bool sP,.slice uW sF.length uh]] w fun e w'=>e = .returned (.int .i64 r) ∧ Below w.heap.size w w':=by
 have Bv:=Tryd.underlying25
 have Bw:=Tryd.underlying43
 have yG:=Aside0.mk xS
 have AZ:=Aside0.mk xU
 clear xS xU
 unfold au.f at h
 split at h
 case isFalse => cases h
 rename_i hcond
 obtain ⟨hnm, hz2, hl1, he2, Ba, Bb, hfr, hsz⟩ := hcond
 have HNm := Aside0.mk hnm
 have HZ2 := Aside0.mk hz2
 have Bz := Aside0.mk hl1
 have HFr := Aside0.mk hfr
 have HSz := Aside0.mk hsz
 have HE := Aside0.mk (nV hl1 he2 Ba Bb)
 clear hnm hz2 hl1 he2 Ba Bb hfr hsz
 have HB:=Aside0.mk (Below.refl w.heap.size w)
 have H : ((cK.f k sO).bind fun vU=>(if vU = true then ((aK.f k sM).bind fun uP=>((aB.f (!uP) 13).bind fun tq=>(if sJ < 0 then ((aB.f true 7).bind fun t116=>((aB.f ((sF.length : Int) == 0) 16).bind fun t117=>((aX.f (sF.length : Int)).bind fun uQ=>((aB.f uQ 18).bind fun t119=>((aD.f k (([tq,t116,t117,t119] : List Int))).bind fun uR=>(au.j0 k uR sO sM sJ sN sP sF)))))) else (if sJ > 2 then ((aB.f true 7).bind fun t124=>((aB.f ((sF.length : Int) == 0) 16).bind fun uS=>((aX.f (sF.length : Int)).bind fun uT=>((aB.f uT 18).bind fun t127=>((aD.f k (([tq,t124,uS,t127] : List Int))).bind fun t131=>(au.j0 k t131 sO sM sJ sN sP sF)))))) else ((aS.f sN 3600).bind fun uw=>((aB.f (!uw) 7).bind fun tZ=>((aB.f ((sF.length : Int) == 0) 16).bind fun tX=>((aX.f (sF.length : Int)).bind fun uf=>((aB.f uf 18).bind fun tL=>((aD.f k (([tq,tZ,tX,tL] : List Int))).bind fun tN=>(au.j0 k tN sO sM sJ sN sP sF))))))))))) else ((aB.f true 13).bind fun t141=>(if sJ < 0 then ((aB.f true 7).bind fun vX=>((aB.f ((sF.length : Int) == 0) 16).bind fun t143=>((aX.f (sF.length : Int)).bind fun vY=>((aB.f vY 18).bind fun t145=>((aD.f k (([t141,vX,t143,t145] : List Int))).bind fun vZ=>(au.j0 k vZ sO sM sJ sN sP sF)))))) else (if sJ > 2 then ((aB.f true 7).bind fun wh=>((aB.f ((sF.length : Int) == 0) 16).bind fun wm=>((aX.f (sF.length : Int)).bind fun t152=>((aB.f t152 18).bind fun wo=>((aD.f k (([t141,wh,wm,wo] : List Int))).bind fun t157=>(au.j0 k t157 sO sM sJ sN sP sF)))))) else ((aS.f sN 3600).bind fun wu=>((aB.f (!wu) 7).bind fun t159=>((aB.f ((sF.length : Int) == 0) 16).bind fun t160=>((aX.f (sF.length : Int)).bind fun wB=>((aB.f wB 18).bind fun t162=>((aD.f k (([t141,t159,t160,t162] : List Int))).bind fun wC=>(au.j0 k wC sO sM sJ sN sP sF)))))))))))) = some r:=h
 clear h
 have Ad:=Aside0.mk H
 clear H
 go_enter Tryd.func10,Tryd.ntmps10
 go_upto_region 1 with (first|((with_reducible refine dN (N:=1) rfl ?_);(try (refine d9 (by rfl) ?_;dsimp only));refine eD ?hg (N:=1) ?hd (cs:=#[.string sO,.string sM,.int .i64 sJ,.int .i64 sN,.bool sP,.slice uW sF.length uh]) (t:=25) ?hr ?_;(case hd=>rfl);(case hg=>rfl);(case hr=>first|(go_simp;done)|(go_simp;rfl));intro sQ hg w3 hbox hb;have uy:=Aside0.mk (aH (by repeat (first|(with_reducible first|exact HB.out|apply ay|apply aj|apply av)|exact HB.out)) hb);have uz:=Aside0.mk (hbox);have uJ:=Aside0.mk ((by rw [hg];exact (aU (by repeat (first|(with_reducible first|exact HB.out|apply ay|apply aj|apply av)|exact HB.out))) : w.heap.size ≤ sQ));have vV:=Aside0.mk ((by rw [hg];exact (aU (by repeat (first|(with_reducible first|exact HB.out|apply ay|apply aj|apply av)|exact HB.out))) : w.heap.size ≤ sQ));clear HB;have HB:=uy;have sH:=uz;have Bc:=uJ;have tK:=vV;clear uy uz uJ vV;clear hb hbox hg))
 (try simp only [Act.put,List.setIfInBounds_toArray,List.set_cons_zero,List.set_cons_succ])
 go_cut [3] (fun v3 wc=>∃ (kq : Nat) (uX : Int),v3 = .int .i64 uX ∧ Aside0 (au.j0 kq uX sO sM sJ sN sP sF = some r) ∧ Aside0 (kq ≤ k) ∧ Aside0 (uX = 0 → aK.f k sM = some true) ∧ Aside0 (wc.heap[sQ]? = some (.cells #[.string sO,.string sM,.int .i64 sJ,.int .i64 sN,.bool sP,(.slice uW sF.length uh)] 25 (0,0))) ∧ Aside0 (Below w.heap.size w wc))
 case first =>
  have H:=Ad.out
  clear Ad
  replace H:=Option.bind_eq_some_iff.mp H
  obtain ⟨vU,Bd,H⟩:=H
  replace H : (if vU = true then ((aK.f k sM).bind fun uP=>((aB.f (!uP) 13).bind fun tq=>(if sJ < 0 then ((aB.f true 7).bind fun t116=>((aB.f ((sF.length : Int) == 0) 16).bind fun t117=>((aX.f (sF.length : Int)).bind fun uQ=>((aB.f uQ 18).bind fun t119=>((aD.f k (([tq,t116,t117,t119] : List Int))).bind fun uR=>(au.j0 k uR sO sM sJ sN sP sF)))))) else (if sJ > 2 then ((aB.f true 7).bind fun t124=>((aB.f ((sF.length : Int) == 0) 16).bind fun uS=>((aX.f (sF.length : Int)).bind fun uT=>((aB.f uT 18).bind fun t127=>((aD.f k (([tq,t124,uS,t127] : List Int))).bind fun t131=>(au.j0 k t131 sO sM sJ sN sP sF)))))) else ((aS.f sN 3600).bind fun uw=>((aB.f (!uw) 7).bind fun tZ=>((aB.f ((sF.length : Int) == 0) 16).bind fun tX=>((aX.f (sF.length : Int)).bind fun uf=>((aB.f uf 18).bind fun tL=>((aD.f k (([tq,tZ,tX,tL] : List Int))).bind fun tN=>(au.j0 k tN sO sM sJ sN sP sF))))))))))) else ((aB.f true 13).bind fun t141=>(if sJ < 0 then ((aB.f true 7).bind fun vX=>((aB.f ((sF.length : Int) == 0) 16).bind fun t143=>((aX.f (sF.length : Int)).bind fun vY=>((aB.f vY 18).bind fun t145=>((aD.f k (([t141,vX,t143,t145] : List Int))).bind fun vZ=>(au.j0 k vZ sO sM sJ sN sP sF)))))) else (if sJ > 2 then ((aB.f true 7).bind fun wh=>((aB.f ((sF.length : Int) == 0) 16).bind fun wm=>((aX.f (sF.length : Int)).bind fun t152=>((aB.f t152 18).bind fun wo=>((aD.f k (([t141,wh,wm,wo] : List Int))).bind fun t157=>(au.j0 k t157 sO sM sJ sN sP sF)))))) else ((aS.f sN 3600).bind fun wu=>((aB.f (!wu) 7).bind fun t159=>((aB.f ((sF.length : Int) == 0) 16).bind fun t160=>((aX.f (sF.length : Int)).bind fun wB=>((aB.f wB 18).bind fun t162=>((aD.f k (([t141,t159,t160,t162] : List Int))).bind fun wC=>(au.j0 k wC sO sM sJ sN sP sF))))))))))) = some r:=H
  have A4:=Aside0.mk Bd
  clear Bd
  by_cases c5 : vU = true
  ·subst c5
   have H1 : ((aK.f k sM).bind fun uP=>((aB.f (!uP) 13).bind fun tq=>(if sJ < 0 then ((aB.f true 7).bind fun t116=>((aB.f ((sF.length : Int) == 0) 16).bind fun t117=>((aX.f (sF.length : Int)).bind fun uQ=>((aB.f uQ 18).bind fun t119=>((aD.f k (([tq,t116,t117,t119] : List Int))).bind fun uR=>(au.j0 k uR sO sM sJ sN sP sF)))))) else (if sJ > 2 then ((aB.f true 7).bind fun t124=>((aB.f ((sF.length : Int) == 0) 16).bind fun uS=>((aX.f (sF.length : Int)).bind fun uT=>((aB.f uT 18).bind fun t127=>((aD.f k (([tq,t124,uS,t127] : List Int))).bind fun t131=>(au.j0 k t131 sO sM sJ sN sP sF)))))) else ((aS.f sN 3600).bind fun uw=>((aB.f (!uw) 7).bind fun tZ=>((aB.f ((sF.length : Int) == 0) 16).bind fun tX=>((aX.f (sF.length : Int)).bind fun uf=>((aB.f uf 18).bind fun tL=>((aD.f k (([tq,tZ,tX,tL] : List Int))).bind fun tN=>(au.j0 k tN sO sM sJ sN sP sF))))))))))) = some r:=by rw [if_pos rfl] at H;exact H
   clear H
   have H:=H1
   clear H1
   replace H:=Option.bind_eq_some_iff.mp H
   obtain ⟨uP,Bf,H⟩:=H
   replace H : ((aB.f (!uP) 13).bind fun tq=>(if sJ < 0 then ((aB.f true 7).bind fun t116=>((aB.f ((sF.length : Int) == 0) 16).bind fun t117=>((aX.f (sF.length : Int)).bind fun uQ=>((aB.f uQ 18).bind fun t119=>((aD.f k (([tq,t116,t117,t119] : List Int))).bind fun uR=>(au.j0 k uR sO sM sJ sN sP sF)))))) else (if sJ > 2 then ((aB.f true 7).bind fun t124=>((aB.f ((sF.length : Int) == 0) 16).bind fun uS=>((aX.f (sF.length : Int)).bind fun uT=>((aB.f uT 18).bind fun t127=>((aD.f k (([tq,t124,uS,t127] : List Int))).bind fun t131=>(au.j0 k t131 sO sM sJ sN sP sF)))))) else ((aS.f sN 3600).bind fun uw=>((aB.f (!uw) 7).bind fun tZ=>((aB.f ((sF.length : Int) == 0) 16).bind fun tX=>((aX.f (sF.length : Int)).bind fun uf=>((aB.f uf 18).bind fun tL=>((aD.f k (([tq,tZ,tX,tL] : List Int))).bind fun tN=>(au.j0 k tN sO sM sJ sN sP sF)))))))))) = some r:=H
   have A6:=Aside0.mk Bf
   clear Bf
   replace H:=Option.bind_eq_some_iff.mp H
   obtain ⟨tq,Bg,H⟩:=H
   replace H : (if sJ < 0 then ((aB.f true 7).bind fun t116=>((aB.f ((sF.length : Int) == 0) 16).bind fun t117=>((aX.f (sF.length : Int)).bind fun uQ=>((aB.f uQ 18).bind fun t119=>((aD.f k (([tq,t116,t117,t119] : List Int))).bind fun uR=>(au.j0 k uR sO sM sJ sN sP sF)))))) else (if sJ > 2 then ((aB.f true 7).bind fun t124=>((aB.f ((sF.length : Int) == 0) 16).bind fun uS=>((aX.f (sF.length : Int)).bind fun uT=>((aB.f uT 18).bind fun t127=>((aD.f k (([tq,t124,uS,t127] : List Int))).bind fun t131=>(au.j0 k t131 sO sM sJ sN sP sF)))))) else ((aS.f sN 3600).bind fun uw=>((aB.f (!uw) 7).bind fun tZ=>((aB.f ((sF.length : Int) == 0) 16).bind fun tX=>((aX.f (sF.length : Int)).bind fun uf=>((aB.f uf 18).bind fun tL=>((aD.f k (([tq,tZ,tX,tL] : List Int))).bind fun tN=>(au.j0 k tN sO sM sJ sN sP sF))))))))) = some r:=H
   have A7:=Aside0.mk Bg
   clear Bg
   by_cases c8 : sJ < 0
   ·exact absurd c8 (by rw [HZ2.out]; decide)
   ·rw [if_neg c8] at H
    have c8b0 : decide (sJ < 0) = false:=decide_eq_false c8
    clear c8
    (first|rw [c8b0]|(simp only [aV,aW];rw [c8b0])|skip)
    by_cases c19 : sJ > 2
    ·exact absurd c19 (by rw [HZ2.out]; decide)
    ·rw [if_neg c19] at H
     have c19b0 : decide (2 < sJ) = false:=decide_eq_false c19
     clear c19
     replace H:=Option.bind_eq_some_iff.mp H
     obtain ⟨uw,yH,H⟩:=H
     replace H : ((aB.f (!uw) 7).bind fun tZ=>((aB.f ((sF.length : Int) == 0) 16).bind fun tX=>((aX.f (sF.length : Int)).bind fun uf=>((aB.f uf 18).bind fun tL=>((aD.f k (([tq,tZ,tX,tL] : List Int))).bind fun tN=>(au.j0 k tN sO sM sJ sN sP sF)))))) = some r:=H
     have BA:=Aside0.mk yH
     clear yH
     replace H:=Option.bind_eq_some_iff.mp H
     obtain ⟨tZ,yI,H⟩:=H
     replace H : ((aB.f ((sF.length : Int) == 0) 16).bind fun tX=>((aX.f (sF.length : Int)).bind fun uf=>((aB.f uf 18).bind fun tL=>((aD.f k (([tq,tZ,tX,tL] : List Int))).bind fun tN=>(au.j0 k tN sO sM sJ sN sP sF))))) = some r:=H
     have BD:=Aside0.mk yI
     clear yI
     replace H:=Option.bind_eq_some_iff.mp H
     obtain ⟨tX,yJ,H⟩:=H
     replace H : ((aX.f (sF.length : Int)).bind fun uf=>((aB.f uf 18).bind fun tL=>((aD.f k (([tq,tZ,tX,tL] : List Int))).bind fun tN=>(au.j0 k tN sO sM sJ sN sP sF)))) = some r:=H
     have BF:=Aside0.mk yJ
     clear yJ
     replace H:=Option.bind_eq_some_iff.mp H
     obtain ⟨uf,yK,H⟩:=H
     replace H : ((aB.f uf 18).bind fun tL=>((aD.f k (([tq,tZ,tX,tL] : List Int))).bind fun tN=>(au.j0 k tN sO sM sJ sN sP sF))) = some r:=H
     have BG:=Aside0.mk yK
     clear yK
     replace H:=Option.bind_eq_some_iff.mp H
     obtain ⟨tL,yL,H⟩:=H
     replace H : ((aD.f k (([tq,tZ,tX,tL] : List Int))).bind fun tN=>(au.j0 k tN sO sM sJ sN sP sF)) = some r:=H
     have BH:=Aside0.mk yL
     clear yL
     obtain ⟨yw,vC⟩ : ∃ y_ : List Int,y_ = (([tq,tZ,tX,tL] : List Int)):=⟨_,rfl⟩
     replace H : ((aD.f k yw).bind fun tN=>(au.j0 k tN sO sM sJ sN sP sF)) = some r:=by first|(rw [vC];with_reducible exact H)|(have yx:=(Option.bind_some _ _).symm.trans H;rw [vC];with_reducible exact yx)|(have yx:=(Option.bind_some _ _).symm.trans H;with_reducible exact yx)|with_reducible exact H|(rw [vC];exact H)|exact H
     have wD:=Aside0.mk vC
     clear vC
     replace H:=Option.bind_eq_some_iff.mp H
     obtain ⟨tN,yM,H⟩:=H
     replace H : (au.j0 k tN sO sM sJ sN sP sF) = some r:=H
     have Bh:=Aside0.mk yM
     clear yM
     have H':=Aside0.mk H
     clear H
     try go_wp2
     have uy:=Aside0.mk (aN sH.out)
     have uz:=Aside0.mk (av HB.out)
     clear sH
     clear HB
     have sH:=uy
     have HB:=uz
     clear uy uz
     refine jG (n:=39) (S:=fun w'=>w'.cell? ⟨sQ,0,none⟩ = some (.string sO) ∧ w'.cell? ⟨sQ,1,none⟩ = some (.string sM) ∧ w'.cell? ⟨sQ,2,none⟩ = some (.int .i64 sJ) ∧ w'.cell? ⟨sQ,3,none⟩ = some (.int .i64 sN) ∧ w'.cell? ⟨sQ,4,none⟩ = some (.bool sP) ∧ w'.cell? ⟨sQ,5,none⟩ = some (.slice uW sF.length uh)) (ds:=[]) #[false,false,false,false,false,false,false,false,false,false,false,false,false,false,false,false,false,false,false,false,false,false,false,false,false,false,false,false,false,false,false,false,false,false,false,false,false,false,false] (by kernel_rfl) rfl rfl ⟨(ak sH.out 0).trans rfl,(ak sH.out 1).trans rfl,(ak sH.out 2).trans rfl,(ak sH.out 3).trans rfl,(ak sH.out 4).trans rfl,(ak sH.out 5).trans rfl⟩ (fun hHeld=>?_);refine gM au.rV au.qZ (fun HT_ HW_=>?_)
     generalize w3.drew = BX at sH HB hHeld ⊢
     refine bK (i:=0) (N:=some 8) (v:=?_) (a':=?_) #[true,false,false,false,false,false,false,false,false,false,false,false,false,false,false,false,false,false,false,false,false,false,false,false,false,false,false,false,false,false,false,false,false,false,false,false,false,false,false] rfl rfl (bf HT_.out (by kernel_rfl)) (fun _ _ _ h=>h) (Or.inl ⟨by rfl,?_⟩) ?_ ?_
     rotate_left
     ·intro w'
      go_simp
      with_reducible rfl
     rotate_left
     ·simp only [Act.put,List.setIfInBounds_toArray,List.set_cons_zero,List.set_cons_succ,aV,aW]
      rfl
     refine bK (i:=11) (N:=some 19) (v:=?_) (a':=?_) #[true,false,false,false,false,false,false,false,false,false,false,true,false,false,false,false,false,false,false,false,false,false,false,false,false,false,false,false,false,false,false,false,false,false,false,false,false,false,false] rfl rfl (bf HT_.out (by kernel_rfl)) (fun _ _ _ h=>h) (Or.inl ⟨by rfl,?_⟩) ?_ ?_
     rotate_left
     ·intro w'
      go_simp
      with_reducible rfl
     rotate_left
     ·simp only [Act.put,List.setIfInBounds_toArray,List.set_cons_zero,List.set_cons_succ,aV,aW]
      rfl
     refine bK (i:=26) (N:=some 34) (v:=?_) (a':=?_) #[true,false,false,false,false,false,false,false,false,false,false,true,false,false,false,false,false,false,false,false,false,false,false,false,false,false,true,false,false,false,false,false,false,false,false,false,false,false,false] rfl rfl (bf HT_.out (by kernel_rfl)) (fun _ _ _ h=>h) (Or.inl ⟨by rfl,?_⟩) ?_ ?_
     rotate_left
     ·intro w'
      go_simp
      with_reducible rfl
     rotate_left
     ·simp only [Act.put,List.setIfInBounds_toArray,List.set_cons_zero,List.set_cons_succ,aV,aW]
      rfl
     refine bK (i:=31) (N:=some 39) (v:=?_) (a':=?_) #[true,false,false,false,false,false,false,false,false,false,false,true,false,false,false,false,false,false,false,false,false,false,false,false,false,false,true,false,false,false,false,true,false,false,false,false,false,false,false] rfl rfl (bf HT_.out (by kernel_rfl)) (fun _ _ _ h=>h) (Or.inl ⟨by rfl,?_⟩) ?_ ?_
     rotate_left
     ·intro w'
      go_simp
      with_reducible rfl
     rotate_left
     ·simp only [Act.put,List.setIfInBounds_toArray,List.set_cons_zero,List.set_cons_succ,aV,aW]
      rfl
     refine eX (i:=1) (N:=some 9) (v:=?_) (a':=?_) #[true,true,false,false,false,false,false,false,false,false,false,true,false,false,false,false,false,false,false,false,false,false,false,false,false,false,true,false,false,false,false,true,false,false,false,false,false,false,false] rfl rfl (dD HT_.out HW_.out (by kernel_rfl)) (fun _ _ _ h=>h) (Or.inl ⟨by rfl,?_⟩) hHeld ?_ ?_
     rotate_left
     ·rintro w' ⟨s0,s1,s2,s3,s4,s5⟩
      go_simp
      with_reducible rfl
     rotate_left
     ·simp only [Act.put,List.setIfInBounds_toArray,List.set_cons_zero,List.set_cons_succ,aV,aW]
      rfl
     refine eX (i:=12) (N:=some 20) (v:=?_) (a':=?_) #[true,true,false,false,false,false,false,false,false,false,false,true,true,false,false,false,false,false,false,false,false,false,false,false,false,false,true,false,false,false,false,true,false,false,false,false,false,false,false] rfl rfl (dD HT_.out HW_.out (by kernel_rfl)) (fun _ _ _ h=>h) (Or.inl ⟨by rfl,?_⟩) hHeld ?_ ?_
     rotate_left
     ·rintro w' ⟨s0,s1,s2,s3,s4,s5⟩
      go_simp
      with_reducible rfl
     rotate_left
     ·simp only [Act.put,List.setIfInBounds_toArray,List.set_cons_zero,List.set_cons_succ,aV,aW]
      rfl
     refine bK (i:=13) (N:=some 21) (v:=?_) (a':=?_) #[true,true,false,false,false,false,false,false,false,false,false,true,true,true,false,false,false,false,false,false,false,false,false,false,false,false,true,false,false,false,false,true,false,false,false,false,false,false,false] rfl rfl (bf HT_.out (by kernel_rfl)) (fun _ _ _ h=>h) (Or.inl ⟨by rfl,?_⟩) ?_ ?_
     rotate_left
     ·intro w'
      go_simp
      with_reducible rfl
     rotate_left
     ·simp only [Act.put,List.setIfInBounds_toArray,List.set_cons_zero,List.set_cons_succ,aV,aW]
      rfl
     refine eX (i:=27) (N:=some 35) (v:=?_) (a':=?_) #[true,true,false,false,false,false,false,false,false,false,false,true,true,true,false,false,false,false,false,false,false,false,false,false,false,false,true,true,false,false,false,true,false,false,false,false,false,false,false] rfl rfl (dD HT_.out HW_.out (by kernel_rfl)) (fun _ _ _ h=>h) (Or.inl ⟨by rfl,?_⟩) hHeld ?_ ?_
     rotate_left
     ·rintro w' ⟨s0,s1,s2,s3,s4,s5⟩
      go_simp
      with_reducible rfl
     rotate_left
     ·simp only [Act.put,List.setIfInBounds_toArray,List.set_cons_zero,List.set_cons_succ,aV,aW]
      rfl
     refine bK (i:=28) (N:=some 36) (v:=?_) (a':=?_) #[true,true,false,false,false,false,false,false,false,false,false,true,true,true,false,false,false,false,false,false,false,false,false,false,false,false,true,true,true,false,false,true,false,false,false,false,false,false,false] rfl rfl (bf HT_.out (by kernel_rfl)) (fun _ _ _ h=>h) (Or.inl ⟨by rfl,?_⟩) ?_ ?_
     rotate_left
     ·intro w'
      go_simp
      with_reducible rfl
     rotate_left
     ·simp only [Act.put,List.setIfInBounds_toArray,List.set_cons_zero,List.set_cons_succ,aV,aW]
      rfl
     refine bK (i:=29) (N:=some 37) (v:=?_) (a':=?_) #[true,true,false,false,false,false,false,false,false,false,false,true,true,true,false,false,false,false,false,false,false,false,false,false,false,false,true,true,true,true,false,true,false,false,false,false,false,false,false] rfl rfl (bf HT_.out (by kernel_rfl)) (fun _ _ _ h=>h) (Or.inl ⟨by rfl,?_⟩) ?_ ?_
     rotate_left
     ·intro w'
      go_simp
      with_reducible rfl
     rotate_left
     ·simp only [Act.put,List.setIfInBounds_toArray,List.set_cons_zero,List.set_cons_succ,aV,aW]
      rfl
     refine eX (i:=32) (N:=some 40) (v:=?_) (a':=?_) #[true,true,false,false,false,false,false,false,false,false,false,true,true,true,false,false,false,false,false,false,false,false,false,false,false,false,true,true,true,true,false,true,true,false,false,false,false,false,false] rfl rfl (dD HT_.out HW_.out (by kernel_rfl)) (fun _ _ _ h=>h) (Or.inl ⟨by rfl,?_⟩) hHeld ?_ ?_
     rotate_left
     ·rintro w' ⟨s0,s1,s2,s3,s4,s5⟩
      go_simp
      with_reducible rfl
     rotate_left
     ·simp only [Act.put,List.setIfInBounds_toArray,List.set_cons_zero,List.set_cons_succ,aV,aW]
      rfl
     refine bK (i:=33) (N:=some 41) (v:=?_) (a':=?_) #[true,true,false,false,false,false,false,false,false,false,false,true,true,true,false,false,false,false,false,false,false,false,false,false,false,false,true,true,true,true,false,true,true,true,false,false,false,false,false] rfl rfl (bf HT_.out (by kernel_rfl)) (fun _ _ _ h=>h) (Or.inl ⟨by rfl,?_⟩) ?_ ?_
     rotate_left
     ·intro w'
      go_simp
      with_reducible rfl
     rotate_left
     ·simp only [Act.put,List.setIfInBounds_toArray,List.set_cons_zero,List.set_cons_succ,aV,aW]
      rfl
     refine fF (i:=2) (N:=some 10) #[true,true,true,false,false,false,false,false,false,false,false,true,true,true,false,false,false,false,false,false,false,false,false,false,false,false,true,true,true,true,false,true,true,true,false,false,false,false,false] rfl rfl (dF HT_.out (by kernel_rfl)) (by decide) (fun K hK=>?_)
     refine eU Tryd.func36 (by kernel_rfl) rfl #[.string sO] (by rfl) rfl rfl (by (try simp only [List.map_toArray,List.map_cons,List.map_nil]);first|done|rfl|(simp only [List.length_drop,List.length_take];rfl)) ?_
     with_reducible refine (cK.calls k sO true _ A4.out).mono ?_
     rintro e BZ ⟨rfl,hb⟩
     refine ⟨_,rfl,?_⟩
     have uy:=Aside0.mk (bH (g:=sQ) (o:=.cells #[.string sO,.string sM,.int .i64 sJ,.int .i64 sN,.bool sP,.slice uW sF.length uh] 25 (0,0)) (bk_ sH.out) hb)
     have uz:=Aside0.mk (aH (by repeat (first|(with_reducible first|exact HB.out|apply ay|apply aj|apply av|refine aO ?_ tK.out)|exact HB.out)) hb)
     clear sH
     clear HB
     have sH:=uy
     have HB:=uz
     clear uy uz
     (try clear hb)
     (try clear hb2)
     (try clear hk)
     (try clear hi)
     refine hK.out _ _ ⟨(ak sH.out 0).trans rfl,(ak sH.out 1).trans rfl,(ak sH.out 2).trans rfl,(ak sH.out 3).trans rfl,(ak sH.out 4).trans rfl,(ak sH.out 5).trans rfl⟩ (fun hHeld=>?_)
     clear hK K
     refine eB (a':=?_) ?_ ?_
     rotate_left
     ·show Act.put _ (some 10) _ = _
      simp only [Act.put,List.setIfInBounds_toArray,List.set_cons_zero,List.set_cons_succ,aV,aW]
      rfl
     refine bK (i:=3) (N:=some 11) (v:=?_) (a':=?_) #[true,true,true,true,false,false,false,false,false,false,false,true,true,true,false,false,false,false,false,false,false,false,false,false,false,false,true,true,true,true,false,true,true,true,false,false,false,false,false] rfl rfl (bf HT_.out (by kernel_rfl)) (fun _ _ _ h=>h) (Or.inl ⟨by rfl,?_⟩) ?_ ?_
     rotate_left
     ·intro w'
      go_simp
      with_reducible rfl
     rotate_left
     ·simp only [Act.put,List.setIfInBounds_toArray,List.set_cons_zero,List.set_cons_succ,aV,aW]
      rfl
     refine bK (i:=4) (N:=some 12) (v:=?_) (a':=?_) #[true,true,true,true,true,false,false,false,false,false,false,true,true,true,false,false,false,false,false,false,false,false,false,false,false,false,true,true,true,true,false,true,true,true,false,false,false,false,false] rfl rfl (bf HT_.out (by kernel_rfl)) (fun _ _ _ h=>h) (Or.inl ⟨by rfl,?_⟩) ?_ ?_
     rotate_left
     ·intro w'
      go_simp
      with_reducible rfl
     rotate_left
     ·simp only [Act.put,List.setIfInBounds_toArray,List.set_cons_zero,List.set_cons_succ,aV,aW]
      rfl
     refine bK (i:=5) (N:=some 13) (v:=?_) (a':=?_) #[true,true,true,true,true,true,false,false,false,false,false,true,true,true,false,false,false,false,false,false,false,false,false,false,false,false,true,true,true,true,false,true,true,true,false,false,false,false,false] rfl rfl (bf HT_.out (by kernel_rfl)) (fun _ _ _ h=>h) (Or.inl ⟨by rfl,?_⟩) ?_ ?_
     rotate_left
     ·intro w'
      go_simp
      with_reducible rfl
     rotate_left
     ·simp only [Act.put,List.setIfInBounds_toArray,List.set_cons_zero,List.set_cons_succ,aV,aW]
      rfl
     refine eX (i:=6) (N:=some 14) (v:=?_) (a':=?_) #[true,true,true,true,true,true,true,false,false,false,false,true,true,true,false,false,false,false,false,false,false,false,false,false,false,false,true,true,true,true,false,true,true,true,false,false,false,false,false] rfl rfl (dD HT_.out HW_.out (by kernel_rfl)) (fun _ _ _ h=>h) (Or.inl ⟨by rfl,?_⟩) hHeld ?_ ?_
     rotate_left
     ·rintro w' ⟨s0,s1,s2,s3,s4,s5⟩
      go_simp
      with_reducible rfl
     rotate_left
     ·simp only [Act.put,List.setIfInBounds_toArray,List.set_cons_zero,List.set_cons_succ,aV,aW]
      rfl
     refine fF (i:=7) (N:=some 15) #[true,true,true,true,true,true,true,true,false,false,false,true,true,true,false,false,false,false,false,false,false,false,false,false,false,false,true,true,true,true,false,true,true,true,false,false,false,false,false] rfl rfl (dF HT_.out (by kernel_rfl)) (by decide) (fun K hK=>?_)
     refine eU Tryd.func37 (by kernel_rfl) rfl #[.string sM] (by rfl) rfl rfl (by (try simp only [List.map_toArray,List.map_cons,List.map_nil]);first|done|rfl|(simp only [List.length_drop,List.length_take];rfl)) ?_
     with_reducible refine (aK.calls k sM uP _ A6.out).mono ?_
     rintro e w' ⟨rfl,⟨nd,rfl⟩⟩
     refine ⟨_,rfl,?_⟩
     refine hK.out _ _ ⟨(ak sH.out 0).trans rfl,(ak sH.out 1).trans rfl,(ak sH.out 2).trans rfl,(ak sH.out 3).trans rfl,(ak sH.out 4).trans rfl,(ak sH.out 5).trans rfl⟩ (fun hHeld=>?_)
     clear hK K
     refine eB (a':=?_) ?_ ?_
     rotate_left
     ·show Act.put _ (some 15) _ = _
      simp only [Act.put,List.setIfInBounds_toArray,List.set_cons_zero,List.set_cons_succ,aV,aW]
      rfl
     refine bK (i:=8) (N:=some 16) (v:=?_) (a':=?_) #[true,true,true,true,true,true,true,true,true,false,false,true,true,true,false,false,false,false,false,false,false,false,false,false,false,false,true,true,true,true,false,true,true,true,false,false,false,false,false] rfl rfl (bf HT_.out (by kernel_rfl)) (fun _ _ _ h=>h) (Or.inl ⟨by rfl,?_⟩) ?_ ?_
     rotate_left
     ·intro w'
      go_simp
      with_reducible rfl
     rotate_left
     ·simp only [Act.put,List.setIfInBounds_toArray,List.set_cons_zero,List.set_cons_succ,aV,aW]
      rfl
     refine bK (i:=9) (N:=some 17) (v:=?_) (a':=?_) #[true,true,true,true,true,true,true,true,true,true,false,true,true,true,false,false,false,false,false,false,false,false,false,false,false,false,true,true,true,true,false,true,true,true,false,false,false,false,false] rfl rfl (bf HT_.out (by kernel_rfl)) (fun _ _ _ h=>h) (Or.inl ⟨by rfl,?_⟩) ?_ ?_
     rotate_left
     ·intro w'
      go_simp
      with_reducible rfl
     rotate_left
     ·simp only [Act.put,List.setIfInBounds_toArray,List.set_cons_zero,List.set_cons_succ,aV,aW]
      rfl
     refine fF (i:=10) (N:=some 18) #[true,true,true,true,true,true,true,true,true,true,true,true,true,true,false,false,false,false,false,false,false,false,false,false,false,false,true,true,true,true,false,true,true,true,false,false,false,false,false] rfl rfl (dF HT_.out (by kernel_rfl)) (by decide) (fun K hK=>?_)
     refine eU Tryd.func35 (by kernel_rfl) rfl #[.bool (!uP),.int .i64 13] (by rfl) rfl rfl (by (try simp only [List.map_toArray,List.map_cons,List.map_nil]);first|done|rfl|(simp only [List.length_drop,List.length_take];rfl)) ?_
     with_reducible refine (aB.calls (!uP) 13 tq _ A7.out).mono ?_
     rintro e w' ⟨rfl,⟨nd,rfl⟩⟩
     refine ⟨_,rfl,?_⟩
     refine hK.out _ _ ⟨(ak sH.out 0).trans rfl,(ak sH.out 1).trans rfl,(ak sH.out 2).trans rfl,(ak sH.out 3).trans rfl,(ak sH.out 4).trans rfl,(ak sH.out 5).trans rfl⟩ (fun hHeld=>?_)
     clear hK K
     refine eB (a':=?_) ?_ ?_
     rotate_left
     ·show Act.put _ (some 18) _ = _
      simp only [Act.put,List.setIfInBounds_toArray,List.set_cons_zero,List.set_cons_succ,aV,aW]
      rfl
     refine bK (i:=14) (N:=some 22) (v:=?_) (a':=?_) #[true,true,true,true,true,true,true,true,true,true,true,true,true,true,true,false,false,false,false,false,false,false,false,false,false,false,true,true,true,true,false,true,true,true,false,false,false,false,false] rfl rfl (bf HT_.out (by kernel_rfl)) (fun _ _ _ h=>h) (Or.inl ⟨by rfl,?_⟩) ?_ ?_
     rotate_left
     ·intro w'
      go_simp
      with_reducible rfl
     rotate_left
     ·simp only [Act.put,List.setIfInBounds_toArray,List.set_cons_zero,List.set_cons_succ,aV,aW]
      rfl
     refine bK (i:=15) (N:=some 23) (v:=?_) (a':=?_) #[true,true,true,true,true,true,true,true,true,true,true,true,true,true,true,true,false,false,false,false,false,false,false,false,false,false,true,true,true,true,false,true,true,true,false,false,false,false,false] rfl rfl (bf HT_.out (by kernel_rfl)) (fun _ _ _ h=>h) (Or.inl ⟨by rfl,?_⟩) ?_ ?_
     rotate_left
     ·intro w'
      go_simp
      with_reducible rfl
     rotate_left
     ·simp only [Act.put,List.setIfInBounds_toArray,List.set_cons_zero,List.set_cons_succ,aV,aW]
      rfl
     refine eX (i:=16) (N:=some 24) (v:=?_) (a':=?_) #[true,true,true,true,true,true,true,true,true,true,true,true,true,true,true,true,true,false,false,false,false,false,false,false,false,false,true,true,true,true,false,true,true,true,false,false,false,false,false] rfl rfl (dD HT_.out HW_.out (by kernel_rfl)) (fun _ _ _ h=>h) (Or.inl ⟨by rfl,?_⟩) hHeld ?_ ?_
     rotate_left
     ·rintro w' ⟨s0,s1,s2,s3,s4,s5⟩
      go_simp
      with_reducible rfl
     rotate_left
     ·simp only [Act.put,List.setIfInBounds_toArray,List.set_cons_zero,List.set_cons_succ,aV,aW]
      rfl
     refine bK (i:=17) (N:=some 25) (v:=?_) (a':=?_) #[true,true,true,true,true,true,true,true,true,true,true,true,true,true,true,true,true,true,false,false,false,false,false,false,false,false,true,true,true,true,false,true,true,true,false,false,false,false,false] rfl rfl (bf HT_.out (by kernel_rfl)) (fun _ _ _ h=>h) (Or.inl ⟨by rfl,?_⟩) ?_ ?_
     rotate_left
     ·intro w'
      go_simp
      with_reducible rfl
     rotate_left
     ·simp only [Act.put,List.setIfInBounds_toArray,List.set_cons_zero,List.set_cons_succ,aV,aW]
      rfl
     refine bK (i:=18) (N:=some 26) (v:=?_) (a':=?_) #[true,true,true,true,true,true,true,true,true,true,true,true,true,true,true,true,true,true,true,false,false,false,false,false,false,false,true,true,true,true,false,true,true,true,false,false,false,false,false] rfl rfl (bf HT_.out (by kernel_rfl)) (fun _ _ _ h=>h) (Or.inl ⟨by rfl,?_⟩) ?_ ?_
     rotate_left
     ·intro w'
      go_simp
      with_reducible rfl
     rotate_left
     ·simp only [Act.put,List.setIfInBounds_toArray,List.set_cons_zero,List.set_cons_succ,aV,aW]
      rfl
     refine bK (i:=19) (N:=some 27) (v:=?_) (a':=?_) #[true,true,true,true,true,true,true,true,true,true,true,true,true,true,true,true,true,true,true,true,false,false,false,false,false,false,true,true,true,true,false,true,true,true,false,false,false,false,false] rfl rfl (bf HT_.out (by kernel_rfl)) (fun _ _ _ h=>h) (Or.inl ⟨by rfl,?_⟩) ?_ ?_
     rotate_left
     ·intro w'
      go_simp
      with_reducible rfl
     rotate_left
     ·simp only [Act.put,List.setIfInBounds_toArray,List.set_cons_zero,List.set_cons_succ,aV,aW]
      rfl
     refine bK (i:=20) (N:=some 28) (v:=?_) (a':=?_) #[true,true,true,true,true,true,true,true,true,true,true,true,true,true,true,true,true,true,true,true,true,false,false,false,false,false,true,true,true,true,false,true,true,true,false,false,false,false,false] rfl rfl (bf HT_.out (by kernel_rfl)) (fun _ _ _ h=>h) (Or.inl ⟨by rfl,?_⟩) ?_ ?_
     rotate_left
     ·intro w'
      go_simp
      with_reducible rfl
     rotate_left
     ·simp only [Act.put,List.setIfInBounds_toArray,List.set_cons_zero,List.set_cons_succ,aV,aW]
      rfl
     refine eX (i:=21) (N:=some 29) (v:=?_) (a':=?_) #[true,true,true,true,true,true,true,true,true,true,true,true,true,true,true,true,true,true,true,true,true,true,false,false,false,false,true,true,true,true,false,true,true,true,false,false,false,false,false] rfl rfl (dD HT_.out HW_.out (by kernel_rfl)) (fun _ _ _ h=>h) (Or.inl ⟨by rfl,?_⟩) hHeld ?_ ?_
     rotate_left
     ·rintro w' ⟨s0,s1,s2,s3,s4,s5⟩
      go_simp
      with_reducible rfl
     rotate_left
     ·simp only [Act.put,List.setIfInBounds_toArray,List.set_cons_zero,List.set_cons_succ,aV,aW]
      rfl
     refine fF (i:=22) (N:=some 30) #[true,true,true,true,true,true,true,true,true,true,true,true,true,true,true,true,true,true,true,true,true,true,true,false,false,false,true,true,true,true,false,true,true,true,false,false,false,false,false] rfl rfl (dF HT_.out (by kernel_rfl)) (by decide) (fun K hK=>?_)
     refine eU Tryd.func38 (by kernel_rfl) rfl #[.int .i64 sN,.int .i64 3600] (by rfl) rfl rfl (by (try simp only [List.map_toArray,List.map_cons,List.map_nil]);first|done|rfl|(simp only [List.length_drop,List.length_take];rfl)) ?_
     with_reducible refine (aS.calls sN 3600 uw _ BA.out).mono ?_
     rintro e w' ⟨rfl,⟨nd,rfl⟩⟩
     refine ⟨_,rfl,?_⟩
     refine hK.out _ _ ⟨(ak sH.out 0).trans rfl,(ak sH.out 1).trans rfl,(ak sH.out 2).trans rfl,(ak sH.out 3).trans rfl,(ak sH.out 4).trans rfl,(ak sH.out 5).trans rfl⟩ (fun hHeld=>?_)
     clear hK K
     refine eB (a':=?_) ?_ ?_
     rotate_left
     ·show Act.put _ (some 30) _ = _
      simp only [Act.put,List.setIfInBounds_toArray,List.set_cons_zero,List.set_cons_succ,aV,aW]
      rfl
     refine bK (i:=23) (N:=some 31) (v:=?_) (a':=?_) #[true,true,true,true,true,true,true,true,true,true,true,true,true,true,true,true,true,true,true,true,true,true,true,true,false,false,true,true,true,true,false,true,true,true,false,false,false,false,false] rfl rfl (bf HT_.out (by kernel_rfl)) (fun _ _ _ h=>h) (Or.inl ⟨by rfl,?_⟩) ?_ ?_
     rotate_left
     ·intro w'
      go_simp
      with_reducible rfl
     rotate_left
     ·simp only [Act.put,List.setIfInBounds_toArray,List.set_cons_zero,List.set_cons_succ,aV,aW]
      rfl
     refine bK (i:=24) (N:=some 32) (v:=?_) (a':=?_) #[true,true,true,true,true,true,true,true,true,true,true,true,true,true,true,true,true,true,true,true,true,true,true,true,true,false,true,true,true,true,false,true,true,true,false,false,false,false,false] rfl rfl (bf HT_.out (by kernel_rfl)) (fun _ _ _ h=>h) (Or.inl ⟨by rfl,?_⟩) ?_ ?_
     rotate_left
     ·intro w'
      go_simp
      with_reducible rfl
     rotate_left
     ·simp only [Act.put,List.setIfInBounds_toArray,List.set_cons_zero,List.set_cons_succ,aV,aW]
      rfl
     refine fF (i:=25) (N:=some 33) #[true,true,true,true,true,true,true,true,true,true,true,true,true,true,true,true,true,true,true,true,true,true,true,true,true,true,true,true,true,true,false,true,true,true,false,false,false,false,false] rfl rfl (dF HT_.out (by kernel_rfl)) (by decide) (fun K hK=>?_)
     refine eU Tryd.func35 (by kernel_rfl) rfl #[.bool (!uw),.int .i64 7] (by rfl) rfl rfl (by (try simp only [List.map_toArray,List.map_cons,List.map_nil]);first|done|rfl|(simp only [List.length_drop,List.length_take];rfl)) ?_
     with_reducible refine (aB.calls (!uw) 7 tZ _ BD.out).mono ?_
     rintro e w' ⟨rfl,⟨nd,rfl⟩⟩
     refine ⟨_,rfl,?_⟩
     refine hK.out _ _ ⟨(ak sH.out 0).trans rfl,(ak sH.out 1).trans rfl,(ak sH.out 2).trans rfl,(ak sH.out 3).trans rfl,(ak sH.out 4).trans rfl,(ak sH.out 5).trans rfl⟩ (fun hHeld=>?_)
     clear hK K
     refine eB (a':=?_) ?_ ?_
     rotate_left
     ·show Act.put _ (some 33) _ = _
      simp only [Act.put,List.setIfInBounds_toArray,List.set_cons_zero,List.set_cons_succ,aV,aW]
      rfl
     refine fF (i:=30) (N:=some 38) #[true,true,true,true,true,true,true,true,true,true,true,true,true,true,true,true,true,true,true,true,true,true,true,true,true,true,true,true,true,true,true,true,true,true,false,false,false,false,false] rfl rfl (dF HT_.out (by kernel_rfl)) (by decide) (fun K hK=>?_)
     refine eU Tryd.func35 (by kernel_rfl) rfl #[.bool ((sF.length : Int) == 0),.int .i64 16] (by rfl) rfl rfl (by (try simp only [List.map_toArray,List.map_cons,List.map_nil]);first|done|rfl|(simp only [List.length_drop,List.length_take];rfl)) ?_
     with_reducible refine (aB.calls ((sF.length : Int) == 0) 16 tX _ BF.out).mono ?_
     rintro e w' ⟨rfl,⟨nd,rfl⟩⟩
     refine ⟨_,rfl,?_⟩
     refine hK.out _ _ ⟨(ak sH.out 0).trans rfl,(ak sH.out 1).trans rfl,(ak sH.out 2).trans rfl,(ak sH.out 3).trans rfl,(ak sH.out 4).trans rfl,(ak sH.out 5).trans rfl⟩ (fun hHeld=>?_)
     clear hK K
     refine eB (a':=?_) ?_ ?_
     rotate_left
     ·show Act.put _ (some 38) _ = _
      simp only [Act.put,List.setIfInBounds_toArray,List.set_cons_zero,List.set_cons_succ,aV,aW]
      rfl
     refine fF (i:=34) (N:=some 42) #[true,true,true,true,true,true,true,true,true,true,true,true,true,true,true,true,true,true,true,true,true,true,true,true,true,true,true,true,true,true,true,true,true,true,true,false,false,false,false] rfl rfl (dF HT_.out (by kernel_rfl)) (by decide) (fun K hK=>?_)
     refine eU Tryd.func39 (by kernel_rfl) rfl #[.int .i64 (sF.length : Int)] (by rfl) rfl rfl (by (try simp only [List.map_toArray,List.map_cons,List.map_nil]);first|done|rfl|(simp only [List.length_drop,List.length_take];rfl)) ?_
     with_reducible refine (aX.calls (sF.length : Int) uf _ BG.out).mono ?_
     rintro e w' ⟨rfl,⟨nd,rfl⟩⟩
     refine ⟨_,rfl,?_⟩
     refine hK.out _ _ ⟨(ak sH.out 0).trans rfl,(ak sH.out 1).trans rfl,(ak sH.out 2).trans rfl,(ak sH.out 3).trans rfl,(ak sH.out 4).trans rfl,(ak sH.out 5).trans rfl⟩ (fun hHeld=>?_)
     clear hK K
     refine eB (a':=?_) ?_ ?_
     rotate_left
     ·show Act.put _ (some 42) _ = _
      simp only [Act.put,List.setIfInBounds_toArray,List.set_cons_zero,List.set_cons_succ,aV,aW]
      rfl
     refine fF (i:=35) (N:=some 43) #[true,true,true,true,true,true,true,true,true,true,true,true,true,true,true,true,true,true,true,true,true,true,true,true,true,true,true,true,true,true,true,true,true,true,true,true,false,false,false] rfl rfl (dF HT_.out (by kernel_rfl)) (by decide) (fun K hK=>?_)
     refine eU Tryd.func35 (by kernel_rfl) rfl #[.bool uf,.int .i64 18] (by rfl) rfl rfl (by (try simp only [List.map_toArray,List.map_cons,List.map_nil]);first|done|rfl|(simp only [List.length_drop,List.length_take];rfl)) ?_
     with_reducible refine (aB.calls uf 18 tL _ BH.out).mono ?_
     rintro e w' ⟨rfl,⟨nd,rfl⟩⟩
     refine ⟨_,rfl,?_⟩
     refine hK.out _ _ ⟨(ak sH.out 0).trans rfl,(ak sH.out 1).trans rfl,(ak sH.out 2).trans rfl,(ak sH.out 3).trans rfl,(ak sH.out 4).trans rfl,(ak sH.out 5).trans rfl⟩ (fun hHeld=>?_)
     clear hK K
     refine eB (a':=?_) ?_ ?_
     rotate_left
     ·show Act.put _ (some 43) _ = _
      simp only [Act.put,List.setIfInBounds_toArray,List.set_cons_zero,List.set_cons_succ,aV,aW]
      rfl
     refine fF (i:=36) (N:=some 44) #[true,true,true,true,true,true,true,true,true,true,true,true,true,true,true,true,true,true,true,true,true,true,true,true,true,true,true,true,true,true,true,true,true,true,true,true,true,false,false] rfl rfl (dF HT_.out (by kernel_rfl)) (by decide) (fun K hK=>?_)
     refine Kd.jC (Kd.int .i64) _ 32 ?hg (N:=44) ?hd (xs:=([tq,tZ,tX,tL] : List Int)) (inner:=[.int .i64 tq,.int .i64 tZ,.int .i64 tX,.int .i64 tL]) (ok:=fun _=>True) (okp:=fun _=>True) ?hr ?hp (fun _ hk=>hk) trivial (Below.refl _ _) (Nat.le_refl _) (by simp) ?_;(case hd=>rfl);(case hg=>rfl);(case hr=>first|(go_simp;done)|(go_simp;rfl));(case hp=>exact (dh.one (show Kd.M (Kd.int .i64) _ _ _ tq [.int .i64 tq] from rfl) (dh.one (show Kd.M (Kd.int .i64) _ _ _ tZ [.int .i64 tZ] from rfl) (dh.one (show Kd.M (Kd.int .i64) _ _ _ tX [.int .i64 tX] from rfl) (dh.one (show Kd.M (Kd.int .i64) _ _ _ tL [.int .i64 tL] from rfl) (dh.none _ _))))))
     intro v138 Ca wE hb hg_ hnew_
     clear hg_ hnew_
     (first|rw [← wD.out] at wE|(simp only [Int.reduceToNat] at wE;rw [← wD.out] at wE))
     have uy:=Aside0.mk (Kd.fG wE (aU (by repeat (first|(with_reducible first|exact HB.out|apply ay|apply aj|apply av|refine aO ?_ tK.out)|exact HB.out))))
     have uz:=Aside0.mk (bH (g:=sQ) (o:=.cells #[.string sO,.string sM,.int .i64 sJ,.int .i64 sN,.bool sP,.slice uW sF.length uh] 25 (0,0)) (bk_ sH.out) hb)
     have uJ:=Aside0.mk (aH (by repeat (first|(with_reducible first|exact HB.out|apply ay|apply aj|apply av|refine aO ?_ tK.out)|exact HB.out)) hb)
     clear sH
     clear HB
     have wF:=uy
     have sH:=uz
     have HB:=uJ
     clear uy uz uJ
     clear hb wE
     obtain ⟨Ae,Af,yN⟩:=Kd.gq wF.out
     (first|subst yN|(injection yN with yO Ag yP;have Ah:=yO.symm;have Ai:=yP.symm;clear yO Ag yP;subst Ah;subst Ai))
     refine hK.out _ _ ⟨(ak sH.out 0).trans rfl,(ak sH.out 1).trans rfl,(ak sH.out 2).trans rfl,(ak sH.out 3).trans rfl,(ak sH.out 4).trans rfl,(ak sH.out 5).trans rfl⟩ (fun hHeld=>?_)
     clear hK K
     refine eB (a':=?_) ?_ ?_
     rotate_left
     ·show Act.put _ (some 44) _ = _
      simp only [Act.put,List.setIfInBounds_toArray,List.set_cons_zero,List.set_cons_succ,aV,aW]
      rfl
     refine fF (i:=37) (N:=some 45) #[true,true,true,true,true,true,true,true,true,true,true,true,true,true,true,true,true,true,true,true,true,true,true,true,true,true,true,true,true,true,true,true,true,true,true,true,true,true,false] rfl rfl (dF HT_.out (by kernel_rfl)) (by decide) (fun K hK=>?_)
     refine eU Tryd.func34 (by kernel_rfl) rfl #[.slice Ae yw.length Af] (by rfl) rfl rfl (by (try simp only [List.map_toArray,List.map_cons,List.map_nil]);first|done|rfl|(simp only [List.length_drop,List.length_take];rfl)) ?_
     with_reducible refine (aD.calls k _ _ yw tN _ ?uU ?uV Bh.out).mono ?_
     (case uU=>repeat (first|exact (Kd.dX wF.out).2.2|(with_reducible refine Kd.bP ?_ _)|(with_reducible refine Kd.bQ ?_ _)|(with_reducible refine Kd.cB ?_)))
     (case uV=>exact (Kd.dX wF.out).2.1)
     rintro e w' ⟨rfl,⟨nd,rfl⟩⟩
     refine ⟨_,rfl,?_⟩
     refine hK.out _ _ ⟨(ak sH.out 0).trans rfl,(ak sH.out 1).trans rfl,(ak sH.out 2).trans rfl,(ak sH.out 3).trans rfl,(ak sH.out 4).trans rfl,(ak sH.out 5).trans rfl⟩ (fun hHeld=>?_)
     clear hK K
     refine eB (a':=?_) ?_ ?_
     rotate_left
     ·show Act.put _ (some 45) _ = _
      simp only [Act.put,List.setIfInBounds_toArray,List.set_cons_zero,List.set_cons_succ,aV,aW]
      rfl
     refine bK (i:=38) (N:=some 3) (v:=?_) (a':=?_) #[true,true,true,true,true,true,true,true,true,true,true,true,true,true,true,true,true,true,true,true,true,true,true,true,true,true,true,true,true,true,true,true,true,true,true,true,true,true,true] rfl rfl (bf HT_.out (by kernel_rfl)) (fun _ _ _ h=>h) (Or.inl ⟨by rfl,?_⟩) ?_ ?_
     rotate_left
     ·intro w'
      go_simp
      with_reducible rfl
     rotate_left
     ·simp only [Act.put,List.setIfInBounds_toArray,List.set_cons_zero,List.set_cons_succ,aV,aW]
      rfl
     refine kU (iR HT_.out (by kernel_rfl)) ?_
     try go_wp2
     go_meet
     case rel=>exact ⟨_,(tN),(by first|rfl|(simp;done)|(simp [*];done)),H',⟨by first|omega|exact Nat.le_refl _⟩,⟨fun h0 => qp (A6.out) (A7.out) (by rw [← h0, ← wD.out]; exact Bh.out)⟩,⟨by (with_reducible repeat (first|apply aF|apply aN|apply aI));exact sH.out⟩,⟨by repeat (first|(with_reducible first|exact HB.out|apply ay|apply aj|apply av|refine aO ?_ tK.out)|exact HB.out)⟩⟩
  ·exact absurd (Option.some.inj (A4.out.symm.trans HNm.out)) c5
 case rest =>
  clear Ad
  try clear p2
  try clear c3
  try clear c5
  try clear c34
  try clear Bj
  try clear BI
  try clear Bl
  try clear Bn
  try clear c53
  try clear c53b0
  obtain ⟨kq,uX,rfl,HA,Aj,HLbx,sH,HB⟩:=hcut
  cases kq with
  | zero=>exact absurd HA.out (by simp [au.j0])
  | succ Bo =>
   have H:=HA.out
   clear HA
   simp only [au.j0] at H
   by_cases c75 : uX = 0
   ·rw [if_pos c75] at H
    have c75b0 : (uX == 0) = true:=beq_iff_eq.mpr c75
    have c75b1 : (uX != 0) = false:=bne_eq_false_iff_eq.mpr c75
    clear c75
    have H':=Aside0.mk H
    clear H
    have wU : wc.cell? ⟨sQ,0,none⟩ = some (.string sO):=(ak sH.out 0).trans rfl
    have wV : wc.cell? ⟨sQ,1,none⟩ = some (.string sM):=(ak sH.out 1).trans rfl
    have wW : wc.cell? ⟨sQ,2,none⟩ = some (.int .i64 sJ):=(ak sH.out 2).trans rfl
    have wX : wc.cell? ⟨sQ,3,none⟩ = some (.int .i64 sN):=(ak sH.out 3).trans rfl
    have wY : wc.cell? ⟨sQ,4,none⟩ = some (.bool sP):=(ak sH.out 4).trans rfl
    have wZ : wc.cell? ⟨sQ,5,none⟩ = some (.slice uW sF.length uh):=(ak sH.out 5).trans rfl
    have xg:=aA sH.out 0
    have xk:=aA sH.out 1
    have xq:=aA sH.out 2
    have xu:=aA sH.out 3
    have xw:=aA sH.out 4
    have xA:=aA sH.out 5
    have HLb := Aside0.mk (HLbx.out (beq_iff_eq.mp c75b0))
    have xV := Aside0.mk (Nat.ne_of_lt (gW sH.out) : sQ ≠ wc.heap.size)
    have GM := Aside0.mk HB.out.size
    have hmm := @run_makeMap Tryd.prog
    have hcy : (wc.alloc (Obj.map #[] 0)).cell? ⟨sQ,5,none⟩ = some (.slice uW sF.length uh) := (ak (aI sH.out (Obj.map #[] 0)) 5).trans rfl
    go_wp2
    clear hmm hcy
    obtain ⟨mb, hmb⟩ : ∃ m, wc.heap.size = m := ⟨_, rfl⟩
    have HMB := Aside0.mk hmb
    rw [hmb] at xV GM ⊢
    clear hmb
    go_loopg [53] Bo (fun kq v53 w'=>∃ (sD : Int),v53 = .int .i64 sD ∧ Aside0 (au.l0 kq sF (sF.length : Int) sD = some r) ∧ Aside0 (kq ≤ Bo) ∧ Aside0 (0 ≤ sD) ∧ Aside0 (sD = 0 → w'.ownsMap Tryd.prog 9 (plainElem (H := Unit) Tryd.prog 3) mb 0 (.map [])) ∧ Aside0 (w'.heap[sQ]? = some (.cells #[.string sO,.string sM,.int .i64 sJ,.int .i64 sN,.bool sP,(.slice uW sF.length uh)] 25 (0,0))) ∧ Aside0 (Below w.heap.size w w'))
    case atStart=>exact ⟨(0),(by first|rfl|(simp;done)|(simp [*];done)),H',⟨Nat.le_refl _⟩,⟨Int.le_refl _⟩,⟨fun _ => HMB.out ▸ World.ownsMap_made _ _ _ _⟩,⟨by (with_reducible repeat (first|apply aF|apply aN|apply aI));exact sH.out⟩,⟨by repeat (first|(with_reducible first|exact HB.out|apply ay|apply aj|apply av|refine aO ?_ tK.out)|exact HB.out)⟩⟩
    case round =>
     clear H'
     try clear p2
     try clear c3
     try clear c5
     try clear c7
     try clear c34
     try clear Bj
     try clear BI
     try clear Bl
     try clear Bn
     try clear c53
     try clear c53b0
     try clear c75
     try clear c75b0
     try clear c75b1
     try clear wU
     try clear wV
     try clear wW
     try clear wX
     try clear wY
     try clear wZ
     try clear xg
     try clear xk
     try clear xq
     try clear xu
     try clear xw
     try clear xA
     try clear p2
     obtain ⟨sD,rfl,HA,Ak,BJ,HMp,sH,HB⟩:=hrel
     cases gk with
     | zero=>exact absurd HA.out (by simp [au.l0])
     | succ k2 =>
      have H:=HA.out
      clear HA
      simp only [au.l0] at H
      by_cases yF : sD < (sF.length : Int)
      ·rw [if_pos yF] at H
       have c77b0 : decide (sD < (sF.length : Int)) = true:=decide_eq_true yF
       clear yF
       by_cases z8 : 0 ≤ sD
       ·rw [if_pos z8] at H
        have c78b0 : decide (0 ≤ sD) = true:=decide_eq_true z8
        clear z8
        by_cases Aa : sD < (sF.length : Int)
        ·rw [if_pos Aa] at H
         have c79b0 : decide (sD < (sF.length : Int)) = true:=decide_eq_true Aa
         clear Aa
         have yA:=Aside0.mk H
         have HX0 := Aside0.mk (show sD = 0 from by have h1 := of_decide_eq_true c79b0; have := Bz.out; have := BJ.out; omega)
         have HMM := Aside0.mk (HMp.out HX0.out)
         have HKey : Aside0 (keyOf Tryd.prog 9 (.string ((ah sF sD).f0)) = some (.string ((ah sF sD).f0).data.toList)) := ⟨keyOf_string_mk Tryd.underlying9 (by have := HSz.out; rw [HX0.out]; unfold maxLen; omega)⟩
         clear HMp
         clear H
         have yB : 0 ≤ (sD : Int):=of_decide_eq_true (by first|(with_reducible assumption)|assumption)
         have yC : sD < (sF.length : Int):=of_decide_eq_true (by first|(with_reducible assumption)|assumption)
         obtain ⟨uL,sS,sU,sW,sZ,tF,tH,e167,uY,uZ,vk,vo,vv,vw,vB,vH,vI,vJ,vK,vL,vM⟩:=iY yG.out sD yB yC
         cases e167
         replace uY:=(HB.out.cell (World.block_lt_of_cell? w _ uY)).trans uY
         replace uZ:=(HB.out.cell (World.block_lt_of_cell? w _ uZ)).trans uZ
         replace vk:=(HB.out.cell (World.block_lt_of_cell? w _ vk)).trans vk
         replace vo:=(HB.out.cell (World.block_lt_of_cell? w _ vo)).trans vo
         replace vv:=(HB.out.cell (World.block_lt_of_cell? w _ vv)).trans vv
         replace vw:=(HB.out.cell (World.block_lt_of_cell? w _ vw)).trans vw
         replace vB:=(HB.out.cell (World.block_lt_of_cell? w _ vB)).trans vB
         have vN:=Aside0.mk vI
         have vO:=Aside0.mk vH
         clear vI vH
         have vP:=Aside0.mk vK
         have vQ:=Aside0.mk vJ
         clear vK vJ
         have vR:=Aside0.mk vM
         have vS:=Aside0.mk vL
         clear vM vL
         replace yB:=eq_true yB
         replace yC:=eq_true yC
         go_upto_region 8 with (first|((with_reducible refine dN (N:=6) rfl ?_);(try (refine d9 (by rfl) ?_;dsimp only));refine eD ?hg (N:=6) ?hd (cs:=#[.string (⟨#[]⟩ : ByteArray),.string (⟨#[]⟩ : ByteArray),.slice none 0 0,.slice none 0 0,.int .i64 0,.int .i64 0,.slice none 0 0]) (t:=43) ?hr ?_;(case hd=>rfl);(case hg=>rfl);(case hr=>first|(go_simp;done)|(go_simp;rfl));intro sI hg vW hbox hb;have hMb := HMM.out.lt;have xW:=Aside0.mk (by rw [hg];exact Nat.ne_of_lt hMb : mb ≠ sI);have MM:=Aside0.mk (jW HMM.out hb);clear hMb HMM;have uy:=Aside0.mk (bH (g:=sQ) (o:=.cells #[.string sO,.string sM,.int .i64 sJ,.int .i64 sN,.bool sP,.slice (some uL) sF.length uh] 25 (0,0)) (bk_ sH.out) hb);have uz:=Aside0.mk (aH (by repeat (first|(with_reducible first|exact HB.out|apply ay|apply aj|apply av|refine aO ?_ tK.out)|exact HB.out)) hb);have uJ:=Aside0.mk (hbox);have vV:=Aside0.mk ((by rw [hg];exact (aU (by repeat (first|(with_reducible first|exact HB.out|apply ay|apply aj|apply av|refine aO ?_ tK.out)|exact HB.out))) : w.heap.size ≤ sI));have Bp:=Aside0.mk ((by rw [hg];exact (aU (by repeat (first|(with_reducible first|exact HB.out|apply ay|apply aj|apply av|refine aO ?_ tK.out)|exact HB.out))) : w.heap.size ≤ sI));have Bq:=Aside0.mk ((by rw [hg];exact Nat.ne_of_lt (gW (g:=sQ) (o:=.cells #[.string sO,.string sM,.int .i64 sJ,.int .i64 sN,.bool sP,.slice (some uL) sF.length uh] 25 (0,0)) (bk_ sH.out)) : sQ ≠ sI));have Br:=Aside0.mk ((by rw [hg];exact Nat.ne_of_gt (gW (g:=sQ) (o:=.cells #[.string sO,.string sM,.int .i64 sJ,.int .i64 sN,.bool sP,.slice (some uL) sF.length uh] 25 (0,0)) (bk_ sH.out)) : sI ≠ sQ));clear sH;clear HB;have sH:=uy;have HB:=uz;have sG:=uJ;have Bt:=vV;have uE:=Bp;have sV:=Bq;have uK:=Br;clear uy uz uJ vV Bp Bq Br;clear hb hbox hg;have yQ:=uK.out;have yR:=sV.out;have xB : vW.cell? ⟨sI,0,none⟩ = some (.string (⟨#[]⟩ : ByteArray)):=(ak sG.out 0).trans rfl;have xC : vW.cell? ⟨sI,1,none⟩ = some (.string (⟨#[]⟩ : ByteArray)):=(ak sG.out 1).trans rfl;have xD : vW.cell? ⟨sI,2,none⟩ = some (.slice none 0 0):=(ak sG.out 2).trans rfl;have xE : vW.cell? ⟨sI,3,none⟩ = some (.slice none 0 0):=(ak sG.out 3).trans rfl;have xG : vW.cell? ⟨sI,4,none⟩ = some (.int .i64 0):=(ak sG.out 4).trans rfl;have xH : vW.cell? ⟨sI,5,none⟩ = some (.int .i64 0):=(ak sG.out 5).trans rfl;have xI : vW.cell? ⟨sI,6,none⟩ = some (.slice none 0 0):=(ak sG.out 6).trans rfl;have xJ:=aA sG.out 0;have xK:=aA sG.out 1;have xL:=aA sG.out 2;have xM:=aA sG.out 3;have xO:=aA sG.out 4;have xP:=aA sG.out 5;have xQ:=aA sG.out 6))
         clear yQ yR xB xJ xC xK xD xL xE xM xG xO xH xP xI xQ
         have uy : Aside0 ((((((((vW.setCell ⟨sI,0,none⟩ (.string ((ah sF sD).f0))).setCell ⟨sI,1,none⟩ (.string ((ah sF sD).f1))).setCell ⟨sI,2,none⟩ (.slice sS ((ah sF sD).f2).length sU)).setCell ⟨sI,3,none⟩ (.slice sW ((ah sF sD).f3).length sZ)).setCell ⟨sI,4,none⟩ (.int .i64 ((ah sF sD).f4))).setCell ⟨sI,5,none⟩ (.int .i64 ((ah sF sD).f5))).setCell ⟨sI,6,none⟩ (.slice tF ((ah sF sD).f6).length tH)).heap[sQ]? = some (.cells #[.string sO,.string sM,.int .i64 sJ,.int .i64 sN,.bool sP,.slice (some uL) sF.length uh] 25 (0,0))):=⟨by (with_reducible repeat (first|apply aF|apply aN|apply aI));refine fq ?_ sV.out _;(with_reducible repeat (first|apply aF|apply aN|apply aI));refine fq ?_ sV.out _;(with_reducible repeat (first|apply aF|apply aN|apply aI));refine fq ?_ sV.out _;(with_reducible repeat (first|apply aF|apply aN|apply aI));refine fq ?_ sV.out _;(with_reducible repeat (first|apply aF|apply aN|apply aI));refine fq ?_ sV.out _;(with_reducible repeat (first|apply aF|apply aN|apply aI));refine fq ?_ sV.out _;(with_reducible repeat (first|apply aF|apply aN|apply aI));refine fq ?_ sV.out _;(with_reducible repeat (first|apply aF|apply aN|apply aI));exact sH.out⟩
         have uz : Aside0 ((((((((vW.setCell ⟨sI,0,none⟩ (.string ((ah sF sD).f0))).setCell ⟨sI,1,none⟩ (.string ((ah sF sD).f1))).setCell ⟨sI,2,none⟩ (.slice sS ((ah sF sD).f2).length sU)).setCell ⟨sI,3,none⟩ (.slice sW ((ah sF sD).f3).length sZ)).setCell ⟨sI,4,none⟩ (.int .i64 ((ah sF sD).f4))).setCell ⟨sI,5,none⟩ (.int .i64 ((ah sF sD).f5))).setCell ⟨sI,6,none⟩ (.slice tF ((ah sF sD).f6).length tH)).heap[sI]? = some (.cells #[.string ((ah sF sD).f0),.string ((ah sF sD).f1),.slice sS ((ah sF sD).f2).length sU,.slice sW ((ah sF sD).f3).length sZ,.int .i64 ((ah sF sD).f4),.int .i64 ((ah sF sD).f5),.slice tF ((ah sF sD).f6).length tH] 43 (0,0))):=⟨by (with_reducible repeat (first|apply aF|apply aN|apply aI));refine aY (cs:=#[.string ((ah sF sD).f0),.string ((ah sF sD).f1),.slice sS ((ah sF sD).f2).length sU,.slice sW ((ah sF sD).f3).length sZ,.int .i64 ((ah sF sD).f4),.int .i64 ((ah sF sD).f5),.slice none 0 0]) ?_ 6 _ rfl;(with_reducible repeat (first|apply aF|apply aN|apply aI));refine aY (cs:=#[.string ((ah sF sD).f0),.string ((ah sF sD).f1),.slice sS ((ah sF sD).f2).length sU,.slice sW ((ah sF sD).f3).length sZ,.int .i64 ((ah sF sD).f4),.int .i64 0,.slice none 0 0]) ?_ 5 _ rfl;(with_reducible repeat (first|apply aF|apply aN|apply aI));refine aY (cs:=#[.string ((ah sF sD).f0),.string ((ah sF sD).f1),.slice sS ((ah sF sD).f2).length sU,.slice sW ((ah sF sD).f3).length sZ,.int .i64 0,.int .i64 0,.slice none 0 0]) ?_ 4 _ rfl;(with_reducible repeat (first|apply aF|apply aN|apply aI));refine aY (cs:=#[.string ((ah sF sD).f0),.string ((ah sF sD).f1),.slice sS ((ah sF sD).f2).length sU,.slice none 0 0,.int .i64 0,.int .i64 0,.slice none 0 0]) ?_ 3 _ rfl;(with_reducible repeat (first|apply aF|apply aN|apply aI));refine aY (cs:=#[.string ((ah sF sD).f0),.string ((ah sF sD).f1),.slice none 0 0,.slice none 0 0,.int .i64 0,.int .i64 0,.slice none 0 0]) ?_ 2 _ rfl;(with_reducible repeat (first|apply aF|apply aN|apply aI));refine aY (cs:=#[.string ((ah sF sD).f0),.string (⟨#[]⟩ : ByteArray),.slice none 0 0,.slice none 0 0,.int .i64 0,.int .i64 0,.slice none 0 0]) ?_ 1 _ rfl;(with_reducible repeat (first|apply aF|apply aN|apply aI));refine aY (cs:=#[.string (⟨#[]⟩ : ByteArray),.string (⟨#[]⟩ : ByteArray),.slice none 0 0,.slice none 0 0,.int .i64 0,.int .i64 0,.slice none 0 0]) ?_ 0 _ rfl;(with_reducible repeat (first|apply aF|apply aN|apply aI));exact sG.out⟩
         have uJ : Aside0 (Below w.heap.size w (((((((vW.setCell ⟨sI,0,none⟩ (.string ((ah sF sD).f0))).setCell ⟨sI,1,none⟩ (.string ((ah sF sD).f1))).setCell ⟨sI,2,none⟩ (.slice sS ((ah sF sD).f2).length sU)).setCell ⟨sI,3,none⟩ (.slice sW ((ah sF sD).f3).length sZ)).setCell ⟨sI,4,none⟩ (.int .i64 ((ah sF sD).f4))).setCell ⟨sI,5,none⟩ (.int .i64 ((ah sF sD).f5))).setCell ⟨sI,6,none⟩ (.slice tF ((ah sF sD).f6).length tH))):=⟨by repeat (first|(with_reducible first|exact HB.out|apply ay|apply aj|apply av|refine aO ?_ tK.out|refine aO ?_ uE.out)|exact HB.out)⟩
         (try clear sH)
         (try clear sG)
         (try clear HB)
         have vV : Aside0 (World.ownsMap (((((((vW.setCell ⟨sI,0,none⟩ (.string ((ah sF sD).f0))).setCell ⟨sI,1,none⟩ (.string ((ah sF sD).f1))).setCell ⟨sI,2,none⟩ (.slice sS ((ah sF sD).f2).length sU)).setCell ⟨sI,3,none⟩ (.slice sW ((ah sF sD).f3).length sZ)).setCell ⟨sI,4,none⟩ (.int .i64 ((ah sF sD).f4))).setCell ⟨sI,5,none⟩ (.int .i64 ((ah sF sD).f5))).setCell ⟨sI,6,none⟩ (.slice tF ((ah sF sD).f6).length tH)) Tryd.prog 9 (plainElem (H := Unit) Tryd.prog 3) mb 0 (.map [])):=⟨by (iterate 7 (refine lC ?_ xW.out _ _)); exact MM.out⟩
         generalize (((((((vW.setCell ⟨sI,0,none⟩ (.string ((ah sF sD).f0))).setCell ⟨sI,1,none⟩ (.string ((ah sF sD).f1))).setCell ⟨sI,2,none⟩ (.slice sS ((ah sF sD).f2).length sU)).setCell ⟨sI,3,none⟩ (.slice sW ((ah sF sD).f3).length sZ)).setCell ⟨sI,4,none⟩ (.int .i64 ((ah sF sD).f4))).setCell ⟨sI,5,none⟩ (.int .i64 ((ah sF sD).f5))).setCell ⟨sI,6,none⟩ (.slice tF ((ah sF sD).f6).length tH)) = Al at uy uz uJ vV ⊢
         have sH:=uy
         have sG:=uz
         have HB:=uJ
         clear MM
         have MM:=vV
         clear uy uz uJ vV
         have z0 : Al.cell? ⟨sI,0,none⟩ = some (.string ((ah sF sD).f0)):=(ak sG.out 0).trans rfl
         go_upto_region 9 with (first|(at_lookup; refine wpList_lookup_own_int _ rfl _ _ 89 rfl 9 3 .i64 l9 Tryd.underlying89 Tryd.underlying3 (pG _) mb 0 _ rfl MM.out _ _ rfl HKey.out ?_; intro c hat hwc; have hc : c = 0 := mK hat.symm; subst hc; clear hat hwc)|(at_mapUpdate; refine wpList_mapUpdate_own _ rfl _ _ _ 89 rfl 9 3 l9 Tryd.underlying89 _ mb 0 _ rfl MM.out (by unfold maxLen; omega) _ (.int .i64 1) _ rfl (by first | rfl | exact congrArg (Value.int .i64) (by decide)) HKey.out _ [] (plainElem_int Tryd.underlying3 (by decide)) ?_; intro w3 hown3 hg3; have uy:=Aside0.mk (moved hg3 sH.out xV.out); have uz:=Aside0.mk (moved hg3 sG.out (Ne.symm xW.out)); have uJ:=Aside0.mk (Below.grown HB.out hg3 (aU HB.out) (fun j hj => by cases hj; exact GM.out)); have ho_:=oQ hown3 HKey.out (atKey_put_same isMap_empty (by simp [WideAt.IsKeyLit]) _ _); clear sH sG HB hown3 hg3 MM z0; have sH:=uy; have sG:=uz; have HB:=uJ; clear uy uz uJ))
         obtain ⟨om,hom,hlk⟩:=ho_
         have BM:=Aside0.mk hom
         have HLK:=Aside0.mk hlk
         clear hom hlk
         (try simp only [Act.put,List.setIfInBounds_toArray,List.set_cons_zero,List.set_cons_succ])
         go_cut [7] (fun v7 wc=>∃ (kq : Nat) (uM : Int),v7 = .int .i64 uM ∧ Aside0 (au.j2 kq uM sF (sF.length : Int) sD ((ah sF sD).f0) ((ah sF sD).f1) ((ah sF sD).f2) ((ah sF sD).f3) ((ah sF sD).f4) ((ah sF sD).f5) ((ah sF sD).f6) = some r) ∧ Aside0 (kq ≤ k2) ∧ Aside0 (wc.heap[sQ]? = some (.cells #[.string sO,.string sM,.int .i64 sJ,.int .i64 sN,.bool sP,(.slice (some uL) sF.length uh)] 25 (0,0))) ∧ Aside0 (wc.heap[sI]? = some (.cells #[.string ((ah sF sD).f0),.string ((ah sF sD).f1),(.slice sS ((ah sF sD).f2).length sU),(.slice sW ((ah sF sD).f3).length sZ),.int .i64 ((ah sF sD).f4),.int .i64 ((ah sF sD).f5),(.slice tF ((ah sF sD).f6).length tH)] 43 (0,0))) ∧ Aside0 (Below w.heap.size w wc))
         case first =>
          have H:=yA.out
          clear yA
          replace H:=Option.bind_eq_some_iff.mp H
          obtain ⟨vT,yS,H⟩:=H
          replace H : ((aB.f (!vT) 13).bind fun sK=>((aB.f (decide (1 > 1)) 8).bind fun t171=>((aR.f k2 ((ah sF sD).f1)).bind fun uN=>((aB.f (!uN) 6).bind fun t173=>((aX.f (((ah sF sD).f2).length : Int)).bind fun uD=>(if uD = true then ((aB.f true 18).bind fun t175=>((aS.f ((ah sF sD).f4) 64000).bind fun uF=>(if uF = true then ((aS.f ((ah sF sD).f5) 1048576).bind fun uG=>((aB.f (!uG) 7).bind fun uH=>((aD.f k2 (([sK,t171,t173,t175,uH] : List Int))).bind fun t182=>(au.j2 k2 t182 sF (sF.length : Int) sD ((ah sF sD).f0) ((ah sF sD).f1) ((ah sF sD).f2) ((ah sF sD).f3) ((ah sF sD).f4) ((ah sF sD).f5) ((ah sF sD).f6))))) else ((aB.f true 7).bind fun t183=>((aD.f k2 (([sK,t171,t173,t175,t183] : List Int))).bind fun uI=>(au.j2 k2 uI sF (sF.length : Int) sD ((ah sF sD).f0) ((ah sF sD).f1) ((ah sF sD).f2) ((ah sF sD).f3) ((ah sF sD).f4) ((ah sF sD).f5) ((ah sF sD).f6))))))) else ((aX.f (((ah sF sD).f3).length : Int)).bind fun ug=>(if ug = true then ((aB.f true 18).bind fun tO=>((aS.f ((ah sF sD).f4) 64000).bind fun uj=>(if uj = true then ((aS.f ((ah sF sD).f5) 1048576).bind fun um=>((aB.f (!um) 7).bind fun uo=>((aD.f k2 (([sK,t171,t173,tO,uo] : List Int))).bind fun t196=>(au.j2 k2 t196 sF (sF.length : Int) sD ((ah sF sD).f0) ((ah sF sD).f1) ((ah sF sD).f2) ((ah sF sD).f3) ((ah sF sD).f4) ((ah sF sD).f5) ((ah sF sD).f6))))) else ((aB.f true 7).bind fun uq=>((aD.f k2 (([sK,t171,t173,tO,uq] : List Int))).bind fun t201=>(au.j2 k2 t201 sF (sF.length : Int) sD ((ah sF sD).f0) ((ah sF sD).f1) ((ah sF sD).f2) ((ah sF sD).f3) ((ah sF sD).f4) ((ah sF sD).f5) ((ah sF sD).f6))))))) else ((aX.f (((ah sF sD).f6).length : Int)).bind fun tY=>((aB.f tY 18).bind fun t203=>((aS.f ((ah sF sD).f4) 64000).bind fun tQ=>(if tQ = true then ((aS.f ((ah sF sD).f5) 1048576).bind fun tu=>((aB.f (!tu) 7).bind fun t206=>((aD.f k2 (([sK,t171,t173,t203,t206] : List Int))).bind fun t210=>(au.j2 k2 t210 sF (sF.length : Int) sD ((ah sF sD).f0) ((ah sF sD).f1) ((ah sF sD).f2) ((ah sF sD).f3) ((ah sF sD).f4) ((ah sF sD).f5) ((ah sF sD).f6))))) else ((aB.f true 7).bind fun tT=>((aD.f k2 (([sK,t171,t173,t203,tT] : List Int))).bind fun tV=>(au.j2 k2 tV sF (sF.length : Int) sD ((ah sF sD).f0) ((ah sF sD).f1) ((ah sF sD).f2) ((ah sF sD).f3) ((ah sF sD).f4) ((ah sF sD).f5) ((ah sF sD).f6)))))))))))))))) = some r:=H
          have BK:=Aside0.mk yS
          clear yS
          replace H:=Option.bind_eq_some_iff.mp H
          obtain ⟨sK,yT,H⟩:=H
          replace H : ((aB.f (decide (1 > 1)) 8).bind fun t171=>((aR.f k2 ((ah sF sD).f1)).bind fun uN=>((aB.f (!uN) 6).bind fun t173=>((aX.f (((ah sF sD).f2).length : Int)).bind fun uD=>(if uD = true then ((aB.f true 18).bind fun t175=>((aS.f ((ah sF sD).f4) 64000).bind fun uF=>(if uF = true then ((aS.f ((ah sF sD).f5) 1048576).bind fun uG=>((aB.f (!uG) 7).bind fun uH=>((aD.f k2 (([sK,t171,t173,t175,uH] : List Int))).bind fun t182=>(au.j2 k2 t182 sF (sF.length : Int) sD ((ah sF sD).f0) ((ah sF sD).f1) ((ah sF sD).f2) ((ah sF sD).f3) ((ah sF sD).f4) ((ah sF sD).f5) ((ah sF sD).f6))))) else ((aB.f true 7).bind fun t183=>((aD.f k2 (([sK,t171,t173,t175,t183] : List Int))).bind fun uI=>(au.j2 k2 uI sF (sF.length : Int) sD ((ah sF sD).f0) ((ah sF sD).f1) ((ah sF sD).f2) ((ah sF sD).f3) ((ah sF sD).f4) ((ah sF sD).f5) ((ah sF sD).f6))))))) else ((aX.f (((ah sF sD).f3).length : Int)).bind fun ug=>(if ug = true then ((aB.f true 18).bind fun tO=>((aS.f ((ah sF sD).f4) 64000).bind fun uj=>(if uj = true then ((aS.f ((ah sF sD).f5) 1048576).bind fun um=>((aB.f (!um) 7).bind fun uo=>((aD.f k2 (([sK,t171,t173,tO,uo] : List Int))).bind fun t196=>(au.j2 k2 t196 sF (sF.length : Int) sD ((ah sF sD).f0) ((ah sF sD).f1) ((ah sF sD).f2) ((ah sF sD).f3) ((ah sF sD).f4) ((ah sF sD).f5) ((ah sF sD).f6))))) else ((aB.f true 7).bind fun uq=>((aD.f k2 (([sK,t171,t173,tO,uq] : List Int))).bind fun t201=>(au.j2 k2 t201 sF (sF.length : Int) sD ((ah sF sD).f0) ((ah sF sD).f1) ((ah sF sD).f2) ((ah sF sD).f3) ((ah sF sD).f4) ((ah sF sD).f5) ((ah sF sD).f6))))))) else ((aX.f (((ah sF sD).f6).length : Int)).bind fun tY=>((aB.f tY 18).bind fun t203=>((aS.f ((ah sF sD).f4) 64000).bind fun tQ=>(if tQ = true then ((aS.f ((ah sF sD).f5) 1048576).bind fun tu=>((aB.f (!tu) 7).bind fun t206=>((aD.f k2 (([sK,t171,t173,t203,t206] : List Int))).bind fun t210=>(au.j2 k2 t210 sF (sF.length : Int) sD ((ah sF sD).f0) ((ah sF sD).f1) ((ah sF sD).f2) ((ah sF sD).f3) ((ah sF sD).f4) ((ah sF sD).f5) ((ah sF sD).f6))))) else ((aB.f true 7).bind fun tT=>((aD.f k2 (([sK,t171,t173,t203,tT] : List Int))).bind fun tV=>(au.j2 k2 tV sF (sF.length : Int) sD ((ah sF sD).f0) ((ah sF sD).f1) ((ah sF sD).f2) ((ah sF sD).f3) ((ah sF sD).f4) ((ah sF sD).f5) ((ah sF sD).f6))))))))))))))) = some r:=H
          have BL:=Aside0.mk yT
          clear yT
          replace H:=Option.bind_eq_some_iff.mp H
          obtain ⟨t171,yU,H⟩:=H
          replace H : ((aR.f k2 ((ah sF sD).f1)).bind fun uN=>((aB.f (!uN) 6).bind fun t173=>((aX.f (((ah sF sD).f2).length : Int)).bind fun uD=>(if uD = true then ((aB.f true 18).bind fun t175=>((aS.f ((ah sF sD).f4) 64000).bind fun uF=>(if uF = true then ((aS.f ((ah sF sD).f5) 1048576).bind fun uG=>((aB.f (!uG) 7).bind fun uH=>((aD.f k2 (([sK,t171,t173,t175,uH] : List Int))).bind fun t182=>(au.j2 k2 t182 sF (sF.length : Int) sD ((ah sF sD).f0) ((ah sF sD).f1) ((ah sF sD).f2) ((ah sF sD).f3) ((ah sF sD).f4) ((ah sF sD).f5) ((ah sF sD).f6))))) else ((aB.f true 7).bind fun t183=>((aD.f k2 (([sK,t171,t173,t175,t183] : List Int))).bind fun uI=>(au.j2 k2 uI sF (sF.length : Int) sD ((ah sF sD).f0) ((ah sF sD).f1) ((ah sF sD).f2) ((ah sF sD).f3) ((ah sF sD).f4) ((ah sF sD).f5) ((ah sF sD).f6))))))) else ((aX.f (((ah sF sD).f3).length : Int)).bind fun ug=>(if ug = true then ((aB.f true 18).bind fun tO=>((aS.f ((ah sF sD).f4) 64000).bind fun uj=>(if uj = true then ((aS.f ((ah sF sD).f5) 1048576).bind fun um=>((aB.f (!um) 7).bind fun uo=>((aD.f k2 (([sK,t171,t173,tO,uo] : List Int))).bind fun t196=>(au.j2 k2 t196 sF (sF.length : Int) sD ((ah sF sD).f0) ((ah sF sD).f1) ((ah sF sD).f2) ((ah sF sD).f3) ((ah sF sD).f4) ((ah sF sD).f5) ((ah sF sD).f6))))) else ((aB.f true 7).bind fun uq=>((aD.f k2 (([sK,t171,t173,tO,uq] : List Int))).bind fun t201=>(au.j2 k2 t201 sF (sF.length : Int) sD ((ah sF sD).f0) ((ah sF sD).f1) ((ah sF sD).f2) ((ah sF sD).f3) ((ah sF sD).f4) ((ah sF sD).f5) ((ah sF sD).f6))))))) else ((aX.f (((ah sF sD).f6).length : Int)).bind fun tY=>((aB.f tY 18).bind fun t203=>((aS.f ((ah sF sD).f4) 64000).bind fun tQ=>(if tQ = true then ((aS.f ((ah sF sD).f5) 1048576).bind fun tu=>((aB.f (!tu) 7).bind fun t206=>((aD.f k2 (([sK,t171,t173,t203,t206] : List Int))).bind fun t210=>(au.j2 k2 t210 sF (sF.length : Int) sD ((ah sF sD).f0) ((ah sF sD).f1) ((ah sF sD).f2) ((ah sF sD).f3) ((ah sF sD).f4) ((ah sF sD).f5) ((ah sF sD).f6))))) else ((aB.f true 7).bind fun tT=>((aD.f k2 (([sK,t171,t173,t203,tT] : List Int))).bind fun tV=>(au.j2 k2 tV sF (sF.length : Int) sD ((ah sF sD).f0) ((ah sF sD).f1) ((ah sF sD).f2) ((ah sF sD).f3) ((ah sF sD).f4) ((ah sF sD).f5) ((ah sF sD).f6)))))))))))))) = some r:=H
          have BN:=Aside0.mk yU
          clear yU
          replace H:=Option.bind_eq_some_iff.mp H
          obtain ⟨uN,yV,H⟩:=H
          replace H : ((aB.f (!uN) 6).bind fun t173=>((aX.f (((ah sF sD).f2).length : Int)).bind fun uD=>(if uD = true then ((aB.f true 18).bind fun t175=>((aS.f ((ah sF sD).f4) 64000).bind fun uF=>(if uF = true then ((aS.f ((ah sF sD).f5) 1048576).bind fun uG=>((aB.f (!uG) 7).bind fun uH=>((aD.f k2 (([sK,t171,t173,t175,uH] : List Int))).bind fun t182=>(au.j2 k2 t182 sF (sF.length : Int) sD ((ah sF sD).f0) ((ah sF sD).f1) ((ah sF sD).f2) ((ah sF sD).f3) ((ah sF sD).f4) ((ah sF sD).f5) ((ah sF sD).f6))))) else ((aB.f true 7).bind fun t183=>((aD.f k2 (([sK,t171,t173,t175,t183] : List Int))).bind fun uI=>(au.j2 k2 uI sF (sF.length : Int) sD ((ah sF sD).f0) ((ah sF sD).f1) ((ah sF sD).f2) ((ah sF sD).f3) ((ah sF sD).f4) ((ah sF sD).f5) ((ah sF sD).f6))))))) else ((aX.f (((ah sF sD).f3).length : Int)).bind fun ug=>(if ug = true then ((aB.f true 18).bind fun tO=>((aS.f ((ah sF sD).f4) 64000).bind fun uj=>(if uj = true then ((aS.f ((ah sF sD).f5) 1048576).bind fun um=>((aB.f (!um) 7).bind fun uo=>((aD.f k2 (([sK,t171,t173,tO,uo] : List Int))).bind fun t196=>(au.j2 k2 t196 sF (sF.length : Int) sD ((ah sF sD).f0) ((ah sF sD).f1) ((ah sF sD).f2) ((ah sF sD).f3) ((ah sF sD).f4) ((ah sF sD).f5) ((ah sF sD).f6))))) else ((aB.f true 7).bind fun uq=>((aD.f k2 (([sK,t171,t173,tO,uq] : List Int))).bind fun t201=>(au.j2 k2 t201 sF (sF.length : Int) sD ((ah sF sD).f0) ((ah sF sD).f1) ((ah sF sD).f2) ((ah sF sD).f3) ((ah sF sD).f4) ((ah sF sD).f5) ((ah sF sD).f6))))))) else ((aX.f (((ah sF sD).f6).length : Int)).bind fun tY=>((aB.f tY 18).bind fun t203=>((aS.f ((ah sF sD).f4) 64000).bind fun tQ=>(if tQ = true then ((aS.f ((ah sF sD).f5) 1048576).bind fun tu=>((aB.f (!tu) 7).bind fun t206=>((aD.f k2 (([sK,t171,t173,t203,t206] : List Int))).bind fun t210=>(au.j2 k2 t210 sF (sF.length : Int) sD ((ah sF sD).f0) ((ah sF sD).f1) ((ah sF sD).f2) ((ah sF sD).f3) ((ah sF sD).f4) ((ah sF sD).f5) ((ah sF sD).f6))))) else ((aB.f true 7).bind fun tT=>((aD.f k2 (([sK,t171,t173,t203,tT] : List Int))).bind fun tV=>(au.j2 k2 tV sF (sF.length : Int) sD ((ah sF sD).f0) ((ah sF sD).f1) ((ah sF sD).f2) ((ah sF sD).f3) ((ah sF sD).f4) ((ah sF sD).f5) ((ah sF sD).f6))))))))))))) = some r:=H
          have BO:=Aside0.mk yV
          clear yV
          replace H:=Option.bind_eq_some_iff.mp H
          obtain ⟨t173,yX,H⟩:=H
          replace H : ((aX.f (((ah sF sD).f2).length : Int)).bind fun uD=>(if uD = true then ((aB.f true 18).bind fun t175=>((aS.f ((ah sF sD).f4) 64000).bind fun uF=>(if uF = true then ((aS.f ((ah sF sD).f5) 1048576).bind fun uG=>((aB.f (!uG) 7).bind fun uH=>((aD.f k2 (([sK,t171,t173,t175,uH] : List Int))).bind fun t182=>(au.j2 k2 t182 sF (sF.length : Int) sD ((ah sF sD).f0) ((ah sF sD).f1) ((ah sF sD).f2) ((ah sF sD).f3) ((ah sF sD).f4) ((ah sF sD).f5) ((ah sF sD).f6))))) else ((aB.f true 7).bind fun t183=>((aD.f k2 (([sK,t171,t173,t175,t183] : List Int))).bind fun uI=>(au.j2 k2 uI sF (sF.length : Int) sD ((ah sF sD).f0) ((ah sF sD).f1) ((ah sF sD).f2) ((ah sF sD).f3) ((ah sF sD).f4) ((ah sF sD).f5) ((ah sF sD).f6))))))) else ((aX.f (((ah sF sD).f3).length : Int)).bind fun ug=>(if ug = true then ((aB.f true 18).bind fun tO=>((aS.f ((ah sF sD).f4) 64000).bind fun uj=>(if uj = true then ((aS.f ((ah sF sD).f5) 1048576).bind fun um=>((aB.f (!um) 7).bind fun uo=>((aD.f k2 (([sK,t171,t173,tO,uo] : List Int))).bind fun t196=>(au.j2 k2 t196 sF (sF.length : Int) sD ((ah sF sD).f0) ((ah sF sD).f1) ((ah sF sD).f2) ((ah sF sD).f3) ((ah sF sD).f4) ((ah sF sD).f5) ((ah sF sD).f6))))) else ((aB.f true 7).bind fun uq=>((aD.f k2 (([sK,t171,t173,tO,uq] : List Int))).bind fun t201=>(au.j2 k2 t201 sF (sF.length : Int) sD ((ah sF sD).f0) ((ah sF sD).f1) ((ah sF sD).f2) ((ah sF sD).f3) ((ah sF sD).f4) ((ah sF sD).f5) ((ah sF sD).f6))))))) else ((aX.f (((ah sF sD).f6).length : Int)).bind fun tY=>((aB.f tY 18).bind fun t203=>((aS.f ((ah sF sD).f4) 64000).bind fun tQ=>(if tQ = true then ((aS.f ((ah sF sD).f5) 1048576).bind fun tu=>((aB.f (!tu) 7).bind fun t206=>((aD.f k2 (([sK,t171,t173,t203,t206] : List Int))).bind fun t210=>(au.j2 k2 t210 sF (sF.length : Int) sD ((ah sF sD).f0) ((ah sF sD).f1) ((ah sF sD).f2) ((ah sF sD).f3) ((ah sF sD).f4) ((ah sF sD).f5) ((ah sF sD).f6))))) else ((aB.f true 7).bind fun tT=>((aD.f k2 (([sK,t171,t173,t203,tT] : List Int))).bind fun tV=>(au.j2 k2 tV sF (sF.length : Int) sD ((ah sF sD).f0) ((ah sF sD).f1) ((ah sF sD).f2) ((ah sF sD).f3) ((ah sF sD).f4) ((ah sF sD).f5) ((ah sF sD).f6)))))))))))) = some r:=H
          have BP:=Aside0.mk yX
          clear yX
          replace H:=Option.bind_eq_some_iff.mp H
          obtain ⟨uD,yY,H⟩:=H
          replace H : (if uD = true then ((aB.f true 18).bind fun t175=>((aS.f ((ah sF sD).f4) 64000).bind fun uF=>(if uF = true then ((aS.f ((ah sF sD).f5) 1048576).bind fun uG=>((aB.f (!uG) 7).bind fun uH=>((aD.f k2 (([sK,t171,t173,t175,uH] : List Int))).bind fun t182=>(au.j2 k2 t182 sF (sF.length : Int) sD ((ah sF sD).f0) ((ah sF sD).f1) ((ah sF sD).f2) ((ah sF sD).f3) ((ah sF sD).f4) ((ah sF sD).f5) ((ah sF sD).f6))))) else ((aB.f true 7).bind fun t183=>((aD.f k2 (([sK,t171,t173,t175,t183] : List Int))).bind fun uI=>(au.j2 k2 uI sF (sF.length : Int) sD ((ah sF sD).f0) ((ah sF sD).f1) ((ah sF sD).f2) ((ah sF sD).f3) ((ah sF sD).f4) ((ah sF sD).f5) ((ah sF sD).f6))))))) else ((aX.f (((ah sF sD).f3).length : Int)).bind fun ug=>(if ug = true then ((aB.f true 18).bind fun tO=>((aS.f ((ah sF sD).f4) 64000).bind fun uj=>(if uj = true then ((aS.f ((ah sF sD).f5) 1048576).bind fun um=>((aB.f (!um) 7).bind fun uo=>((aD.f k2 (([sK,t171,t173,tO,uo] : List Int))).bind fun t196=>(au.j2 k2 t196 sF (sF.length : Int) sD ((ah sF sD).f0) ((ah sF sD).f1) ((ah sF sD).f2) ((ah sF sD).f3) ((ah sF sD).f4) ((ah sF sD).f5) ((ah sF sD).f6))))) else ((aB.f true 7).bind fun uq=>((aD.f k2 (([sK,t171,t173,tO,uq] : List Int))).bind fun t201=>(au.j2 k2 t201 sF (sF.length : Int) sD ((ah sF sD).f0) ((ah sF sD).f1) ((ah sF sD).f2) ((ah sF sD).f3) ((ah sF sD).f4) ((ah sF sD).f5) ((ah sF sD).f6))))))) else ((aX.f (((ah sF sD).f6).length : Int)).bind fun tY=>((aB.f tY 18).bind fun t203=>((aS.f ((ah sF sD).f4) 64000).bind fun tQ=>(if tQ = true then ((aS.f ((ah sF sD).f5) 1048576).bind fun tu=>((aB.f (!tu) 7).bind fun t206=>((aD.f k2 (([sK,t171,t173,t203,t206] : List Int))).bind fun t210=>(au.j2 k2 t210 sF (sF.length : Int) sD ((ah sF sD).f0) ((ah sF sD).f1) ((ah sF sD).f2) ((ah sF sD).f3) ((ah sF sD).f4) ((ah sF sD).f5) ((ah sF sD).f6))))) else ((aB.f true 7).bind fun tT=>((aD.f k2 (([sK,t171,t173,t203,tT] : List Int))).bind fun tV=>(au.j2 k2 tV sF (sF.length : Int) sD ((ah sF sD).f0) ((ah sF sD).f1) ((ah sF sD).f2) ((ah sF sD).f3) ((ah sF sD).f4) ((ah sF sD).f5) ((ah sF sD).f6))))))))))) = some r:=H
          have Bu:=Aside0.mk yY
          clear yY
          by_cases Ab : uD = true
          ·exact absurd (Option.some.inj (Bu.out.symm.trans (show aX.f _ = some false by rw [(HE.out sD).1]; rfl))) (by rw [Ab]; decide)
          ·replace Ab:=Bool.eq_false_iff.mpr Ab
           subst Ab
           have H1 : ((aX.f (((ah sF sD).f3).length : Int)).bind fun ug=>(if ug = true then ((aB.f true 18).bind fun tO=>((aS.f ((ah sF sD).f4) 64000).bind fun uj=>(if uj = true then ((aS.f ((ah sF sD).f5) 1048576).bind fun um=>((aB.f (!um) 7).bind fun uo=>((aD.f k2 (([sK,t171,t173,tO,uo] : List Int))).bind fun t196=>(au.j2 k2 t196 sF (sF.length : Int) sD ((ah sF sD).f0) ((ah sF sD).f1) ((ah sF sD).f2) ((ah sF sD).f3) ((ah sF sD).f4) ((ah sF sD).f5) ((ah sF sD).f6))))) else ((aB.f true 7).bind fun uq=>((aD.f k2 (([sK,t171,t173,tO,uq] : List Int))).bind fun t201=>(au.j2 k2 t201 sF (sF.length : Int) sD ((ah sF sD).f0) ((ah sF sD).f1) ((ah sF sD).f2) ((ah sF sD).f3) ((ah sF sD).f4) ((ah sF sD).f5) ((ah sF sD).f6))))))) else ((aX.f (((ah sF sD).f6).length : Int)).bind fun tY=>((aB.f tY 18).bind fun t203=>((aS.f ((ah sF sD).f4) 64000).bind fun tQ=>(if tQ = true then ((aS.f ((ah sF sD).f5) 1048576).bind fun tu=>((aB.f (!tu) 7).bind fun t206=>((aD.f k2 (([sK,t171,t173,t203,t206] : List Int))).bind fun t210=>(au.j2 k2 t210 sF (sF.length : Int) sD ((ah sF sD).f0) ((ah sF sD).f1) ((ah sF sD).f2) ((ah sF sD).f3) ((ah sF sD).f4) ((ah sF sD).f5) ((ah sF sD).f6))))) else ((aB.f true 7).bind fun tT=>((aD.f k2 (([sK,t171,t173,t203,tT] : List Int))).bind fun tV=>(au.j2 k2 tV sF (sF.length : Int) sD ((ah sF sD).f0) ((ah sF sD).f1) ((ah sF sD).f2) ((ah sF sD).f3) ((ah sF sD).f4) ((ah sF sD).f5) ((ah sF sD).f6)))))))))) = some r:=by rw [if_neg (show ¬ (false = true) by decide)] at H;exact H
           clear H
           have H:=H1
           clear H1
           replace H:=Option.bind_eq_some_iff.mp H
           obtain ⟨ug,xX,H⟩:=H
           replace H : (if ug = true then ((aB.f true 18).bind fun tO=>((aS.f ((ah sF sD).f4) 64000).bind fun uj=>(if uj = true then ((aS.f ((ah sF sD).f5) 1048576).bind fun um=>((aB.f (!um) 7).bind fun uo=>((aD.f k2 (([sK,t171,t173,tO,uo] : List Int))).bind fun t196=>(au.j2 k2 t196 sF (sF.length : Int) sD ((ah sF sD).f0) ((ah sF sD).f1) ((ah sF sD).f2) ((ah sF sD).f3) ((ah sF sD).f4) ((ah sF sD).f5) ((ah sF sD).f6))))) else ((aB.f true 7).bind fun uq=>((aD.f k2 (([sK,t171,t173,tO,uq] : List Int))).bind fun t201=>(au.j2 k2 t201 sF (sF.length : Int) sD ((ah sF sD).f0) ((ah sF sD).f1) ((ah sF sD).f2) ((ah sF sD).f3) ((ah sF sD).f4) ((ah sF sD).f5) ((ah sF sD).f6))))))) else ((aX.f (((ah sF sD).f6).length : Int)).bind fun tY=>((aB.f tY 18).bind fun t203=>((aS.f ((ah sF sD).f4) 64000).bind fun tQ=>(if tQ = true then ((aS.f ((ah sF sD).f5) 1048576).bind fun tu=>((aB.f (!tu) 7).bind fun t206=>((aD.f k2 (([sK,t171,t173,t203,t206] : List Int))).bind fun t210=>(au.j2 k2 t210 sF (sF.length : Int) sD ((ah sF sD).f0) ((ah sF sD).f1) ((ah sF sD).f2) ((ah sF sD).f3) ((ah sF sD).f4) ((ah sF sD).f5) ((ah sF sD).f6))))) else ((aB.f true 7).bind fun tT=>((aD.f k2 (([sK,t171,t173,t203,tT] : List Int))).bind fun tV=>(au.j2 k2 tV sF (sF.length : Int) sD ((ah sF sD).f0) ((ah sF sD).f1) ((ah sF sD).f2) ((ah sF sD).f3) ((ah sF sD).f4) ((ah sF sD).f5) ((ah sF sD).f6))))))))) = some r:=H
           have yZ:=Aside0.mk xX
           clear xX
           by_cases xR : ug = true
           ·exact absurd (Option.some.inj (yZ.out.symm.trans (show aX.f _ = some false by rw [(HE.out sD).2.1]; rfl))) (by rw [xR]; decide)
           ·replace xR:=Bool.eq_false_iff.mpr xR
            subst xR
            have H1 : ((aX.f (((ah sF sD).f6).length : Int)).bind fun tY=>((aB.f tY 18).bind fun t203=>((aS.f ((ah sF sD).f4) 64000).bind fun tQ=>(if tQ = true then ((aS.f ((ah sF sD).f5) 1048576).bind fun tu=>((aB.f (!tu) 7).bind fun t206=>((aD.f k2 (([sK,t171,t173,t203,t206] : List Int))).bind fun t210=>(au.j2 k2 t210 sF (sF.length : Int) sD ((ah sF sD).f0) ((ah sF sD).f1) ((ah sF sD).f2) ((ah sF sD).f3) ((ah sF sD).f4) ((ah sF sD).f5) ((ah sF sD).f6))))) else ((aB.f true 7).bind fun tT=>((aD.f k2 (([sK,t171,t173,t203,tT] : List Int))).bind fun tV=>(au.j2 k2 tV sF (sF.length : Int) sD ((ah sF sD).f0) ((ah sF sD).f1) ((ah sF sD).f2) ((ah sF sD).f3) ((ah sF sD).f4) ((ah sF sD).f5) ((ah sF sD).f6)))))))) = some r:=by rw [if_neg (show ¬ (false = true) by decide)] at H;exact H
            clear H
            have H:=H1
            clear H1
            replace H:=Option.bind_eq_some_iff.mp H
            obtain ⟨tY,xY,H⟩:=H
            replace H : ((aB.f tY 18).bind fun t203=>((aS.f ((ah sF sD).f4) 64000).bind fun tQ=>(if tQ = true then ((aS.f ((ah sF sD).f5) 1048576).bind fun tu=>((aB.f (!tu) 7).bind fun t206=>((aD.f k2 (([sK,t171,t173,t203,t206] : List Int))).bind fun t210=>(au.j2 k2 t210 sF (sF.length : Int) sD ((ah sF sD).f0) ((ah sF sD).f1) ((ah sF sD).f2) ((ah sF sD).f3) ((ah sF sD).f4) ((ah sF sD).f5) ((ah sF sD).f6))))) else ((aB.f true 7).bind fun tT=>((aD.f k2 (([sK,t171,t173,t203,tT] : List Int))).bind fun tV=>(au.j2 k2 tV sF (sF.length : Int) sD ((ah sF sD).f0) ((ah sF sD).f1) ((ah sF sD).f2) ((ah sF sD).f3) ((ah sF sD).f4) ((ah sF sD).f5) ((ah sF sD).f6))))))) = some r:=H
            have Am:=Aside0.mk xY
            clear xY
            replace H:=Option.bind_eq_some_iff.mp H
            obtain ⟨t203,xZ,H⟩:=H
            replace H : ((aS.f ((ah sF sD).f4) 64000).bind fun tQ=>(if tQ = true then ((aS.f ((ah sF sD).f5) 1048576).bind fun tu=>((aB.f (!tu) 7).bind fun t206=>((aD.f k2 (([sK,t171,t173,t203,t206] : List Int))).bind fun t210=>(au.j2 k2 t210 sF (sF.length : Int) sD ((ah sF sD).f0) ((ah sF sD).f1) ((ah sF sD).f2) ((ah sF sD).f3) ((ah sF sD).f4) ((ah sF sD).f5) ((ah sF sD).f6))))) else ((aB.f true 7).bind fun tT=>((aD.f k2 (([sK,t171,t173,t203,tT] : List Int))).bind fun tV=>(au.j2 k2 tV sF (sF.length : Int) sD ((ah sF sD).f0) ((ah sF sD).f1) ((ah sF sD).f2) ((ah sF sD).f3) ((ah sF sD).f4) ((ah sF sD).f5) ((ah sF sD).f6)))))) = some r:=H
            have Ao:=Aside0.mk xZ
            clear xZ
            replace H:=Option.bind_eq_some_iff.mp H
            obtain ⟨tQ,x9,H⟩:=H
            replace H : (if tQ = true then ((aS.f ((ah sF sD).f5) 1048576).bind fun tu=>((aB.f (!tu) 7).bind fun t206=>((aD.f k2 (([sK,t171,t173,t203,t206] : List Int))).bind fun t210=>(au.j2 k2 t210 sF (sF.length : Int) sD ((ah sF sD).f0) ((ah sF sD).f1) ((ah sF sD).f2) ((ah sF sD).f3) ((ah sF sD).f4) ((ah sF sD).f5) ((ah sF sD).f6))))) else ((aB.f true 7).bind fun tT=>((aD.f k2 (([sK,t171,t173,t203,tT] : List Int))).bind fun tV=>(au.j2 k2 tV sF (sF.length : Int) sD ((ah sF sD).f0) ((ah sF sD).f1) ((ah sF sD).f2) ((ah sF sD).f3) ((ah sF sD).f4) ((ah sF sD).f5) ((ah sF sD).f6))))) = some r:=H
            have za:=Aside0.mk x9
            clear x9
            by_cases yD : tQ = true
            ·subst yD
             have H1 : ((aS.f ((ah sF sD).f5) 1048576).bind fun tu=>((aB.f (!tu) 7).bind fun t206=>((aD.f k2 (([sK,t171,t173,t203,t206] : List Int))).bind fun t210=>(au.j2 k2 t210 sF (sF.length : Int) sD ((ah sF sD).f0) ((ah sF sD).f1) ((ah sF sD).f2) ((ah sF sD).f3) ((ah sF sD).f4) ((ah sF sD).f5) ((ah sF sD).f6))))) = some r:=by rw [if_pos rfl] at H;exact H
             clear H
             have H:=H1
             clear H1
             replace H:=Option.bind_eq_some_iff.mp H
             obtain ⟨tu,yc,H⟩:=H
             replace H : ((aB.f (!tu) 7).bind fun t206=>((aD.f k2 (([sK,t171,t173,t203,t206] : List Int))).bind fun t210=>(au.j2 k2 t210 sF (sF.length : Int) sD ((ah sF sD).f0) ((ah sF sD).f1) ((ah sF sD).f2) ((ah sF sD).f3) ((ah sF sD).f4) ((ah sF sD).f5) ((ah sF sD).f6)))) = some r:=H
             have Ap:=Aside0.mk yc
             clear yc
             replace H:=Option.bind_eq_some_iff.mp H
             obtain ⟨t206,yg,H⟩:=H
             replace H : ((aD.f k2 (([sK,t171,t173,t203,t206] : List Int))).bind fun t210=>(au.j2 k2 t210 sF (sF.length : Int) sD ((ah sF sD).f0) ((ah sF sD).f1) ((ah sF sD).f2) ((ah sF sD).f3) ((ah sF sD).f4) ((ah sF sD).f5) ((ah sF sD).f6))) = some r:=H
             have Aq:=Aside0.mk yg
             clear yg
             obtain ⟨yE,vD⟩ : ∃ y_ : List Int,y_ = (([sK,t171,t173,t203,t206] : List Int)):=⟨_,rfl⟩
             replace H : ((aD.f k2 yE).bind fun t210=>(au.j2 k2 t210 sF (sF.length : Int) sD ((ah sF sD).f0) ((ah sF sD).f1) ((ah sF sD).f2) ((ah sF sD).f3) ((ah sF sD).f4) ((ah sF sD).f5) ((ah sF sD).f6))) = some r:=by first|(rw [vD];with_reducible exact H)|(have yx:=(Option.bind_some _ _).symm.trans H;rw [vD];with_reducible exact yx)|(have yx:=(Option.bind_some _ _).symm.trans H;with_reducible exact yx)|with_reducible exact H|(rw [vD];exact H)|exact H
             have yh:=Aside0.mk vD
             clear vD
             replace H:=Option.bind_eq_some_iff.mp H
             obtain ⟨t210,yj,H⟩:=H
             replace H : (au.j2 k2 t210 sF (sF.length : Int) sD ((ah sF sD).f0) ((ah sF sD).f1) ((ah sF sD).f2) ((ah sF sD).f3) ((ah sF sD).f4) ((ah sF sD).f5) ((ah sF sD).f6)) = some r:=H
             have Ar:=Aside0.mk yj
             clear yj
             have H':=Aside0.mk H
             clear H
             try go_wp2
             have uy:=Aside0.mk (aN sH.out)
             have uz:=Aside0.mk (aN sG.out)
             have uJ:=Aside0.mk (av HB.out)
             clear sH
             clear sG
             clear HB
             have sH:=uy
             have sG:=uz
             have HB:=uJ
             clear uy uz uJ
             refine jG (n:=47) (S:=fun w'=>w'.cell? ⟨sI,0,none⟩ = some (.string ((ah sF sD).f0)) ∧ w'.cell? ⟨sI,1,none⟩ = some (.string ((ah sF sD).f1)) ∧ w'.cell? ⟨sI,2,none⟩ = some (.slice sS ((ah sF sD).f2).length sU) ∧ w'.cell? ⟨sI,3,none⟩ = some (.slice sW ((ah sF sD).f3).length sZ) ∧ w'.cell? ⟨sI,4,none⟩ = some (.int .i64 ((ah sF sD).f4)) ∧ w'.cell? ⟨sI,5,none⟩ = some (.int .i64 ((ah sF sD).f5)) ∧ w'.cell? ⟨sI,6,none⟩ = some (.slice tF ((ah sF sD).f6).length tH) ∧ w'.heap[mb]? = some om) (ds:=[]) #[false,false,false,false,false,false,false,false,false,false,false,false,false,false,false,false,false,false,false,false,false,false,false,false,false,false,false,false,false,false,false,false,false,false,false,false,false,false,false,false,false,false,false,false,false,false,false] (by kernel_rfl) rfl rfl ⟨(ak sG.out 0).trans rfl,(ak sG.out 1).trans rfl,(ak sG.out 2).trans rfl,(ak sG.out 3).trans rfl,(ak sG.out 4).trans rfl,(ak sG.out 5).trans rfl,(ak sG.out 6).trans rfl,BM.out⟩ (fun hHeld=>?_);refine gM au.qw au.nW (fun HT_ HW_=>?_)
             replace BM : Aside0 (w3.drew.heap[mb]? = some om) := ⟨BM.out⟩
             generalize w3.drew = Au at sH sG HB BM hHeld ⊢
             refine bK (i:=0) (N:=some 62) (v:=?_) (a':=?_) #[true,false,false,false,false,false,false,false,false,false,false,false,false,false,false,false,false,false,false,false,false,false,false,false,false,false,false,false,false,false,false,false,false,false,false,false,false,false,false,false,false,false,false,false,false,false,false] rfl rfl (bf HT_.out (by kernel_rfl)) (fun _ _ _ h=>h) (Or.inl ⟨by rfl,?_⟩) ?_ ?_
             rotate_left
             ·intro w'
              go_simp
              with_reducible rfl
             rotate_left
             ·simp only [Act.put,List.setIfInBounds_toArray,List.set_cons_zero,List.set_cons_succ,aV,aW]
              rfl
             refine bK (i:=5) (N:=some 67) (v:=?_) (a':=?_) #[true,false,false,false,false,true,false,false,false,false,false,false,false,false,false,false,false,false,false,false,false,false,false,false,false,false,false,false,false,false,false,false,false,false,false,false,false,false,false,false,false,false,false,false,false,false,false] rfl rfl (bf HT_.out (by kernel_rfl)) (fun _ _ _ h=>h) (Or.inl ⟨by rfl,?_⟩) ?_ ?_
             rotate_left
             ·intro w'
              go_simp
              with_reducible rfl
             rotate_left
             ·simp only [Act.put,List.setIfInBounds_toArray,List.set_cons_zero,List.set_cons_succ,aV,aW]
              rfl
             refine bK (i:=6) (N:=some 68) (v:=?_) (a':=?_) #[true,false,false,false,false,true,true,false,false,false,false,false,false,false,false,false,false,false,false,false,false,false,false,false,false,false,false,false,false,false,false,false,false,false,false,false,false,false,false,false,false,false,false,false,false,false,false] rfl rfl (bf HT_.out (by kernel_rfl)) (fun _ _ _ h=>h) (Or.inl ⟨by rfl,?_⟩) ?_ ?_
             rotate_left
             ·intro w'
              go_simp
              with_reducible rfl
             rotate_left
             ·simp only [Act.put,List.setIfInBounds_toArray,List.set_cons_zero,List.set_cons_succ,aV,aW]
              rfl
             refine bK (i:=11) (N:=some 73) (v:=?_) (a':=?_) #[true,false,false,false,false,true,true,false,false,false,false,true,false,false,false,false,false,false,false,false,false,false,false,false,false,false,false,false,false,false,false,false,false,false,false,false,false,false,false,false,false,false,false,false,false,false,false] rfl rfl (bf HT_.out (by kernel_rfl)) (fun _ _ _ h=>h) (Or.inl ⟨by rfl,?_⟩) ?_ ?_
             rotate_left
             ·intro w'
              go_simp
              with_reducible rfl
             rotate_left
             ·simp only [Act.put,List.setIfInBounds_toArray,List.set_cons_zero,List.set_cons_succ,aV,aW]
              rfl
             refine bK (i:=16) (N:=some 78) (v:=?_) (a':=?_) #[true,false,false,false,false,true,true,false,false,false,false,true,false,false,false,false,true,false,false,false,false,false,false,false,false,false,false,false,false,false,false,false,false,false,false,false,false,false,false,false,false,false,false,false,false,false,false] rfl rfl (bf HT_.out (by kernel_rfl)) (fun _ _ _ h=>h) (Or.inl ⟨by rfl,?_⟩) ?_ ?_
             rotate_left
             ·intro w'
              go_simp
              with_reducible rfl
             rotate_left
             ·simp only [Act.put,List.setIfInBounds_toArray,List.set_cons_zero,List.set_cons_succ,aV,aW]
              rfl
             refine bK (i:=33) (N:=some 95) (v:=?_) (a':=?_) #[true,false,false,false,false,true,true,false,false,false,false,true,false,false,false,false,true,false,false,false,false,false,false,false,false,false,false,false,false,false,false,false,false,true,false,false,false,false,false,false,false,false,false,false,false,false,false] rfl rfl (bf HT_.out (by kernel_rfl)) (fun _ _ _ h=>h) (Or.inl ⟨by rfl,?_⟩) ?_ ?_
             rotate_left
             ·intro w'
              go_simp
              with_reducible rfl
             rotate_left
             ·simp only [Act.put,List.setIfInBounds_toArray,List.set_cons_zero,List.set_cons_succ,aV,aW]
              rfl
             refine eX (i:=1) (N:=some 63) (v:=?_) (a':=?_) #[true,true,false,false,false,true,true,false,false,false,false,true,false,false,false,false,true,false,false,false,false,false,false,false,false,false,false,false,false,false,false,false,false,true,false,false,false,false,false,false,false,false,false,false,false,false,false] rfl rfl (dD HT_.out HW_.out (by kernel_rfl)) (fun _ _ _ h=>h) (Or.inl ⟨by rfl,?_⟩) hHeld ?_ ?_
             rotate_left
             ·rintro w' ⟨s0,s1,s2,s3,s4,s5,s6,s7⟩
              go_simp
              with_reducible rfl
             rotate_left
             ·simp only [Act.put,List.setIfInBounds_toArray,List.set_cons_zero,List.set_cons_succ,aV,aW]
              rfl
             refine eX (i:=7) (N:=some 69) (v:=?_) (a':=?_) #[true,true,false,false,false,true,true,true,false,false,false,true,false,false,false,false,true,false,false,false,false,false,false,false,false,false,false,false,false,false,false,false,false,true,false,false,false,false,false,false,false,false,false,false,false,false,false] rfl rfl (dD HT_.out HW_.out (by kernel_rfl)) (fun _ _ _ h=>h) (Or.inl ⟨by rfl,?_⟩) hHeld ?_ ?_
             rotate_left
             ·rintro w' ⟨s0,s1,s2,s3,s4,s5,s6,s7⟩
              go_simp
              with_reducible rfl
             rotate_left
             ·simp only [Act.put,List.setIfInBounds_toArray,List.set_cons_zero,List.set_cons_succ,aV,aW]
              rfl
             refine eX (i:=8) (N:=some 70) (v:=.int .i64 1) (a':=?_) #[true,true,false,false,false,true,true,true,true,false,false,true,false,false,false,false,true,false,false,false,false,false,false,false,false,false,false,false,false,false,false,false,false,true,false,false,false,false,false,false,false,false,false,false,false,false,false] rfl rfl (dD HT_.out HW_.out (by kernel_rfl)) (fun _ _ _ h=>h) (Or.inl ⟨by rfl,?_⟩) hHeld ?_ ?_
             ·rintro w' ⟨s0,s1,s2,s3,s4,s5,s6,s7⟩
              have hl := HLK.out w' s7
              go_simp
              try rfl
             rotate_left
             ·simp only [Act.put,List.setIfInBounds_toArray,List.set_cons_zero,List.set_cons_succ,aV,aW]
              rfl
             refine bK (i:=9) (N:=some 71) (v:=?_) (a':=?_) #[true,true,false,false,false,true,true,true,true,true,false,true,false,false,false,false,true,false,false,false,false,false,false,false,false,false,false,false,false,false,false,false,false,true,false,false,false,false,false,false,false,false,false,false,false,false,false] rfl rfl (bf HT_.out (by kernel_rfl)) (fun _ _ _ h=>h) (Or.inl ⟨by rfl,?_⟩) ?_ ?_
             rotate_left
             ·intro w'
              go_simp
              with_reducible rfl
             rotate_left
             ·simp only [Act.put,List.setIfInBounds_toArray,List.set_cons_zero,List.set_cons_succ,aV,aW]
              rfl
             refine eX (i:=12) (N:=some 74) (v:=?_) (a':=?_) #[true,true,false,false,false,true,true,true,true,true,false,true,true,false,false,false,true,false,false,false,false,false,false,false,false,false,false,false,false,false,false,false,false,true,false,false,false,false,false,false,false,false,false,false,false,false,false] rfl rfl (dD HT_.out HW_.out (by kernel_rfl)) (fun _ _ _ h=>h) (Or.inl ⟨by rfl,?_⟩) hHeld ?_ ?_
             rotate_left
             ·rintro w' ⟨s0,s1,s2,s3,s4,s5,s6,s7⟩
              go_simp
              with_reducible rfl
             rotate_left
             ·simp only [Act.put,List.setIfInBounds_toArray,List.set_cons_zero,List.set_cons_succ,aV,aW]
              rfl
             refine eX (i:=17) (N:=some 79) (v:=?_) (a':=?_) #[true,true,false,false,false,true,true,true,true,true,false,true,true,false,false,false,true,true,false,false,false,false,false,false,false,false,false,false,false,false,false,false,false,true,false,false,false,false,false,false,false,false,false,false,false,false,false] rfl rfl (dD HT_.out HW_.out (by kernel_rfl)) (fun _ _ _ h=>h) (Or.inl ⟨by rfl,?_⟩) hHeld ?_ ?_
             rotate_left
             ·rintro w' ⟨s0,s1,s2,s3,s4,s5,s6,s7⟩
              go_simp
              with_reducible rfl
             rotate_left
             ·simp only [Act.put,List.setIfInBounds_toArray,List.set_cons_zero,List.set_cons_succ,aV,aW]
              rfl
             refine bK (i:=18) (N:=some 80) (v:=?_) (a':=?_) #[true,true,false,false,false,true,true,true,true,true,false,true,true,false,false,false,true,true,true,false,false,false,false,false,false,false,false,false,false,false,false,false,false,true,false,false,false,false,false,false,false,false,false,false,false,false,false] rfl rfl (bf HT_.out (by kernel_rfl)) (fun _ _ _ h=>h) (Or.inl ⟨by rfl,?_⟩) ?_ ?_
             rotate_left
             ·intro w'
              go_simp
              with_reducible rfl
             rotate_left
             ·simp only [Act.put,List.setIfInBounds_toArray,List.set_cons_zero,List.set_cons_succ,aV,aW]
              rfl
             refine eX (i:=34) (N:=some 96) (v:=?_) (a':=?_) #[true,true,false,false,false,true,true,true,true,true,false,true,true,false,false,false,true,true,true,false,false,false,false,false,false,false,false,false,false,false,false,false,false,true,true,false,false,false,false,false,false,false,false,false,false,false,false] rfl rfl (dD HT_.out HW_.out (by kernel_rfl)) (fun _ _ _ h=>h) (Or.inl ⟨by rfl,?_⟩) hHeld ?_ ?_
             rotate_left
             ·rintro w' ⟨s0,s1,s2,s3,s4,s5,s6,s7⟩
              go_simp
              with_reducible rfl
             rotate_left
             ·simp only [Act.put,List.setIfInBounds_toArray,List.set_cons_zero,List.set_cons_succ,aV,aW]
              rfl
             refine fF (i:=2) (N:=some 64) #[true,true,true,false,false,true,true,true,true,true,false,true,true,false,false,false,true,true,true,false,false,false,false,false,false,false,false,false,false,false,false,false,false,true,true,false,false,false,false,false,false,false,false,false,false,false,false] rfl rfl (dF HT_.out (by kernel_rfl)) (by decide) (fun K hK=>?_)
             refine eU Tryd.func37 (by kernel_rfl) rfl #[.string ((ah sF sD).f0)] (by rfl) rfl rfl (by (try simp only [List.map_toArray,List.map_cons,List.map_nil]);first|done|rfl|(simp only [List.length_drop,List.length_take];rfl)) ?_
             with_reducible refine (aK.calls k2 ((ah sF sD).f0) vT _ BK.out).mono ?_
             rintro e w' ⟨rfl,⟨nd,rfl⟩⟩
             refine ⟨_,rfl,?_⟩
             replace sH:=Aside0.mk (aF sH.out nd)
             replace sG:=Aside0.mk (aF sG.out nd)
             replace HB:=Aside0.mk (aj HB.out nd)
             replace BM:=Aside0.mk (aF BM.out nd)
             clear hHeld
             generalize World.drewN Au nd = Av at sH sG HB BM hK ⊢
             refine hK.out _ _ ⟨(ak sG.out 0).trans rfl,(ak sG.out 1).trans rfl,(ak sG.out 2).trans rfl,(ak sG.out 3).trans rfl,(ak sG.out 4).trans rfl,(ak sG.out 5).trans rfl,(ak sG.out 6).trans rfl,BM.out⟩ (fun hHeld=>?_)
             clear hK K
             refine eB (a':=?_) ?_ ?_
             rotate_left
             ·show Act.put _ (some 64) _ = _
              simp only [Act.put,List.setIfInBounds_toArray,List.set_cons_zero,List.set_cons_succ,aV,aW]
              rfl
             refine bK (i:=3) (N:=some 65) (v:=?_) (a':=?_) #[true,true,true,true,false,true,true,true,true,true,false,true,true,false,false,false,true,true,true,false,false,false,false,false,false,false,false,false,false,false,false,false,false,true,true,false,false,false,false,false,false,false,false,false,false,false,false] rfl rfl (bf HT_.out (by kernel_rfl)) (fun _ _ _ h=>h) (Or.inl ⟨by rfl,?_⟩) ?_ ?_
             rotate_left
             ·intro w'
              go_simp
              with_reducible rfl
             rotate_left
             ·simp only [Act.put,List.setIfInBounds_toArray,List.set_cons_zero,List.set_cons_succ,aV,aW]
              rfl
             refine fF (i:=4) (N:=some 66) #[true,true,true,true,true,true,true,true,true,true,false,true,true,false,false,false,true,true,true,false,false,false,false,false,false,false,false,false,false,false,false,false,false,true,true,false,false,false,false,false,false,false,false,false,false,false,false] rfl rfl (dF HT_.out (by kernel_rfl)) (by decide) (fun K hK=>?_)
             refine eU Tryd.func35 (by kernel_rfl) rfl #[.bool (!vT),.int .i64 13] (by rfl) rfl rfl (by (try simp only [List.map_toArray,List.map_cons,List.map_nil]);first|done|rfl|(simp only [List.length_drop,List.length_take];rfl)) ?_
             with_reducible refine (aB.calls (!vT) 13 sK _ BL.out).mono ?_
             rintro e w' ⟨rfl,⟨nd,rfl⟩⟩
             refine ⟨_,rfl,?_⟩
             replace sH:=Aside0.mk (aF sH.out nd)
             replace sG:=Aside0.mk (aF sG.out nd)
             replace HB:=Aside0.mk (aj HB.out nd)
             replace BM:=Aside0.mk (aF BM.out nd)
             clear hHeld
             generalize World.drewN Av nd = Aw at sH sG HB BM hK ⊢
             refine hK.out _ _ ⟨(ak sG.out 0).trans rfl,(ak sG.out 1).trans rfl,(ak sG.out 2).trans rfl,(ak sG.out 3).trans rfl,(ak sG.out 4).trans rfl,(ak sG.out 5).trans rfl,(ak sG.out 6).trans rfl,BM.out⟩ (fun hHeld=>?_)
             clear hK K
             refine eB (a':=?_) ?_ ?_
             rotate_left
             ·show Act.put _ (some 66) _ = _
              simp only [Act.put,List.setIfInBounds_toArray,List.set_cons_zero,List.set_cons_succ,aV,aW]
              rfl
             refine fF (i:=10) (N:=some 72) #[true,true,true,true,true,true,true,true,true,true,true,true,true,false,false,false,true,true,true,false,false,false,false,false,false,false,false,false,false,false,false,false,false,true,true,false,false,false,false,false,false,false,false,false,false,false,false] rfl rfl (dF HT_.out (by kernel_rfl)) (by decide) (fun K hK=>?_)
             refine eU Tryd.func35 (by kernel_rfl) rfl #[.bool (decide (1 > 1)),.int .i64 8] (by rfl) rfl rfl (by (try simp only [List.map_toArray,List.map_cons,List.map_nil]);first|done|rfl|(simp only [List.length_drop,List.length_take];rfl)) ?_
             with_reducible refine (aB.calls (decide (1 > 1)) 8 t171 _ BN.out).mono ?_
             rintro e w' ⟨rfl,⟨nd,rfl⟩⟩
             refine ⟨_,rfl,?_⟩
             replace sH:=Aside0.mk (aF sH.out nd)
             replace sG:=Aside0.mk (aF sG.out nd)
             replace HB:=Aside0.mk (aj HB.out nd)
             replace BM:=Aside0.mk (aF BM.out nd)
             clear hHeld
             generalize World.drewN Aw nd = Ay at sH sG HB BM hK ⊢
             refine hK.out _ _ ⟨(ak sG.out 0).trans rfl,(ak sG.out 1).trans rfl,(ak sG.out 2).trans rfl,(ak sG.out 3).trans rfl,(ak sG.out 4).trans rfl,(ak sG.out 5).trans rfl,(ak sG.out 6).trans rfl,BM.out⟩ (fun hHeld=>?_)
             clear hK K
             refine eB (a':=?_) ?_ ?_
             rotate_left
             ·show Act.put _ (some 72) _ = _
              simp only [Act.put,List.setIfInBounds_toArray,List.set_cons_zero,List.set_cons_succ,aV,aW]
              rfl
             refine fF (i:=13) (N:=some 75) #[true,true,true,true,true,true,true,true,true,true,true,true,true,true,false,false,true,true,true,false,false,false,false,false,false,false,false,false,false,false,false,false,false,true,true,false,false,false,false,false,false,false,false,false,false,false,false] rfl rfl (dF HT_.out (by kernel_rfl)) (by decide) (fun K hK=>?_)
             refine eU Tryd.func40 (by kernel_rfl) rfl #[.string ((ah sF sD).f1)] (by rfl) rfl rfl (by (try simp only [List.map_toArray,List.map_cons,List.map_nil]);first|done|rfl|(simp only [List.length_drop,List.length_take];rfl)) ?_
             with_reducible refine (aR.calls k2 ((ah sF sD).f1) uN _ BO.out).mono ?_
             rintro e w' ⟨rfl,⟨nd,rfl⟩⟩
             refine ⟨_,rfl,?_⟩
             replace sH:=Aside0.mk (aF sH.out nd)
             replace sG:=Aside0.mk (aF sG.out nd)
             replace HB:=Aside0.mk (aj HB.out nd)
             replace BM:=Aside0.mk (aF BM.out nd)
             clear hHeld
             generalize World.drewN Ay nd = Az at sH sG HB BM hK ⊢
             refine hK.out _ _ ⟨(ak sG.out 0).trans rfl,(ak sG.out 1).trans rfl,(ak sG.out 2).trans rfl,(ak sG.out 3).trans rfl,(ak sG.out 4).trans rfl,(ak sG.out 5).trans rfl,(ak sG.out 6).trans rfl,BM.out⟩ (fun hHeld=>?_)
             clear hK K
             refine eB (a':=?_) ?_ ?_
             rotate_left
             ·show Act.put _ (some 75) _ = _
              simp only [Act.put,List.setIfInBounds_toArray,List.set_cons_zero,List.set_cons_succ,aV,aW]
              rfl
             refine bK (i:=14) (N:=some 76) (v:=?_) (a':=?_) #[true,true,true,true,true,true,true,true,true,true,true,true,true,true,true,false,true,true,true,false,false,false,false,false,false,false,false,false,false,false,false,false,false,true,true,false,false,false,false,false,false,false,false,false,false,false,false] rfl rfl (bf HT_.out (by kernel_rfl)) (fun _ _ _ h=>h) (Or.inl ⟨by rfl,?_⟩) ?_ ?_
             rotate_left
             ·intro w'
              go_simp
              with_reducible rfl
             rotate_left
             ·simp only [Act.put,List.setIfInBounds_toArray,List.set_cons_zero,List.set_cons_succ,aV,aW]
              rfl
             refine fF (i:=15) (N:=some 77) #[true,true,true,true,true,true,true,true,true,true,true,true,true,true,true,true,true,true,true,false,false,false,false,false,false,false,false,false,false,false,false,false,false,true,true,false,false,false,false,false,false,false,false,false,false,false,false] rfl rfl (dF HT_.out (by kernel_rfl)) (by decide) (fun K hK=>?_)
             refine eU Tryd.func35 (by kernel_rfl) rfl #[.bool (!uN),.int .i64 6] (by rfl) rfl rfl (by (try simp only [List.map_toArray,List.map_cons,List.map_nil]);first|done|rfl|(simp only [List.length_drop,List.length_take];rfl)) ?_
             with_reducible refine (aB.calls (!uN) 6 t173 _ BP.out).mono ?_
             rintro e w' ⟨rfl,⟨nd,rfl⟩⟩
             refine ⟨_,rfl,?_⟩
             replace sH:=Aside0.mk (aF sH.out nd)
             replace sG:=Aside0.mk (aF sG.out nd)
             replace HB:=Aside0.mk (aj HB.out nd)
             replace BM:=Aside0.mk (aF BM.out nd)
             clear hHeld
             generalize World.drewN Az nd = AA at sH sG HB BM hK ⊢
             refine hK.out _ _ ⟨(ak sG.out 0).trans rfl,(ak sG.out 1).trans rfl,(ak sG.out 2).trans rfl,(ak sG.out 3).trans rfl,(ak sG.out 4).trans rfl,(ak sG.out 5).trans rfl,(ak sG.out 6).trans rfl,BM.out⟩ (fun hHeld=>?_)
             clear hK K
             refine eB (a':=?_) ?_ ?_
             rotate_left
             ·show Act.put _ (some 77) _ = _
              simp only [Act.put,List.setIfInBounds_toArray,List.set_cons_zero,List.set_cons_succ,aV,aW]
              rfl
             refine fF (i:=19) (N:=some 81) #[true,true,true,true,true,true,true,true,true,true,true,true,true,true,true,true,true,true,true,true,false,false,false,false,false,false,false,false,false,false,false,false,false,true,true,false,false,false,false,false,false,false,false,false,false,false,false] rfl rfl (dF HT_.out (by kernel_rfl)) (by decide) (fun K hK=>?_)
             refine eU Tryd.func39 (by kernel_rfl) rfl #[.int .i64 (((ah sF sD).f2).length : Int)] (by rfl) rfl rfl (by (try simp only [List.map_toArray,List.map_cons,List.map_nil]);first|done|rfl|(simp only [List.length_drop,List.length_take];rfl)) ?_
             with_reducible refine (aX.calls (((ah sF sD).f2).length : Int) false _ Bu.out).mono ?_
             rintro e w' ⟨rfl,⟨nd,rfl⟩⟩
             refine ⟨_,rfl,?_⟩
             replace sH:=Aside0.mk (aF sH.out nd)
             replace sG:=Aside0.mk (aF sG.out nd)
             replace HB:=Aside0.mk (aj HB.out nd)
             replace BM:=Aside0.mk (aF BM.out nd)
             clear hHeld
             generalize World.drewN AA nd = AB at sH sG HB BM hK ⊢
             refine hK.out _ _ ⟨(ak sG.out 0).trans rfl,(ak sG.out 1).trans rfl,(ak sG.out 2).trans rfl,(ak sG.out 3).trans rfl,(ak sG.out 4).trans rfl,(ak sG.out 5).trans rfl,(ak sG.out 6).trans rfl,BM.out⟩ (fun hHeld=>?_)
             clear hK K
             refine eB (a':=?_) ?_ ?_
             rotate_left
             ·show Act.put _ (some 81) _ = _
              simp only [Act.put,List.setIfInBounds_toArray,List.set_cons_zero,List.set_cons_succ,aV,aW]
              rfl
             refine bK (i:=20) (N:=some 82) (v:=?_) (a':=?_) #[true,true,true,true,true,true,true,true,true,true,true,true,true,true,true,true,true,true,true,true,true,false,false,false,false,false,false,false,false,false,false,false,false,true,true,false,false,false,false,false,false,false,false,false,false,false,false] rfl rfl (bf HT_.out (by kernel_rfl)) (fun _ _ _ h=>h) (Or.inl ⟨by rfl,?_⟩) ?_ ?_
             rotate_left
             ·intro w'
              go_simp
              with_reducible rfl
             rotate_left
             ·simp only [Act.put,List.setIfInBounds_toArray,List.set_cons_zero,List.set_cons_succ,aV,aW]
              rfl
             refine bK (i:=21) (N:=some 83) (v:=?_) (a':=?_) #[true,true,true,true,true,true,true,true,true,true,true,true,true,true,true,true,true,true,true,true,true,true,false,false,false,false,false,false,false,false,false,false,false,true,true,false,false,false,false,false,false,false,false,false,false,false,false] rfl rfl (bf HT_.out (by kernel_rfl)) (fun _ _ _ h=>h) (Or.inl ⟨by rfl,?_⟩) ?_ ?_
             rotate_left
             ·intro w'
              go_simp
              with_reducible rfl
             rotate_left
             ·simp only [Act.put,List.setIfInBounds_toArray,List.set_cons_zero,List.set_cons_succ,aV,aW]
              rfl
             refine eX (i:=22) (N:=some 84) (v:=?_) (a':=?_) #[true,true,true,true,true,true,true,true,true,true,true,true,true,true,true,true,true,true,true,true,true,true,true,false,false,false,false,false,false,false,false,false,false,true,true,false,false,false,false,false,false,false,false,false,false,false,false] rfl rfl (dD HT_.out HW_.out (by kernel_rfl)) (fun _ _ _ h=>h) (Or.inl ⟨by rfl,?_⟩) hHeld ?_ ?_
             rotate_left
             ·rintro w' ⟨s0,s1,s2,s3,s4,s5,s6,s7⟩
              go_simp
              with_reducible rfl
             rotate_left
             ·simp only [Act.put,List.setIfInBounds_toArray,List.set_cons_zero,List.set_cons_succ,aV,aW]
              rfl
             refine bK (i:=23) (N:=some 85) (v:=?_) (a':=?_) #[true,true,true,true,true,true,true,true,true,true,true,true,true,true,true,true,true,true,true,true,true,true,true,true,false,false,false,false,false,false,false,false,false,true,true,false,false,false,false,false,false,false,false,false,false,false,false] rfl rfl (bf HT_.out (by kernel_rfl)) (fun _ _ _ h=>h) (Or.inl ⟨by rfl,?_⟩) ?_ ?_
             rotate_left
             ·intro w'
              go_simp
              with_reducible rfl
             rotate_left
             ·simp only [Act.put,List.setIfInBounds_toArray,List.set_cons_zero,List.set_cons_succ,aV,aW]
              rfl
             refine fF (i:=24) (N:=some 86) #[true,true,true,true,true,true,true,true,true,true,true,true,true,true,true,true,true,true,true,true,true,true,true,true,true,false,false,false,false,false,false,false,false,true,true,false,false,false,false,false,false,false,false,false,false,false,false] rfl rfl (dF HT_.out (by kernel_rfl)) (by decide) (fun K hK=>?_)
             refine eU Tryd.func39 (by kernel_rfl) rfl #[.int .i64 (((ah sF sD).f3).length : Int)] (by rfl) rfl rfl (by (try simp only [List.map_toArray,List.map_cons,List.map_nil]);first|done|rfl|(simp only [List.length_drop,List.length_take];rfl)) ?_
             with_reducible refine (aX.calls (((ah sF sD).f3).length : Int) false _ yZ.out).mono ?_
             rintro e w' ⟨rfl,⟨nd,rfl⟩⟩
             refine ⟨_,rfl,?_⟩
             replace sH:=Aside0.mk (aF sH.out nd)
             replace sG:=Aside0.mk (aF sG.out nd)
             replace HB:=Aside0.mk (aj HB.out nd)
             replace BM:=Aside0.mk (aF BM.out nd)
             clear hHeld
             generalize World.drewN AB nd = AJ at sH sG HB BM hK ⊢
             refine hK.out _ _ ⟨(ak sG.out 0).trans rfl,(ak sG.out 1).trans rfl,(ak sG.out 2).trans rfl,(ak sG.out 3).trans rfl,(ak sG.out 4).trans rfl,(ak sG.out 5).trans rfl,(ak sG.out 6).trans rfl,BM.out⟩ (fun hHeld=>?_)
             clear hK K
             refine eB (a':=?_) ?_ ?_
             rotate_left
             ·show Act.put _ (some 86) _ = _
              simp only [Act.put,List.setIfInBounds_toArray,List.set_cons_zero,List.set_cons_succ,aV,aW]
              rfl
             refine bK (i:=25) (N:=some 87) (v:=?_) (a':=?_) #[true,true,true,true,true,true,true,true,true,true,true,true,true,true,true,true,true,true,true,true,true,true,true,true,true,true,false,false,false,false,false,false,false,true,true,false,false,false,false,false,false,false,false,false,false,false,false] rfl rfl (bf HT_.out (by kernel_rfl)) (fun _ _ _ h=>h) (Or.inl ⟨by rfl,?_⟩) ?_ ?_
             rotate_left
             ·intro w'
              go_simp
              with_reducible rfl
             rotate_left
             ·simp only [Act.put,List.setIfInBounds_toArray,List.set_cons_zero,List.set_cons_succ,aV,aW]
              rfl
             refine bK (i:=26) (N:=some 88) (v:=?_) (a':=?_) #[true,true,true,true,true,true,true,true,true,true,true,true,true,true,true,true,true,true,true,true,true,true,true,true,true,true,true,false,false,false,false,false,false,true,true,false,false,false,false,false,false,false,false,false,false,false,false] rfl rfl (bf HT_.out (by kernel_rfl)) (fun _ _ _ h=>h) (Or.inl ⟨by rfl,?_⟩) ?_ ?_
             rotate_left
             ·intro w'
              go_simp
              with_reducible rfl
             rotate_left
             ·simp only [Act.put,List.setIfInBounds_toArray,List.set_cons_zero,List.set_cons_succ,aV,aW]
              rfl
             refine bK (i:=27) (N:=some 89) (v:=?_) (a':=?_) #[true,true,true,true,true,true,true,true,true,true,true,true,true,true,true,true,true,true,true,true,true,true,true,true,true,true,true,true,false,false,false,false,false,true,true,false,false,false,false,false,false,false,false,false,false,false,false] rfl rfl (bf HT_.out (by kernel_rfl)) (fun _ _ _ h=>h) (Or.inl ⟨by rfl,?_⟩) ?_ ?_
             rotate_left
             ·intro w'
              go_simp
              with_reducible rfl
             rotate_left
             ·simp only [Act.put,List.setIfInBounds_toArray,List.set_cons_zero,List.set_cons_succ,aV,aW]
              rfl
             refine eX (i:=28) (N:=some 90) (v:=?_) (a':=?_) #[true,true,true,true,true,true,true,true,true,true,true,true,true,true,true,true,true,true,true,true,true,true,true,true,true,true,true,true,true,false,false,false,false,true,true,false,false,false,false,false,false,false,false,false,false,false,false] rfl rfl (dD HT_.out HW_.out (by kernel_rfl)) (fun _ _ _ h=>h) (Or.inl ⟨by rfl,?_⟩) hHeld ?_ ?_
             rotate_left
             ·rintro w' ⟨s0,s1,s2,s3,s4,s5,s6,s7⟩
              go_simp
              with_reducible rfl
             rotate_left
             ·simp only [Act.put,List.setIfInBounds_toArray,List.set_cons_zero,List.set_cons_succ,aV,aW]
              rfl
             refine bK (i:=29) (N:=some 91) (v:=?_) (a':=?_) #[true,true,true,true,true,true,true,true,true,true,true,true,true,true,true,true,true,true,true,true,true,true,true,true,true,true,true,true,true,true,false,false,false,true,true,false,false,false,false,false,false,false,false,false,false,false,false] rfl rfl (bf HT_.out (by kernel_rfl)) (fun _ _ _ h=>h) (Or.inl ⟨by rfl,?_⟩) ?_ ?_
             rotate_left
             ·intro w'
              go_simp
              with_reducible rfl
             rotate_left
             ·simp only [Act.put,List.setIfInBounds_toArray,List.set_cons_zero,List.set_cons_succ,aV,aW]
              rfl
             refine fF (i:=30) (N:=some 92) #[true,true,true,true,true,true,true,true,true,true,true,true,true,true,true,true,true,true,true,true,true,true,true,true,true,true,true,true,true,true,true,false,false,true,true,false,false,false,false,false,false,false,false,false,false,false,false] rfl rfl (dF HT_.out (by kernel_rfl)) (by decide) (fun K hK=>?_)
             refine eU Tryd.func39 (by kernel_rfl) rfl #[.int .i64 (((ah sF sD).f6).length : Int)] (by rfl) rfl rfl (by (try simp only [List.map_toArray,List.map_cons,List.map_nil]);first|done|rfl|(simp only [List.length_drop,List.length_take];rfl)) ?_
             with_reducible refine (aX.calls (((ah sF sD).f6).length : Int) tY _ Am.out).mono ?_
             rintro e w' ⟨rfl,⟨nd,rfl⟩⟩
             refine ⟨_,rfl,?_⟩
             replace sH:=Aside0.mk (aF sH.out nd)
             replace sG:=Aside0.mk (aF sG.out nd)
             replace HB:=Aside0.mk (aj HB.out nd)
             replace BM:=Aside0.mk (aF BM.out nd)
             clear hHeld
             generalize World.drewN AJ nd = AL at sH sG HB BM hK ⊢
             refine hK.out _ _ ⟨(ak sG.out 0).trans rfl,(ak sG.out 1).trans rfl,(ak sG.out 2).trans rfl,(ak sG.out 3).trans rfl,(ak sG.out 4).trans rfl,(ak sG.out 5).trans rfl,(ak sG.out 6).trans rfl,BM.out⟩ (fun hHeld=>?_)
             clear hK K
             refine eB (a':=?_) ?_ ?_
             rotate_left
             ·show Act.put _ (some 92) _ = _
              simp only [Act.put,List.setIfInBounds_toArray,List.set_cons_zero,List.set_cons_succ,aV,aW]
              rfl
             refine bK (i:=31) (N:=some 93) (v:=?_) (a':=?_) #[true,true,true,true,true,true,true,true,true,true,true,true,true,true,true,true,true,true,true,true,true,true,true,true,true,true,true,true,true,true,true,true,false,true,true,false,false,false,false,false,false,false,false,false,false,false,false] rfl rfl (bf HT_.out (by kernel_rfl)) (fun _ _ _ h=>h) (Or.inl ⟨by rfl,?_⟩) ?_ ?_
             rotate_left
             ·intro w'
              go_simp
              with_reducible rfl
             rotate_left
             ·simp only [Act.put,List.setIfInBounds_toArray,List.set_cons_zero,List.set_cons_succ,aV,aW]
              rfl
             refine fF (i:=32) (N:=some 94) #[true,true,true,true,true,true,true,true,true,true,true,true,true,true,true,true,true,true,true,true,true,true,true,true,true,true,true,true,true,true,true,true,true,true,true,false,false,false,false,false,false,false,false,false,false,false,false] rfl rfl (dF HT_.out (by kernel_rfl)) (by decide) (fun K hK=>?_)
             refine eU Tryd.func35 (by kernel_rfl) rfl #[.bool tY,.int .i64 18] (by rfl) rfl rfl (by (try simp only [List.map_toArray,List.map_cons,List.map_nil]);first|done|rfl|(simp only [List.length_drop,List.length_take];rfl)) ?_
             with_reducible refine (aB.calls tY 18 t203 _ Ao.out).mono ?_
             rintro e w' ⟨rfl,⟨nd,rfl⟩⟩
             refine ⟨_,rfl,?_⟩
             replace sH:=Aside0.mk (aF sH.out nd)
             replace sG:=Aside0.mk (aF sG.out nd)
             replace HB:=Aside0.mk (aj HB.out nd)
             replace BM:=Aside0.mk (aF BM.out nd)
             clear hHeld
             generalize World.drewN AL nd = AO at sH sG HB BM hK ⊢
             refine hK.out _ _ ⟨(ak sG.out 0).trans rfl,(ak sG.out 1).trans rfl,(ak sG.out 2).trans rfl,(ak sG.out 3).trans rfl,(ak sG.out 4).trans rfl,(ak sG.out 5).trans rfl,(ak sG.out 6).trans rfl,BM.out⟩ (fun hHeld=>?_)
             clear hK K
             refine eB (a':=?_) ?_ ?_
             rotate_left
             ·show Act.put _ (some 94) _ = _
              simp only [Act.put,List.setIfInBounds_toArray,List.set_cons_zero,List.set_cons_succ,aV,aW]
              rfl
             refine fF (i:=35) (N:=some 97) #[true,true,true,true,true,true,true,true,true,true,true,true,true,true,true,true,true,true,true,true,true,true,true,true,true,true,true,true,true,true,true,true,true,true,true,true,false,false,false,false,false,false,false,false,false,false,false] rfl rfl (dF HT_.out (by kernel_rfl)) (by decide) (fun K hK=>?_)
             refine eU Tryd.func38 (by kernel_rfl) rfl #[.int .i64 ((ah sF sD).f4),.int .i64 64000] (by rfl) rfl rfl (by (try simp only [List.map_toArray,List.map_cons,List.map_nil]);first|done|rfl|(simp only [List.length_drop,List.length_take];rfl)) ?_
             with_reducible refine (aS.calls ((ah sF sD).f4) 64000 true _ za.out).mono ?_
             rintro e w' ⟨rfl,⟨nd,rfl⟩⟩
             refine ⟨_,rfl,?_⟩
             replace sH:=Aside0.mk (aF sH.out nd)
             replace sG:=Aside0.mk (aF sG.out nd)
             replace HB:=Aside0.mk (aj HB.out nd)
             replace BM:=Aside0.mk (aF BM.out nd)
             clear hHeld
             generalize World.drewN AO nd = AP at sH sG HB BM hK ⊢
             refine hK.out _ _ ⟨(ak sG.out 0).trans rfl,(ak sG.out 1).trans rfl,(ak sG.out 2).trans rfl,(ak sG.out 3).trans rfl,(ak sG.out 4).trans rfl,(ak sG.out 5).trans rfl,(ak sG.out 6).trans rfl,BM.out⟩ (fun hHeld=>?_)
             clear hK K
             refine eB (a':=?_) ?_ ?_
             rotate_left
             ·show Act.put _ (some 97) _ = _
              simp only [Act.put,List.setIfInBounds_toArray,List.set_cons_zero,List.set_cons_succ,aV,aW]
              rfl
             refine bK (i:=36) (N:=some 98) (v:=?_) (a':=?_) #[true,true,true,true,true,true,true,true,true,true,true,true,true,true,true,true,true,true,true,true,true,true,true,true,true,true,true,true,true,true,true,true,true,true,true,true,true,false,false,false,false,false,false,false,false,false,false] rfl rfl (bf HT_.out (by kernel_rfl)) (fun _ _ _ h=>h) (Or.inl ⟨by rfl,?_⟩) ?_ ?_
             rotate_left
             ·intro w'
              go_simp
              with_reducible rfl
             rotate_left
             ·simp only [Act.put,List.setIfInBounds_toArray,List.set_cons_zero,List.set_cons_succ,aV,aW]
              rfl
             refine bK (i:=37) (N:=some 99) (v:=?_) (a':=?_) #[true,true,true,true,true,true,true,true,true,true,true,true,true,true,true,true,true,true,true,true,true,true,true,true,true,true,true,true,true,true,true,true,true,true,true,true,true,true,false,false,false,false,false,false,false,false,false] rfl rfl (bf HT_.out (by kernel_rfl)) (fun _ _ _ h=>h) (Or.inl ⟨by rfl,?_⟩) ?_ ?_
             rotate_left
             ·intro w'
              go_simp
              with_reducible rfl
             rotate_left
             ·simp only [Act.put,List.setIfInBounds_toArray,List.set_cons_zero,List.set_cons_succ,aV,aW]
              rfl
             refine bK (i:=38) (N:=some 100) (v:=?_) (a':=?_) #[true,true,true,true,true,true,true,true,true,true,true,true,true,true,true,true,true,true,true,true,true,true,true,true,true,true,true,true,true,true,true,true,true,true,true,true,true,true,true,false,false,false,false,false,false,false,false] rfl rfl (bf HT_.out (by kernel_rfl)) (fun _ _ _ h=>h) (Or.inl ⟨by rfl,?_⟩) ?_ ?_
             rotate_left
             ·intro w'
              go_simp
              with_reducible rfl
             rotate_left
             ·simp only [Act.put,List.setIfInBounds_toArray,List.set_cons_zero,List.set_cons_succ,aV,aW]
              rfl
             refine eX (i:=39) (N:=some 101) (v:=?_) (a':=?_) #[true,true,true,true,true,true,true,true,true,true,true,true,true,true,true,true,true,true,true,true,true,true,true,true,true,true,true,true,true,true,true,true,true,true,true,true,true,true,true,true,false,false,false,false,false,false,false] rfl rfl (dD HT_.out HW_.out (by kernel_rfl)) (fun _ _ _ h=>h) (Or.inl ⟨by rfl,?_⟩) hHeld ?_ ?_
             rotate_left
             ·rintro w' ⟨s0,s1,s2,s3,s4,s5,s6,s7⟩
              go_simp
              with_reducible rfl
             rotate_left
             ·simp only [Act.put,List.setIfInBounds_toArray,List.set_cons_zero,List.set_cons_succ,aV,aW]
              rfl
             refine fF (i:=40) (N:=some 102) #[true,true,true,true,true,true,true,true,true,true,true,true,true,true,true,true,true,true,true,true,true,true,true,true,true,true,true,true,true,true,true,true,true,true,true,true,true,true,true,true,true,false,false,false,false,false,false] rfl rfl (dF HT_.out (by kernel_rfl)) (by decide) (fun K hK=>?_)
             refine eU Tryd.func38 (by kernel_rfl) rfl #[.int .i64 ((ah sF sD).f5),.int .i64 1048576] (by rfl) rfl rfl (by (try simp only [List.map_toArray,List.map_cons,List.map_nil]);first|done|rfl|(simp only [List.length_drop,List.length_take];rfl)) ?_
             with_reducible refine (aS.calls ((ah sF sD).f5) 1048576 tu _ Ap.out).mono ?_
             rintro e w' ⟨rfl,⟨nd,rfl⟩⟩
             refine ⟨_,rfl,?_⟩
             replace sH:=Aside0.mk (aF sH.out nd)
             replace sG:=Aside0.mk (aF sG.out nd)
             replace HB:=Aside0.mk (aj HB.out nd)
             replace BM:=Aside0.mk (aF BM.out nd)
             clear hHeld
             generalize World.drewN AP nd = AQ at sH sG HB BM hK ⊢
             refine hK.out _ _ ⟨(ak sG.out 0).trans rfl,(ak sG.out 1).trans rfl,(ak sG.out 2).trans rfl,(ak sG.out 3).trans rfl,(ak sG.out 4).trans rfl,(ak sG.out 5).trans rfl,(ak sG.out 6).trans rfl,BM.out⟩ (fun hHeld=>?_)
             clear hK K
             refine eB (a':=?_) ?_ ?_
             rotate_left
             ·show Act.put _ (some 102) _ = _
              simp only [Act.put,List.setIfInBounds_toArray,List.set_cons_zero,List.set_cons_succ,aV,aW]
              rfl
             refine bK (i:=41) (N:=some 103) (v:=?_) (a':=?_) #[true,true,true,true,true,true,true,true,true,true,true,true,true,true,true,true,true,true,true,true,true,true,true,true,true,true,true,true,true,true,true,true,true,true,true,true,true,true,true,true,true,true,false,false,false,false,false] rfl rfl (bf HT_.out (by kernel_rfl)) (fun _ _ _ h=>h) (Or.inl ⟨by rfl,?_⟩) ?_ ?_
             rotate_left
             ·intro w'
              go_simp
              with_reducible rfl
             rotate_left
             ·simp only [Act.put,List.setIfInBounds_toArray,List.set_cons_zero,List.set_cons_succ,aV,aW]
              rfl
             refine bK (i:=42) (N:=some 104) (v:=?_) (a':=?_) #[true,true,true,true,true,true,true,true,true,true,true,true,true,true,true,true,true,true,true,true,true,true,true,true,true,true,true,true,true,true,true,true,true,true,true,true,true,true,true,true,true,true,true,false,false,false,false] rfl rfl (bf HT_.out (by kernel_rfl)) (fun _ _ _ h=>h) (Or.inl ⟨by rfl,?_⟩) ?_ ?_
             rotate_left
             ·intro w'
              go_simp
              with_reducible rfl
             rotate_left
             ·simp only [Act.put,List.setIfInBounds_toArray,List.set_cons_zero,List.set_cons_succ,aV,aW]
              rfl
             refine fF (i:=43) (N:=some 105) #[true,true,true,true,true,true,true,true,true,true,true,true,true,true,true,true,true,true,true,true,true,true,true,true,true,true,true,true,true,true,true,true,true,true,true,true,true,true,true,true,true,true,true,true,false,false,false] rfl rfl (dF HT_.out (by kernel_rfl)) (by decide) (fun K hK=>?_)
             refine eU Tryd.func35 (by kernel_rfl) rfl #[.bool (!tu),.int .i64 7] (by rfl) rfl rfl (by (try simp only [List.map_toArray,List.map_cons,List.map_nil]);first|done|rfl|(simp only [List.length_drop,List.length_take];rfl)) ?_
             with_reducible refine (aB.calls (!tu) 7 t206 _ Aq.out).mono ?_
             rintro e w' ⟨rfl,⟨nd,rfl⟩⟩
             refine ⟨_,rfl,?_⟩
             replace sH:=Aside0.mk (aF sH.out nd)
             replace sG:=Aside0.mk (aF sG.out nd)
             replace HB:=Aside0.mk (aj HB.out nd)
             replace BM:=Aside0.mk (aF BM.out nd)
             clear hHeld
             generalize World.drewN AQ nd = BQ at sH sG HB BM hK ⊢
             refine hK.out _ _ ⟨(ak sG.out 0).trans rfl,(ak sG.out 1).trans rfl,(ak sG.out 2).trans rfl,(ak sG.out 3).trans rfl,(ak sG.out 4).trans rfl,(ak sG.out 5).trans rfl,(ak sG.out 6).trans rfl,BM.out⟩ (fun hHeld=>?_)
             clear hK K
             refine eB (a':=?_) ?_ ?_
             rotate_left
             ·show Act.put _ (some 105) _ = _
              simp only [Act.put,List.setIfInBounds_toArray,List.set_cons_zero,List.set_cons_succ,aV,aW]
              rfl
             refine fF (i:=44) (N:=some 106) #[true,true,true,true,true,true,true,true,true,true,true,true,true,true,true,true,true,true,true,true,true,true,true,true,true,true,true,true,true,true,true,true,true,true,true,true,true,true,true,true,true,true,true,true,true,false,false] rfl rfl (dF HT_.out (by kernel_rfl)) (by decide) (fun K hK=>?_)
             refine Kd.jC (Kd.int .i64) _ 32 ?hg (N:=106) ?hd (xs:=([sK,t171,t173,t203,t206] : List Int)) (inner:=[.int .i64 sK,.int .i64 t171,.int .i64 t173,.int .i64 t203,.int .i64 t206]) (ok:=fun _=>True) (okp:=fun _=>True) ?hr ?hp (fun _ hk=>hk) trivial (Below.refl _ _) (Nat.le_refl _) (by simp) ?_;(case hd=>rfl);(case hg=>rfl);(case hr=>first|(go_simp;done)|(go_simp;rfl));(case hp=>exact (dh.one (show Kd.M (Kd.int .i64) _ _ _ sK [.int .i64 sK] from rfl) (dh.one (show Kd.M (Kd.int .i64) _ _ _ t171 [.int .i64 t171] from rfl) (dh.one (show Kd.M (Kd.int .i64) _ _ _ t173 [.int .i64 t173] from rfl) (dh.one (show Kd.M (Kd.int .i64) _ _ _ t203 [.int .i64 t203] from rfl) (dh.one (show Kd.M (Kd.int .i64) _ _ _ t206 [.int .i64 t206] from rfl) (dh.none _ _)))))))
             intro v208 BR vE hb hg_ hnew_
             clear hg_ hnew_
             (first|rw [← yh.out] at vE|(simp only [Int.reduceToNat] at vE;rw [← yh.out] at vE))
             have uy:=Aside0.mk (Kd.fG vE (aU (by repeat (first|(with_reducible first|exact HB.out|apply ay|apply aj|apply av|refine aO ?_ tK.out|refine aO ?_ uE.out)|exact HB.out))))
             have uz:=Aside0.mk (bH (g:=sQ) (o:=.cells #[.string sO,.string sM,.int .i64 sJ,.int .i64 sN,.bool sP,.slice (some uL) sF.length uh] 25 (0,0)) (bk_ sH.out) hb)
             replace BM:=Aside0.mk (bH (g:=mb) (o:=om) (bk_ BM.out) hb)
             have uJ:=Aside0.mk (bH (g:=sI) (o:=.cells #[.string ((ah sF sD).f0),.string ((ah sF sD).f1),.slice sS ((ah sF sD).f2).length sU,.slice sW ((ah sF sD).f3).length sZ,.int .i64 ((ah sF sD).f4),.int .i64 ((ah sF sD).f5),.slice tF ((ah sF sD).f6).length tH] 43 (0,0)) (bk_ sG.out) hb)
             have vV:=Aside0.mk (aH (by repeat (first|(with_reducible first|exact HB.out|apply ay|apply aj|apply av|refine aO ?_ tK.out|refine aO ?_ uE.out)|exact HB.out)) hb)
             clear sH
             clear sG
             clear HB
             have wG:=uy
             have sH:=uz
             have sG:=uJ
             have HB:=vV
             clear uy uz uJ vV
             clear hb vE
             obtain ⟨ze,zh,yt⟩:=Kd.gq wG.out
             (first|subst yt|(injection yt with yO Ag yP;have Ah:=yO.symm;have Ai:=yP.symm;clear yO Ag yP;subst Ah;subst Ai))
             refine hK.out _ _ ⟨(ak sG.out 0).trans rfl,(ak sG.out 1).trans rfl,(ak sG.out 2).trans rfl,(ak sG.out 3).trans rfl,(ak sG.out 4).trans rfl,(ak sG.out 5).trans rfl,(ak sG.out 6).trans rfl,BM.out⟩ (fun hHeld=>?_)
             clear hK K
             refine eB (a':=?_) ?_ ?_
             rotate_left
             ·show Act.put _ (some 106) _ = _
              simp only [Act.put,List.setIfInBounds_toArray,List.set_cons_zero,List.set_cons_succ,aV,aW]
              rfl
             refine fF (i:=45) (N:=some 107) #[true,true,true,true,true,true,true,true,true,true,true,true,true,true,true,true,true,true,true,true,true,true,true,true,true,true,true,true,true,true,true,true,true,true,true,true,true,true,true,true,true,true,true,true,true,true,false] rfl rfl (dF HT_.out (by kernel_rfl)) (by decide) (fun K hK=>?_)
             refine eU Tryd.func34 (by kernel_rfl) rfl #[.slice ze yE.length zh] (by rfl) rfl rfl (by (try simp only [List.map_toArray,List.map_cons,List.map_nil]);first|done|rfl|(simp only [List.length_drop,List.length_take];rfl)) ?_
             with_reducible refine (aD.calls k2 _ _ yE t210 _ ?uU ?uV Ar.out).mono ?_
             (case uU=>repeat (first|exact (Kd.dX wG.out).2.2|(with_reducible refine Kd.bP ?_ _)|(with_reducible refine Kd.bQ ?_ _)|(with_reducible refine Kd.cB ?_)))
             (case uV=>exact (Kd.dX wG.out).2.1)
             rintro e w' ⟨rfl,⟨nd,rfl⟩⟩
             refine ⟨_,rfl,?_⟩
             refine hK.out _ _ ⟨(ak sG.out 0).trans rfl,(ak sG.out 1).trans rfl,(ak sG.out 2).trans rfl,(ak sG.out 3).trans rfl,(ak sG.out 4).trans rfl,(ak sG.out 5).trans rfl,(ak sG.out 6).trans rfl,BM.out⟩ (fun hHeld=>?_)
             clear hK K
             refine eB (a':=?_) ?_ ?_
             rotate_left
             ·show Act.put _ (some 107) _ = _
              simp only [Act.put,List.setIfInBounds_toArray,List.set_cons_zero,List.set_cons_succ,aV,aW]
              rfl
             refine bK (i:=46) (N:=some 7) (v:=?_) (a':=?_) #[true,true,true,true,true,true,true,true,true,true,true,true,true,true,true,true,true,true,true,true,true,true,true,true,true,true,true,true,true,true,true,true,true,true,true,true,true,true,true,true,true,true,true,true,true,true,true] rfl rfl (bf HT_.out (by kernel_rfl)) (fun _ _ _ h=>h) (Or.inl ⟨by rfl,?_⟩) ?_ ?_
             rotate_left
             ·intro w'
              go_simp
              with_reducible rfl
             rotate_left
             ·simp only [Act.put,List.setIfInBounds_toArray,List.set_cons_zero,List.set_cons_succ,aV,aW]
              rfl
             refine kU (iR HT_.out (by kernel_rfl)) ?_
             try go_wp2
             go_meet
             case rel=>exact ⟨_,(t210),(by first|rfl|(simp;done)|(simp [*];done)),H',⟨by have:=Aj.out;have:=Ak.out;first|omega|exact Nat.le_refl _⟩,⟨by (with_reducible repeat (first|apply aF|apply aN|apply aI));exact sH.out⟩,⟨by (with_reducible repeat (first|apply aF|apply aN|apply aI));exact sG.out⟩,⟨by repeat (first|(with_reducible first|exact HB.out|apply ay|apply aj|apply av|refine aO ?_ tK.out|refine aO ?_ uE.out)|exact HB.out)⟩⟩
            ·exact absurd (Option.some.inj (za.out.symm.trans (by rw [HX0.out]; exact HFr.out HLb.out))) yD
         case rest =>
          clear yA
          try clear c1
          try clear p2
          try clear c3
          try clear c4
          try clear c13
          try clear c16
          try clear c34
          try clear Bj
          try clear c37
          try clear Bl
          try clear Bn
          try clear c40
          try clear yD
          obtain ⟨kq,uM,rfl,HA,zi,sH,sG,HB⟩:=hcut
          cases kq with
          | zero=>exact absurd HA.out (by simp [au.j2])
          | succ zk =>
           have H:=HA.out
           clear HA
           simp only [au.j2] at H
           by_cases c148 : uM = 0
           ·rw [if_pos c148] at H
            have c148b0 : (uM == 0) = true:=beq_iff_eq.mpr c148
            have c148b1 : (uM != 0) = false:=bne_eq_false_iff_eq.mpr c148
            clear c148
            replace H:=Option.bind_eq_some_iff.mp H
            obtain ⟨uO,yu,H⟩:=H
            replace H : (if uO = 0 then (au.l0 zk sF (sF.length : Int) (wrap64 (sD + 1))) else (some uO)) = some r:=H
            have zl:=Aside0.mk yu
            clear yu
            by_cases vF : uO = 0
            ·rw [if_pos vF] at H
             have c150b0 : (uO == 0) = true:=beq_iff_eq.mpr vF
             have c150b1 : (uO != 0) = false:=bne_eq_false_iff_eq.mpr vF
             clear vF
             have H':=Aside0.mk H
             clear H
             have AU:=uK.out
             have AV:=sV.out
             have zm : wc.cell? ⟨sI,0,none⟩ = some (.string ((ah sF sD).f0)):=(ak sG.out 0).trans rfl
             have zn : wc.cell? ⟨sI,1,none⟩ = some (.string ((ah sF sD).f1)):=(ak sG.out 1).trans rfl
             have zo : wc.cell? ⟨sI,2,none⟩ = some (.slice sS ((ah sF sD).f2).length sU):=(ak sG.out 2).trans rfl
             have zq : wc.cell? ⟨sI,3,none⟩ = some (.slice sW ((ah sF sD).f3).length sZ):=(ak sG.out 3).trans rfl
             have zu : wc.cell? ⟨sI,4,none⟩ = some (.int .i64 ((ah sF sD).f4)):=(ak sG.out 4).trans rfl
             have zw : wc.cell? ⟨sI,5,none⟩ = some (.int .i64 ((ah sF sD).f5)):=(ak sG.out 5).trans rfl
             have zx : wc.cell? ⟨sI,6,none⟩ = some (.slice tF ((ah sF sD).f6).length tH):=(ak sG.out 6).trans rfl
             have zy:=aA sG.out 0
             have zA:=aA sG.out 1
             have zB:=aA sG.out 2
             have zC:=aA sG.out 3
             have zD:=aA sG.out 4
             have zF:=aA sG.out 5
             have zG:=aA sG.out 6
             go_wp2_with (first|((with_reducible refine aM (f:=41) rfl ?_);refine bE (some 111) rfl rfl Tryd.func41 (by kernel_rfl) rfl #[.agg #[.string ((ah sF sD).f0),.string ((ah sF sD).f1),.slice sS ((ah sF sD).f2).length sU,.slice sW ((ah sF sD).f3).length sZ,.int .i64 ((ah sF sD).f4),.int .i64 ((ah sF sD).f5),.slice tF ((ah sF sD).f6).length tH]] rfl (by (try simp only [List.map_toArray,List.map_cons,List.map_nil]);first|done|rfl|(simp only [List.length_drop,List.length_take];rfl)|(simp (disch:=first|omega|(simp at *;omega)) only [bF,bg,bU];rfl)) ?_;(with_reducible refine (dK.calls ((ah sF sD).f0) ((ah sF sD).f1) _ _ ((ah sF sD).f2) _ _ ((ah sF sD).f3) ((ah sF sD).f4) ((ah sF sD).f5) _ _ ((ah sF sD).f6) uO _ ?uU ?uV ?wH ?wI ?wJ ?wK zl.out).mono ?_);(case uU=>repeat (first|exact (Kd.dM vN.out HB.out)|(with_reducible refine Kd.bP ?_ _)|(with_reducible refine Kd.bQ ?_ _)|(with_reducible refine Kd.cB ?_)));(case uV=>exact vO.out);(case wH=>repeat (first|exact (Kd.dM vP.out HB.out)|(with_reducible refine Kd.bP ?_ _)|(with_reducible refine Kd.bQ ?_ _)|(with_reducible refine Kd.cB ?_)));(case wI=>exact vQ.out);(case wJ=>repeat (first|exact (Kd.dM vR.out HB.out)|(with_reducible refine Kd.bP ?_ _)|(with_reducible refine Kd.bQ ?_ _)|(with_reducible refine Kd.cB ?_)));(case wK=>exact vS.out);rintro e BS ⟨rfl,hb⟩;refine ⟨_,rfl,?_⟩;have uy:=Aside0.mk (bH (g:=sQ) (o:=.cells #[.string sO,.string sM,.int .i64 sJ,.int .i64 sN,.bool sP,.slice (some uL) sF.length uh] 25 (0,0)) (bk_ sH.out) hb);have uz:=Aside0.mk (bH (g:=sI) (o:=.cells #[.string ((ah sF sD).f0),.string ((ah sF sD).f1),.slice sS ((ah sF sD).f2).length sU,.slice sW ((ah sF sD).f3).length sZ,.int .i64 ((ah sF sD).f4),.int .i64 ((ah sF sD).f5),.slice tF ((ah sF sD).f6).length tH] 43 (0,0)) (bk_ sG.out) hb);have uJ:=Aside0.mk (aH (by repeat (first|(with_reducible first|exact HB.out|apply ay|apply aj|apply av|refine aO ?_ tK.out|refine aO ?_ uE.out)|exact HB.out)) hb);clear sH;clear sG;clear HB;have sH:=uy;have sG:=uz;have HB:=uJ;clear uy uz uJ;(try clear hb);(try clear hb2);(try clear hk);(try clear hi)))
             go_roundg zk
             case measure=>have:=Aj.out;have:=Ak.out;have:=zi.out;omega
             case rel=>exact ⟨(wrap64 (sD + 1)),(by first|rfl|(simp;done)|(simp [*];done)),H',⟨by have:=Aj.out;have:=Ak.out;have:=zi.out;omega⟩,⟨by rw [HX0.out, w01]; decide⟩,⟨fun h => absurd h (by rw [HX0.out, w01]; decide)⟩,⟨by (with_reducible repeat (first|apply aF|apply aN|apply aI));exact sH.out⟩,⟨by repeat (first|(with_reducible first|exact HB.out|apply ay|apply aj|apply av|refine aO ?_ tK.out|refine aO ?_ uE.out)|exact HB.out)⟩⟩
            ·rw [if_neg vF] at H
             have c150b0 : (uO == 0) = false:=beq_eq_false_iff_ne.mpr vF
             have c150b1 : (uO != 0) = true:=bne_iff_ne.mpr vF
             obtain rfl:=Option.some.inj H
             have AX:=uK.out
             have AY:=sV.out
             have zH : wc.cell? ⟨sI,0,none⟩ = some (.string ((ah sF sD).f0)):=(ak sG.out 0).trans rfl
             have zI : wc.cell? ⟨sI,1,none⟩ = some (.string ((ah sF sD).f1)):=(ak sG.out 1).trans rfl
             have zJ : wc.cell? ⟨sI,2,none⟩ = some (.slice sS ((ah sF sD).f2).length sU):=(ak sG.out 2).trans rfl
             have zK : wc.cell? ⟨sI,3,none⟩ = some (.slice sW ((ah sF sD).f3).length sZ):=(ak sG.out 3).trans rfl
             have zL : wc.cell? ⟨sI,4,none⟩ = some (.int .i64 ((ah sF sD).f4)):=(ak sG.out 4).trans rfl
             have zM : wc.cell? ⟨sI,5,none⟩ = some (.int .i64 ((ah sF sD).f5)):=(ak sG.out 5).trans rfl
             have zN : wc.cell? ⟨sI,6,none⟩ = some (.slice tF ((ah sF sD).f6).length tH):=(ak sG.out 6).trans rfl
             have zO:=aA sG.out 0
             have zP:=aA sG.out 1
             have zQ:=aA sG.out 2
             have zR:=aA sG.out 3
             have zS:=aA sG.out 4
             have zT:=aA sG.out 5
             have zU:=aA sG.out 6
             go_wp2_with (first|((with_reducible refine aM (f:=41) rfl ?_);refine bE (some 111) rfl rfl Tryd.func41 (by kernel_rfl) rfl #[.agg #[.string ((ah sF sD).f0),.string ((ah sF sD).f1),.slice sS ((ah sF sD).f2).length sU,.slice sW ((ah sF sD).f3).length sZ,.int .i64 ((ah sF sD).f4),.int .i64 ((ah sF sD).f5),.slice tF ((ah sF sD).f6).length tH]] rfl (by (try simp only [List.map_toArray,List.map_cons,List.map_nil]);first|done|rfl|(simp only [List.length_drop,List.length_take];rfl)|(simp (disch:=first|omega|(simp at *;omega)) only [bF,bg,bU];rfl)) ?_;(with_reducible refine (dK.calls ((ah sF sD).f0) ((ah sF sD).f1) _ _ ((ah sF sD).f2) _ _ ((ah sF sD).f3) ((ah sF sD).f4) ((ah sF sD).f5) _ _ ((ah sF sD).f6) uO _ ?uU ?uV ?wH ?wI ?wJ ?wK zl.out).mono ?_);(case uU=>repeat (first|exact (Kd.dM vN.out HB.out)|(with_reducible refine Kd.bP ?_ _)|(with_reducible refine Kd.bQ ?_ _)|(with_reducible refine Kd.cB ?_)));(case uV=>exact vO.out);(case wH=>repeat (first|exact (Kd.dM vP.out HB.out)|(with_reducible refine Kd.bP ?_ _)|(with_reducible refine Kd.bQ ?_ _)|(with_reducible refine Kd.cB ?_)));(case wI=>exact vQ.out);(case wJ=>repeat (first|exact (Kd.dM vR.out HB.out)|(with_reducible refine Kd.bP ?_ _)|(with_reducible refine Kd.bQ ?_ _)|(with_reducible refine Kd.cB ?_)));(case wK=>exact vS.out);rintro e BU ⟨rfl,hb⟩;refine ⟨_,rfl,?_⟩;have uy:=Aside0.mk (bH (g:=sQ) (o:=.cells #[.string sO,.string sM,.int .i64 sJ,.int .i64 sN,.bool sP,.slice (some uL) sF.length uh] 25 (0,0)) (bk_ sH.out) hb);have uz:=Aside0.mk (bH (g:=sI) (o:=.cells #[.string ((ah sF sD).f0),.string ((ah sF sD).f1),.slice sS ((ah sF sD).f2).length sU,.slice sW ((ah sF sD).f3).length sZ,.int .i64 ((ah sF sD).f4),.int .i64 ((ah sF sD).f5),.slice tF ((ah sF sD).f6).length tH] 43 (0,0)) (bk_ sG.out) hb);have uJ:=Aside0.mk (aH (by repeat (first|(with_reducible first|exact HB.out|apply ay|apply aj|apply av|refine aO ?_ tK.out|refine aO ?_ uE.out)|exact HB.out)) hb);clear sH;clear sG;clear HB;have sH:=uy;have sG:=uz;have HB:=uJ;clear uy uz uJ;(try clear hb);(try clear hb2);(try clear hk);(try clear hi)))
             go_ret
             exact ⟨by first|rfl|(simp [aP,aQ] <;> rfl)|(simp [*,aP,aQ] <;> rfl),by repeat (first|(with_reducible first|exact HB.out|apply ay|apply aj|apply av|refine aO ?_ tK.out|refine aO ?_ uE.out)|exact HB.out)⟩
           ·rw [if_neg c148] at H
            have c148b0 : (uM == 0) = false:=beq_eq_false_iff_ne.mpr c148
            have c148b1 : (uM != 0) = true:=bne_iff_ne.mpr c148
            obtain rfl:=Option.some.inj H
            go_wp2
            go_ret
            exact ⟨by first|rfl|(simp [aP,aQ] <;> rfl)|(simp [*,aP,aQ] <;> rfl),by repeat (first|(with_reducible first|exact HB.out|apply ay|apply aj|apply av|refine aO ?_ tK.out|refine aO ?_ uE.out)|exact HB.out)⟩
        ·rw [if_neg Aa] at H
         exact absurd H (by simp)
       ·rw [if_neg z8] at H
        exact absurd H (by simp)
      ·rw [if_neg yF] at H
       have c77b0 : decide (sD < (sF.length : Int)) = false:=decide_eq_false yF
       clear yF
       obtain rfl:=Option.some.inj H
       go_wp2
       go_ret
       exact ⟨by first|rfl|(simp [aP,aQ] <;> rfl)|(simp [*,aP,aQ] <;> rfl),by repeat (first|(with_reducible first|exact HB.out|apply ay|apply aj|apply av|refine aO ?_ tK.out)|exact HB.out)⟩
   ·rw [if_neg c75] at H
    have c75b0 : (uX == 0) = false:=beq_eq_false_iff_ne.mpr c75
    have c75b1 : (uX != 0) = true:=bne_iff_ne.mpr c75
    obtain rfl:=Option.some.inj H
    go_wp2
    go_ret
    exact ⟨by first|rfl|(simp [aP,aQ] <;> rfl)|(simp [*,aP,aQ] <;> rfl),by repeat (first|(with_reducible first|exact HB.out|apply ay|apply aj|apply av|refine aO ?_ tK.out)|exact HB.out)⟩
end Go.Proofs.YtpflenjhmeaeoaaDoor.GUt
