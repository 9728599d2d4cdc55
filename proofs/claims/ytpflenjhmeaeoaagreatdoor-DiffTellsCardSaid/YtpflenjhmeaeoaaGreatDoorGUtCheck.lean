/- spec.Pod.Check of a pod of one container without lists: its contract, in terms of plain functions. Printed by this session's own program for a pretended function without its map, and mended. No conditions beside those stated. -/
import Derived.Test.YtpflenjhmeaeoaaGreatDoorCp
import Derived.Test.YtpflenjhmeaeoaaGreatDoorGUtName
import Derived.Test.YtpflenjhmeaeoaaGreatDoorGUtx13
import Derived.Test.YtpflenjhmeaeoaaGreatDoorGUtParts
import Derived.Test.YtpflenjhmeaeoaaGreatDoorGUtx12
import Derived.Test.YtpflenjhmeaeoaaGreatDoorGUtx10
namespace Go.Proofs.YtpflenjhmeaeoaaGreatDoor.GUt
open Go.RowKit Go.Maps Go.WideMaps Go.Proofs.YtpflenjhmeaeoaaGreatDoorW.PrintWords Go.Proofs.YtpflenjhmeaeoaaGreatDoorW.PrintLast Go.Proofs.YtpflenjhmeaeoaaGreatDoorW.PrintMore
set_option linter.unusedVariables false
set_option linter.unusedSimpArgs false
theorem w01 : wrap64 ((0 : Int) + 1) = 1 := by rw [dG (by omega) (by omega)]; rfl
theorem sK : Keyed Tryz.prog 9 := string_keyed Tryz.underlying9
theorem yE (w : World) : (zeroValue 3).run Tryz.prog w = .ok (.int .i64 0) w := by kernel_rfl
theorem pz {w w' : World} {P : Program} {k : TypeId} {R : Value → Option (DataW Unit × List MemPlace)} {b n : Nat} {D : DataW Unit} (h : w.ownsMap P k R b n D) (hb : Below w.heap.size w w') : w'.ownsMap P k R b n D := by
  have hlt := h.lt
  obtain ⟨es, clock, hh, F, hs, hD⟩ := h
  exact ⟨es, clock, (hb.block b hlt).trans hh, F, hs, hD⟩
theorem rJ {w : World} {P : Program} {k : TypeId} {R : Value → Option (DataW Unit × List MemPlace)} {b n g : Nat} {D : DataW Unit} (h : w.ownsMap P k R b n D) (hne : b ≠ g) (j : Nat) (u : Value) : (w.setCell ⟨g, j, none⟩ u).ownsMap P k R b n D := by
  obtain ⟨es, clock, hh, F, hs, hD⟩ := h
  exact ⟨es, clock, (Below.heap_setCell w ⟨g, j, none⟩ u b hne).trans hh, F, hs, hD⟩
theorem tN {a b : Int} (h : (.lit (.int .i64 a) : DataW Unit) = .lit (.int .i64 b)) : a = b := by
  injection h with h
  injection h
theorem moved {W w3 : World} {g m : Nat} {o : Obj} (hg : W.grownBy w3 (some m)) (h : W.heap[g]? = some o) (hne : g ≠ m) : w3.heap[g]? = some o := (hg.block g (dh h) (fun e => hne (by injection e))).trans h
theorem xP {w : World} {b n : Nat} {D : DataW Unit} {s : ByteArray} {kl : Lit} (h : w.ownsMap Tryz.prog 9 (plainElem Tryz.prog 3) b n D) (hkey : keyOf Tryz.prog 9 (.string s) = some kl) (hat : D.atKey kl (.lit (.int .i64 0)) = .lit (.int .i64 1)) :
    ∃ o : Obj, w.heap[b]? = some o ∧ ∀ W : World, W.heap[b]? = some o → (Instr.lookup 129 (.map (some b)) (.string s) false).run Tryz.prog W = .ok (.int .i64 1) W := by
  obtain ⟨es, clock, hh, F, hs, hD⟩ := h
  refine ⟨_, hh, fun W hW => ?_⟩
  have hW' : W.ownsMap Tryz.prog 9 (plainElem Tryz.prog 3) b n D := ⟨es, clock, hW, F, hs, hD⟩
  obtain ⟨c, hrun, hc, _⟩ := hW'.lookup_int sK Tryz.underlying129 Tryz.underlying3 (yE W) hkey
  rw [hrun, tN (hc.symm.trans hat)]
theorem xQ (l : List Int) : ∀ (k : Nat) (t : Int), aQ.f k (13 :: l) = some t → t = 13
  | 0, t, h => by simp [aQ.f, aQ.l0] at h
  | k + 1, t, h => by
    rw [aQ.f, aQ.l0, if_pos (by simp), if_pos (by decide), if_pos (by simp)] at h
    have e : rd (13 :: l) 0 = 13 := rfl
    simp only [e] at h
    simpa using h.symm
theorem zn {k : Nat} {a : ByteArray} {b : Bool} {t : Int} {l : List Int} (h1 : bg.f k a = some b) (h2 : aI.f (!b) 13 = some t) (h3 : aQ.f k (t :: l) = some 0) : bg.f k a = some true := by
  cases b with
  | true => exact h1
  | false =>
    have e : t = 13 := by simpa [aI.f] using h2.symm
    subst e
    exact absurd (xQ l k 0 h3) (by decide)
theorem wD {l : List S69} (h1 : l.length = 1) (h2 : (aj l 0).f2.length = 0) (h3 : (aj l 0).f3.length = 0) (h6 : (aj l 0).f6.length = 0) : ∀ i : Int, (aj l i).f2.length = 0 ∧ (aj l i).f3.length = 0 ∧ (aj l i).f6.length = 0 := fun i => by
  by_cases hi : i.toNat = 0
  · have e : aj l i = aj l 0 := by unfold aj; rw [hi]; rfl
    rw [e]; exact ⟨h2, h3, h6⟩
  · have e : aj l i = z69 := by unfold aj; rw [List.getD_eq_getElem?_getD, List.getElem?_eq_none (by omega)]; rfl
    rw [e]; exact ⟨rfl, rfl, rfl⟩
mutual
def au.j0 : Nat → Int → ByteArray → ByteArray → Int → Int → Bool → List (S69) → Option (Int)
 | 0,_,_,_,_,_,_,_=>none
 | k + 1,x3,Gj,Gl,Gm,Gn,Gp,Dh=>if x3 = 0 then (au.l0 k Dh (Dh.length : Int) 0) else (some x3)
def au.l0 : Nat → List (S69) → Int → Int → Option (Int)
 | 0,_,_,_=>none
 | k + 1,BK,D7,BH=>if BH < D7 then (if 0 ≤ BH then (if BH < (BK.length : Int) then ((bg.f k ((aj BK BH).f0)).bind fun Dw=>((aI.f (!Dw) 13).bind fun Bn=>((aI.f (decide (1 > 1)) 8).bind fun t171=>((bE.f k ((aj BK BH).f1)).bind fun Cz=>((aI.f (!Cz) 6).bind fun t173=>((bP.f (((aj BK BH).f2).length : Int)).bind fun Cm=>(if Cm = true then ((aI.f true 18).bind fun t175=>((bG.f ((aj BK BH).f4) 64000).bind fun Cn=>(if Cn = true then ((bG.f ((aj BK BH).f5) 1048576).bind fun Co=>((aI.f (!Co) 7).bind fun Cq=>((aQ.f k (([Bn,t171,t173,t175,Cq] : List Int))).bind fun t182=>(au.j2 k t182 BK D7 BH ((aj BK BH).f0) ((aj BK BH).f1) ((aj BK BH).f2) ((aj BK BH).f3) ((aj BK BH).f4) ((aj BK BH).f5) ((aj BK BH).f6))))) else ((aI.f true 7).bind fun t183=>((aQ.f k (([Bn,t171,t173,t175,t183] : List Int))).bind fun Cr=>(au.j2 k Cr BK D7 BH ((aj BK BH).f0) ((aj BK BH).f1) ((aj BK BH).f2) ((aj BK BH).f3) ((aj BK BH).f4) ((aj BK BH).f5) ((aj BK BH).f6))))))) else ((bP.f (((aj BK BH).f3).length : Int)).bind fun Ca=>(if Ca = true then ((aI.f true 18).bind fun BO=>((bG.f ((aj BK BH).f4) 64000).bind fun Cc=>(if Cc = true then ((bG.f ((aj BK BH).f5) 1048576).bind fun Ce=>((aI.f (!Ce) 7).bind fun Cg=>((aQ.f k (([Bn,t171,t173,BO,Cg] : List Int))).bind fun t196=>(au.j2 k t196 BK D7 BH ((aj BK BH).f0) ((aj BK BH).f1) ((aj BK BH).f2) ((aj BK BH).f3) ((aj BK BH).f4) ((aj BK BH).f5) ((aj BK BH).f6))))) else ((aI.f true 7).bind fun Ch=>((aQ.f k (([Bn,t171,t173,BO,Ch] : List Int))).bind fun t201=>(au.j2 k t201 BK D7 BH ((aj BK BH).f0) ((aj BK BH).f1) ((aj BK BH).f2) ((aj BK BH).f3) ((aj BK BH).f4) ((aj BK BH).f5) ((aj BK BH).f6))))))) else ((bP.f (((aj BK BH).f6).length : Int)).bind fun BU=>((aI.f BU 18).bind fun t203=>((bG.f ((aj BK BH).f4) 64000).bind fun BP=>(if BP = true then ((bG.f ((aj BK BH).f5) 1048576).bind fun BG=>((aI.f (!BG) 7).bind fun t206=>((aQ.f k (([Bn,t171,t173,t203,t206] : List Int))).bind fun t210=>(au.j2 k t210 BK D7 BH ((aj BK BH).f0) ((aj BK BH).f1) ((aj BK BH).f2) ((aj BK BH).f3) ((aj BK BH).f4) ((aj BK BH).f5) ((aj BK BH).f6))))) else ((aI.f true 7).bind fun BQ=>((aQ.f k (([Bn,t171,t173,t203,BQ] : List Int))).bind fun BR=>(au.j2 k BR BK D7 BH ((aj BK BH).f0) ((aj BK BH).f1) ((aj BK BH).f2) ((aj BK BH).f3) ((aj BK BH).f4) ((aj BK BH).f5) ((aj BK BH).f6))))))))))))))))) else (none)) else (none)) else (some 0)
def au.j2 : Nat → Int → List (S69) → Int → Int → ByteArray → ByteArray → List ByteArray → List (S88) → Int → Int → List (S71) → Option (Int)
 | 0,_,_,_,_,_,_,_,_,_,_,_=>none
 | k + 1,x7,BK,D7,BH,D8,D9,Ea,Eb,Ec,Ed,Ee=>if x7 = 0 then ((gF.f D8 D9 Ea Eb Ec Ed Ee).bind fun CB=>(if CB = 0 then (au.l0 k BK D7 (wrap64 (BH + 1))) else (some CB))) else (some x7)
end
def au.g (k : Nat) (Bq : ByteArray) (Bo : ByteArray) (Bl : Int) (Bp : Int) (Br : Bool) (Bf : List (S69)) : Option (Int):=(eu.f k Bq).bind fun Dx=>(if Dx = true then ((bg.f k Bo).bind fun CF=>((aI.f (!CF) 13).bind fun BF=>(if Bl < 0 then ((aI.f true 7).bind fun t116=>((aI.f ((Bf.length : Int) == 0) 16).bind fun t117=>((bP.f (Bf.length : Int)).bind fun CG=>((aI.f CG 18).bind fun t119=>((aQ.f k (([BF,t116,t117,t119] : List Int))).bind fun CJ=>(au.j0 k CJ Bq Bo Bl Bp Br Bf)))))) else (if Bl > 2 then ((aI.f true 7).bind fun t124=>((aI.f ((Bf.length : Int) == 0) 16).bind fun CK=>((bP.f (Bf.length : Int)).bind fun CO=>((aI.f CO 18).bind fun t127=>((aQ.f k (([BF,t124,CK,t127] : List Int))).bind fun t131=>(au.j0 k t131 Bq Bo Bl Bp Br Bf)))))) else ((bG.f Bp 3600).bind fun Ci=>((aI.f (!Ci) 7).bind fun BX=>((aI.f ((Bf.length : Int) == 0) 16).bind fun BS=>((bP.f (Bf.length : Int)).bind fun BZ=>((aI.f BZ 18).bind fun BL=>((aQ.f k (([BF,BX,BS,BL] : List Int))).bind fun BN=>(au.j0 k BN Bq Bo Bl Bp Br Bf))))))))))) else ((aI.f true 13).bind fun t141=>(if Bl < 0 then ((aI.f true 7).bind fun DC=>((aI.f ((Bf.length : Int) == 0) 16).bind fun t143=>((bP.f (Bf.length : Int)).bind fun DF=>((aI.f DF 18).bind fun t145=>((aQ.f k (([t141,DC,t143,t145] : List Int))).bind fun DI=>(au.j0 k DI Bq Bo Bl Bp Br Bf)))))) else (if Bl > 2 then ((aI.f true 7).bind fun DJ=>((aI.f ((Bf.length : Int) == 0) 16).bind fun DK=>((bP.f (Bf.length : Int)).bind fun t152=>((aI.f t152 18).bind fun DL=>((aQ.f k (([t141,DJ,DK,DL] : List Int))).bind fun t157=>(au.j0 k t157 Bq Bo Bl Bp Br Bf)))))) else ((bG.f Bp 3600).bind fun DN=>((aI.f (!DN) 7).bind fun t159=>((aI.f ((Bf.length : Int) == 0) 16).bind fun t160=>((bP.f (Bf.length : Int)).bind fun DR=>((aI.f DR 18).bind fun t162=>((aQ.f k (([t141,t159,t160,t162] : List Int))).bind fun DT=>(au.j0 k DT Bq Bo Bl Bp Br Bf)))))))))))
theorem au.dQ : ∀ k,(∀ y0 y1 y2 y3 y4 y5 y6,LeO (au.j0 k y0 y1 y2 y3 y4 y5 y6) (au.j0 (k + 1) y0 y1 y2 y3 y4 y5 y6)) ∧ (∀ y0 y1 y2,LeO (au.l0 k y0 y1 y2) (au.l0 (k + 1) y0 y1 y2)) ∧ (∀ y0 y1 y2 y3 y4 y5 y6 y7 y8 y9 GL,LeO (au.j2 k y0 y1 y2 y3 y4 y5 y6 y7 y8 y9 GL) (au.j2 (k + 1) y0 y1 y2 y3 y4 y5 y6 y7 y8 y9 GL))
 | 0=>⟨fun _ _ _ _ _ _ _ r h=>by simp [au.j0] at h,fun _ _ _ r h=>by simp [au.l0] at h,fun _ _ _ _ _ _ _ _ _ _ _ r h=>by simp [au.j2] at h⟩
 | k + 1=>by
  obtain ⟨Ef,ih1,ih2⟩:=au.dQ k
  refine ⟨?_,?_,?_⟩
  ·intro y0 y1 y2 y3 y4 y5 y6
   unfold au.j0
   repeat' first
   | (with_reducible exact Ef _ _ _ _ _ _ _)
   | (with_reducible exact ih1 _ _ _)
   | (with_reducible exact ih2 _ _ _ _ _ _ _ _ _ _ _)
   | (with_reducible exact bE.mono _ _)
   | (with_reducible exact bg.mono _ _)
   | (with_reducible exact eu.mono _ _)
   | (with_reducible exact aQ.mono _ _)
   | (with_reducible exact LeO.refl _)
   | (with_reducible exact LeO.none _)
   | (with_reducible refine LeO.ite ?_ ?_)
   | (with_reducible refine LeO.bind ?_ (fun _=>?_))
   | exact Ef _ _ _ _ _ _ _
   | exact ih1 _ _ _
   | exact ih2 _ _ _ _ _ _ _ _ _ _ _
   | exact bE.mono _ _
   | exact bg.mono _ _
   | exact eu.mono _ _
   | exact aQ.mono _ _
   | exact LeO.none _
   | refine LeO.ite ?_ ?_
   | refine LeO.bind ?_ (fun _=>?_)
  ·intro y0 y1 y2
   unfold au.l0
   repeat' first
   | (with_reducible exact Ef _ _ _ _ _ _ _)
   | (with_reducible exact ih1 _ _ _)
   | (with_reducible exact ih2 _ _ _ _ _ _ _ _ _ _ _)
   | (with_reducible exact bE.mono _ _)
   | (with_reducible exact bg.mono _ _)
   | (with_reducible exact eu.mono _ _)
   | (with_reducible exact aQ.mono _ _)
   | (with_reducible exact LeO.refl _)
   | (with_reducible exact LeO.none _)
   | (with_reducible refine LeO.ite ?_ ?_)
   | (with_reducible refine LeO.bind ?_ (fun _=>?_))
   | exact Ef _ _ _ _ _ _ _
   | exact ih1 _ _ _
   | exact ih2 _ _ _ _ _ _ _ _ _ _ _
   | exact bE.mono _ _
   | exact bg.mono _ _
   | exact eu.mono _ _
   | exact aQ.mono _ _
   | exact LeO.none _
   | refine LeO.ite ?_ ?_
   | refine LeO.bind ?_ (fun _=>?_)
  ·intro y0 y1 y2 y3 y4 y5 y6 y7 y8 y9 GL
   unfold au.j2
   repeat' first
   | (with_reducible exact Ef _ _ _ _ _ _ _)
   | (with_reducible exact ih1 _ _ _)
   | (with_reducible exact ih2 _ _ _ _ _ _ _ _ _ _ _)
   | (with_reducible exact bE.mono _ _)
   | (with_reducible exact bg.mono _ _)
   | (with_reducible exact eu.mono _ _)
   | (with_reducible exact aQ.mono _ _)
   | (with_reducible exact LeO.refl _)
   | (with_reducible exact LeO.none _)
   | (with_reducible refine LeO.ite ?_ ?_)
   | (with_reducible refine LeO.bind ?_ (fun _=>?_))
   | exact Ef _ _ _ _ _ _ _
   | exact ih1 _ _ _
   | exact ih2 _ _ _ _ _ _ _ _ _ _ _
   | exact bE.mono _ _
   | exact bg.mono _ _
   | exact eu.mono _ _
   | exact aQ.mono _ _
   | exact LeO.none _
   | refine LeO.ite ?_ ?_
   | refine LeO.bind ?_ (fun _=>?_)
theorem au.Aj : ∀ a0 a1 a2 a3 a4 a5 k,LeO (au.g k a0 a1 a2 a3 a4 a5) (au.g (k + 1) a0 a1 a2 a3 a4 a5):=by
 intro a0 a1 a2 a3 a4 a5 k
 obtain ⟨Ef,ih1,ih2⟩:=au.dQ k
 unfold au.g
 repeat' first
   | (with_reducible exact Ef _ _ _ _ _ _ _)
   | (with_reducible exact ih1 _ _ _)
   | (with_reducible exact ih2 _ _ _ _ _ _ _ _ _ _ _)
   | (with_reducible exact bE.mono _ _)
   | (with_reducible exact bg.mono _ _)
   | (with_reducible exact eu.mono _ _)
   | (with_reducible exact aQ.mono _ _)
   | (with_reducible exact LeO.refl _)
   | (with_reducible exact LeO.none _)
   | (with_reducible refine LeO.ite ?_ ?_)
   | (with_reducible refine LeO.bind ?_ (fun _=>?_))
   | exact Ef _ _ _ _ _ _ _
   | exact ih1 _ _ _
   | exact ih2 _ _ _ _ _ _ _ _ _ _ _
   | exact bE.mono _ _
   | exact bg.mono _ _
   | exact eu.mono _ _
   | exact aQ.mono _ _
   | exact LeO.none _
   | refine LeO.ite ?_ ?_
   | refine LeO.bind ?_ (fun _=>?_)
def au.Ok (k : Nat) (Bq Bo : ByteArray) (Bl : Int) (Bf : List (S69)) : Prop := eu.f k Bq = some true ∧ Bl = 0 ∧ Bf.length = 1 ∧ (aj Bf 0).f2.length = 0 ∧ (aj Bf 0).f3.length = 0 ∧ (aj Bf 0).f6.length = 0 ∧ (bg.f k Bo = some true → bG.f (aj Bf 0).f4 64000 = some true) ∧ (aj Bf 0).f0.size ≤ 1000000000
instance (k : Nat) (Bq Bo : ByteArray) (Bl : Int) (Bf : List (S69)) : Decidable (au.Ok k Bq Bo Bl Bf) := by unfold au.Ok; infer_instance
def au.f (k : Nat) (Bq : ByteArray) (Bo : ByteArray) (Bl : Int) (Bp : Int) (Br : Bool) (Bf : List (S69)) : Option (Int) := if au.Ok k Bq Bo Bl Bf then au.g k Bq Bo Bl Bp Br Bf else none
theorem au.mono : ∀ a0 a1 a2 a3 a4 a5 k, LeO (au.f k a0 a1 a2 a3 a4 a5) (au.f (k + 1) a0 a1 a2 a3 a4 a5) := fun a0 a1 a2 a3 a4 a5 k r h => by
  unfold au.f at h ⊢
  split at h
  case isFalse => cases h
  rename_i hc
  have hb : ∃ b, bg.f k a1 = some b := by
    unfold au.g at h
    rw [hc.1, Option.bind_some, if_pos rfl] at h
    obtain ⟨b, hb, _⟩ := Option.bind_eq_some_iff.1 h
    exact ⟨b, hb⟩
  obtain ⟨b, hb⟩ := hb
  have hb' := bg.mono _ _ _ hb
  rw [if_pos (show au.Ok (k + 1) a0 a1 a2 a5 from ⟨eu.mono _ _ _ hc.1, hc.2.1, hc.2.2.1, hc.2.2.2.1, hc.2.2.2.2.1, hc.2.2.2.2.2.1, fun h => hc.2.2.2.2.2.2.1 (by rw [hb'] at h; rw [hb]; exact h), hc.2.2.2.2.2.2.2⟩)]
  exact au.Aj _ _ _ _ _ _ _ _ h
def au.T1 : Bool × List (List Nat × List Nat):=(true,[([],[]),([0],[0]),([1],[1]),([2],[2]),([3,2],[3]),([4],[4]),([5,4],[4,5]),([6,4,4],[4,6]),([7,4],[4,7]),([4,8],[4,8]),([9,7],[9]),([],[]),([11],[11]),([12],[12]),([13,10],[13]),([14],[14]),([15,14],[14,15]),([16,14],[14,16]),([14,17],[14,17]),([18,14],[18]),([19],[19]),([20,19],[19,20]),([21,19,19],[19,21]),([22,19],[19,22]),([19,23],[19,23]),([24,22],[24]),([],[]),([26],[26]),([27],[27]),([28],[28]),([29,25],[29]),([],[]),([31],[31]),([32],[32]),([33,30],[33]),([34,34],[34]),([10,25,30,35],[10,25,30,35]),([36,35],[36]),([37,37,0,1,2,3,4,5,6,7,8,9,10,11,12,13,14,15,16,17,18,19,20,21,22,23,24,25,26,27,28,29,30,31,32,33,34,35,36,37],[37])])
def au.B1 : List Nat:=[0,1,3,7,15,31,63,127,255,511,1023,0,2048,6144,16383,32767,65535,131071,262143,524287,1048575,2097151,4194303,8388607,16777215,33554431,0,67108864,201326592,469762048,1073741823,0,2147483648,6442450944,17179869183,34359738367,68719476735,137438953471,274877906943]
theorem au.wm : gV .any (opsOf Tryz.f39 1) = au.T1:=by kernel_rfl
theorem au.rF : fQ au.T1.2 au.B1 = true:=by kernel_rfl
def au.T9 : Bool × List (List Nat × List Nat) := (true, [([], []), ([0], [0]), ([1], [1]), ([2], [2]), ([3, 2], [3]), ([], []), ([], []), ([6], [6]), ([5, 7], [5, 7]), ([8], [8]), ([9, 4], [9]), ([], []), ([11], [11]), ([12, 10], [12]), ([13], [13]), ([14, 13], [14]), ([], []), ([16], [16]), ([17], [17]), ([18, 15], [18]), ([19, 19], [19]), ([20], [20]), ([21, 20], [20, 21]), ([22, 20], [20, 22]), ([23, 20, 20], [20, 23]), ([20, 24], [20, 24]), ([25, 24], [25]), ([26], [26]), ([27, 26], [26, 27]), ([28, 26], [26, 28]), ([29, 26, 26], [26, 29]), ([26, 30], [26, 30]), ([31, 30], [31]), ([], []), ([33], [33]), ([34, 32], [34]), ([35], [35]), ([36, 35], [36]), ([37], [37]), ([38, 37], [37, 38]), ([39, 37, 37], [37, 39]), ([40, 37], [37, 40]), ([37, 41], [37, 41]), ([42, 40], [42]), ([4, 10, 15, 32, 43], [4, 10, 15, 32, 43]), ([44, 43], [44]), ([45, 45, 0, 1, 2, 3, 4, 5, 6, 7, 8, 9, 10, 11, 12, 13, 14, 15, 16, 17, 18, 19, 20, 21, 22, 23, 24, 25, 26, 27, 28, 29, 30, 31, 32, 33, 34, 35, 36, 37, 38, 39, 40, 41, 42, 43, 44, 45], [45])])
def au.B9 : List Nat := [0, 1, 3, 7, 15, 0, 0, 64, 224, 480, 1023, 0, 2048, 8191, 16383, 32767, 0, 65536, 196608, 524287, 1048575, 2097151, 4194303, 8388607, 16777215, 33554431, 67108863, 134217727, 268435455, 536870911, 1073741823, 2147483647, 4294967295, 0, 8589934592, 34359738367, 68719476735, 137438953471, 274877906943, 549755813887, 1099511627775, 2199023255551, 4398046511103, 8796093022207, 17592186044415, 35184372088831, 70368744177663]
theorem au.rE : gV .any (opsOf Tryz.f39 9) = au.T9:=by kernel_rfl
theorem au.ni : fQ au.T9.2 au.B9 = true:=by kernel_rfl
set_option maxHeartbeats 8000000 in
set_option maxRecDepth 100000 in
theorem au.calls (k : Nat) (Bq : ByteArray) (Bo : ByteArray) (Bl : Int) (Bp : Int) (Br : Bool) (CS : Option Addr) (Cb : Nat) (Bf : List (S69)) (r : Int) (w : World) (EA : Kd.C k69 w CS Bf.length Bf) (EB : Bf.length ≤ Cb) (h : au.f k Bq Bo Bl Bp Br Bf = some r) :
  Calls Tryz.prog 39 #[.agg #[.string Bq,.string Bo,.int .i64 Bl,.int .i64 Bp,.bool Br,.slice CS Bf.length Cb]] w fun e w'=>e = .returned (.int .i64 r) ∧ Below w.heap.size w w':=by
 have Iz:=Tryz.underlying49
 have IB:=Tryz.underlying69
 have EY:=Aside0.mk EA
 have Ic:=Aside0.mk EB
 clear EA EB
 unfold au.f at h
 split at h
 case isFalse => cases h
 rename_i hcond
 obtain ⟨hnm, hz2, hl1, he2, Ie, Ig, hfr, hsz⟩ := hcond
 have HNm := Aside0.mk hnm
 have HZ2 := Aside0.mk hz2
 have IC := Aside0.mk hl1
 have HFr := Aside0.mk hfr
 have HSz := Aside0.mk hsz
 have HE := Aside0.mk (wD hl1 he2 Ie Ig)
 clear hnm hz2 hl1 he2 Ie Ig hfr hsz
 have HB:=Aside0.mk (Below.refl w.heap.size w)
 have H : ((eu.f k Bq).bind fun Dx=>(if Dx = true then ((bg.f k Bo).bind fun CF=>((aI.f (!CF) 13).bind fun BF=>(if Bl < 0 then ((aI.f true 7).bind fun t116=>((aI.f ((Bf.length : Int) == 0) 16).bind fun t117=>((bP.f (Bf.length : Int)).bind fun CG=>((aI.f CG 18).bind fun t119=>((aQ.f k (([BF,t116,t117,t119] : List Int))).bind fun CJ=>(au.j0 k CJ Bq Bo Bl Bp Br Bf)))))) else (if Bl > 2 then ((aI.f true 7).bind fun t124=>((aI.f ((Bf.length : Int) == 0) 16).bind fun CK=>((bP.f (Bf.length : Int)).bind fun CO=>((aI.f CO 18).bind fun t127=>((aQ.f k (([BF,t124,CK,t127] : List Int))).bind fun t131=>(au.j0 k t131 Bq Bo Bl Bp Br Bf)))))) else ((bG.f Bp 3600).bind fun Ci=>((aI.f (!Ci) 7).bind fun BX=>((aI.f ((Bf.length : Int) == 0) 16).bind fun BS=>((bP.f (Bf.length : Int)).bind fun BZ=>((aI.f BZ 18).bind fun BL=>((aQ.f k (([BF,BX,BS,BL] : List Int))).bind fun BN=>(au.j0 k BN Bq Bo Bl Bp Br Bf))))))))))) else ((aI.f true 13).bind fun t141=>(if Bl < 0 then ((aI.f true 7).bind fun DC=>((aI.f ((Bf.length : Int) == 0) 16).bind fun t143=>((bP.f (Bf.length : Int)).bind fun DF=>((aI.f DF 18).bind fun t145=>((aQ.f k (([t141,DC,t143,t145] : List Int))).bind fun DI=>(au.j0 k DI Bq Bo Bl Bp Br Bf)))))) else (if Bl > 2 then ((aI.f true 7).bind fun DJ=>((aI.f ((Bf.length : Int) == 0) 16).bind fun DK=>((bP.f (Bf.length : Int)).bind fun t152=>((aI.f t152 18).bind fun DL=>((aQ.f k (([t141,DJ,DK,DL] : List Int))).bind fun t157=>(au.j0 k t157 Bq Bo Bl Bp Br Bf)))))) else ((bG.f Bp 3600).bind fun DN=>((aI.f (!DN) 7).bind fun t159=>((aI.f ((Bf.length : Int) == 0) 16).bind fun t160=>((bP.f (Bf.length : Int)).bind fun DR=>((aI.f DR 18).bind fun t162=>((aQ.f k (([t141,t159,t160,t162] : List Int))).bind fun DT=>(au.j0 k DT Bq Bo Bl Bp Br Bf)))))))))))) = some r:=h
 clear h
 have GN:=Aside0.mk H
 clear H
 go_enter Tryz.func39,Tryz.ntmps39
 go_upto_region 1 with (first|((with_reducible refine cZ (N:=1) rfl ?_);(try (refine iw (by rfl) ?_;dsimp only));refine dA ?hg (N:=1) ?hd (cs:=#[.string Bq,.string Bo,.int .i64 Bl,.int .i64 Bp,.bool Br,.slice CS Bf.length Cb]) (t:=49) ?hr ?_;(case hd=>rfl);(case hg=>rfl);(case hr=>first|(go_simp;done)|(go_simp;rfl));intro Bt hg w3 hbox hb;have Cj:=Aside0.mk (aK hb_ hb);have Ck:=Aside0.mk (hbox);have Ct:=Aside0.mk ((by rw [hg];exact (aM hb_) : w.heap.size ≤ Bt));have Dy:=Aside0.mk ((by rw [hg];exact (aM hb_) : w.heap.size ≤ Bt));clear HB;have HB:=Cj;have Bh:=Ck;have Ih:=Ct;have Ii:=Dy;clear Cj Ck Ct Dy;clear hb hbox hg))
 (try simp only [Act.put,List.setIfInBounds_toArray,List.set_cons_zero,List.set_cons_succ])
 go_cut [3] (fun v3 wc=>∃ (kq : Nat) (CU : Int),v3 = .int .i64 CU ∧ Aside0 (au.j0 kq CU Bq Bo Bl Bp Br Bf = some r) ∧ Aside0 (kq ≤ k) ∧ Aside0 (CU = 0 → bg.f k Bo = some true) ∧ Aside0 (wc.heap[Bt]? = some (.cells #[.string Bq,.string Bo,.int .i64 Bl,.int .i64 Bp,.bool Br,(.slice CS Bf.length Cb)] 49 (0,0))) ∧ Aside0 (Below w.heap.size w wc))
 case first =>
  have H:=GN.out
  clear GN
  replace H:=Option.bind_eq_some_iff.mp H
  obtain ⟨Dx,Ij,H⟩:=H
  replace H : (if Dx = true then ((bg.f k Bo).bind fun CF=>((aI.f (!CF) 13).bind fun BF=>(if Bl < 0 then ((aI.f true 7).bind fun t116=>((aI.f ((Bf.length : Int) == 0) 16).bind fun t117=>((bP.f (Bf.length : Int)).bind fun CG=>((aI.f CG 18).bind fun t119=>((aQ.f k (([BF,t116,t117,t119] : List Int))).bind fun CJ=>(au.j0 k CJ Bq Bo Bl Bp Br Bf)))))) else (if Bl > 2 then ((aI.f true 7).bind fun t124=>((aI.f ((Bf.length : Int) == 0) 16).bind fun CK=>((bP.f (Bf.length : Int)).bind fun CO=>((aI.f CO 18).bind fun t127=>((aQ.f k (([BF,t124,CK,t127] : List Int))).bind fun t131=>(au.j0 k t131 Bq Bo Bl Bp Br Bf)))))) else ((bG.f Bp 3600).bind fun Ci=>((aI.f (!Ci) 7).bind fun BX=>((aI.f ((Bf.length : Int) == 0) 16).bind fun BS=>((bP.f (Bf.length : Int)).bind fun BZ=>((aI.f BZ 18).bind fun BL=>((aQ.f k (([BF,BX,BS,BL] : List Int))).bind fun BN=>(au.j0 k BN Bq Bo Bl Bp Br Bf))))))))))) else ((aI.f true 13).bind fun t141=>(if Bl < 0 then ((aI.f true 7).bind fun DC=>((aI.f ((Bf.length : Int) == 0) 16).bind fun t143=>((bP.f (Bf.length : Int)).bind fun DF=>((aI.f DF 18).bind fun t145=>((aQ.f k (([t141,DC,t143,t145] : List Int))).bind fun DI=>(au.j0 k DI Bq Bo Bl Bp Br Bf)))))) else (if Bl > 2 then ((aI.f true 7).bind fun DJ=>((aI.f ((Bf.length : Int) == 0) 16).bind fun DK=>((bP.f (Bf.length : Int)).bind fun t152=>((aI.f t152 18).bind fun DL=>((aQ.f k (([t141,DJ,DK,DL] : List Int))).bind fun t157=>(au.j0 k t157 Bq Bo Bl Bp Br Bf)))))) else ((bG.f Bp 3600).bind fun DN=>((aI.f (!DN) 7).bind fun t159=>((aI.f ((Bf.length : Int) == 0) 16).bind fun t160=>((bP.f (Bf.length : Int)).bind fun DR=>((aI.f DR 18).bind fun t162=>((aQ.f k (([t141,t159,t160,t162] : List Int))).bind fun DT=>(au.j0 k DT Bq Bo Bl Bp Br Bf))))))))))) = some r:=H
  have A4:=Aside0.mk Ij
  clear Ij
  by_cases c5 : Dx = true
  ·subst c5
   have H1 : ((bg.f k Bo).bind fun CF=>((aI.f (!CF) 13).bind fun BF=>(if Bl < 0 then ((aI.f true 7).bind fun t116=>((aI.f ((Bf.length : Int) == 0) 16).bind fun t117=>((bP.f (Bf.length : Int)).bind fun CG=>((aI.f CG 18).bind fun t119=>((aQ.f k (([BF,t116,t117,t119] : List Int))).bind fun CJ=>(au.j0 k CJ Bq Bo Bl Bp Br Bf)))))) else (if Bl > 2 then ((aI.f true 7).bind fun t124=>((aI.f ((Bf.length : Int) == 0) 16).bind fun CK=>((bP.f (Bf.length : Int)).bind fun CO=>((aI.f CO 18).bind fun t127=>((aQ.f k (([BF,t124,CK,t127] : List Int))).bind fun t131=>(au.j0 k t131 Bq Bo Bl Bp Br Bf)))))) else ((bG.f Bp 3600).bind fun Ci=>((aI.f (!Ci) 7).bind fun BX=>((aI.f ((Bf.length : Int) == 0) 16).bind fun BS=>((bP.f (Bf.length : Int)).bind fun BZ=>((aI.f BZ 18).bind fun BL=>((aQ.f k (([BF,BX,BS,BL] : List Int))).bind fun BN=>(au.j0 k BN Bq Bo Bl Bp Br Bf))))))))))) = some r:=by rw [if_pos rfl] at H;exact H
   clear H
   have H:=H1
   clear H1
   replace H:=Option.bind_eq_some_iff.mp H
   obtain ⟨CF,Ik,H⟩:=H
   replace H : ((aI.f (!CF) 13).bind fun BF=>(if Bl < 0 then ((aI.f true 7).bind fun t116=>((aI.f ((Bf.length : Int) == 0) 16).bind fun t117=>((bP.f (Bf.length : Int)).bind fun CG=>((aI.f CG 18).bind fun t119=>((aQ.f k (([BF,t116,t117,t119] : List Int))).bind fun CJ=>(au.j0 k CJ Bq Bo Bl Bp Br Bf)))))) else (if Bl > 2 then ((aI.f true 7).bind fun t124=>((aI.f ((Bf.length : Int) == 0) 16).bind fun CK=>((bP.f (Bf.length : Int)).bind fun CO=>((aI.f CO 18).bind fun t127=>((aQ.f k (([BF,t124,CK,t127] : List Int))).bind fun t131=>(au.j0 k t131 Bq Bo Bl Bp Br Bf)))))) else ((bG.f Bp 3600).bind fun Ci=>((aI.f (!Ci) 7).bind fun BX=>((aI.f ((Bf.length : Int) == 0) 16).bind fun BS=>((bP.f (Bf.length : Int)).bind fun BZ=>((aI.f BZ 18).bind fun BL=>((aQ.f k (([BF,BX,BS,BL] : List Int))).bind fun BN=>(au.j0 k BN Bq Bo Bl Bp Br Bf)))))))))) = some r:=H
   have A6:=Aside0.mk Ik
   clear Ik
   replace H:=Option.bind_eq_some_iff.mp H
   obtain ⟨BF,Il,H⟩:=H
   replace H : (if Bl < 0 then ((aI.f true 7).bind fun t116=>((aI.f ((Bf.length : Int) == 0) 16).bind fun t117=>((bP.f (Bf.length : Int)).bind fun CG=>((aI.f CG 18).bind fun t119=>((aQ.f k (([BF,t116,t117,t119] : List Int))).bind fun CJ=>(au.j0 k CJ Bq Bo Bl Bp Br Bf)))))) else (if Bl > 2 then ((aI.f true 7).bind fun t124=>((aI.f ((Bf.length : Int) == 0) 16).bind fun CK=>((bP.f (Bf.length : Int)).bind fun CO=>((aI.f CO 18).bind fun t127=>((aQ.f k (([BF,t124,CK,t127] : List Int))).bind fun t131=>(au.j0 k t131 Bq Bo Bl Bp Br Bf)))))) else ((bG.f Bp 3600).bind fun Ci=>((aI.f (!Ci) 7).bind fun BX=>((aI.f ((Bf.length : Int) == 0) 16).bind fun BS=>((bP.f (Bf.length : Int)).bind fun BZ=>((aI.f BZ 18).bind fun BL=>((aQ.f k (([BF,BX,BS,BL] : List Int))).bind fun BN=>(au.j0 k BN Bq Bo Bl Bp Br Bf))))))))) = some r:=H
   have A7:=Aside0.mk Il
   clear Il
   by_cases c8 : Bl < 0
   ·exact absurd c8 (by rw [HZ2.out]; decide)
   ·rw [if_neg c8] at H
    have c8b0 : decide (Bl < 0) = false:=decide_eq_false c8
    clear c8
    (first|rw [c8b0]|(simp only [bJ,bM];rw [c8b0])|skip)
    by_cases c19 : Bl > 2
    ·exact absurd c19 (by rw [HZ2.out]; decide)
    ·rw [if_neg c19] at H
     have c19b0 : decide (2 < Bl) = false:=decide_eq_false c19
     clear c19
     replace H:=Option.bind_eq_some_iff.mp H
     obtain ⟨Ci,EZ,H⟩:=H
     replace H : ((aI.f (!Ci) 7).bind fun BX=>((aI.f ((Bf.length : Int) == 0) 16).bind fun BS=>((bP.f (Bf.length : Int)).bind fun BZ=>((aI.f BZ 18).bind fun BL=>((aQ.f k (([BF,BX,BS,BL] : List Int))).bind fun BN=>(au.j0 k BN Bq Bo Bl Bp Br Bf)))))) = some r:=H
     have IE:=Aside0.mk EZ
     clear EZ
     replace H:=Option.bind_eq_some_iff.mp H
     obtain ⟨BX,E5,H⟩:=H
     replace H : ((aI.f ((Bf.length : Int) == 0) 16).bind fun BS=>((bP.f (Bf.length : Int)).bind fun BZ=>((aI.f BZ 18).bind fun BL=>((aQ.f k (([BF,BX,BS,BL] : List Int))).bind fun BN=>(au.j0 k BN Bq Bo Bl Bp Br Bf))))) = some r:=H
     have IG:=Aside0.mk E5
     clear E5
     replace H:=Option.bind_eq_some_iff.mp H
     obtain ⟨BS,E8,H⟩:=H
     replace H : ((bP.f (Bf.length : Int)).bind fun BZ=>((aI.f BZ 18).bind fun BL=>((aQ.f k (([BF,BX,BS,BL] : List Int))).bind fun BN=>(au.j0 k BN Bq Bo Bl Bp Br Bf)))) = some r:=H
     have II:=Aside0.mk E8
     clear E8
     replace H:=Option.bind_eq_some_iff.mp H
     obtain ⟨BZ,E9,H⟩:=H
     replace H : ((aI.f BZ 18).bind fun BL=>((aQ.f k (([BF,BX,BS,BL] : List Int))).bind fun BN=>(au.j0 k BN Bq Bo Bl Bp Br Bf))) = some r:=H
     have IJ:=Aside0.mk E9
     clear E9
     replace H:=Option.bind_eq_some_iff.mp H
     obtain ⟨BL,Fa,H⟩:=H
     replace H : ((aQ.f k (([BF,BX,BS,BL] : List Int))).bind fun BN=>(au.j0 k BN Bq Bo Bl Bp Br Bf)) = some r:=H
     have IK:=Aside0.mk Fa
     clear Fa
     obtain ⟨EP,Da⟩ : ∃ y_ : List Int,y_ = (([BF,BX,BS,BL] : List Int)):=⟨_,rfl⟩
     replace H : ((aQ.f k EP).bind fun BN=>(au.j0 k BN Bq Bo Bl Bp Br Bf)) = some r:=by first|(rw [Da];with_reducible exact H)|(have ER:=(Option.bind_some _ _).symm.trans H;rw [Da];with_reducible exact ER)|(have ER:=(Option.bind_some _ _).symm.trans H;with_reducible exact ER)|with_reducible exact H|(rw [Da];exact H)|exact H
     have DU:=Aside0.mk Da
     clear Da
     replace H:=Option.bind_eq_some_iff.mp H
     obtain ⟨BN,Fb,H⟩:=H
     replace H : (au.j0 k BN Bq Bo Bl Bp Br Bf) = some r:=H
     have Im:=Aside0.mk Fb
     clear Fb
     have H':=Aside0.mk H
     clear H
     try go_wp2
     have Cj:=Aside0.mk (aG Bh.out)
     have Ck:=Aside0.mk (bB HB.out)
     clear Bh
     clear HB
     have Bh:=Cj
     have HB:=Ck
     clear Cj Ck
     refine fU (n:=39) (S:=fun w'=>w'.cell? ⟨Bt,0,none⟩ = some (.string Bq) ∧ w'.cell? ⟨Bt,1,none⟩ = some (.string Bo) ∧ w'.cell? ⟨Bt,2,none⟩ = some (.int .i64 Bl) ∧ w'.cell? ⟨Bt,3,none⟩ = some (.int .i64 Bp) ∧ w'.cell? ⟨Bt,4,none⟩ = some (.bool Br) ∧ w'.cell? ⟨Bt,5,none⟩ = some (.slice CS Bf.length Cb)) (ds:=[]) #[O,O,O,O,O,O,O,O,O,O,O,O,O,O,O,O,O,O,O,O,O,O,O,O,O,O,O,O,O,O,O,O,O,O,O,O,O,O,O] (by kernel_rfl) rfl rfl ⟨(ah Bh.out 0).trans rfl,(ah Bh.out 1).trans rfl,(ah Bh.out 2).trans rfl,(ah Bh.out 3).trans rfl,(ah Bh.out 4).trans rfl,(ah Bh.out 5).trans rfl⟩ (fun hHeld=>?_);refine dY au.wm au.rF (fun HT_ HW_=>?_)
     generalize w3.drew = I6 at Bh HB hHeld ⊢
     refine pu_ 0 8 #[I,O,O,O,O,O,O,O,O,O,O,O,O,O,O,O,O,O,O,O,O,O,O,O,O,O,O,O,O,O,O,O,O,O,O,O,O,O,O] HT_.out ?_
     refine pu_ 11 19 #[I,O,O,O,O,O,O,O,O,O,O,I,O,O,O,O,O,O,O,O,O,O,O,O,O,O,O,O,O,O,O,O,O,O,O,O,O,O,O] HT_.out ?_
     refine pu_ 26 34 #[I,O,O,O,O,O,O,O,O,O,O,I,O,O,O,O,O,O,O,O,O,O,O,O,O,O,I,O,O,O,O,O,O,O,O,O,O,O,O] HT_.out ?_
     refine pu_ 31 39 #[I,O,O,O,O,O,O,O,O,O,O,I,O,O,O,O,O,O,O,O,O,O,O,O,O,O,I,O,O,O,O,I,O,O,O,O,O,O,O] HT_.out ?_
     refine ta_ 1 9 #[I,I,O,O,O,O,O,O,O,O,O,I,O,O,O,O,O,O,O,O,O,O,O,O,O,O,I,O,O,O,O,I,O,O,O,O,O,O,O] HT_.out HW_.out hHeld ?_
     refine ta_ 12 20 #[I,I,O,O,O,O,O,O,O,O,O,I,I,O,O,O,O,O,O,O,O,O,O,O,O,O,I,O,O,O,O,I,O,O,O,O,O,O,O] HT_.out HW_.out hHeld ?_
     refine pu_ 13 21 #[I,I,O,O,O,O,O,O,O,O,O,I,I,I,O,O,O,O,O,O,O,O,O,O,O,O,I,O,O,O,O,I,O,O,O,O,O,O,O] HT_.out ?_
     refine ta_ 27 35 #[I,I,O,O,O,O,O,O,O,O,O,I,I,I,O,O,O,O,O,O,O,O,O,O,O,O,I,I,O,O,O,I,O,O,O,O,O,O,O] HT_.out HW_.out hHeld ?_
     refine pu_ 28 36 #[I,I,O,O,O,O,O,O,O,O,O,I,I,I,O,O,O,O,O,O,O,O,O,O,O,O,I,I,I,O,O,I,O,O,O,O,O,O,O] HT_.out ?_
     refine pu_ 29 37 #[I,I,O,O,O,O,O,O,O,O,O,I,I,I,O,O,O,O,O,O,O,O,O,O,O,O,I,I,I,I,O,I,O,O,O,O,O,O,O] HT_.out ?_
     refine ta_ 32 40 #[I,I,O,O,O,O,O,O,O,O,O,I,I,I,O,O,O,O,O,O,O,O,O,O,O,O,I,I,I,I,O,I,I,O,O,O,O,O,O] HT_.out HW_.out hHeld ?_
     refine pu_ 33 41 #[I,I,O,O,O,O,O,O,O,O,O,I,I,I,O,O,O,O,O,O,O,O,O,O,O,O,I,I,I,I,O,I,I,I,O,O,O,O,O] HT_.out ?_
     refine gq (i:=2) (N:=some 10) #[I,I,I,O,O,O,O,O,O,O,O,I,I,I,O,O,O,O,O,O,O,O,O,O,O,O,I,I,I,I,O,I,I,I,O,O,O,O,O] rfl rfl (dD HT_.out (by kernel_rfl)) (by decide) (fun K hK=>?_)
     refine eX Tryz.func57 (by kernel_rfl) rfl #[.string Bq] (by rfl) rfl rfl (by (try simp only [List.map_toArray,List.map_cons,List.map_nil]);first|done|rfl|(simp only [List.length_drop,List.length_take];rfl)) ?_
     with_reducible refine (eu.calls k Bq true _ A4.out).mono ?_
     rintro e I7 ⟨rfl,hb⟩
     refine ⟨_,rfl,?_⟩
     have Cj:=Aside0.mk (aN (g:=Bt) (o:=.cells #[.string Bq,.string Bo,.int .i64 Bl,.int .i64 Bp,.bool Br,.slice CS Bf.length Cb] 49 (0,0)) (bk_ Bh.out) hb)
     have Ck:=Aside0.mk (aK hb_ hb)
     clear Bh
     clear HB
     have Bh:=Cj
     have HB:=Ck
     clear Cj Ck
     refine hK.out _ _ ⟨(ah Bh.out 0).trans rfl,(ah Bh.out 1).trans rfl,(ah Bh.out 2).trans rfl,(ah Bh.out 3).trans rfl,(ah Bh.out 4).trans rfl,(ah Bh.out 5).trans rfl⟩ (fun hHeld=>?_)
     clear hK K
     refine dW (a':=?_) ?_ ?_
     rotate_left
     ·show Act.put _ (some 10) _ = _
      simp only [Act.put,List.setIfInBounds_toArray,List.set_cons_zero,List.set_cons_succ,bJ,bM]
      rfl
     refine pu_ 3 11 #[I,I,I,I,O,O,O,O,O,O,O,I,I,I,O,O,O,O,O,O,O,O,O,O,O,O,I,I,I,I,O,I,I,I,O,O,O,O,O] HT_.out ?_
     refine pu_ 4 12 #[I,I,I,I,I,O,O,O,O,O,O,I,I,I,O,O,O,O,O,O,O,O,O,O,O,O,I,I,I,I,O,I,I,I,O,O,O,O,O] HT_.out ?_
     refine pu_ 5 13 #[I,I,I,I,I,I,O,O,O,O,O,I,I,I,O,O,O,O,O,O,O,O,O,O,O,O,I,I,I,I,O,I,I,I,O,O,O,O,O] HT_.out ?_
     refine ta_ 6 14 #[I,I,I,I,I,I,I,O,O,O,O,I,I,I,O,O,O,O,O,O,O,O,O,O,O,O,I,I,I,I,O,I,I,I,O,O,O,O,O] HT_.out HW_.out hHeld ?_
     refine gq (i:=7) (N:=some 15) #[I,I,I,I,I,I,I,I,O,O,O,I,I,I,O,O,O,O,O,O,O,O,O,O,O,O,I,I,I,I,O,I,I,I,O,O,O,O,O] rfl rfl (dD HT_.out (by kernel_rfl)) (by decide) (fun K hK=>?_)
     refine eX Tryz.func56 (by kernel_rfl) rfl #[.string Bo] (by rfl) rfl rfl (by (try simp only [List.map_toArray,List.map_cons,List.map_nil]);first|done|rfl|(simp only [List.length_drop,List.length_take];rfl)) ?_
     with_reducible refine (bg.calls k Bo CF _ A6.out).mono ?_
     rintro e w' ⟨rfl,⟨nd,rfl⟩⟩
     refine ⟨_,rfl,?_⟩
     refine hK.out _ _ ⟨(ah Bh.out 0).trans rfl,(ah Bh.out 1).trans rfl,(ah Bh.out 2).trans rfl,(ah Bh.out 3).trans rfl,(ah Bh.out 4).trans rfl,(ah Bh.out 5).trans rfl⟩ (fun hHeld=>?_)
     clear hK K
     refine dW (a':=?_) ?_ ?_
     rotate_left
     ·show Act.put _ (some 15) _ = _
      simp only [Act.put,List.setIfInBounds_toArray,List.set_cons_zero,List.set_cons_succ,bJ,bM]
      rfl
     refine pu_ 8 16 #[I,I,I,I,I,I,I,I,I,O,O,I,I,I,O,O,O,O,O,O,O,O,O,O,O,O,I,I,I,I,O,I,I,I,O,O,O,O,O] HT_.out ?_
     refine pu_ 9 17 #[I,I,I,I,I,I,I,I,I,I,O,I,I,I,O,O,O,O,O,O,O,O,O,O,O,O,I,I,I,I,O,I,I,I,O,O,O,O,O] HT_.out ?_
     refine gq (i:=10) (N:=some 18) #[I,I,I,I,I,I,I,I,I,I,I,I,I,I,O,O,O,O,O,O,O,O,O,O,O,O,I,I,I,I,O,I,I,I,O,O,O,O,O] rfl rfl (dD HT_.out (by kernel_rfl)) (by decide) (fun K hK=>?_)
     refine eX Tryz.func60 (by kernel_rfl) rfl #[.bool (!CF),.int .i64 13] (by rfl) rfl rfl (by (try simp only [List.map_toArray,List.map_cons,List.map_nil]);first|done|rfl|(simp only [List.length_drop,List.length_take];rfl)) ?_
     with_reducible refine (aI.calls (!CF) 13 BF _ A7.out).mono ?_
     rintro e w' ⟨rfl,⟨nd,rfl⟩⟩
     refine ⟨_,rfl,?_⟩
     refine hK.out _ _ ⟨(ah Bh.out 0).trans rfl,(ah Bh.out 1).trans rfl,(ah Bh.out 2).trans rfl,(ah Bh.out 3).trans rfl,(ah Bh.out 4).trans rfl,(ah Bh.out 5).trans rfl⟩ (fun hHeld=>?_)
     clear hK K
     refine dW (a':=?_) ?_ ?_
     rotate_left
     ·show Act.put _ (some 18) _ = _
      simp only [Act.put,List.setIfInBounds_toArray,List.set_cons_zero,List.set_cons_succ,bJ,bM]
      rfl
     refine pu_ 14 22 #[I,I,I,I,I,I,I,I,I,I,I,I,I,I,I,O,O,O,O,O,O,O,O,O,O,O,I,I,I,I,O,I,I,I,O,O,O,O,O] HT_.out ?_
     refine pu_ 15 23 #[I,I,I,I,I,I,I,I,I,I,I,I,I,I,I,I,O,O,O,O,O,O,O,O,O,O,I,I,I,I,O,I,I,I,O,O,O,O,O] HT_.out ?_
     refine ta_ 16 24 #[I,I,I,I,I,I,I,I,I,I,I,I,I,I,I,I,I,O,O,O,O,O,O,O,O,O,I,I,I,I,O,I,I,I,O,O,O,O,O] HT_.out HW_.out hHeld ?_
     refine pu_ 17 25 #[I,I,I,I,I,I,I,I,I,I,I,I,I,I,I,I,I,I,O,O,O,O,O,O,O,O,I,I,I,I,O,I,I,I,O,O,O,O,O] HT_.out ?_
     refine pu_ 18 26 #[I,I,I,I,I,I,I,I,I,I,I,I,I,I,I,I,I,I,I,O,O,O,O,O,O,O,I,I,I,I,O,I,I,I,O,O,O,O,O] HT_.out ?_
     refine pu_ 19 27 #[I,I,I,I,I,I,I,I,I,I,I,I,I,I,I,I,I,I,I,I,O,O,O,O,O,O,I,I,I,I,O,I,I,I,O,O,O,O,O] HT_.out ?_
     refine pu_ 20 28 #[I,I,I,I,I,I,I,I,I,I,I,I,I,I,I,I,I,I,I,I,I,O,O,O,O,O,I,I,I,I,O,I,I,I,O,O,O,O,O] HT_.out ?_
     refine ta_ 21 29 #[I,I,I,I,I,I,I,I,I,I,I,I,I,I,I,I,I,I,I,I,I,I,O,O,O,O,I,I,I,I,O,I,I,I,O,O,O,O,O] HT_.out HW_.out hHeld ?_
     refine gq (i:=22) (N:=some 30) #[I,I,I,I,I,I,I,I,I,I,I,I,I,I,I,I,I,I,I,I,I,I,I,O,O,O,I,I,I,I,O,I,I,I,O,O,O,O,O] rfl rfl (dD HT_.out (by kernel_rfl)) (by decide) (fun K hK=>?_)
     refine eX Tryz.func61 (by kernel_rfl) rfl #[.int .i64 Bp,.int .i64 3600] (by rfl) rfl rfl (by (try simp only [List.map_toArray,List.map_cons,List.map_nil]);first|done|rfl|(simp only [List.length_drop,List.length_take];rfl)) ?_
     with_reducible refine (bG.calls Bp 3600 Ci _ IE.out).mono ?_
     rintro e w' ⟨rfl,⟨nd,rfl⟩⟩
     refine ⟨_,rfl,?_⟩
     refine hK.out _ _ ⟨(ah Bh.out 0).trans rfl,(ah Bh.out 1).trans rfl,(ah Bh.out 2).trans rfl,(ah Bh.out 3).trans rfl,(ah Bh.out 4).trans rfl,(ah Bh.out 5).trans rfl⟩ (fun hHeld=>?_)
     clear hK K
     refine dW (a':=?_) ?_ ?_
     rotate_left
     ·show Act.put _ (some 30) _ = _
      simp only [Act.put,List.setIfInBounds_toArray,List.set_cons_zero,List.set_cons_succ,bJ,bM]
      rfl
     refine pu_ 23 31 #[I,I,I,I,I,I,I,I,I,I,I,I,I,I,I,I,I,I,I,I,I,I,I,I,O,O,I,I,I,I,O,I,I,I,O,O,O,O,O] HT_.out ?_
     refine pu_ 24 32 #[I,I,I,I,I,I,I,I,I,I,I,I,I,I,I,I,I,I,I,I,I,I,I,I,I,O,I,I,I,I,O,I,I,I,O,O,O,O,O] HT_.out ?_
     refine gq (i:=25) (N:=some 33) #[I,I,I,I,I,I,I,I,I,I,I,I,I,I,I,I,I,I,I,I,I,I,I,I,I,I,I,I,I,I,O,I,I,I,O,O,O,O,O] rfl rfl (dD HT_.out (by kernel_rfl)) (by decide) (fun K hK=>?_)
     refine eX Tryz.func60 (by kernel_rfl) rfl #[.bool (!Ci),.int .i64 7] (by rfl) rfl rfl (by (try simp only [List.map_toArray,List.map_cons,List.map_nil]);first|done|rfl|(simp only [List.length_drop,List.length_take];rfl)) ?_
     with_reducible refine (aI.calls (!Ci) 7 BX _ IG.out).mono ?_
     rintro e w' ⟨rfl,⟨nd,rfl⟩⟩
     refine ⟨_,rfl,?_⟩
     refine hK.out _ _ ⟨(ah Bh.out 0).trans rfl,(ah Bh.out 1).trans rfl,(ah Bh.out 2).trans rfl,(ah Bh.out 3).trans rfl,(ah Bh.out 4).trans rfl,(ah Bh.out 5).trans rfl⟩ (fun hHeld=>?_)
     clear hK K
     refine dW (a':=?_) ?_ ?_
     rotate_left
     ·show Act.put _ (some 33) _ = _
      simp only [Act.put,List.setIfInBounds_toArray,List.set_cons_zero,List.set_cons_succ,bJ,bM]
      rfl
     refine gq (i:=30) (N:=some 38) #[I,I,I,I,I,I,I,I,I,I,I,I,I,I,I,I,I,I,I,I,I,I,I,I,I,I,I,I,I,I,I,I,I,I,O,O,O,O,O] rfl rfl (dD HT_.out (by kernel_rfl)) (by decide) (fun K hK=>?_)
     refine eX Tryz.func60 (by kernel_rfl) rfl #[.bool ((Bf.length : Int) == 0),.int .i64 16] (by rfl) rfl rfl (by (try simp only [List.map_toArray,List.map_cons,List.map_nil]);first|done|rfl|(simp only [List.length_drop,List.length_take];rfl)) ?_
     with_reducible refine (aI.calls ((Bf.length : Int) == 0) 16 BS _ II.out).mono ?_
     rintro e w' ⟨rfl,⟨nd,rfl⟩⟩
     refine ⟨_,rfl,?_⟩
     refine hK.out _ _ ⟨(ah Bh.out 0).trans rfl,(ah Bh.out 1).trans rfl,(ah Bh.out 2).trans rfl,(ah Bh.out 3).trans rfl,(ah Bh.out 4).trans rfl,(ah Bh.out 5).trans rfl⟩ (fun hHeld=>?_)
     clear hK K
     refine dW (a':=?_) ?_ ?_
     rotate_left
     ·show Act.put _ (some 38) _ = _
      simp only [Act.put,List.setIfInBounds_toArray,List.set_cons_zero,List.set_cons_succ,bJ,bM]
      rfl
     refine gq (i:=34) (N:=some 42) #[I,I,I,I,I,I,I,I,I,I,I,I,I,I,I,I,I,I,I,I,I,I,I,I,I,I,I,I,I,I,I,I,I,I,I,O,O,O,O] rfl rfl (dD HT_.out (by kernel_rfl)) (by decide) (fun K hK=>?_)
     refine eX Tryz.func62 (by kernel_rfl) rfl #[.int .i64 (Bf.length : Int)] (by rfl) rfl rfl (by (try simp only [List.map_toArray,List.map_cons,List.map_nil]);first|done|rfl|(simp only [List.length_drop,List.length_take];rfl)) ?_
     with_reducible refine (bP.calls (Bf.length : Int) BZ _ IJ.out).mono ?_
     rintro e w' ⟨rfl,⟨nd,rfl⟩⟩
     refine ⟨_,rfl,?_⟩
     refine hK.out _ _ ⟨(ah Bh.out 0).trans rfl,(ah Bh.out 1).trans rfl,(ah Bh.out 2).trans rfl,(ah Bh.out 3).trans rfl,(ah Bh.out 4).trans rfl,(ah Bh.out 5).trans rfl⟩ (fun hHeld=>?_)
     clear hK K
     refine dW (a':=?_) ?_ ?_
     rotate_left
     ·show Act.put _ (some 42) _ = _
      simp only [Act.put,List.setIfInBounds_toArray,List.set_cons_zero,List.set_cons_succ,bJ,bM]
      rfl
     refine gq (i:=35) (N:=some 43) #[I,I,I,I,I,I,I,I,I,I,I,I,I,I,I,I,I,I,I,I,I,I,I,I,I,I,I,I,I,I,I,I,I,I,I,I,O,O,O] rfl rfl (dD HT_.out (by kernel_rfl)) (by decide) (fun K hK=>?_)
     refine eX Tryz.func60 (by kernel_rfl) rfl #[.bool BZ,.int .i64 18] (by rfl) rfl rfl (by (try simp only [List.map_toArray,List.map_cons,List.map_nil]);first|done|rfl|(simp only [List.length_drop,List.length_take];rfl)) ?_
     with_reducible refine (aI.calls BZ 18 BL _ IK.out).mono ?_
     rintro e w' ⟨rfl,⟨nd,rfl⟩⟩
     refine ⟨_,rfl,?_⟩
     refine hK.out _ _ ⟨(ah Bh.out 0).trans rfl,(ah Bh.out 1).trans rfl,(ah Bh.out 2).trans rfl,(ah Bh.out 3).trans rfl,(ah Bh.out 4).trans rfl,(ah Bh.out 5).trans rfl⟩ (fun hHeld=>?_)
     clear hK K
     refine dW (a':=?_) ?_ ?_
     rotate_left
     ·show Act.put _ (some 43) _ = _
      simp only [Act.put,List.setIfInBounds_toArray,List.set_cons_zero,List.set_cons_succ,bJ,bM]
      rfl
     refine gq (i:=36) (N:=some 44) #[I,I,I,I,I,I,I,I,I,I,I,I,I,I,I,I,I,I,I,I,I,I,I,I,I,I,I,I,I,I,I,I,I,I,I,I,I,O,O] rfl rfl (dD HT_.out (by kernel_rfl)) (by decide) (fun K hK=>?_)
     refine Kd.lG (Kd.int .i64) _ 72 ?hg (N:=44) ?hd (xs:=([BF,BX,BS,BL] : List Int)) (inner:=[.int .i64 BF,.int .i64 BX,.int .i64 BS,.int .i64 BL]) (ok:=fun _=>True) (okp:=fun _=>True) ?hr ?hp (fun _ hk=>hk) trivial (Below.refl _ _) (Nat.le_refl _) (by simp) ?_;(case hd=>rfl);(case hg=>rfl);(case hr=>first|(go_simp;done)|(go_simp;rfl));(case hp=>exact (dX.one (show Kd.M (Kd.int .i64) _ _ _ BF [.int .i64 BF] from rfl) (dX.one (show Kd.M (Kd.int .i64) _ _ _ BX [.int .i64 BX] from rfl) (dX.one (show Kd.M (Kd.int .i64) _ _ _ BS [.int .i64 BS] from rfl) (dX.one (show Kd.M (Kd.int .i64) _ _ _ BL [.int .i64 BL] from rfl) (dX.none _ _))))))
     intro v138 I8 DV hb hg_ hnew_
     clear hg_ hnew_
     (first|rw [← DU.out] at DV|(simp only [Int.reduceToNat] at DV;rw [← DU.out] at DV))
     have Cj:=Aside0.mk (Kd.iD DV (aM hb_))
     have Ck:=Aside0.mk (aN (g:=Bt) (o:=.cells #[.string Bq,.string Bo,.int .i64 Bl,.int .i64 Bp,.bool Br,.slice CS Bf.length Cb] 49 (0,0)) (bk_ Bh.out) hb)
     have Ct:=Aside0.mk (aK hb_ hb)
     clear Bh
     clear HB
     have DW:=Cj
     have Bh:=Ck
     have HB:=Ct
     clear Cj Ck Ct
     clear hb DV
     obtain ⟨GQ,GR,Fe⟩:=Kd.iE DW.out
     (first|subst Fe|(injection Fe with Fg GU Fh;have GV:=Fg.symm;have GX:=Fh.symm;clear Fg GU Fh;subst GV;subst GX))
     refine hK.out _ _ ⟨(ah Bh.out 0).trans rfl,(ah Bh.out 1).trans rfl,(ah Bh.out 2).trans rfl,(ah Bh.out 3).trans rfl,(ah Bh.out 4).trans rfl,(ah Bh.out 5).trans rfl⟩ (fun hHeld=>?_)
     clear hK K
     refine dW (a':=?_) ?_ ?_
     rotate_left
     ·show Act.put _ (some 44) _ = _
      simp only [Act.put,List.setIfInBounds_toArray,List.set_cons_zero,List.set_cons_succ,bJ,bM]
      rfl
     refine gq (i:=37) (N:=some 45) #[I,I,I,I,I,I,I,I,I,I,I,I,I,I,I,I,I,I,I,I,I,I,I,I,I,I,I,I,I,I,I,I,I,I,I,I,I,I,O] rfl rfl (dD HT_.out (by kernel_rfl)) (by decide) (fun K hK=>?_)
     refine eX Tryz.func59 (by kernel_rfl) rfl #[.slice GQ EP.length GR] (by rfl) rfl rfl (by (try simp only [List.map_toArray,List.map_cons,List.map_nil]);first|done|rfl|(simp only [List.length_drop,List.length_take];rfl)) ?_
     with_reducible refine (aQ.calls k _ _ EP BN _ ?CP ?CQ Im.out).mono ?_
     (case CP=>repeat (first|exact (Kd.fI DW.out).2.2|(with_reducible refine Kd.bD ?_ _)|(with_reducible refine Kd.bR ?_ _)|(with_reducible refine Kd.bZ ?_)))
     (case CQ=>exact (Kd.fI DW.out).2.1)
     rintro e w' ⟨rfl,⟨nd,rfl⟩⟩
     refine ⟨_,rfl,?_⟩
     refine hK.out _ _ ⟨(ah Bh.out 0).trans rfl,(ah Bh.out 1).trans rfl,(ah Bh.out 2).trans rfl,(ah Bh.out 3).trans rfl,(ah Bh.out 4).trans rfl,(ah Bh.out 5).trans rfl⟩ (fun hHeld=>?_)
     clear hK K
     refine dW (a':=?_) ?_ ?_
     rotate_left
     ·show Act.put _ (some 45) _ = _
      simp only [Act.put,List.setIfInBounds_toArray,List.set_cons_zero,List.set_cons_succ,bJ,bM]
      rfl
     refine pu_ 38 3 #[I,I,I,I,I,I,I,I,I,I,I,I,I,I,I,I,I,I,I,I,I,I,I,I,I,I,I,I,I,I,I,I,I,I,I,I,I,I,I] HT_.out ?_
     refine gP (fF HT_.out (by kernel_rfl)) ?_
     try go_wp2
     go_meet
     case rel=>exact ⟨_,(BN),(by first|rfl|(simp;done)|(simp [*];done)),H',⟨by first|omega|exact Nat.le_refl _⟩,⟨fun h0 => zn (A6.out) (A7.out) (by rw [← h0, ← DU.out]; exact Im.out)⟩,⟨by (with_reducible repeat (first|apply ay|apply aG|apply aD));exact Bh.out⟩,⟨hb_⟩⟩
  ·exact absurd (Option.some.inj (A4.out.symm.trans HNm.out)) c5
 case rest =>
  clear GN
  obtain ⟨kq,CU,rfl,HA,GY,HLbx,Bh,HB⟩:=hcut
  cases kq with
  | zero=>exact absurd HA.out (by simp [au.j0])
  | succ Io =>
   have H:=HA.out
   clear HA
   simp only [au.j0] at H
   by_cases c75 : CU = 0
   ·rw [if_pos c75] at H
    have c75b0 : (CU == 0) = true:=beq_iff_eq.mpr c75
    have c75b1 : (CU != 0) = false:=bne_eq_false_iff_eq.mpr c75
    clear c75
    have H':=Aside0.mk H
    clear H
    have Gq : wc.cell? ⟨Bt,0,none⟩ = some (.string Bq):=(ah Bh.out 0).trans rfl
    have Gr : wc.cell? ⟨Bt,1,none⟩ = some (.string Bo):=(ah Bh.out 1).trans rfl
    have Gs : wc.cell? ⟨Bt,2,none⟩ = some (.int .i64 Bl):=(ah Bh.out 2).trans rfl
    have Gt : wc.cell? ⟨Bt,3,none⟩ = some (.int .i64 Bp):=(ah Bh.out 3).trans rfl
    have Gu : wc.cell? ⟨Bt,4,none⟩ = some (.bool Br):=(ah Bh.out 4).trans rfl
    have Gv : wc.cell? ⟨Bt,5,none⟩ = some (.slice CS Bf.length Cb):=(ah Bh.out 5).trans rfl
    have Gw:=ak Bh.out 0
    have Gx:=ak Bh.out 1
    have Gy:=ak Bh.out 2
    have Gz:=ak Bh.out 3
    have GA:=ak Bh.out 4
    have GD:=ak Bh.out 5
    have HLb := Aside0.mk (HLbx.out (beq_iff_eq.mp c75b0))
    have EC := Aside0.mk (Nat.ne_of_lt (dh Bh.out) : Bt ≠ wc.heap.size)
    have GM := Aside0.mk HB.out.size
    have hmm := @run_makeMap Tryz.prog
    have hcy : (wc.alloc (Obj.map #[] 0)).cell? ⟨Bt,5,none⟩ = some (.slice CS Bf.length Cb) := (ah (aD Bh.out (Obj.map #[] 0)) 5).trans rfl
    go_wp2
    clear hmm hcy
    obtain ⟨mb, hmb⟩ : ∃ m, wc.heap.size = m := ⟨_, rfl⟩
    have HMB := Aside0.mk hmb
    rw [hmb] at EC GM ⊢
    clear hmb
    go_loopg [53] Io (fun kq v53 w'=>∃ (AZ : Int),v53 = .int .i64 AZ ∧ Aside0 (au.l0 kq Bf (Bf.length : Int) AZ = some r) ∧ Aside0 (kq ≤ Io) ∧ Aside0 (0 ≤ AZ) ∧ Aside0 (AZ = 0 → w'.ownsMap Tryz.prog 9 (plainElem (H := Unit) Tryz.prog 3) mb 0 (.map [])) ∧ Aside0 (w'.heap[Bt]? = some (.cells #[.string Bq,.string Bo,.int .i64 Bl,.int .i64 Bp,.bool Br,(.slice CS Bf.length Cb)] 49 (0,0))) ∧ Aside0 (Below w.heap.size w w'))
    case atStart=>exact ⟨(0),(by first|rfl|(simp;done)|(simp [*];done)),H',⟨Nat.le_refl _⟩,⟨Int.le_refl _⟩,⟨fun _ => HMB.out ▸ World.ownsMap_made _ _ _ _⟩,⟨by (with_reducible repeat (first|apply ay|apply aG|apply aD));exact Bh.out⟩,⟨hb_⟩⟩
    case round =>
     clear H'
     obtain ⟨AZ,rfl,HA,GZ,IL,HMp,Bh,HB⟩:=hrel
     cases gk with
     | zero=>exact absurd HA.out (by simp [au.l0])
     | succ k2 =>
      have H:=HA.out
      clear HA
      simp only [au.l0] at H
      by_cases EX : AZ < (Bf.length : Int)
      ·rw [if_pos EX] at H
       have c77b0 : decide (AZ < (Bf.length : Int)) = true:=decide_eq_true EX
       clear EX
       by_cases GI : 0 ≤ AZ
       ·rw [if_pos GI] at H
        have c78b0 : decide (0 ≤ AZ) = true:=decide_eq_true GI
        clear GI
        by_cases GJ : AZ < (Bf.length : Int)
        ·rw [if_pos GJ] at H
         have c79b0 : decide (AZ < (Bf.length : Int)) = true:=decide_eq_true GJ
         clear GJ
         have ES:=Aside0.mk H
         have HX0 := Aside0.mk (show AZ = 0 from by have h1 := of_decide_eq_true c79b0; have := IC.out; have := IL.out; omega)
         have HMM := Aside0.mk (HMp.out HX0.out)
         have HKey : Aside0 (keyOf Tryz.prog 9 (.string ((aj Bf AZ).f0)) = some (.string ((aj Bf AZ).f0).data.toList)) := ⟨keyOf_string_mk Tryz.underlying9 (by have := HSz.out; rw [HX0.out]; unfold maxLen; omega)⟩
         clear HMp
         clear H
         have ET : 0 ≤ (AZ : Int):=of_decide_eq_true (by first|(with_reducible assumption)|assumption)
         have EU : AZ < (Bf.length : Int):=of_decide_eq_true (by first|(with_reducible assumption)|assumption)
         obtain ⟨Cv,Bu,Bv,Bz,BD,BI,BJ,e167,CV,CW,CX,CY,CZ,C8,C9,Di,Dj,Dk,Dl,Dm,Dn⟩:=lM EY.out AZ ET EU
         cases e167
         replace CV:=(HB.out.cell (World.block_lt_of_cell? w _ CV)).trans CV
         replace CW:=(HB.out.cell (World.block_lt_of_cell? w _ CW)).trans CW
         replace CX:=(HB.out.cell (World.block_lt_of_cell? w _ CX)).trans CX
         replace CY:=(HB.out.cell (World.block_lt_of_cell? w _ CY)).trans CY
         replace CZ:=(HB.out.cell (World.block_lt_of_cell? w _ CZ)).trans CZ
         replace C8:=(HB.out.cell (World.block_lt_of_cell? w _ C8)).trans C8
         replace C9:=(HB.out.cell (World.block_lt_of_cell? w _ C9)).trans C9
         have Dp:=Aside0.mk Dj
         have Dq:=Aside0.mk Di
         clear Dj Di
         have Dr:=Aside0.mk Dl
         have Dt:=Aside0.mk Dk
         clear Dl Dk
         have Du:=Aside0.mk Dn
         have Dv:=Aside0.mk Dm
         clear Dn Dm
         replace ET:=eq_true ET
         replace EU:=eq_true EU
         go_upto_region 8 with (first|((with_reducible refine cZ (N:=6) rfl ?_);(try (refine iw (by rfl) ?_;dsimp only));refine dA ?hg (N:=6) ?hd (cs:=#[.string (⟨#[]⟩ : ByteArray),.string (⟨#[]⟩ : ByteArray),.slice none 0 0,.slice none 0 0,.int .i64 0,.int .i64 0,.slice none 0 0]) (t:=69) ?hr ?_;(case hd=>rfl);(case hg=>rfl);(case hr=>first|(go_simp;done)|(go_simp;rfl));intro Bj hg Dz hbox hb;have hMb := HMM.out.lt;have ED:=Aside0.mk (by rw [hg];exact Nat.ne_of_lt hMb : mb ≠ Bj);have MM:=Aside0.mk (pz HMM.out hb);clear hMb HMM;have Cj:=Aside0.mk (aN (g:=Bt) (o:=.cells #[.string Bq,.string Bo,.int .i64 Bl,.int .i64 Bp,.bool Br,.slice (some Cv) Bf.length Cb] 49 (0,0)) (bk_ Bh.out) hb);have Ck:=Aside0.mk (aK hb_ hb);have Ct:=Aside0.mk (hbox);have Dy:=Aside0.mk ((by rw [hg];exact (aM hb_) : w.heap.size ≤ Bj));have Ip:=Aside0.mk ((by rw [hg];exact (aM hb_) : w.heap.size ≤ Bj));have Iq:=Aside0.mk ((by rw [hg];exact Nat.ne_of_lt (dh (g:=Bt) (o:=.cells #[.string Bq,.string Bo,.int .i64 Bl,.int .i64 Bp,.bool Br,.slice (some Cv) Bf.length Cb] 49 (0,0)) (bk_ Bh.out)) : Bt ≠ Bj));have Ir:=Aside0.mk ((by rw [hg];exact Nat.ne_of_gt (dh (g:=Bt) (o:=.cells #[.string Bq,.string Bo,.int .i64 Bl,.int .i64 Bp,.bool Br,.slice (some Cv) Bf.length Cb] 49 (0,0)) (bk_ Bh.out)) : Bj ≠ Bt));clear Bh;clear HB;have Bh:=Cj;have HB:=Ck;have Bg:=Ct;have Iu:=Dy;have Iw:=Ip;have Bw:=Iq;have Cu:=Ir;clear Cj Ck Ct Dy Ip Iq Ir;clear hb hbox hg;have Fj:=Cu.out;have Fp:=Bw.out;have Eh : Dz.cell? ⟨Bj,0,none⟩ = some (.string (⟨#[]⟩ : ByteArray)):=(ah Bg.out 0).trans rfl;have Ei : Dz.cell? ⟨Bj,1,none⟩ = some (.string (⟨#[]⟩ : ByteArray)):=(ah Bg.out 1).trans rfl;have Ej : Dz.cell? ⟨Bj,2,none⟩ = some (.slice none 0 0):=(ah Bg.out 2).trans rfl;have El : Dz.cell? ⟨Bj,3,none⟩ = some (.slice none 0 0):=(ah Bg.out 3).trans rfl;have Em : Dz.cell? ⟨Bj,4,none⟩ = some (.int .i64 0):=(ah Bg.out 4).trans rfl;have En : Dz.cell? ⟨Bj,5,none⟩ = some (.int .i64 0):=(ah Bg.out 5).trans rfl;have Eo : Dz.cell? ⟨Bj,6,none⟩ = some (.slice none 0 0):=(ah Bg.out 6).trans rfl;have Ep:=ak Bg.out 0;have Er:=ak Bg.out 1;have Es:=ak Bg.out 2;have Et:=ak Bg.out 3;have Eu:=ak Bg.out 4;have Ew:=ak Bg.out 5;have Ey:=ak Bg.out 6))
         clear Fj Fp Eh Ep Ei Er Ej Es El Et Em Eu En Ew Eo Ey
         have Cj : Aside0 ((((((((Dz.setCell ⟨Bj,0,none⟩ (.string ((aj Bf AZ).f0))).setCell ⟨Bj,1,none⟩ (.string ((aj Bf AZ).f1))).setCell ⟨Bj,2,none⟩ (.slice Bu ((aj Bf AZ).f2).length Bv)).setCell ⟨Bj,3,none⟩ (.slice Bz ((aj Bf AZ).f3).length BD)).setCell ⟨Bj,4,none⟩ (.int .i64 ((aj Bf AZ).f4))).setCell ⟨Bj,5,none⟩ (.int .i64 ((aj Bf AZ).f5))).setCell ⟨Bj,6,none⟩ (.slice BI ((aj Bf AZ).f6).length BJ)).heap[Bt]? = some (.cells #[.string Bq,.string Bo,.int .i64 Bl,.int .i64 Bp,.bool Br,.slice (some Cv) Bf.length Cb] 49 (0,0))):=⟨by (with_reducible repeat (first|apply ay|apply aG|apply aD));refine bL ?_ Bw.out _;(with_reducible repeat (first|apply ay|apply aG|apply aD));refine bL ?_ Bw.out _;(with_reducible repeat (first|apply ay|apply aG|apply aD));refine bL ?_ Bw.out _;(with_reducible repeat (first|apply ay|apply aG|apply aD));refine bL ?_ Bw.out _;(with_reducible repeat (first|apply ay|apply aG|apply aD));refine bL ?_ Bw.out _;(with_reducible repeat (first|apply ay|apply aG|apply aD));refine bL ?_ Bw.out _;(with_reducible repeat (first|apply ay|apply aG|apply aD));refine bL ?_ Bw.out _;(with_reducible repeat (first|apply ay|apply aG|apply aD));exact Bh.out⟩
         have Ck : Aside0 ((((((((Dz.setCell ⟨Bj,0,none⟩ (.string ((aj Bf AZ).f0))).setCell ⟨Bj,1,none⟩ (.string ((aj Bf AZ).f1))).setCell ⟨Bj,2,none⟩ (.slice Bu ((aj Bf AZ).f2).length Bv)).setCell ⟨Bj,3,none⟩ (.slice Bz ((aj Bf AZ).f3).length BD)).setCell ⟨Bj,4,none⟩ (.int .i64 ((aj Bf AZ).f4))).setCell ⟨Bj,5,none⟩ (.int .i64 ((aj Bf AZ).f5))).setCell ⟨Bj,6,none⟩ (.slice BI ((aj Bf AZ).f6).length BJ)).heap[Bj]? = some (.cells #[.string ((aj Bf AZ).f0),.string ((aj Bf AZ).f1),.slice Bu ((aj Bf AZ).f2).length Bv,.slice Bz ((aj Bf AZ).f3).length BD,.int .i64 ((aj Bf AZ).f4),.int .i64 ((aj Bf AZ).f5),.slice BI ((aj Bf AZ).f6).length BJ] 69 (0,0))):=⟨by (with_reducible repeat (first|apply ay|apply aG|apply aD));refine bN (cs:=#[.string ((aj Bf AZ).f0),.string ((aj Bf AZ).f1),.slice Bu ((aj Bf AZ).f2).length Bv,.slice Bz ((aj Bf AZ).f3).length BD,.int .i64 ((aj Bf AZ).f4),.int .i64 ((aj Bf AZ).f5),.slice none 0 0]) ?_ 6 _ rfl;(with_reducible repeat (first|apply ay|apply aG|apply aD));refine bN (cs:=#[.string ((aj Bf AZ).f0),.string ((aj Bf AZ).f1),.slice Bu ((aj Bf AZ).f2).length Bv,.slice Bz ((aj Bf AZ).f3).length BD,.int .i64 ((aj Bf AZ).f4),.int .i64 0,.slice none 0 0]) ?_ 5 _ rfl;(with_reducible repeat (first|apply ay|apply aG|apply aD));refine bN (cs:=#[.string ((aj Bf AZ).f0),.string ((aj Bf AZ).f1),.slice Bu ((aj Bf AZ).f2).length Bv,.slice Bz ((aj Bf AZ).f3).length BD,.int .i64 0,.int .i64 0,.slice none 0 0]) ?_ 4 _ rfl;(with_reducible repeat (first|apply ay|apply aG|apply aD));refine bN (cs:=#[.string ((aj Bf AZ).f0),.string ((aj Bf AZ).f1),.slice Bu ((aj Bf AZ).f2).length Bv,.slice none 0 0,.int .i64 0,.int .i64 0,.slice none 0 0]) ?_ 3 _ rfl;(with_reducible repeat (first|apply ay|apply aG|apply aD));refine bN (cs:=#[.string ((aj Bf AZ).f0),.string ((aj Bf AZ).f1),.slice none 0 0,.slice none 0 0,.int .i64 0,.int .i64 0,.slice none 0 0]) ?_ 2 _ rfl;(with_reducible repeat (first|apply ay|apply aG|apply aD));refine bN (cs:=#[.string ((aj Bf AZ).f0),.string (⟨#[]⟩ : ByteArray),.slice none 0 0,.slice none 0 0,.int .i64 0,.int .i64 0,.slice none 0 0]) ?_ 1 _ rfl;(with_reducible repeat (first|apply ay|apply aG|apply aD));refine bN (cs:=#[.string (⟨#[]⟩ : ByteArray),.string (⟨#[]⟩ : ByteArray),.slice none 0 0,.slice none 0 0,.int .i64 0,.int .i64 0,.slice none 0 0]) ?_ 0 _ rfl;(with_reducible repeat (first|apply ay|apply aG|apply aD));exact Bg.out⟩
         have Ct : Aside0 (Below w.heap.size w (((((((Dz.setCell ⟨Bj,0,none⟩ (.string ((aj Bf AZ).f0))).setCell ⟨Bj,1,none⟩ (.string ((aj Bf AZ).f1))).setCell ⟨Bj,2,none⟩ (.slice Bu ((aj Bf AZ).f2).length Bv)).setCell ⟨Bj,3,none⟩ (.slice Bz ((aj Bf AZ).f3).length BD)).setCell ⟨Bj,4,none⟩ (.int .i64 ((aj Bf AZ).f4))).setCell ⟨Bj,5,none⟩ (.int .i64 ((aj Bf AZ).f5))).setCell ⟨Bj,6,none⟩ (.slice BI ((aj Bf AZ).f6).length BJ))):=⟨hb_⟩
         have Dy : Aside0 (World.ownsMap (((((((Dz.setCell ⟨Bj,0,none⟩ (.string ((aj Bf AZ).f0))).setCell ⟨Bj,1,none⟩ (.string ((aj Bf AZ).f1))).setCell ⟨Bj,2,none⟩ (.slice Bu ((aj Bf AZ).f2).length Bv)).setCell ⟨Bj,3,none⟩ (.slice Bz ((aj Bf AZ).f3).length BD)).setCell ⟨Bj,4,none⟩ (.int .i64 ((aj Bf AZ).f4))).setCell ⟨Bj,5,none⟩ (.int .i64 ((aj Bf AZ).f5))).setCell ⟨Bj,6,none⟩ (.slice BI ((aj Bf AZ).f6).length BJ)) Tryz.prog 9 (plainElem (H := Unit) Tryz.prog 3) mb 0 (.map [])):=⟨by (iterate 7 (refine rJ ?_ ED.out _ _)); exact MM.out⟩
         generalize (((((((Dz.setCell ⟨Bj,0,none⟩ (.string ((aj Bf AZ).f0))).setCell ⟨Bj,1,none⟩ (.string ((aj Bf AZ).f1))).setCell ⟨Bj,2,none⟩ (.slice Bu ((aj Bf AZ).f2).length Bv)).setCell ⟨Bj,3,none⟩ (.slice Bz ((aj Bf AZ).f3).length BD)).setCell ⟨Bj,4,none⟩ (.int .i64 ((aj Bf AZ).f4))).setCell ⟨Bj,5,none⟩ (.int .i64 ((aj Bf AZ).f5))).setCell ⟨Bj,6,none⟩ (.slice BI ((aj Bf AZ).f6).length BJ)) = G6 at Cj Ck Ct Dy ⊢
         have Bh:=Cj
         have Bg:=Ck
         have HB:=Ct
         clear MM
         have MM:=Dy
         clear Cj Ck Ct Dy
         have z0 : G6.cell? ⟨Bj,0,none⟩ = some (.string ((aj Bf AZ).f0)):=(ah Bg.out 0).trans rfl
         go_upto_region 9 with (first|(at_lookup; refine wpList_lookup_own_int _ rfl _ _ 129 rfl 9 3 .i64 sK Tryz.underlying129 Tryz.underlying3 (yE _) mb 0 _ rfl MM.out _ _ rfl HKey.out ?_; intro c hat hwc; have hc : c = 0 := tN hat.symm; subst hc; clear hat hwc)|(at_mapUpdate; refine wpList_mapUpdate_own _ rfl _ _ _ 129 rfl 9 3 sK Tryz.underlying129 _ mb 0 _ rfl MM.out (by unfold maxLen; omega) _ (.int .i64 1) _ rfl (by first | rfl | exact congrArg (Value.int .i64) (by decide)) HKey.out _ [] (plainElem_int Tryz.underlying3 (by decide)) ?_; intro w3 hown3 hg3; have Cj:=Aside0.mk (moved hg3 Bh.out EC.out); have Ck:=Aside0.mk (moved hg3 Bg.out (Ne.symm ED.out)); have Ct:=Aside0.mk (Below.grown HB.out hg3 (aM HB.out) (fun j hj => by cases hj; exact GM.out)); have ho_:=xP hown3 HKey.out (atKey_put_same isMap_empty (by simp [WideAt.IsKeyLit]) _ _); clear Bh Bg HB hown3 hg3 MM z0; have Bh:=Cj; have Bg:=Ck; have HB:=Ct; clear Cj Ck Ct))
         obtain ⟨om,hom,hlk⟩:=ho_
         have BM:=Aside0.mk hom
         have HLK:=Aside0.mk hlk
         clear hom hlk
         (try simp only [Act.put,List.setIfInBounds_toArray,List.set_cons_zero,List.set_cons_succ])
         go_cut [7] (fun v7 wc=>∃ (kq : Nat) (Cw : Int),v7 = .int .i64 Cw ∧ Aside0 (au.j2 kq Cw Bf (Bf.length : Int) AZ ((aj Bf AZ).f0) ((aj Bf AZ).f1) ((aj Bf AZ).f2) ((aj Bf AZ).f3) ((aj Bf AZ).f4) ((aj Bf AZ).f5) ((aj Bf AZ).f6) = some r) ∧ Aside0 (kq ≤ k2) ∧ Aside0 (wc.heap[Bt]? = some (.cells #[.string Bq,.string Bo,.int .i64 Bl,.int .i64 Bp,.bool Br,(.slice (some Cv) Bf.length Cb)] 49 (0,0))) ∧ Aside0 (wc.heap[Bj]? = some (.cells #[.string ((aj Bf AZ).f0),.string ((aj Bf AZ).f1),(.slice Bu ((aj Bf AZ).f2).length Bv),(.slice Bz ((aj Bf AZ).f3).length BD),.int .i64 ((aj Bf AZ).f4),.int .i64 ((aj Bf AZ).f5),(.slice BI ((aj Bf AZ).f6).length BJ)] 69 (0,0))) ∧ Aside0 (Below w.heap.size w wc))
         case first =>
          have H:=ES.out
          clear ES
          replace H:=Option.bind_eq_some_iff.mp H
          obtain ⟨Dw,Fq,H⟩:=H
          replace H : ((aI.f (!Dw) 13).bind fun Bn=>((aI.f (decide (1 > 1)) 8).bind fun t171=>((bE.f k2 ((aj Bf AZ).f1)).bind fun Cz=>((aI.f (!Cz) 6).bind fun t173=>((bP.f (((aj Bf AZ).f2).length : Int)).bind fun Cm=>(if Cm = true then ((aI.f true 18).bind fun t175=>((bG.f ((aj Bf AZ).f4) 64000).bind fun Cn=>(if Cn = true then ((bG.f ((aj Bf AZ).f5) 1048576).bind fun Co=>((aI.f (!Co) 7).bind fun Cq=>((aQ.f k2 (([Bn,t171,t173,t175,Cq] : List Int))).bind fun t182=>(au.j2 k2 t182 Bf (Bf.length : Int) AZ ((aj Bf AZ).f0) ((aj Bf AZ).f1) ((aj Bf AZ).f2) ((aj Bf AZ).f3) ((aj Bf AZ).f4) ((aj Bf AZ).f5) ((aj Bf AZ).f6))))) else ((aI.f true 7).bind fun t183=>((aQ.f k2 (([Bn,t171,t173,t175,t183] : List Int))).bind fun Cr=>(au.j2 k2 Cr Bf (Bf.length : Int) AZ ((aj Bf AZ).f0) ((aj Bf AZ).f1) ((aj Bf AZ).f2) ((aj Bf AZ).f3) ((aj Bf AZ).f4) ((aj Bf AZ).f5) ((aj Bf AZ).f6))))))) else ((bP.f (((aj Bf AZ).f3).length : Int)).bind fun Ca=>(if Ca = true then ((aI.f true 18).bind fun BO=>((bG.f ((aj Bf AZ).f4) 64000).bind fun Cc=>(if Cc = true then ((bG.f ((aj Bf AZ).f5) 1048576).bind fun Ce=>((aI.f (!Ce) 7).bind fun Cg=>((aQ.f k2 (([Bn,t171,t173,BO,Cg] : List Int))).bind fun t196=>(au.j2 k2 t196 Bf (Bf.length : Int) AZ ((aj Bf AZ).f0) ((aj Bf AZ).f1) ((aj Bf AZ).f2) ((aj Bf AZ).f3) ((aj Bf AZ).f4) ((aj Bf AZ).f5) ((aj Bf AZ).f6))))) else ((aI.f true 7).bind fun Ch=>((aQ.f k2 (([Bn,t171,t173,BO,Ch] : List Int))).bind fun t201=>(au.j2 k2 t201 Bf (Bf.length : Int) AZ ((aj Bf AZ).f0) ((aj Bf AZ).f1) ((aj Bf AZ).f2) ((aj Bf AZ).f3) ((aj Bf AZ).f4) ((aj Bf AZ).f5) ((aj Bf AZ).f6))))))) else ((bP.f (((aj Bf AZ).f6).length : Int)).bind fun BU=>((aI.f BU 18).bind fun t203=>((bG.f ((aj Bf AZ).f4) 64000).bind fun BP=>(if BP = true then ((bG.f ((aj Bf AZ).f5) 1048576).bind fun BG=>((aI.f (!BG) 7).bind fun t206=>((aQ.f k2 (([Bn,t171,t173,t203,t206] : List Int))).bind fun t210=>(au.j2 k2 t210 Bf (Bf.length : Int) AZ ((aj Bf AZ).f0) ((aj Bf AZ).f1) ((aj Bf AZ).f2) ((aj Bf AZ).f3) ((aj Bf AZ).f4) ((aj Bf AZ).f5) ((aj Bf AZ).f6))))) else ((aI.f true 7).bind fun BQ=>((aQ.f k2 (([Bn,t171,t173,t203,BQ] : List Int))).bind fun BR=>(au.j2 k2 BR Bf (Bf.length : Int) AZ ((aj Bf AZ).f0) ((aj Bf AZ).f1) ((aj Bf AZ).f2) ((aj Bf AZ).f3) ((aj Bf AZ).f4) ((aj Bf AZ).f5) ((aj Bf AZ).f6)))))))))))))))) = some r:=H
          have IQ:=Aside0.mk Fq
          clear Fq
          replace H:=Option.bind_eq_some_iff.mp H
          obtain ⟨Bn,Fu,H⟩:=H
          replace H : ((aI.f (decide (1 > 1)) 8).bind fun t171=>((bE.f k2 ((aj Bf AZ).f1)).bind fun Cz=>((aI.f (!Cz) 6).bind fun t173=>((bP.f (((aj Bf AZ).f2).length : Int)).bind fun Cm=>(if Cm = true then ((aI.f true 18).bind fun t175=>((bG.f ((aj Bf AZ).f4) 64000).bind fun Cn=>(if Cn = true then ((bG.f ((aj Bf AZ).f5) 1048576).bind fun Co=>((aI.f (!Co) 7).bind fun Cq=>((aQ.f k2 (([Bn,t171,t173,t175,Cq] : List Int))).bind fun t182=>(au.j2 k2 t182 Bf (Bf.length : Int) AZ ((aj Bf AZ).f0) ((aj Bf AZ).f1) ((aj Bf AZ).f2) ((aj Bf AZ).f3) ((aj Bf AZ).f4) ((aj Bf AZ).f5) ((aj Bf AZ).f6))))) else ((aI.f true 7).bind fun t183=>((aQ.f k2 (([Bn,t171,t173,t175,t183] : List Int))).bind fun Cr=>(au.j2 k2 Cr Bf (Bf.length : Int) AZ ((aj Bf AZ).f0) ((aj Bf AZ).f1) ((aj Bf AZ).f2) ((aj Bf AZ).f3) ((aj Bf AZ).f4) ((aj Bf AZ).f5) ((aj Bf AZ).f6))))))) else ((bP.f (((aj Bf AZ).f3).length : Int)).bind fun Ca=>(if Ca = true then ((aI.f true 18).bind fun BO=>((bG.f ((aj Bf AZ).f4) 64000).bind fun Cc=>(if Cc = true then ((bG.f ((aj Bf AZ).f5) 1048576).bind fun Ce=>((aI.f (!Ce) 7).bind fun Cg=>((aQ.f k2 (([Bn,t171,t173,BO,Cg] : List Int))).bind fun t196=>(au.j2 k2 t196 Bf (Bf.length : Int) AZ ((aj Bf AZ).f0) ((aj Bf AZ).f1) ((aj Bf AZ).f2) ((aj Bf AZ).f3) ((aj Bf AZ).f4) ((aj Bf AZ).f5) ((aj Bf AZ).f6))))) else ((aI.f true 7).bind fun Ch=>((aQ.f k2 (([Bn,t171,t173,BO,Ch] : List Int))).bind fun t201=>(au.j2 k2 t201 Bf (Bf.length : Int) AZ ((aj Bf AZ).f0) ((aj Bf AZ).f1) ((aj Bf AZ).f2) ((aj Bf AZ).f3) ((aj Bf AZ).f4) ((aj Bf AZ).f5) ((aj Bf AZ).f6))))))) else ((bP.f (((aj Bf AZ).f6).length : Int)).bind fun BU=>((aI.f BU 18).bind fun t203=>((bG.f ((aj Bf AZ).f4) 64000).bind fun BP=>(if BP = true then ((bG.f ((aj Bf AZ).f5) 1048576).bind fun BG=>((aI.f (!BG) 7).bind fun t206=>((aQ.f k2 (([Bn,t171,t173,t203,t206] : List Int))).bind fun t210=>(au.j2 k2 t210 Bf (Bf.length : Int) AZ ((aj Bf AZ).f0) ((aj Bf AZ).f1) ((aj Bf AZ).f2) ((aj Bf AZ).f3) ((aj Bf AZ).f4) ((aj Bf AZ).f5) ((aj Bf AZ).f6))))) else ((aI.f true 7).bind fun BQ=>((aQ.f k2 (([Bn,t171,t173,t203,BQ] : List Int))).bind fun BR=>(au.j2 k2 BR Bf (Bf.length : Int) AZ ((aj Bf AZ).f0) ((aj Bf AZ).f1) ((aj Bf AZ).f2) ((aj Bf AZ).f3) ((aj Bf AZ).f4) ((aj Bf AZ).f5) ((aj Bf AZ).f6))))))))))))))) = some r:=H
          have IU:=Aside0.mk Fu
          clear Fu
          replace H:=Option.bind_eq_some_iff.mp H
          obtain ⟨t171,Fv,H⟩:=H
          replace H : ((bE.f k2 ((aj Bf AZ).f1)).bind fun Cz=>((aI.f (!Cz) 6).bind fun t173=>((bP.f (((aj Bf AZ).f2).length : Int)).bind fun Cm=>(if Cm = true then ((aI.f true 18).bind fun t175=>((bG.f ((aj Bf AZ).f4) 64000).bind fun Cn=>(if Cn = true then ((bG.f ((aj Bf AZ).f5) 1048576).bind fun Co=>((aI.f (!Co) 7).bind fun Cq=>((aQ.f k2 (([Bn,t171,t173,t175,Cq] : List Int))).bind fun t182=>(au.j2 k2 t182 Bf (Bf.length : Int) AZ ((aj Bf AZ).f0) ((aj Bf AZ).f1) ((aj Bf AZ).f2) ((aj Bf AZ).f3) ((aj Bf AZ).f4) ((aj Bf AZ).f5) ((aj Bf AZ).f6))))) else ((aI.f true 7).bind fun t183=>((aQ.f k2 (([Bn,t171,t173,t175,t183] : List Int))).bind fun Cr=>(au.j2 k2 Cr Bf (Bf.length : Int) AZ ((aj Bf AZ).f0) ((aj Bf AZ).f1) ((aj Bf AZ).f2) ((aj Bf AZ).f3) ((aj Bf AZ).f4) ((aj Bf AZ).f5) ((aj Bf AZ).f6))))))) else ((bP.f (((aj Bf AZ).f3).length : Int)).bind fun Ca=>(if Ca = true then ((aI.f true 18).bind fun BO=>((bG.f ((aj Bf AZ).f4) 64000).bind fun Cc=>(if Cc = true then ((bG.f ((aj Bf AZ).f5) 1048576).bind fun Ce=>((aI.f (!Ce) 7).bind fun Cg=>((aQ.f k2 (([Bn,t171,t173,BO,Cg] : List Int))).bind fun t196=>(au.j2 k2 t196 Bf (Bf.length : Int) AZ ((aj Bf AZ).f0) ((aj Bf AZ).f1) ((aj Bf AZ).f2) ((aj Bf AZ).f3) ((aj Bf AZ).f4) ((aj Bf AZ).f5) ((aj Bf AZ).f6))))) else ((aI.f true 7).bind fun Ch=>((aQ.f k2 (([Bn,t171,t173,BO,Ch] : List Int))).bind fun t201=>(au.j2 k2 t201 Bf (Bf.length : Int) AZ ((aj Bf AZ).f0) ((aj Bf AZ).f1) ((aj Bf AZ).f2) ((aj Bf AZ).f3) ((aj Bf AZ).f4) ((aj Bf AZ).f5) ((aj Bf AZ).f6))))))) else ((bP.f (((aj Bf AZ).f6).length : Int)).bind fun BU=>((aI.f BU 18).bind fun t203=>((bG.f ((aj Bf AZ).f4) 64000).bind fun BP=>(if BP = true then ((bG.f ((aj Bf AZ).f5) 1048576).bind fun BG=>((aI.f (!BG) 7).bind fun t206=>((aQ.f k2 (([Bn,t171,t173,t203,t206] : List Int))).bind fun t210=>(au.j2 k2 t210 Bf (Bf.length : Int) AZ ((aj Bf AZ).f0) ((aj Bf AZ).f1) ((aj Bf AZ).f2) ((aj Bf AZ).f3) ((aj Bf AZ).f4) ((aj Bf AZ).f5) ((aj Bf AZ).f6))))) else ((aI.f true 7).bind fun BQ=>((aQ.f k2 (([Bn,t171,t173,t203,BQ] : List Int))).bind fun BR=>(au.j2 k2 BR Bf (Bf.length : Int) AZ ((aj Bf AZ).f0) ((aj Bf AZ).f1) ((aj Bf AZ).f2) ((aj Bf AZ).f3) ((aj Bf AZ).f4) ((aj Bf AZ).f5) ((aj Bf AZ).f6)))))))))))))) = some r:=H
          have IV:=Aside0.mk Fv
          clear Fv
          replace H:=Option.bind_eq_some_iff.mp H
          obtain ⟨Cz,Fw,H⟩:=H
          replace H : ((aI.f (!Cz) 6).bind fun t173=>((bP.f (((aj Bf AZ).f2).length : Int)).bind fun Cm=>(if Cm = true then ((aI.f true 18).bind fun t175=>((bG.f ((aj Bf AZ).f4) 64000).bind fun Cn=>(if Cn = true then ((bG.f ((aj Bf AZ).f5) 1048576).bind fun Co=>((aI.f (!Co) 7).bind fun Cq=>((aQ.f k2 (([Bn,t171,t173,t175,Cq] : List Int))).bind fun t182=>(au.j2 k2 t182 Bf (Bf.length : Int) AZ ((aj Bf AZ).f0) ((aj Bf AZ).f1) ((aj Bf AZ).f2) ((aj Bf AZ).f3) ((aj Bf AZ).f4) ((aj Bf AZ).f5) ((aj Bf AZ).f6))))) else ((aI.f true 7).bind fun t183=>((aQ.f k2 (([Bn,t171,t173,t175,t183] : List Int))).bind fun Cr=>(au.j2 k2 Cr Bf (Bf.length : Int) AZ ((aj Bf AZ).f0) ((aj Bf AZ).f1) ((aj Bf AZ).f2) ((aj Bf AZ).f3) ((aj Bf AZ).f4) ((aj Bf AZ).f5) ((aj Bf AZ).f6))))))) else ((bP.f (((aj Bf AZ).f3).length : Int)).bind fun Ca=>(if Ca = true then ((aI.f true 18).bind fun BO=>((bG.f ((aj Bf AZ).f4) 64000).bind fun Cc=>(if Cc = true then ((bG.f ((aj Bf AZ).f5) 1048576).bind fun Ce=>((aI.f (!Ce) 7).bind fun Cg=>((aQ.f k2 (([Bn,t171,t173,BO,Cg] : List Int))).bind fun t196=>(au.j2 k2 t196 Bf (Bf.length : Int) AZ ((aj Bf AZ).f0) ((aj Bf AZ).f1) ((aj Bf AZ).f2) ((aj Bf AZ).f3) ((aj Bf AZ).f4) ((aj Bf AZ).f5) ((aj Bf AZ).f6))))) else ((aI.f true 7).bind fun Ch=>((aQ.f k2 (([Bn,t171,t173,BO,Ch] : List Int))).bind fun t201=>(au.j2 k2 t201 Bf (Bf.length : Int) AZ ((aj Bf AZ).f0) ((aj Bf AZ).f1) ((aj Bf AZ).f2) ((aj Bf AZ).f3) ((aj Bf AZ).f4) ((aj Bf AZ).f5) ((aj Bf AZ).f6))))))) else ((bP.f (((aj Bf AZ).f6).length : Int)).bind fun BU=>((aI.f BU 18).bind fun t203=>((bG.f ((aj Bf AZ).f4) 64000).bind fun BP=>(if BP = true then ((bG.f ((aj Bf AZ).f5) 1048576).bind fun BG=>((aI.f (!BG) 7).bind fun t206=>((aQ.f k2 (([Bn,t171,t173,t203,t206] : List Int))).bind fun t210=>(au.j2 k2 t210 Bf (Bf.length : Int) AZ ((aj Bf AZ).f0) ((aj Bf AZ).f1) ((aj Bf AZ).f2) ((aj Bf AZ).f3) ((aj Bf AZ).f4) ((aj Bf AZ).f5) ((aj Bf AZ).f6))))) else ((aI.f true 7).bind fun BQ=>((aQ.f k2 (([Bn,t171,t173,t203,BQ] : List Int))).bind fun BR=>(au.j2 k2 BR Bf (Bf.length : Int) AZ ((aj Bf AZ).f0) ((aj Bf AZ).f1) ((aj Bf AZ).f2) ((aj Bf AZ).f3) ((aj Bf AZ).f4) ((aj Bf AZ).f5) ((aj Bf AZ).f6))))))))))))) = some r:=H
          have IW:=Aside0.mk Fw
          clear Fw
          replace H:=Option.bind_eq_some_iff.mp H
          obtain ⟨t173,Fx,H⟩:=H
          replace H : ((bP.f (((aj Bf AZ).f2).length : Int)).bind fun Cm=>(if Cm = true then ((aI.f true 18).bind fun t175=>((bG.f ((aj Bf AZ).f4) 64000).bind fun Cn=>(if Cn = true then ((bG.f ((aj Bf AZ).f5) 1048576).bind fun Co=>((aI.f (!Co) 7).bind fun Cq=>((aQ.f k2 (([Bn,t171,t173,t175,Cq] : List Int))).bind fun t182=>(au.j2 k2 t182 Bf (Bf.length : Int) AZ ((aj Bf AZ).f0) ((aj Bf AZ).f1) ((aj Bf AZ).f2) ((aj Bf AZ).f3) ((aj Bf AZ).f4) ((aj Bf AZ).f5) ((aj Bf AZ).f6))))) else ((aI.f true 7).bind fun t183=>((aQ.f k2 (([Bn,t171,t173,t175,t183] : List Int))).bind fun Cr=>(au.j2 k2 Cr Bf (Bf.length : Int) AZ ((aj Bf AZ).f0) ((aj Bf AZ).f1) ((aj Bf AZ).f2) ((aj Bf AZ).f3) ((aj Bf AZ).f4) ((aj Bf AZ).f5) ((aj Bf AZ).f6))))))) else ((bP.f (((aj Bf AZ).f3).length : Int)).bind fun Ca=>(if Ca = true then ((aI.f true 18).bind fun BO=>((bG.f ((aj Bf AZ).f4) 64000).bind fun Cc=>(if Cc = true then ((bG.f ((aj Bf AZ).f5) 1048576).bind fun Ce=>((aI.f (!Ce) 7).bind fun Cg=>((aQ.f k2 (([Bn,t171,t173,BO,Cg] : List Int))).bind fun t196=>(au.j2 k2 t196 Bf (Bf.length : Int) AZ ((aj Bf AZ).f0) ((aj Bf AZ).f1) ((aj Bf AZ).f2) ((aj Bf AZ).f3) ((aj Bf AZ).f4) ((aj Bf AZ).f5) ((aj Bf AZ).f6))))) else ((aI.f true 7).bind fun Ch=>((aQ.f k2 (([Bn,t171,t173,BO,Ch] : List Int))).bind fun t201=>(au.j2 k2 t201 Bf (Bf.length : Int) AZ ((aj Bf AZ).f0) ((aj Bf AZ).f1) ((aj Bf AZ).f2) ((aj Bf AZ).f3) ((aj Bf AZ).f4) ((aj Bf AZ).f5) ((aj Bf AZ).f6))))))) else ((bP.f (((aj Bf AZ).f6).length : Int)).bind fun BU=>((aI.f BU 18).bind fun t203=>((bG.f ((aj Bf AZ).f4) 64000).bind fun BP=>(if BP = true then ((bG.f ((aj Bf AZ).f5) 1048576).bind fun BG=>((aI.f (!BG) 7).bind fun t206=>((aQ.f k2 (([Bn,t171,t173,t203,t206] : List Int))).bind fun t210=>(au.j2 k2 t210 Bf (Bf.length : Int) AZ ((aj Bf AZ).f0) ((aj Bf AZ).f1) ((aj Bf AZ).f2) ((aj Bf AZ).f3) ((aj Bf AZ).f4) ((aj Bf AZ).f5) ((aj Bf AZ).f6))))) else ((aI.f true 7).bind fun BQ=>((aQ.f k2 (([Bn,t171,t173,t203,BQ] : List Int))).bind fun BR=>(au.j2 k2 BR Bf (Bf.length : Int) AZ ((aj Bf AZ).f0) ((aj Bf AZ).f1) ((aj Bf AZ).f2) ((aj Bf AZ).f3) ((aj Bf AZ).f4) ((aj Bf AZ).f5) ((aj Bf AZ).f6)))))))))))) = some r:=H
          have IX:=Aside0.mk Fx
          clear Fx
          replace H:=Option.bind_eq_some_iff.mp H
          obtain ⟨Cm,Fy,H⟩:=H
          replace H : (if Cm = true then ((aI.f true 18).bind fun t175=>((bG.f ((aj Bf AZ).f4) 64000).bind fun Cn=>(if Cn = true then ((bG.f ((aj Bf AZ).f5) 1048576).bind fun Co=>((aI.f (!Co) 7).bind fun Cq=>((aQ.f k2 (([Bn,t171,t173,t175,Cq] : List Int))).bind fun t182=>(au.j2 k2 t182 Bf (Bf.length : Int) AZ ((aj Bf AZ).f0) ((aj Bf AZ).f1) ((aj Bf AZ).f2) ((aj Bf AZ).f3) ((aj Bf AZ).f4) ((aj Bf AZ).f5) ((aj Bf AZ).f6))))) else ((aI.f true 7).bind fun t183=>((aQ.f k2 (([Bn,t171,t173,t175,t183] : List Int))).bind fun Cr=>(au.j2 k2 Cr Bf (Bf.length : Int) AZ ((aj Bf AZ).f0) ((aj Bf AZ).f1) ((aj Bf AZ).f2) ((aj Bf AZ).f3) ((aj Bf AZ).f4) ((aj Bf AZ).f5) ((aj Bf AZ).f6))))))) else ((bP.f (((aj Bf AZ).f3).length : Int)).bind fun Ca=>(if Ca = true then ((aI.f true 18).bind fun BO=>((bG.f ((aj Bf AZ).f4) 64000).bind fun Cc=>(if Cc = true then ((bG.f ((aj Bf AZ).f5) 1048576).bind fun Ce=>((aI.f (!Ce) 7).bind fun Cg=>((aQ.f k2 (([Bn,t171,t173,BO,Cg] : List Int))).bind fun t196=>(au.j2 k2 t196 Bf (Bf.length : Int) AZ ((aj Bf AZ).f0) ((aj Bf AZ).f1) ((aj Bf AZ).f2) ((aj Bf AZ).f3) ((aj Bf AZ).f4) ((aj Bf AZ).f5) ((aj Bf AZ).f6))))) else ((aI.f true 7).bind fun Ch=>((aQ.f k2 (([Bn,t171,t173,BO,Ch] : List Int))).bind fun t201=>(au.j2 k2 t201 Bf (Bf.length : Int) AZ ((aj Bf AZ).f0) ((aj Bf AZ).f1) ((aj Bf AZ).f2) ((aj Bf AZ).f3) ((aj Bf AZ).f4) ((aj Bf AZ).f5) ((aj Bf AZ).f6))))))) else ((bP.f (((aj Bf AZ).f6).length : Int)).bind fun BU=>((aI.f BU 18).bind fun t203=>((bG.f ((aj Bf AZ).f4) 64000).bind fun BP=>(if BP = true then ((bG.f ((aj Bf AZ).f5) 1048576).bind fun BG=>((aI.f (!BG) 7).bind fun t206=>((aQ.f k2 (([Bn,t171,t173,t203,t206] : List Int))).bind fun t210=>(au.j2 k2 t210 Bf (Bf.length : Int) AZ ((aj Bf AZ).f0) ((aj Bf AZ).f1) ((aj Bf AZ).f2) ((aj Bf AZ).f3) ((aj Bf AZ).f4) ((aj Bf AZ).f5) ((aj Bf AZ).f6))))) else ((aI.f true 7).bind fun BQ=>((aQ.f k2 (([Bn,t171,t173,t203,BQ] : List Int))).bind fun BR=>(au.j2 k2 BR Bf (Bf.length : Int) AZ ((aj Bf AZ).f0) ((aj Bf AZ).f1) ((aj Bf AZ).f2) ((aj Bf AZ).f3) ((aj Bf AZ).f4) ((aj Bf AZ).f5) ((aj Bf AZ).f6))))))))))) = some r:=H
          have Iy:=Aside0.mk Fy
          clear Fy
          by_cases GK : Cm = true
          ·exact absurd (Option.some.inj (Iy.out.symm.trans (show bP.f _ = some false by rw [(HE.out AZ).1]; rfl))) (by rw [GK]; decide)
          ·replace GK:=Bool.eq_false_iff.mpr GK
           subst GK
           have H1 : ((bP.f (((aj Bf AZ).f3).length : Int)).bind fun Ca=>(if Ca = true then ((aI.f true 18).bind fun BO=>((bG.f ((aj Bf AZ).f4) 64000).bind fun Cc=>(if Cc = true then ((bG.f ((aj Bf AZ).f5) 1048576).bind fun Ce=>((aI.f (!Ce) 7).bind fun Cg=>((aQ.f k2 (([Bn,t171,t173,BO,Cg] : List Int))).bind fun t196=>(au.j2 k2 t196 Bf (Bf.length : Int) AZ ((aj Bf AZ).f0) ((aj Bf AZ).f1) ((aj Bf AZ).f2) ((aj Bf AZ).f3) ((aj Bf AZ).f4) ((aj Bf AZ).f5) ((aj Bf AZ).f6))))) else ((aI.f true 7).bind fun Ch=>((aQ.f k2 (([Bn,t171,t173,BO,Ch] : List Int))).bind fun t201=>(au.j2 k2 t201 Bf (Bf.length : Int) AZ ((aj Bf AZ).f0) ((aj Bf AZ).f1) ((aj Bf AZ).f2) ((aj Bf AZ).f3) ((aj Bf AZ).f4) ((aj Bf AZ).f5) ((aj Bf AZ).f6))))))) else ((bP.f (((aj Bf AZ).f6).length : Int)).bind fun BU=>((aI.f BU 18).bind fun t203=>((bG.f ((aj Bf AZ).f4) 64000).bind fun BP=>(if BP = true then ((bG.f ((aj Bf AZ).f5) 1048576).bind fun BG=>((aI.f (!BG) 7).bind fun t206=>((aQ.f k2 (([Bn,t171,t173,t203,t206] : List Int))).bind fun t210=>(au.j2 k2 t210 Bf (Bf.length : Int) AZ ((aj Bf AZ).f0) ((aj Bf AZ).f1) ((aj Bf AZ).f2) ((aj Bf AZ).f3) ((aj Bf AZ).f4) ((aj Bf AZ).f5) ((aj Bf AZ).f6))))) else ((aI.f true 7).bind fun BQ=>((aQ.f k2 (([Bn,t171,t173,t203,BQ] : List Int))).bind fun BR=>(au.j2 k2 BR Bf (Bf.length : Int) AZ ((aj Bf AZ).f0) ((aj Bf AZ).f1) ((aj Bf AZ).f2) ((aj Bf AZ).f3) ((aj Bf AZ).f4) ((aj Bf AZ).f5) ((aj Bf AZ).f6)))))))))) = some r:=by rw [if_neg (show ¬ (false = true) by decide)] at H;exact H
           clear H
           have H:=H1
           clear H1
           replace H:=Option.bind_eq_some_iff.mp H
           obtain ⟨Ca,EF,H⟩:=H
           replace H : (if Ca = true then ((aI.f true 18).bind fun BO=>((bG.f ((aj Bf AZ).f4) 64000).bind fun Cc=>(if Cc = true then ((bG.f ((aj Bf AZ).f5) 1048576).bind fun Ce=>((aI.f (!Ce) 7).bind fun Cg=>((aQ.f k2 (([Bn,t171,t173,BO,Cg] : List Int))).bind fun t196=>(au.j2 k2 t196 Bf (Bf.length : Int) AZ ((aj Bf AZ).f0) ((aj Bf AZ).f1) ((aj Bf AZ).f2) ((aj Bf AZ).f3) ((aj Bf AZ).f4) ((aj Bf AZ).f5) ((aj Bf AZ).f6))))) else ((aI.f true 7).bind fun Ch=>((aQ.f k2 (([Bn,t171,t173,BO,Ch] : List Int))).bind fun t201=>(au.j2 k2 t201 Bf (Bf.length : Int) AZ ((aj Bf AZ).f0) ((aj Bf AZ).f1) ((aj Bf AZ).f2) ((aj Bf AZ).f3) ((aj Bf AZ).f4) ((aj Bf AZ).f5) ((aj Bf AZ).f6))))))) else ((bP.f (((aj Bf AZ).f6).length : Int)).bind fun BU=>((aI.f BU 18).bind fun t203=>((bG.f ((aj Bf AZ).f4) 64000).bind fun BP=>(if BP = true then ((bG.f ((aj Bf AZ).f5) 1048576).bind fun BG=>((aI.f (!BG) 7).bind fun t206=>((aQ.f k2 (([Bn,t171,t173,t203,t206] : List Int))).bind fun t210=>(au.j2 k2 t210 Bf (Bf.length : Int) AZ ((aj Bf AZ).f0) ((aj Bf AZ).f1) ((aj Bf AZ).f2) ((aj Bf AZ).f3) ((aj Bf AZ).f4) ((aj Bf AZ).f5) ((aj Bf AZ).f6))))) else ((aI.f true 7).bind fun BQ=>((aQ.f k2 (([Bn,t171,t173,t203,BQ] : List Int))).bind fun BR=>(au.j2 k2 BR Bf (Bf.length : Int) AZ ((aj Bf AZ).f0) ((aj Bf AZ).f1) ((aj Bf AZ).f2) ((aj Bf AZ).f3) ((aj Bf AZ).f4) ((aj Bf AZ).f5) ((aj Bf AZ).f6))))))))) = some r:=H
           have Fz:=Aside0.mk EF
           clear EF
           by_cases Ez : Ca = true
           ·exact absurd (Option.some.inj (Fz.out.symm.trans (show bP.f _ = some false by rw [(HE.out AZ).2.1]; rfl))) (by rw [Ez]; decide)
           ·replace Ez:=Bool.eq_false_iff.mpr Ez
            subst Ez
            have H1 : ((bP.f (((aj Bf AZ).f6).length : Int)).bind fun BU=>((aI.f BU 18).bind fun t203=>((bG.f ((aj Bf AZ).f4) 64000).bind fun BP=>(if BP = true then ((bG.f ((aj Bf AZ).f5) 1048576).bind fun BG=>((aI.f (!BG) 7).bind fun t206=>((aQ.f k2 (([Bn,t171,t173,t203,t206] : List Int))).bind fun t210=>(au.j2 k2 t210 Bf (Bf.length : Int) AZ ((aj Bf AZ).f0) ((aj Bf AZ).f1) ((aj Bf AZ).f2) ((aj Bf AZ).f3) ((aj Bf AZ).f4) ((aj Bf AZ).f5) ((aj Bf AZ).f6))))) else ((aI.f true 7).bind fun BQ=>((aQ.f k2 (([Bn,t171,t173,t203,BQ] : List Int))).bind fun BR=>(au.j2 k2 BR Bf (Bf.length : Int) AZ ((aj Bf AZ).f0) ((aj Bf AZ).f1) ((aj Bf AZ).f2) ((aj Bf AZ).f3) ((aj Bf AZ).f4) ((aj Bf AZ).f5) ((aj Bf AZ).f6)))))))) = some r:=by rw [if_neg (show ¬ (false = true) by decide)] at H;exact H
            clear H
            have H:=H1
            clear H1
            replace H:=Option.bind_eq_some_iff.mp H
            obtain ⟨BU,EG,H⟩:=H
            replace H : ((aI.f BU 18).bind fun t203=>((bG.f ((aj Bf AZ).f4) 64000).bind fun BP=>(if BP = true then ((bG.f ((aj Bf AZ).f5) 1048576).bind fun BG=>((aI.f (!BG) 7).bind fun t206=>((aQ.f k2 (([Bn,t171,t173,t203,t206] : List Int))).bind fun t210=>(au.j2 k2 t210 Bf (Bf.length : Int) AZ ((aj Bf AZ).f0) ((aj Bf AZ).f1) ((aj Bf AZ).f2) ((aj Bf AZ).f3) ((aj Bf AZ).f4) ((aj Bf AZ).f5) ((aj Bf AZ).f6))))) else ((aI.f true 7).bind fun BQ=>((aQ.f k2 (([Bn,t171,t173,t203,BQ] : List Int))).bind fun BR=>(au.j2 k2 BR Bf (Bf.length : Int) AZ ((aj Bf AZ).f0) ((aj Bf AZ).f1) ((aj Bf AZ).f2) ((aj Bf AZ).f3) ((aj Bf AZ).f4) ((aj Bf AZ).f5) ((aj Bf AZ).f6))))))) = some r:=H
            have G7:=Aside0.mk EG
            clear EG
            replace H:=Option.bind_eq_some_iff.mp H
            obtain ⟨t203,EH,H⟩:=H
            replace H : ((bG.f ((aj Bf AZ).f4) 64000).bind fun BP=>(if BP = true then ((bG.f ((aj Bf AZ).f5) 1048576).bind fun BG=>((aI.f (!BG) 7).bind fun t206=>((aQ.f k2 (([Bn,t171,t173,t203,t206] : List Int))).bind fun t210=>(au.j2 k2 t210 Bf (Bf.length : Int) AZ ((aj Bf AZ).f0) ((aj Bf AZ).f1) ((aj Bf AZ).f2) ((aj Bf AZ).f3) ((aj Bf AZ).f4) ((aj Bf AZ).f5) ((aj Bf AZ).f6))))) else ((aI.f true 7).bind fun BQ=>((aQ.f k2 (([Bn,t171,t173,t203,BQ] : List Int))).bind fun BR=>(au.j2 k2 BR Bf (Bf.length : Int) AZ ((aj Bf AZ).f0) ((aj Bf AZ).f1) ((aj Bf AZ).f2) ((aj Bf AZ).f3) ((aj Bf AZ).f4) ((aj Bf AZ).f5) ((aj Bf AZ).f6)))))) = some r:=H
            have G8:=Aside0.mk EH
            clear EH
            replace H:=Option.bind_eq_some_iff.mp H
            obtain ⟨BP,EI,H⟩:=H
            replace H : (if BP = true then ((bG.f ((aj Bf AZ).f5) 1048576).bind fun BG=>((aI.f (!BG) 7).bind fun t206=>((aQ.f k2 (([Bn,t171,t173,t203,t206] : List Int))).bind fun t210=>(au.j2 k2 t210 Bf (Bf.length : Int) AZ ((aj Bf AZ).f0) ((aj Bf AZ).f1) ((aj Bf AZ).f2) ((aj Bf AZ).f3) ((aj Bf AZ).f4) ((aj Bf AZ).f5) ((aj Bf AZ).f6))))) else ((aI.f true 7).bind fun BQ=>((aQ.f k2 (([Bn,t171,t173,t203,BQ] : List Int))).bind fun BR=>(au.j2 k2 BR Bf (Bf.length : Int) AZ ((aj Bf AZ).f0) ((aj Bf AZ).f1) ((aj Bf AZ).f2) ((aj Bf AZ).f3) ((aj Bf AZ).f4) ((aj Bf AZ).f5) ((aj Bf AZ).f6))))) = some r:=H
            have FB:=Aside0.mk EI
            clear EI
            by_cases FC : BP = true
            ·subst FC
             have H1 : ((bG.f ((aj Bf AZ).f5) 1048576).bind fun BG=>((aI.f (!BG) 7).bind fun t206=>((aQ.f k2 (([Bn,t171,t173,t203,t206] : List Int))).bind fun t210=>(au.j2 k2 t210 Bf (Bf.length : Int) AZ ((aj Bf AZ).f0) ((aj Bf AZ).f1) ((aj Bf AZ).f2) ((aj Bf AZ).f3) ((aj Bf AZ).f4) ((aj Bf AZ).f5) ((aj Bf AZ).f6))))) = some r:=by rw [if_pos rfl] at H;exact H
             clear H
             have H:=H1
             clear H1
             replace H:=Option.bind_eq_some_iff.mp H
             obtain ⟨BG,EJ,H⟩:=H
             replace H : ((aI.f (!BG) 7).bind fun t206=>((aQ.f k2 (([Bn,t171,t173,t203,t206] : List Int))).bind fun t210=>(au.j2 k2 t210 Bf (Bf.length : Int) AZ ((aj Bf AZ).f0) ((aj Bf AZ).f1) ((aj Bf AZ).f2) ((aj Bf AZ).f3) ((aj Bf AZ).f4) ((aj Bf AZ).f5) ((aj Bf AZ).f6)))) = some r:=H
             have G9:=Aside0.mk EJ
             clear EJ
             replace H:=Option.bind_eq_some_iff.mp H
             obtain ⟨t206,EK,H⟩:=H
             replace H : ((aQ.f k2 (([Bn,t171,t173,t203,t206] : List Int))).bind fun t210=>(au.j2 k2 t210 Bf (Bf.length : Int) AZ ((aj Bf AZ).f0) ((aj Bf AZ).f1) ((aj Bf AZ).f2) ((aj Bf AZ).f3) ((aj Bf AZ).f4) ((aj Bf AZ).f5) ((aj Bf AZ).f6))) = some r:=H
             have He:=Aside0.mk EK
             clear EK
             obtain ⟨EW,Db⟩ : ∃ y_ : List Int,y_ = (([Bn,t171,t173,t203,t206] : List Int)):=⟨_,rfl⟩
             replace H : ((aQ.f k2 EW).bind fun t210=>(au.j2 k2 t210 Bf (Bf.length : Int) AZ ((aj Bf AZ).f0) ((aj Bf AZ).f1) ((aj Bf AZ).f2) ((aj Bf AZ).f3) ((aj Bf AZ).f4) ((aj Bf AZ).f5) ((aj Bf AZ).f6))) = some r:=by first|(rw [Db];with_reducible exact H)|(have ER:=(Option.bind_some _ _).symm.trans H;rw [Db];with_reducible exact ER)|(have ER:=(Option.bind_some _ _).symm.trans H;with_reducible exact ER)|with_reducible exact H|(rw [Db];exact H)|exact H
             have EL:=Aside0.mk Db
             clear Db
             replace H:=Option.bind_eq_some_iff.mp H
             obtain ⟨t210,EM,H⟩:=H
             replace H : (au.j2 k2 t210 Bf (Bf.length : Int) AZ ((aj Bf AZ).f0) ((aj Bf AZ).f1) ((aj Bf AZ).f2) ((aj Bf AZ).f3) ((aj Bf AZ).f4) ((aj Bf AZ).f5) ((aj Bf AZ).f6)) = some r:=H
             have Hf:=Aside0.mk EM
             clear EM
             have H':=Aside0.mk H
             clear H
             try go_wp2
             have Cj:=Aside0.mk (aG Bh.out)
             have Ck:=Aside0.mk (aG Bg.out)
             have Ct:=Aside0.mk (bB HB.out)
             clear Bh
             clear Bg
             clear HB
             have Bh:=Cj
             have Bg:=Ck
             have HB:=Ct
             clear Cj Ck Ct
             refine fU (n:=47) (S:=fun w'=>w'.cell? ⟨Bj,0,none⟩ = some (.string ((aj Bf AZ).f0)) ∧ w'.cell? ⟨Bj,1,none⟩ = some (.string ((aj Bf AZ).f1)) ∧ w'.cell? ⟨Bj,2,none⟩ = some (.slice Bu ((aj Bf AZ).f2).length Bv) ∧ w'.cell? ⟨Bj,3,none⟩ = some (.slice Bz ((aj Bf AZ).f3).length BD) ∧ w'.cell? ⟨Bj,4,none⟩ = some (.int .i64 ((aj Bf AZ).f4)) ∧ w'.cell? ⟨Bj,5,none⟩ = some (.int .i64 ((aj Bf AZ).f5)) ∧ w'.cell? ⟨Bj,6,none⟩ = some (.slice BI ((aj Bf AZ).f6).length BJ) ∧ w'.heap[mb]? = some om) (ds:=[]) #[O,O,O,O,O,O,O,O,O,O,O,O,O,O,O,O,O,O,O,O,O,O,O,O,O,O,O,O,O,O,O,O,O,O,O,O,O,O,O,O,O,O,O,O,O,O,O] (by kernel_rfl) rfl rfl ⟨(ah Bg.out 0).trans rfl,(ah Bg.out 1).trans rfl,(ah Bg.out 2).trans rfl,(ah Bg.out 3).trans rfl,(ah Bg.out 4).trans rfl,(ah Bg.out 5).trans rfl,(ah Bg.out 6).trans rfl,BM.out⟩ (fun hHeld=>?_);refine dY au.rE au.ni (fun HT_ HW_=>?_)
             replace BM : Aside0 (w3.drew.heap[mb]? = some om) := ⟨BM.out⟩
             generalize w3.drew = Hg at Bh Bg HB BM hHeld ⊢
             refine pu_ 0 62 #[I,O,O,O,O,O,O,O,O,O,O,O,O,O,O,O,O,O,O,O,O,O,O,O,O,O,O,O,O,O,O,O,O,O,O,O,O,O,O,O,O,O,O,O,O,O,O] HT_.out ?_
             refine pu_ 5 67 #[I,O,O,O,O,I,O,O,O,O,O,O,O,O,O,O,O,O,O,O,O,O,O,O,O,O,O,O,O,O,O,O,O,O,O,O,O,O,O,O,O,O,O,O,O,O,O] HT_.out ?_
             refine pu_ 6 68 #[I,O,O,O,O,I,I,O,O,O,O,O,O,O,O,O,O,O,O,O,O,O,O,O,O,O,O,O,O,O,O,O,O,O,O,O,O,O,O,O,O,O,O,O,O,O,O] HT_.out ?_
             refine pu_ 11 73 #[I,O,O,O,O,I,I,O,O,O,O,I,O,O,O,O,O,O,O,O,O,O,O,O,O,O,O,O,O,O,O,O,O,O,O,O,O,O,O,O,O,O,O,O,O,O,O] HT_.out ?_
             refine pu_ 16 78 #[I,O,O,O,O,I,I,O,O,O,O,I,O,O,O,O,I,O,O,O,O,O,O,O,O,O,O,O,O,O,O,O,O,O,O,O,O,O,O,O,O,O,O,O,O,O,O] HT_.out ?_
             refine pu_ 33 95 #[I,O,O,O,O,I,I,O,O,O,O,I,O,O,O,O,I,O,O,O,O,O,O,O,O,O,O,O,O,O,O,O,O,I,O,O,O,O,O,O,O,O,O,O,O,O,O] HT_.out ?_
             refine ta_ 1 63 #[I,I,O,O,O,I,I,O,O,O,O,I,O,O,O,O,I,O,O,O,O,O,O,O,O,O,O,O,O,O,O,O,O,I,O,O,O,O,O,O,O,O,O,O,O,O,O] HT_.out HW_.out hHeld ?_
             refine ta_ 7 69 #[I,I,O,O,O,I,I,I,O,O,O,I,O,O,O,O,I,O,O,O,O,O,O,O,O,O,O,O,O,O,O,O,O,I,O,O,O,O,O,O,O,O,O,O,O,O,O] HT_.out HW_.out hHeld ?_
             refine iG (i:=8) (N:=some 70) (v:=.int .i64 1) (a':=?_) #[I,I,O,O,O,I,I,I,I,O,O,I,O,O,O,O,I,O,O,O,O,O,O,O,O,O,O,O,O,O,O,O,O,I,O,O,O,O,O,O,O,O,O,O,O,O,O] rfl rfl (fT HT_.out HW_.out (by kernel_rfl)) (fun _ _ _ h=>h) (Or.inl ⟨by rfl,?_⟩) hHeld ?_ ?_
             ·rintro w' ⟨s0,s1,s2,s3,s4,s5,s6,s7⟩
              have hl := HLK.out w' s7
              go_simp
              try rfl
             rotate_left
             ·simp only [Act.put,List.setIfInBounds_toArray,List.set_cons_zero,List.set_cons_succ,bJ,bM]
              rfl
             refine pu_ 9 71 #[I,I,O,O,O,I,I,I,I,I,O,I,O,O,O,O,I,O,O,O,O,O,O,O,O,O,O,O,O,O,O,O,O,I,O,O,O,O,O,O,O,O,O,O,O,O,O] HT_.out ?_
             refine ta_ 12 74 #[I,I,O,O,O,I,I,I,I,I,O,I,I,O,O,O,I,O,O,O,O,O,O,O,O,O,O,O,O,O,O,O,O,I,O,O,O,O,O,O,O,O,O,O,O,O,O] HT_.out HW_.out hHeld ?_
             refine ta_ 17 79 #[I,I,O,O,O,I,I,I,I,I,O,I,I,O,O,O,I,I,O,O,O,O,O,O,O,O,O,O,O,O,O,O,O,I,O,O,O,O,O,O,O,O,O,O,O,O,O] HT_.out HW_.out hHeld ?_
             refine pu_ 18 80 #[I,I,O,O,O,I,I,I,I,I,O,I,I,O,O,O,I,I,I,O,O,O,O,O,O,O,O,O,O,O,O,O,O,I,O,O,O,O,O,O,O,O,O,O,O,O,O] HT_.out ?_
             refine ta_ 34 96 #[I,I,O,O,O,I,I,I,I,I,O,I,I,O,O,O,I,I,I,O,O,O,O,O,O,O,O,O,O,O,O,O,O,I,I,O,O,O,O,O,O,O,O,O,O,O,O] HT_.out HW_.out hHeld ?_
             refine gq (i:=2) (N:=some 64) #[I,I,I,O,O,I,I,I,I,I,O,I,I,O,O,O,I,I,I,O,O,O,O,O,O,O,O,O,O,O,O,O,O,I,I,O,O,O,O,O,O,O,O,O,O,O,O] rfl rfl (dD HT_.out (by kernel_rfl)) (by decide) (fun K hK=>?_)
             refine eX Tryz.func56 (by kernel_rfl) rfl #[.string ((aj Bf AZ).f0)] (by rfl) rfl rfl (by (try simp only [List.map_toArray,List.map_cons,List.map_nil]);first|done|rfl|(simp only [List.length_drop,List.length_take];rfl)) ?_
             with_reducible refine (bg.calls k2 ((aj Bf AZ).f0) Dw _ IQ.out).mono ?_
             rintro e w' ⟨rfl,⟨nd,rfl⟩⟩
             refine ⟨_,rfl,?_⟩
             replace Bh:=Aside0.mk (ay Bh.out nd)
             replace Bg:=Aside0.mk (ay Bg.out nd)
             replace HB:=Aside0.mk (aW HB.out nd)
             replace BM:=Aside0.mk (ay BM.out nd)
             clear hHeld
             generalize World.drewN Hg nd = Hl at Bh Bg HB BM hK ⊢
             refine hK.out _ _ ⟨(ah Bg.out 0).trans rfl,(ah Bg.out 1).trans rfl,(ah Bg.out 2).trans rfl,(ah Bg.out 3).trans rfl,(ah Bg.out 4).trans rfl,(ah Bg.out 5).trans rfl,(ah Bg.out 6).trans rfl,BM.out⟩ (fun hHeld=>?_)
             clear hK K
             refine dW (a':=?_) ?_ ?_
             rotate_left
             ·show Act.put _ (some 64) _ = _
              simp only [Act.put,List.setIfInBounds_toArray,List.set_cons_zero,List.set_cons_succ,bJ,bM]
              rfl
             refine pu_ 3 65 #[I,I,I,I,O,I,I,I,I,I,O,I,I,O,O,O,I,I,I,O,O,O,O,O,O,O,O,O,O,O,O,O,O,I,I,O,O,O,O,O,O,O,O,O,O,O,O] HT_.out ?_
             refine gq (i:=4) (N:=some 66) #[I,I,I,I,I,I,I,I,I,I,O,I,I,O,O,O,I,I,I,O,O,O,O,O,O,O,O,O,O,O,O,O,O,I,I,O,O,O,O,O,O,O,O,O,O,O,O] rfl rfl (dD HT_.out (by kernel_rfl)) (by decide) (fun K hK=>?_)
             refine eX Tryz.func60 (by kernel_rfl) rfl #[.bool (!Dw),.int .i64 13] (by rfl) rfl rfl (by (try simp only [List.map_toArray,List.map_cons,List.map_nil]);first|done|rfl|(simp only [List.length_drop,List.length_take];rfl)) ?_
             with_reducible refine (aI.calls (!Dw) 13 Bn _ IU.out).mono ?_
             rintro e w' ⟨rfl,⟨nd,rfl⟩⟩
             refine ⟨_,rfl,?_⟩
             replace Bh:=Aside0.mk (ay Bh.out nd)
             replace Bg:=Aside0.mk (ay Bg.out nd)
             replace HB:=Aside0.mk (aW HB.out nd)
             replace BM:=Aside0.mk (ay BM.out nd)
             clear hHeld
             generalize World.drewN Hl nd = Ho at Bh Bg HB BM hK ⊢
             refine hK.out _ _ ⟨(ah Bg.out 0).trans rfl,(ah Bg.out 1).trans rfl,(ah Bg.out 2).trans rfl,(ah Bg.out 3).trans rfl,(ah Bg.out 4).trans rfl,(ah Bg.out 5).trans rfl,(ah Bg.out 6).trans rfl,BM.out⟩ (fun hHeld=>?_)
             clear hK K
             refine dW (a':=?_) ?_ ?_
             rotate_left
             ·show Act.put _ (some 66) _ = _
              simp only [Act.put,List.setIfInBounds_toArray,List.set_cons_zero,List.set_cons_succ,bJ,bM]
              rfl
             refine gq (i:=10) (N:=some 72) #[I,I,I,I,I,I,I,I,I,I,I,I,I,O,O,O,I,I,I,O,O,O,O,O,O,O,O,O,O,O,O,O,O,I,I,O,O,O,O,O,O,O,O,O,O,O,O] rfl rfl (dD HT_.out (by kernel_rfl)) (by decide) (fun K hK=>?_)
             refine eX Tryz.func60 (by kernel_rfl) rfl #[.bool (decide (1 > 1)),.int .i64 8] (by rfl) rfl rfl (by (try simp only [List.map_toArray,List.map_cons,List.map_nil]);first|done|rfl|(simp only [List.length_drop,List.length_take];rfl)) ?_
             with_reducible refine (aI.calls (decide (1 > 1)) 8 t171 _ IV.out).mono ?_
             rintro e w' ⟨rfl,⟨nd,rfl⟩⟩
             refine ⟨_,rfl,?_⟩
             replace Bh:=Aside0.mk (ay Bh.out nd)
             replace Bg:=Aside0.mk (ay Bg.out nd)
             replace HB:=Aside0.mk (aW HB.out nd)
             replace BM:=Aside0.mk (ay BM.out nd)
             clear hHeld
             generalize World.drewN Ho nd = Hq at Bh Bg HB BM hK ⊢
             refine hK.out _ _ ⟨(ah Bg.out 0).trans rfl,(ah Bg.out 1).trans rfl,(ah Bg.out 2).trans rfl,(ah Bg.out 3).trans rfl,(ah Bg.out 4).trans rfl,(ah Bg.out 5).trans rfl,(ah Bg.out 6).trans rfl,BM.out⟩ (fun hHeld=>?_)
             clear hK K
             refine dW (a':=?_) ?_ ?_
             rotate_left
             ·show Act.put _ (some 72) _ = _
              simp only [Act.put,List.setIfInBounds_toArray,List.set_cons_zero,List.set_cons_succ,bJ,bM]
              rfl
             refine gq (i:=13) (N:=some 75) #[I,I,I,I,I,I,I,I,I,I,I,I,I,I,O,O,I,I,I,O,O,O,O,O,O,O,O,O,O,O,O,O,O,I,I,O,O,O,O,O,O,O,O,O,O,O,O] rfl rfl (dD HT_.out (by kernel_rfl)) (by decide) (fun K hK=>?_)
             refine eX Tryz.func63 (by kernel_rfl) rfl #[.string ((aj Bf AZ).f1)] (by rfl) rfl rfl (by (try simp only [List.map_toArray,List.map_cons,List.map_nil]);first|done|rfl|(simp only [List.length_drop,List.length_take];rfl)) ?_
             with_reducible refine (bE.calls k2 ((aj Bf AZ).f1) Cz _ IW.out).mono ?_
             rintro e w' ⟨rfl,⟨nd,rfl⟩⟩
             refine ⟨_,rfl,?_⟩
             replace Bh:=Aside0.mk (ay Bh.out nd)
             replace Bg:=Aside0.mk (ay Bg.out nd)
             replace HB:=Aside0.mk (aW HB.out nd)
             replace BM:=Aside0.mk (ay BM.out nd)
             clear hHeld
             generalize World.drewN Hq nd = Hr at Bh Bg HB BM hK ⊢
             refine hK.out _ _ ⟨(ah Bg.out 0).trans rfl,(ah Bg.out 1).trans rfl,(ah Bg.out 2).trans rfl,(ah Bg.out 3).trans rfl,(ah Bg.out 4).trans rfl,(ah Bg.out 5).trans rfl,(ah Bg.out 6).trans rfl,BM.out⟩ (fun hHeld=>?_)
             clear hK K
             refine dW (a':=?_) ?_ ?_
             rotate_left
             ·show Act.put _ (some 75) _ = _
              simp only [Act.put,List.setIfInBounds_toArray,List.set_cons_zero,List.set_cons_succ,bJ,bM]
              rfl
             refine pu_ 14 76 #[I,I,I,I,I,I,I,I,I,I,I,I,I,I,I,O,I,I,I,O,O,O,O,O,O,O,O,O,O,O,O,O,O,I,I,O,O,O,O,O,O,O,O,O,O,O,O] HT_.out ?_
             refine gq (i:=15) (N:=some 77) #[I,I,I,I,I,I,I,I,I,I,I,I,I,I,I,I,I,I,I,O,O,O,O,O,O,O,O,O,O,O,O,O,O,I,I,O,O,O,O,O,O,O,O,O,O,O,O] rfl rfl (dD HT_.out (by kernel_rfl)) (by decide) (fun K hK=>?_)
             refine eX Tryz.func60 (by kernel_rfl) rfl #[.bool (!Cz),.int .i64 6] (by rfl) rfl rfl (by (try simp only [List.map_toArray,List.map_cons,List.map_nil]);first|done|rfl|(simp only [List.length_drop,List.length_take];rfl)) ?_
             with_reducible refine (aI.calls (!Cz) 6 t173 _ IX.out).mono ?_
             rintro e w' ⟨rfl,⟨nd,rfl⟩⟩
             refine ⟨_,rfl,?_⟩
             replace Bh:=Aside0.mk (ay Bh.out nd)
             replace Bg:=Aside0.mk (ay Bg.out nd)
             replace HB:=Aside0.mk (aW HB.out nd)
             replace BM:=Aside0.mk (ay BM.out nd)
             clear hHeld
             generalize World.drewN Hr nd = Ht at Bh Bg HB BM hK ⊢
             refine hK.out _ _ ⟨(ah Bg.out 0).trans rfl,(ah Bg.out 1).trans rfl,(ah Bg.out 2).trans rfl,(ah Bg.out 3).trans rfl,(ah Bg.out 4).trans rfl,(ah Bg.out 5).trans rfl,(ah Bg.out 6).trans rfl,BM.out⟩ (fun hHeld=>?_)
             clear hK K
             refine dW (a':=?_) ?_ ?_
             rotate_left
             ·show Act.put _ (some 77) _ = _
              simp only [Act.put,List.setIfInBounds_toArray,List.set_cons_zero,List.set_cons_succ,bJ,bM]
              rfl
             refine gq (i:=19) (N:=some 81) #[I,I,I,I,I,I,I,I,I,I,I,I,I,I,I,I,I,I,I,I,O,O,O,O,O,O,O,O,O,O,O,O,O,I,I,O,O,O,O,O,O,O,O,O,O,O,O] rfl rfl (dD HT_.out (by kernel_rfl)) (by decide) (fun K hK=>?_)
             refine eX Tryz.func62 (by kernel_rfl) rfl #[.int .i64 (((aj Bf AZ).f2).length : Int)] (by rfl) rfl rfl (by (try simp only [List.map_toArray,List.map_cons,List.map_nil]);first|done|rfl|(simp only [List.length_drop,List.length_take];rfl)) ?_
             with_reducible refine (bP.calls (((aj Bf AZ).f2).length : Int) false _ Iy.out).mono ?_
             rintro e w' ⟨rfl,⟨nd,rfl⟩⟩
             refine ⟨_,rfl,?_⟩
             replace Bh:=Aside0.mk (ay Bh.out nd)
             replace Bg:=Aside0.mk (ay Bg.out nd)
             replace HB:=Aside0.mk (aW HB.out nd)
             replace BM:=Aside0.mk (ay BM.out nd)
             clear hHeld
             generalize World.drewN Ht nd = Hu at Bh Bg HB BM hK ⊢
             refine hK.out _ _ ⟨(ah Bg.out 0).trans rfl,(ah Bg.out 1).trans rfl,(ah Bg.out 2).trans rfl,(ah Bg.out 3).trans rfl,(ah Bg.out 4).trans rfl,(ah Bg.out 5).trans rfl,(ah Bg.out 6).trans rfl,BM.out⟩ (fun hHeld=>?_)
             clear hK K
             refine dW (a':=?_) ?_ ?_
             rotate_left
             ·show Act.put _ (some 81) _ = _
              simp only [Act.put,List.setIfInBounds_toArray,List.set_cons_zero,List.set_cons_succ,bJ,bM]
              rfl
             refine pu_ 20 82 #[I,I,I,I,I,I,I,I,I,I,I,I,I,I,I,I,I,I,I,I,I,O,O,O,O,O,O,O,O,O,O,O,O,I,I,O,O,O,O,O,O,O,O,O,O,O,O] HT_.out ?_
             refine pu_ 21 83 #[I,I,I,I,I,I,I,I,I,I,I,I,I,I,I,I,I,I,I,I,I,I,O,O,O,O,O,O,O,O,O,O,O,I,I,O,O,O,O,O,O,O,O,O,O,O,O] HT_.out ?_
             refine ta_ 22 84 #[I,I,I,I,I,I,I,I,I,I,I,I,I,I,I,I,I,I,I,I,I,I,I,O,O,O,O,O,O,O,O,O,O,I,I,O,O,O,O,O,O,O,O,O,O,O,O] HT_.out HW_.out hHeld ?_
             refine pu_ 23 85 #[I,I,I,I,I,I,I,I,I,I,I,I,I,I,I,I,I,I,I,I,I,I,I,I,O,O,O,O,O,O,O,O,O,I,I,O,O,O,O,O,O,O,O,O,O,O,O] HT_.out ?_
             refine gq (i:=24) (N:=some 86) #[I,I,I,I,I,I,I,I,I,I,I,I,I,I,I,I,I,I,I,I,I,I,I,I,I,O,O,O,O,O,O,O,O,I,I,O,O,O,O,O,O,O,O,O,O,O,O] rfl rfl (dD HT_.out (by kernel_rfl)) (by decide) (fun K hK=>?_)
             refine eX Tryz.func62 (by kernel_rfl) rfl #[.int .i64 (((aj Bf AZ).f3).length : Int)] (by rfl) rfl rfl (by (try simp only [List.map_toArray,List.map_cons,List.map_nil]);first|done|rfl|(simp only [List.length_drop,List.length_take];rfl)) ?_
             with_reducible refine (bP.calls (((aj Bf AZ).f3).length : Int) false _ Fz.out).mono ?_
             rintro e w' ⟨rfl,⟨nd,rfl⟩⟩
             refine ⟨_,rfl,?_⟩
             replace Bh:=Aside0.mk (ay Bh.out nd)
             replace Bg:=Aside0.mk (ay Bg.out nd)
             replace HB:=Aside0.mk (aW HB.out nd)
             replace BM:=Aside0.mk (ay BM.out nd)
             clear hHeld
             generalize World.drewN Hu nd = Hw at Bh Bg HB BM hK ⊢
             refine hK.out _ _ ⟨(ah Bg.out 0).trans rfl,(ah Bg.out 1).trans rfl,(ah Bg.out 2).trans rfl,(ah Bg.out 3).trans rfl,(ah Bg.out 4).trans rfl,(ah Bg.out 5).trans rfl,(ah Bg.out 6).trans rfl,BM.out⟩ (fun hHeld=>?_)
             clear hK K
             refine dW (a':=?_) ?_ ?_
             rotate_left
             ·show Act.put _ (some 86) _ = _
              simp only [Act.put,List.setIfInBounds_toArray,List.set_cons_zero,List.set_cons_succ,bJ,bM]
              rfl
             refine pu_ 25 87 #[I,I,I,I,I,I,I,I,I,I,I,I,I,I,I,I,I,I,I,I,I,I,I,I,I,I,O,O,O,O,O,O,O,I,I,O,O,O,O,O,O,O,O,O,O,O,O] HT_.out ?_
             refine pu_ 26 88 #[I,I,I,I,I,I,I,I,I,I,I,I,I,I,I,I,I,I,I,I,I,I,I,I,I,I,I,O,O,O,O,O,O,I,I,O,O,O,O,O,O,O,O,O,O,O,O] HT_.out ?_
             refine pu_ 27 89 #[I,I,I,I,I,I,I,I,I,I,I,I,I,I,I,I,I,I,I,I,I,I,I,I,I,I,I,I,O,O,O,O,O,I,I,O,O,O,O,O,O,O,O,O,O,O,O] HT_.out ?_
             refine ta_ 28 90 #[I,I,I,I,I,I,I,I,I,I,I,I,I,I,I,I,I,I,I,I,I,I,I,I,I,I,I,I,I,O,O,O,O,I,I,O,O,O,O,O,O,O,O,O,O,O,O] HT_.out HW_.out hHeld ?_
             refine pu_ 29 91 #[I,I,I,I,I,I,I,I,I,I,I,I,I,I,I,I,I,I,I,I,I,I,I,I,I,I,I,I,I,I,O,O,O,I,I,O,O,O,O,O,O,O,O,O,O,O,O] HT_.out ?_
             refine gq (i:=30) (N:=some 92) #[I,I,I,I,I,I,I,I,I,I,I,I,I,I,I,I,I,I,I,I,I,I,I,I,I,I,I,I,I,I,I,O,O,I,I,O,O,O,O,O,O,O,O,O,O,O,O] rfl rfl (dD HT_.out (by kernel_rfl)) (by decide) (fun K hK=>?_)
             refine eX Tryz.func62 (by kernel_rfl) rfl #[.int .i64 (((aj Bf AZ).f6).length : Int)] (by rfl) rfl rfl (by (try simp only [List.map_toArray,List.map_cons,List.map_nil]);first|done|rfl|(simp only [List.length_drop,List.length_take];rfl)) ?_
             with_reducible refine (bP.calls (((aj Bf AZ).f6).length : Int) BU _ G7.out).mono ?_
             rintro e w' ⟨rfl,⟨nd,rfl⟩⟩
             refine ⟨_,rfl,?_⟩
             replace Bh:=Aside0.mk (ay Bh.out nd)
             replace Bg:=Aside0.mk (ay Bg.out nd)
             replace HB:=Aside0.mk (aW HB.out nd)
             replace BM:=Aside0.mk (ay BM.out nd)
             clear hHeld
             generalize World.drewN Hw nd = Hy at Bh Bg HB BM hK ⊢
             refine hK.out _ _ ⟨(ah Bg.out 0).trans rfl,(ah Bg.out 1).trans rfl,(ah Bg.out 2).trans rfl,(ah Bg.out 3).trans rfl,(ah Bg.out 4).trans rfl,(ah Bg.out 5).trans rfl,(ah Bg.out 6).trans rfl,BM.out⟩ (fun hHeld=>?_)
             clear hK K
             refine dW (a':=?_) ?_ ?_
             rotate_left
             ·show Act.put _ (some 92) _ = _
              simp only [Act.put,List.setIfInBounds_toArray,List.set_cons_zero,List.set_cons_succ,bJ,bM]
              rfl
             refine pu_ 31 93 #[I,I,I,I,I,I,I,I,I,I,I,I,I,I,I,I,I,I,I,I,I,I,I,I,I,I,I,I,I,I,I,I,O,I,I,O,O,O,O,O,O,O,O,O,O,O,O] HT_.out ?_
             refine gq (i:=32) (N:=some 94) #[I,I,I,I,I,I,I,I,I,I,I,I,I,I,I,I,I,I,I,I,I,I,I,I,I,I,I,I,I,I,I,I,I,I,I,O,O,O,O,O,O,O,O,O,O,O,O] rfl rfl (dD HT_.out (by kernel_rfl)) (by decide) (fun K hK=>?_)
             refine eX Tryz.func60 (by kernel_rfl) rfl #[.bool BU,.int .i64 18] (by rfl) rfl rfl (by (try simp only [List.map_toArray,List.map_cons,List.map_nil]);first|done|rfl|(simp only [List.length_drop,List.length_take];rfl)) ?_
             with_reducible refine (aI.calls BU 18 t203 _ G8.out).mono ?_
             rintro e w' ⟨rfl,⟨nd,rfl⟩⟩
             refine ⟨_,rfl,?_⟩
             replace Bh:=Aside0.mk (ay Bh.out nd)
             replace Bg:=Aside0.mk (ay Bg.out nd)
             replace HB:=Aside0.mk (aW HB.out nd)
             replace BM:=Aside0.mk (ay BM.out nd)
             clear hHeld
             generalize World.drewN Hy nd = Hz at Bh Bg HB BM hK ⊢
             refine hK.out _ _ ⟨(ah Bg.out 0).trans rfl,(ah Bg.out 1).trans rfl,(ah Bg.out 2).trans rfl,(ah Bg.out 3).trans rfl,(ah Bg.out 4).trans rfl,(ah Bg.out 5).trans rfl,(ah Bg.out 6).trans rfl,BM.out⟩ (fun hHeld=>?_)
             clear hK K
             refine dW (a':=?_) ?_ ?_
             rotate_left
             ·show Act.put _ (some 94) _ = _
              simp only [Act.put,List.setIfInBounds_toArray,List.set_cons_zero,List.set_cons_succ,bJ,bM]
              rfl
             refine gq (i:=35) (N:=some 97) #[I,I,I,I,I,I,I,I,I,I,I,I,I,I,I,I,I,I,I,I,I,I,I,I,I,I,I,I,I,I,I,I,I,I,I,I,O,O,O,O,O,O,O,O,O,O,O] rfl rfl (dD HT_.out (by kernel_rfl)) (by decide) (fun K hK=>?_)
             refine eX Tryz.func61 (by kernel_rfl) rfl #[.int .i64 ((aj Bf AZ).f4),.int .i64 64000] (by rfl) rfl rfl (by (try simp only [List.map_toArray,List.map_cons,List.map_nil]);first|done|rfl|(simp only [List.length_drop,List.length_take];rfl)) ?_
             with_reducible refine (bG.calls ((aj Bf AZ).f4) 64000 true _ FB.out).mono ?_
             rintro e w' ⟨rfl,⟨nd,rfl⟩⟩
             refine ⟨_,rfl,?_⟩
             replace Bh:=Aside0.mk (ay Bh.out nd)
             replace Bg:=Aside0.mk (ay Bg.out nd)
             replace HB:=Aside0.mk (aW HB.out nd)
             replace BM:=Aside0.mk (ay BM.out nd)
             clear hHeld
             generalize World.drewN Hz nd = H6 at Bh Bg HB BM hK ⊢
             refine hK.out _ _ ⟨(ah Bg.out 0).trans rfl,(ah Bg.out 1).trans rfl,(ah Bg.out 2).trans rfl,(ah Bg.out 3).trans rfl,(ah Bg.out 4).trans rfl,(ah Bg.out 5).trans rfl,(ah Bg.out 6).trans rfl,BM.out⟩ (fun hHeld=>?_)
             clear hK K
             refine dW (a':=?_) ?_ ?_
             rotate_left
             ·show Act.put _ (some 97) _ = _
              simp only [Act.put,List.setIfInBounds_toArray,List.set_cons_zero,List.set_cons_succ,bJ,bM]
              rfl
             refine pu_ 36 98 #[I,I,I,I,I,I,I,I,I,I,I,I,I,I,I,I,I,I,I,I,I,I,I,I,I,I,I,I,I,I,I,I,I,I,I,I,I,O,O,O,O,O,O,O,O,O,O] HT_.out ?_
             refine pu_ 37 99 #[I,I,I,I,I,I,I,I,I,I,I,I,I,I,I,I,I,I,I,I,I,I,I,I,I,I,I,I,I,I,I,I,I,I,I,I,I,I,O,O,O,O,O,O,O,O,O] HT_.out ?_
             refine pu_ 38 100 #[I,I,I,I,I,I,I,I,I,I,I,I,I,I,I,I,I,I,I,I,I,I,I,I,I,I,I,I,I,I,I,I,I,I,I,I,I,I,I,O,O,O,O,O,O,O,O] HT_.out ?_
             refine ta_ 39 101 #[I,I,I,I,I,I,I,I,I,I,I,I,I,I,I,I,I,I,I,I,I,I,I,I,I,I,I,I,I,I,I,I,I,I,I,I,I,I,I,I,O,O,O,O,O,O,O] HT_.out HW_.out hHeld ?_
             refine gq (i:=40) (N:=some 102) #[I,I,I,I,I,I,I,I,I,I,I,I,I,I,I,I,I,I,I,I,I,I,I,I,I,I,I,I,I,I,I,I,I,I,I,I,I,I,I,I,I,O,O,O,O,O,O] rfl rfl (dD HT_.out (by kernel_rfl)) (by decide) (fun K hK=>?_)
             refine eX Tryz.func61 (by kernel_rfl) rfl #[.int .i64 ((aj Bf AZ).f5),.int .i64 1048576] (by rfl) rfl rfl (by (try simp only [List.map_toArray,List.map_cons,List.map_nil]);first|done|rfl|(simp only [List.length_drop,List.length_take];rfl)) ?_
             with_reducible refine (bG.calls ((aj Bf AZ).f5) 1048576 BG _ G9.out).mono ?_
             rintro e w' ⟨rfl,⟨nd,rfl⟩⟩
             refine ⟨_,rfl,?_⟩
             replace Bh:=Aside0.mk (ay Bh.out nd)
             replace Bg:=Aside0.mk (ay Bg.out nd)
             replace HB:=Aside0.mk (aW HB.out nd)
             replace BM:=Aside0.mk (ay BM.out nd)
             clear hHeld
             generalize World.drewN H6 nd = H7 at Bh Bg HB BM hK ⊢
             refine hK.out _ _ ⟨(ah Bg.out 0).trans rfl,(ah Bg.out 1).trans rfl,(ah Bg.out 2).trans rfl,(ah Bg.out 3).trans rfl,(ah Bg.out 4).trans rfl,(ah Bg.out 5).trans rfl,(ah Bg.out 6).trans rfl,BM.out⟩ (fun hHeld=>?_)
             clear hK K
             refine dW (a':=?_) ?_ ?_
             rotate_left
             ·show Act.put _ (some 102) _ = _
              simp only [Act.put,List.setIfInBounds_toArray,List.set_cons_zero,List.set_cons_succ,bJ,bM]
              rfl
             refine pu_ 41 103 #[I,I,I,I,I,I,I,I,I,I,I,I,I,I,I,I,I,I,I,I,I,I,I,I,I,I,I,I,I,I,I,I,I,I,I,I,I,I,I,I,I,I,O,O,O,O,O] HT_.out ?_
             refine pu_ 42 104 #[I,I,I,I,I,I,I,I,I,I,I,I,I,I,I,I,I,I,I,I,I,I,I,I,I,I,I,I,I,I,I,I,I,I,I,I,I,I,I,I,I,I,I,O,O,O,O] HT_.out ?_
             refine gq (i:=43) (N:=some 105) #[I,I,I,I,I,I,I,I,I,I,I,I,I,I,I,I,I,I,I,I,I,I,I,I,I,I,I,I,I,I,I,I,I,I,I,I,I,I,I,I,I,I,I,I,O,O,O] rfl rfl (dD HT_.out (by kernel_rfl)) (by decide) (fun K hK=>?_)
             refine eX Tryz.func60 (by kernel_rfl) rfl #[.bool (!BG),.int .i64 7] (by rfl) rfl rfl (by (try simp only [List.map_toArray,List.map_cons,List.map_nil]);first|done|rfl|(simp only [List.length_drop,List.length_take];rfl)) ?_
             with_reducible refine (aI.calls (!BG) 7 t206 _ He.out).mono ?_
             rintro e w' ⟨rfl,⟨nd,rfl⟩⟩
             refine ⟨_,rfl,?_⟩
             replace Bh:=Aside0.mk (ay Bh.out nd)
             replace Bg:=Aside0.mk (ay Bg.out nd)
             replace HB:=Aside0.mk (aW HB.out nd)
             replace BM:=Aside0.mk (ay BM.out nd)
             clear hHeld
             generalize World.drewN H7 nd = IY at Bh Bg HB BM hK ⊢
             refine hK.out _ _ ⟨(ah Bg.out 0).trans rfl,(ah Bg.out 1).trans rfl,(ah Bg.out 2).trans rfl,(ah Bg.out 3).trans rfl,(ah Bg.out 4).trans rfl,(ah Bg.out 5).trans rfl,(ah Bg.out 6).trans rfl,BM.out⟩ (fun hHeld=>?_)
             clear hK K
             refine dW (a':=?_) ?_ ?_
             rotate_left
             ·show Act.put _ (some 105) _ = _
              simp only [Act.put,List.setIfInBounds_toArray,List.set_cons_zero,List.set_cons_succ,bJ,bM]
              rfl
             refine gq (i:=44) (N:=some 106) #[I,I,I,I,I,I,I,I,I,I,I,I,I,I,I,I,I,I,I,I,I,I,I,I,I,I,I,I,I,I,I,I,I,I,I,I,I,I,I,I,I,I,I,I,I,O,O] rfl rfl (dD HT_.out (by kernel_rfl)) (by decide) (fun K hK=>?_)
             refine Kd.lG (Kd.int .i64) _ 72 ?hg (N:=106) ?hd (xs:=([Bn,t171,t173,t203,t206] : List Int)) (inner:=[.int .i64 Bn,.int .i64 t171,.int .i64 t173,.int .i64 t203,.int .i64 t206]) (ok:=fun _=>True) (okp:=fun _=>True) ?hr ?hp (fun _ hk=>hk) trivial (Below.refl _ _) (Nat.le_refl _) (by simp) ?_;(case hd=>rfl);(case hg=>rfl);(case hr=>first|(go_simp;done)|(go_simp;rfl));(case hp=>exact (dX.one (show Kd.M (Kd.int .i64) _ _ _ Bn [.int .i64 Bn] from rfl) (dX.one (show Kd.M (Kd.int .i64) _ _ _ t171 [.int .i64 t171] from rfl) (dX.one (show Kd.M (Kd.int .i64) _ _ _ t173 [.int .i64 t173] from rfl) (dX.one (show Kd.M (Kd.int .i64) _ _ _ t203 [.int .i64 t203] from rfl) (dX.one (show Kd.M (Kd.int .i64) _ _ _ t206 [.int .i64 t206] from rfl) (dX.none _ _)))))))
             intro v208 IZ Dc hb hg_ hnew_
             clear hg_ hnew_
             (first|rw [← EL.out] at Dc|(simp only [Int.reduceToNat] at Dc;rw [← EL.out] at Dc))
             have Cj:=Aside0.mk (Kd.iD Dc (aM hb_))
             have Ck:=Aside0.mk (aN (g:=Bt) (o:=.cells #[.string Bq,.string Bo,.int .i64 Bl,.int .i64 Bp,.bool Br,.slice (some Cv) Bf.length Cb] 49 (0,0)) (bk_ Bh.out) hb)
             replace BM:=Aside0.mk (aN (g:=mb) (o:=om) (bk_ BM.out) hb)
             have Ct:=Aside0.mk (aN (g:=Bj) (o:=.cells #[.string ((aj Bf AZ).f0),.string ((aj Bf AZ).f1),.slice Bu ((aj Bf AZ).f2).length Bv,.slice Bz ((aj Bf AZ).f3).length BD,.int .i64 ((aj Bf AZ).f4),.int .i64 ((aj Bf AZ).f5),.slice BI ((aj Bf AZ).f6).length BJ] 69 (0,0)) (bk_ Bg.out) hb)
             have Dy:=Aside0.mk (aK hb_ hb)
             clear Bh
             clear Bg
             clear HB
             have DX:=Cj
             have Bh:=Ck
             have Bg:=Ct
             have HB:=Dy
             clear Cj Ck Ct Dy
             clear hb Dc
             obtain ⟨FD,FE,EN⟩:=Kd.iE DX.out
             (first|subst EN|(injection EN with Fg GU Fh;have GV:=Fg.symm;have GX:=Fh.symm;clear Fg GU Fh;subst GV;subst GX))
             refine hK.out _ _ ⟨(ah Bg.out 0).trans rfl,(ah Bg.out 1).trans rfl,(ah Bg.out 2).trans rfl,(ah Bg.out 3).trans rfl,(ah Bg.out 4).trans rfl,(ah Bg.out 5).trans rfl,(ah Bg.out 6).trans rfl,BM.out⟩ (fun hHeld=>?_)
             clear hK K
             refine dW (a':=?_) ?_ ?_
             rotate_left
             ·show Act.put _ (some 106) _ = _
              simp only [Act.put,List.setIfInBounds_toArray,List.set_cons_zero,List.set_cons_succ,bJ,bM]
              rfl
             refine gq (i:=45) (N:=some 107) #[I,I,I,I,I,I,I,I,I,I,I,I,I,I,I,I,I,I,I,I,I,I,I,I,I,I,I,I,I,I,I,I,I,I,I,I,I,I,I,I,I,I,I,I,I,I,O] rfl rfl (dD HT_.out (by kernel_rfl)) (by decide) (fun K hK=>?_)
             refine eX Tryz.func59 (by kernel_rfl) rfl #[.slice FD EW.length FE] (by rfl) rfl rfl (by (try simp only [List.map_toArray,List.map_cons,List.map_nil]);first|done|rfl|(simp only [List.length_drop,List.length_take];rfl)) ?_
             with_reducible refine (aQ.calls k2 _ _ EW t210 _ ?CP ?CQ Hf.out).mono ?_
             (case CP=>repeat (first|exact (Kd.fI DX.out).2.2|(with_reducible refine Kd.bD ?_ _)|(with_reducible refine Kd.bR ?_ _)|(with_reducible refine Kd.bZ ?_)))
             (case CQ=>exact (Kd.fI DX.out).2.1)
             rintro e w' ⟨rfl,⟨nd,rfl⟩⟩
             refine ⟨_,rfl,?_⟩
             refine hK.out _ _ ⟨(ah Bg.out 0).trans rfl,(ah Bg.out 1).trans rfl,(ah Bg.out 2).trans rfl,(ah Bg.out 3).trans rfl,(ah Bg.out 4).trans rfl,(ah Bg.out 5).trans rfl,(ah Bg.out 6).trans rfl,BM.out⟩ (fun hHeld=>?_)
             clear hK K
             refine dW (a':=?_) ?_ ?_
             rotate_left
             ·show Act.put _ (some 107) _ = _
              simp only [Act.put,List.setIfInBounds_toArray,List.set_cons_zero,List.set_cons_succ,bJ,bM]
              rfl
             refine pu_ 46 7 #[I,I,I,I,I,I,I,I,I,I,I,I,I,I,I,I,I,I,I,I,I,I,I,I,I,I,I,I,I,I,I,I,I,I,I,I,I,I,I,I,I,I,I,I,I,I,I] HT_.out ?_
             refine gP (fF HT_.out (by kernel_rfl)) ?_
             try go_wp2
             go_meet
             case rel=>exact ⟨_,(t210),(by first|rfl|(simp;done)|(simp [*];done)),H',⟨by have:=GY.out;have:=GZ.out;first|omega|exact Nat.le_refl _⟩,⟨by (with_reducible repeat (first|apply ay|apply aG|apply aD));exact Bh.out⟩,⟨by (with_reducible repeat (first|apply ay|apply aG|apply aD));exact Bg.out⟩,⟨hb_⟩⟩
            ·exact absurd (Option.some.inj (FB.out.symm.trans (by rw [HX0.out]; exact HFr.out HLb.out))) FC
         case rest =>
          clear ES
          obtain ⟨kq,Cw,rfl,HA,FH,Bh,Bg,HB⟩:=hcut
          cases kq with
          | zero=>exact absurd HA.out (by simp [au.j2])
          | succ FI =>
           have H:=HA.out
           clear HA
           simp only [au.j2] at H
           by_cases c148 : Cw = 0
           ·rw [if_pos c148] at H
            have c148b0 : (Cw == 0) = true:=beq_iff_eq.mpr c148
            have c148b1 : (Cw != 0) = false:=bne_eq_false_iff_eq.mpr c148
            clear c148
            replace H:=Option.bind_eq_some_iff.mp H
            obtain ⟨CB,EO,H⟩:=H
            replace H : (if CB = 0 then (au.l0 FI Bf (Bf.length : Int) (wrap64 (AZ + 1))) else (some CB)) = some r:=H
            have FJ:=Aside0.mk EO
            clear EO
            by_cases Df : CB = 0
            ·rw [if_pos Df] at H
             have c150b0 : (CB == 0) = true:=beq_iff_eq.mpr Df
             have c150b1 : (CB != 0) = false:=bne_eq_false_iff_eq.mpr Df
             clear Df
             have H':=Aside0.mk H
             clear H
             have H8:=Cu.out
             have H9:=Bw.out
             have FL : wc.cell? ⟨Bj,0,none⟩ = some (.string ((aj Bf AZ).f0)):=(ah Bg.out 0).trans rfl
             have FM : wc.cell? ⟨Bj,1,none⟩ = some (.string ((aj Bf AZ).f1)):=(ah Bg.out 1).trans rfl
             have FN : wc.cell? ⟨Bj,2,none⟩ = some (.slice Bu ((aj Bf AZ).f2).length Bv):=(ah Bg.out 2).trans rfl
             have FP : wc.cell? ⟨Bj,3,none⟩ = some (.slice Bz ((aj Bf AZ).f3).length BD):=(ah Bg.out 3).trans rfl
             have FQ : wc.cell? ⟨Bj,4,none⟩ = some (.int .i64 ((aj Bf AZ).f4)):=(ah Bg.out 4).trans rfl
             have FR : wc.cell? ⟨Bj,5,none⟩ = some (.int .i64 ((aj Bf AZ).f5)):=(ah Bg.out 5).trans rfl
             have FT : wc.cell? ⟨Bj,6,none⟩ = some (.slice BI ((aj Bf AZ).f6).length BJ):=(ah Bg.out 6).trans rfl
             have FU:=ak Bg.out 0
             have FV:=ak Bg.out 1
             have FW:=ak Bg.out 2
             have FX:=ak Bg.out 3
             have FY:=ak Bg.out 4
             have FZ:=ak Bg.out 5
             have F3:=ak Bg.out 6
             go_wp2_with (first|((with_reducible refine bF (f:=64) rfl ?_);refine dN (some 111) rfl rfl Tryz.func64 (by kernel_rfl) rfl #[.agg #[.string ((aj Bf AZ).f0),.string ((aj Bf AZ).f1),.slice Bu ((aj Bf AZ).f2).length Bv,.slice Bz ((aj Bf AZ).f3).length BD,.int .i64 ((aj Bf AZ).f4),.int .i64 ((aj Bf AZ).f5),.slice BI ((aj Bf AZ).f6).length BJ]] rfl (by (try simp only [List.map_toArray,List.map_cons,List.map_nil]);first|done|rfl|(simp only [List.length_drop,List.length_take];rfl)|(simp (disch:=first|omega|(simp at *;omega)) only [dO,dG,eH];rfl)) ?_;(with_reducible refine (gF.calls ((aj Bf AZ).f0) ((aj Bf AZ).f1) _ _ ((aj Bf AZ).f2) _ _ ((aj Bf AZ).f3) ((aj Bf AZ).f4) ((aj Bf AZ).f5) _ _ ((aj Bf AZ).f6) CB _ ?CP ?CQ ?DY ?DZ ?D5 ?D6 FJ.out).mono ?_);(case CP=>repeat (first|exact (Kd.bO Dp.out HB.out)|(with_reducible refine Kd.bD ?_ _)|(with_reducible refine Kd.bR ?_ _)|(with_reducible refine Kd.bZ ?_)));(case CQ=>exact Dq.out);(case DY=>repeat (first|exact (Kd.bO Dr.out HB.out)|(with_reducible refine Kd.bD ?_ _)|(with_reducible refine Kd.bR ?_ _)|(with_reducible refine Kd.bZ ?_)));(case DZ=>exact Dt.out);(case D5=>repeat (first|exact (Kd.bO Du.out HB.out)|(with_reducible refine Kd.bD ?_ _)|(with_reducible refine Kd.bR ?_ _)|(with_reducible refine Kd.bZ ?_)));(case D6=>exact Dv.out);rintro e I4 ⟨rfl,hb⟩;refine ⟨_,rfl,?_⟩;have Cj:=Aside0.mk (aN (g:=Bt) (o:=.cells #[.string Bq,.string Bo,.int .i64 Bl,.int .i64 Bp,.bool Br,.slice (some Cv) Bf.length Cb] 49 (0,0)) (bk_ Bh.out) hb);have Ck:=Aside0.mk (aN (g:=Bj) (o:=.cells #[.string ((aj Bf AZ).f0),.string ((aj Bf AZ).f1),.slice Bu ((aj Bf AZ).f2).length Bv,.slice Bz ((aj Bf AZ).f3).length BD,.int .i64 ((aj Bf AZ).f4),.int .i64 ((aj Bf AZ).f5),.slice BI ((aj Bf AZ).f6).length BJ] 69 (0,0)) (bk_ Bg.out) hb);have Ct:=Aside0.mk (aK hb_ hb);clear Bh;clear Bg;clear HB;have Bh:=Cj;have Bg:=Ck;have HB:=Ct;clear Cj Ck Ct;(try clear hb);(try clear hb2);(try clear hk);(try clear hi)))
             go_roundg FI
             case measure=>have:=GY.out;have:=GZ.out;have:=FH.out;omega
             case rel=>exact ⟨(wrap64 (AZ + 1)),(by first|rfl|(simp;done)|(simp [*];done)),H',⟨by have:=GY.out;have:=GZ.out;have:=FH.out;omega⟩,⟨by rw [HX0.out, w01]; decide⟩,⟨fun h => absurd h (by rw [HX0.out, w01]; decide)⟩,⟨by (with_reducible repeat (first|apply ay|apply aG|apply aD));exact Bh.out⟩,⟨hb_⟩⟩
            ·rw [if_neg Df] at H
             have c150b0 : (CB == 0) = false:=beq_eq_false_iff_ne.mpr Df
             have c150b1 : (CB != 0) = true:=bne_iff_ne.mpr Df
             obtain rfl:=Option.some.inj H
             have Ia:=Cu.out
             have Ib:=Bw.out
             have F4 : wc.cell? ⟨Bj,0,none⟩ = some (.string ((aj Bf AZ).f0)):=(ah Bg.out 0).trans rfl
             have F5 : wc.cell? ⟨Bj,1,none⟩ = some (.string ((aj Bf AZ).f1)):=(ah Bg.out 1).trans rfl
             have F6 : wc.cell? ⟨Bj,2,none⟩ = some (.slice Bu ((aj Bf AZ).f2).length Bv):=(ah Bg.out 2).trans rfl
             have F7 : wc.cell? ⟨Bj,3,none⟩ = some (.slice Bz ((aj Bf AZ).f3).length BD):=(ah Bg.out 3).trans rfl
             have F8 : wc.cell? ⟨Bj,4,none⟩ = some (.int .i64 ((aj Bf AZ).f4)):=(ah Bg.out 4).trans rfl
             have F9 : wc.cell? ⟨Bj,5,none⟩ = some (.int .i64 ((aj Bf AZ).f5)):=(ah Bg.out 5).trans rfl
             have Ga : wc.cell? ⟨Bj,6,none⟩ = some (.slice BI ((aj Bf AZ).f6).length BJ):=(ah Bg.out 6).trans rfl
             have Gb:=ak Bg.out 0
             have Gc:=ak Bg.out 1
             have Gd:=ak Bg.out 2
             have Gf:=ak Bg.out 3
             have Gg:=ak Bg.out 4
             have Gh:=ak Bg.out 5
             have Gi:=ak Bg.out 6
             go_wp2_with (first|((with_reducible refine bF (f:=64) rfl ?_);refine dN (some 111) rfl rfl Tryz.func64 (by kernel_rfl) rfl #[.agg #[.string ((aj Bf AZ).f0),.string ((aj Bf AZ).f1),.slice Bu ((aj Bf AZ).f2).length Bv,.slice Bz ((aj Bf AZ).f3).length BD,.int .i64 ((aj Bf AZ).f4),.int .i64 ((aj Bf AZ).f5),.slice BI ((aj Bf AZ).f6).length BJ]] rfl (by (try simp only [List.map_toArray,List.map_cons,List.map_nil]);first|done|rfl|(simp only [List.length_drop,List.length_take];rfl)|(simp (disch:=first|omega|(simp at *;omega)) only [dO,dG,eH];rfl)) ?_;(with_reducible refine (gF.calls ((aj Bf AZ).f0) ((aj Bf AZ).f1) _ _ ((aj Bf AZ).f2) _ _ ((aj Bf AZ).f3) ((aj Bf AZ).f4) ((aj Bf AZ).f5) _ _ ((aj Bf AZ).f6) CB _ ?CP ?CQ ?DY ?DZ ?D5 ?D6 FJ.out).mono ?_);(case CP=>repeat (first|exact (Kd.bO Dp.out HB.out)|(with_reducible refine Kd.bD ?_ _)|(with_reducible refine Kd.bR ?_ _)|(with_reducible refine Kd.bZ ?_)));(case CQ=>exact Dq.out);(case DY=>repeat (first|exact (Kd.bO Dr.out HB.out)|(with_reducible refine Kd.bD ?_ _)|(with_reducible refine Kd.bR ?_ _)|(with_reducible refine Kd.bZ ?_)));(case DZ=>exact Dt.out);(case D5=>repeat (first|exact (Kd.bO Du.out HB.out)|(with_reducible refine Kd.bD ?_ _)|(with_reducible refine Kd.bR ?_ _)|(with_reducible refine Kd.bZ ?_)));(case D6=>exact Dv.out);rintro e I5 ⟨rfl,hb⟩;refine ⟨_,rfl,?_⟩;have Cj:=Aside0.mk (aN (g:=Bt) (o:=.cells #[.string Bq,.string Bo,.int .i64 Bl,.int .i64 Bp,.bool Br,.slice (some Cv) Bf.length Cb] 49 (0,0)) (bk_ Bh.out) hb);have Ck:=Aside0.mk (aN (g:=Bj) (o:=.cells #[.string ((aj Bf AZ).f0),.string ((aj Bf AZ).f1),.slice Bu ((aj Bf AZ).f2).length Bv,.slice Bz ((aj Bf AZ).f3).length BD,.int .i64 ((aj Bf AZ).f4),.int .i64 ((aj Bf AZ).f5),.slice BI ((aj Bf AZ).f6).length BJ] 69 (0,0)) (bk_ Bg.out) hb);have Ct:=Aside0.mk (aK hb_ hb);clear Bh;clear Bg;clear HB;have Bh:=Cj;have Bg:=Ck;have HB:=Ct;clear Cj Ck Ct;(try clear hb);(try clear hb2);(try clear hk);(try clear hi)))
             go_ret
             exact ⟨by first|rfl|(simp [aY,aZ] <;> rfl)|(simp [*,aY,aZ] <;> rfl),hb_⟩
           ·rw [if_neg c148] at H
            have c148b0 : (Cw == 0) = false:=beq_eq_false_iff_ne.mpr c148
            have c148b1 : (Cw != 0) = true:=bne_iff_ne.mpr c148
            obtain rfl:=Option.some.inj H
            go_wp2
            go_ret
            exact ⟨by first|rfl|(simp [aY,aZ] <;> rfl)|(simp [*,aY,aZ] <;> rfl),hb_⟩
        ·rw [if_neg GJ] at H
         exact absurd H (by simp)
       ·rw [if_neg GI] at H
        exact absurd H (by simp)
      ·rw [if_neg EX] at H
       have c77b0 : decide (AZ < (Bf.length : Int)) = false:=decide_eq_false EX
       clear EX
       obtain rfl:=Option.some.inj H
       go_wp2
       go_ret
       exact ⟨by first|rfl|(simp [aY,aZ] <;> rfl)|(simp [*,aY,aZ] <;> rfl),hb_⟩
   ·rw [if_neg c75] at H
    have c75b0 : (CU == 0) = false:=beq_eq_false_iff_ne.mpr c75
    have c75b1 : (CU != 0) = true:=bne_iff_ne.mpr c75
    obtain rfl:=Option.some.inj H
    go_wp2
    go_ret
    exact ⟨by first|rfl|(simp [aY,aZ] <;> rfl)|(simp [*,aY,aZ] <;> rfl),hb_⟩
end Go.Proofs.YtpflenjhmeaeoaaGreatDoor.GUt
