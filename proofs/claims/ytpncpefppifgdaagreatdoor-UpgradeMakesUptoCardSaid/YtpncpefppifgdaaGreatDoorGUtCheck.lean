/- spec.Pod.Check of a pod of one container without lists: its contract, in terms of plain functions. Printed by this session's own program for a pretended function without its map, and mended. No conditions beside those stated. -/
import Derived.Test.YtpncpefppifgdaaGreatDoorCp
import Derived.Test.YtpncpefppifgdaaGreatDoorGUtName
import Derived.Test.YtpncpefppifgdaaGreatDoorGUtx8
import Derived.Test.YtpncpefppifgdaaGreatDoorGUtParts
import Derived.Test.YtpncpefppifgdaaGreatDoorGUtx9
import Derived.Test.YtpncpefppifgdaaGreatDoorGUtx2
namespace Go.Proofs.YtpncpefppifgdaaGreatDoor.GUt
open Go.RowKit Go.Maps Go.WideMaps Go.Proofs.YtpncpefppifgdaaGreatDoorW.PrintWords Go.Proofs.YtpncpefppifgdaaGreatDoorW.PrintLast Go.Proofs.YtpncpefppifgdaaGreatDoorW.PrintMore
set_option linter.unusedVariables false
set_option linter.unusedSimpArgs false
theorem w01 : wrap64 ((0 : Int) + 1) = 1 := by rw [dD (by omega) (by omega)]; rfl
theorem sI : Keyed Tryz.prog 9 := string_keyed Tryz.underlying9
theorem yQ (w : World) : (zeroValue 3).run Tryz.prog w = .ok (.int .i64 0) w := by kernel_rfl
theorem pE {w w' : World} {P : Program} {k : TypeId} {R : Value → Option (DataW Unit × List MemPlace)} {b n : Nat} {D : DataW Unit} (h : w.ownsMap P k R b n D) (hb : Below w.heap.size w w') : w'.ownsMap P k R b n D := by
  have hlt := h.lt
  obtain ⟨es, clock, hh, F, hs, hD⟩ := h
  exact ⟨es, clock, (hb.block b hlt).trans hh, F, hs, hD⟩
theorem ru {w : World} {P : Program} {k : TypeId} {R : Value → Option (DataW Unit × List MemPlace)} {b n g : Nat} {D : DataW Unit} (h : w.ownsMap P k R b n D) (hne : b ≠ g) (j : Nat) (u : Value) : (w.setCell ⟨g, j, none⟩ u).ownsMap P k R b n D := by
  obtain ⟨es, clock, hh, F, hs, hD⟩ := h
  exact ⟨es, clock, (Below.heap_setCell w ⟨g, j, none⟩ u b hne).trans hh, F, hs, hD⟩
theorem tZ {a b : Int} (h : (.lit (.int .i64 a) : DataW Unit) = .lit (.int .i64 b)) : a = b := by
  injection h with h
  injection h
theorem moved {W w3 : World} {g m : Nat} {o : Obj} (hg : W.grownBy w3 (some m)) (h : W.heap[g]? = some o) (hne : g ≠ m) : w3.heap[g]? = some o := (hg.block g (bE h) (fun e => hne (by injection e))).trans h
theorem yc {w : World} {b n : Nat} {D : DataW Unit} {s : ByteArray} {kl : Lit} (h : w.ownsMap Tryz.prog 9 (plainElem Tryz.prog 3) b n D) (hkey : keyOf Tryz.prog 9 (.string s) = some kl) (hat : D.atKey kl (.lit (.int .i64 0)) = .lit (.int .i64 1)) :
    ∃ o : Obj, w.heap[b]? = some o ∧ ∀ W : World, W.heap[b]? = some o → (Instr.lookup 178 (.map (some b)) (.string s) false).run Tryz.prog W = .ok (.int .i64 1) W := by
  obtain ⟨es, clock, hh, F, hs, hD⟩ := h
  refine ⟨_, hh, fun W hW => ?_⟩
  have hW' : W.ownsMap Tryz.prog 9 (plainElem Tryz.prog 3) b n D := ⟨es, clock, hW, F, hs, hD⟩
  obtain ⟨c, hrun, hc, _⟩ := hW'.lookup_int sI Tryz.underlying178 Tryz.underlying3 (yQ W) hkey
  rw [hrun, tZ (hc.symm.trans hat)]
theorem yg (l : List Int) : ∀ (k : Nat) (t : Int), aM.f k (13 :: l) = some t → t = 13
  | 0, t, h => by simp [aM.f, aM.l0] at h
  | k + 1, t, h => by
    rw [aM.f, aM.l0, if_pos (by simp), if_pos (by decide), if_pos (by simp)] at h
    have e : rd (13 :: l) 0 = 13 := rfl
    simp only [e] at h
    simpa using h.symm
theorem zJ {k : Nat} {a : ByteArray} {b : Bool} {t : Int} {l : List Int} (h1 : bg.f k a = some b) (h2 : aG.f (!b) 13 = some t) (h3 : aM.f k (t :: l) = some 0) : bg.f k a = some true := by
  cases b with
  | true => exact h1
  | false =>
    have e : t = 13 := by simpa [aG.f] using h2.symm
    subst e
    exact absurd (yg l k 0 h3) (by decide)
theorem wJ {l : List S84} (h1 : l.length = 1) (h2 : (au l 0).f2.length = 0) (h3 : (au l 0).f3.length = 0) (h6 : (au l 0).f6.length = 0) : ∀ i : Int, (au l i).f2.length = 0 ∧ (au l i).f3.length = 0 ∧ (au l i).f6.length = 0 := fun i => by
  by_cases hi : i.toNat = 0
  · have e : au l i = au l 0 := by unfold au; rw [hi]; rfl
    rw [e]; exact ⟨h2, h3, h6⟩
  · have e : au l i = z84 := by unfold au; rw [List.getD_eq_getElem?_getD, List.getElem?_eq_none (by omega)]; rfl
    rw [e]; exact ⟨rfl, rfl, rfl⟩
mutual
def aA.j0 : Nat → Int → ByteArray → ByteArray → Int → Int → Bool → List (S84) → Option (Int)
 | 0,_,_,_,_,_,_,_=>none
 | k + 1,x3,GV,GX,GY,GZ,G5,Dw=>if x3 = 0 then (aA.l0 k Dw (Dw.length : Int) 0) else (some x3)
def aA.l0 : Nat → List (S84) → Int → Int → Option (Int)
 | 0,_,_,_=>none
 | k + 1,Cc,Em,BZ=>if BZ < Em then (if 0 ≤ BZ then (if BZ < (Cc.length : Int) then ((bg.f k ((au Cc BZ).f0)).bind fun DU=>((aG.f (!DU) 13).bind fun BG=>((aG.f (decide (1 > 1)) 8).bind fun t171=>((bD.f k ((au Cc BZ).f1)).bind fun CX=>((aG.f (!CX) 6).bind fun t173=>((bM.f (((au Cc BZ).f2).length : Int)).bind fun CJ=>(if CJ = true then ((aG.f true 18).bind fun t175=>((bG.f ((au Cc BZ).f4) 64000).bind fun CK=>(if CK = true then ((bG.f ((au Cc BZ).f5) 1048576).bind fun CO=>((aG.f (!CO) 7).bind fun CP=>((aM.f k (([BG,t171,t173,t175,CP] : List Int))).bind fun t182=>(aA.j2 k t182 Cc Em BZ ((au Cc BZ).f0) ((au Cc BZ).f1) ((au Cc BZ).f2) ((au Cc BZ).f3) ((au Cc BZ).f4) ((au Cc BZ).f5) ((au Cc BZ).f6))))) else ((aG.f true 7).bind fun t183=>((aM.f k (([BG,t171,t173,t175,t183] : List Int))).bind fun CQ=>(aA.j2 k CQ Cc Em BZ ((au Cc BZ).f0) ((au Cc BZ).f1) ((au Cc BZ).f2) ((au Cc BZ).f3) ((au Cc BZ).f4) ((au Cc BZ).f5) ((au Cc BZ).f6))))))) else ((bM.f (((au Cc BZ).f3).length : Int)).bind fun Cr=>(if Cr = true then ((aG.f true 18).bind fun Ch=>((bG.f ((au Cc BZ).f4) 64000).bind fun Cu=>(if Cu = true then ((bG.f ((au Cc BZ).f5) 1048576).bind fun Cv=>((aG.f (!Cv) 7).bind fun Cw=>((aM.f k (([BG,t171,t173,Ch,Cw] : List Int))).bind fun t196=>(aA.j2 k t196 Cc Em BZ ((au Cc BZ).f0) ((au Cc BZ).f1) ((au Cc BZ).f2) ((au Cc BZ).f3) ((au Cc BZ).f4) ((au Cc BZ).f5) ((au Cc BZ).f6))))) else ((aG.f true 7).bind fun Cz=>((aM.f k (([BG,t171,t173,Ch,Cz] : List Int))).bind fun t201=>(aA.j2 k t201 Cc Em BZ ((au Cc BZ).f0) ((au Cc BZ).f1) ((au Cc BZ).f2) ((au Cc BZ).f3) ((au Cc BZ).f4) ((au Cc BZ).f5) ((au Cc BZ).f6))))))) else ((bM.f (((au Cc BZ).f6).length : Int)).bind fun Cn=>((aG.f Cn 18).bind fun t203=>((bG.f ((au Cc BZ).f4) 64000).bind fun Ci=>(if Ci = true then ((bG.f ((au Cc BZ).f5) 1048576).bind fun BU=>((aG.f (!BU) 7).bind fun t206=>((aM.f k (([BG,t171,t173,t203,t206] : List Int))).bind fun t210=>(aA.j2 k t210 Cc Em BZ ((au Cc BZ).f0) ((au Cc BZ).f1) ((au Cc BZ).f2) ((au Cc BZ).f3) ((au Cc BZ).f4) ((au Cc BZ).f5) ((au Cc BZ).f6))))) else ((aG.f true 7).bind fun Cj=>((aM.f k (([BG,t171,t173,t203,Cj] : List Int))).bind fun Ck=>(aA.j2 k Ck Cc Em BZ ((au Cc BZ).f0) ((au Cc BZ).f1) ((au Cc BZ).f2) ((au Cc BZ).f3) ((au Cc BZ).f4) ((au Cc BZ).f5) ((au Cc BZ).f6))))))))))))))))) else (none)) else (none)) else (some 0)
def aA.j2 : Nat → Int → List (S84) → Int → Int → ByteArray → ByteArray → List ByteArray → List (S126) → Int → Int → List (S127) → Option (Int)
 | 0,_,_,_,_,_,_,_,_,_,_,_=>none
 | k + 1,x7,Cc,Em,BZ,En,Eo,Ep,Er,Es,Et,Eu=>if x7 = 0 then ((fP.f En Eo Ep Er Es Et Eu).bind fun CY=>(if CY = 0 then (aA.l0 k Cc Em (wrap64 (BZ + 1))) else (some CY))) else (some x7)
end
def aA.g (k : Nat) (BJ : ByteArray) (BH : ByteArray) (BF : Int) (BI : Int) (BK : Bool) (Bv : List (S84)) : Option (Int):=(eD.f k BJ).bind fun DV=>(if DV = true then ((bg.f k BH).bind fun CZ=>((aG.f (!CZ) 13).bind fun BS=>(if BF < 0 then ((aG.f true 7).bind fun t116=>((aG.f ((Bv.length : Int) == 0) 16).bind fun t117=>((bM.f (Bv.length : Int)).bind fun C8=>((aG.f C8 18).bind fun t119=>((aM.f k (([BS,t116,t117,t119] : List Int))).bind fun C9=>(aA.j0 k C9 BJ BH BF BI BK Bv)))))) else (if BF > 2 then ((aG.f true 7).bind fun t124=>((aG.f ((Bv.length : Int) == 0) 16).bind fun Da=>((bM.f (Bv.length : Int)).bind fun Db=>((aG.f Db 18).bind fun t127=>((aM.f k (([BS,t124,Da,t127] : List Int))).bind fun t131=>(aA.j0 k t131 BJ BH BF BI BK Bv)))))) else ((bG.f BI 3600).bind fun CB=>((aG.f (!CB) 7).bind fun Co=>((aG.f ((Bv.length : Int) == 0) 16).bind fun Cm=>((bM.f (Bv.length : Int)).bind fun Cq=>((aG.f Cq 18).bind fun Ce=>((aM.f k (([BS,Co,Cm,Ce] : List Int))).bind fun Cg=>(aA.j0 k Cg BJ BH BF BI BK Bv))))))))))) else ((aG.f true 13).bind fun t141=>(if BF < 0 then ((aG.f true 7).bind fun DY=>((aG.f ((Bv.length : Int) == 0) 16).bind fun t143=>((bM.f (Bv.length : Int)).bind fun DZ=>((aG.f DZ 18).bind fun t145=>((aM.f k (([t141,DY,t143,t145] : List Int))).bind fun D5=>(aA.j0 k D5 BJ BH BF BI BK Bv)))))) else (if BF > 2 then ((aG.f true 7).bind fun D6=>((aG.f ((Bv.length : Int) == 0) 16).bind fun D7=>((bM.f (Bv.length : Int)).bind fun t152=>((aG.f t152 18).bind fun D8=>((aM.f k (([t141,D6,D7,D8] : List Int))).bind fun t157=>(aA.j0 k t157 BJ BH BF BI BK Bv)))))) else ((bG.f BI 3600).bind fun D9=>((aG.f (!D9) 7).bind fun t159=>((aG.f ((Bv.length : Int) == 0) 16).bind fun t160=>((bM.f (Bv.length : Int)).bind fun Ea=>((aG.f Ea 18).bind fun t162=>((aM.f k (([t141,t159,t160,t162] : List Int))).bind fun Eb=>(aA.j0 k Eb BJ BH BF BI BK Bv)))))))))))
theorem aA.eB : ∀ k,(∀ y0 y1 y2 y3 y4 y5 y6,LeO (aA.j0 k y0 y1 y2 y3 y4 y5 y6) (aA.j0 (k + 1) y0 y1 y2 y3 y4 y5 y6)) ∧ (∀ y0 y1 y2,LeO (aA.l0 k y0 y1 y2) (aA.l0 (k + 1) y0 y1 y2)) ∧ (∀ y0 y1 y2 y3 y4 y5 y6 y7 y8 y9 G9,LeO (aA.j2 k y0 y1 y2 y3 y4 y5 y6 y7 y8 y9 G9) (aA.j2 (k + 1) y0 y1 y2 y3 y4 y5 y6 y7 y8 y9 G9))
 | 0=>⟨fun _ _ _ _ _ _ _ r h=>by simp [aA.j0] at h,fun _ _ _ r h=>by simp [aA.l0] at h,fun _ _ _ _ _ _ _ _ _ _ _ r h=>by simp [aA.j2] at h⟩
 | k + 1=>by
  obtain ⟨Ew,ih1,ih2⟩:=aA.eB k
  refine ⟨?_,?_,?_⟩
  ·intro y0 y1 y2 y3 y4 y5 y6
   unfold aA.j0
   repeat' first
   | (with_reducible exact Ew _ _ _ _ _ _ _)
   | (with_reducible exact ih1 _ _ _)
   | (with_reducible exact ih2 _ _ _ _ _ _ _ _ _ _ _)
   | (with_reducible exact bD.mono _ _)
   | (with_reducible exact bg.mono _ _)
   | (with_reducible exact eD.mono _ _)
   | (with_reducible exact aM.mono _ _)
   | (with_reducible exact LeO.refl _)
   | (with_reducible exact LeO.none _)
   | (with_reducible refine LeO.ite ?_ ?_)
   | (with_reducible refine LeO.bind ?_ (fun _=>?_))
   | exact Ew _ _ _ _ _ _ _
   | exact ih1 _ _ _
   | exact ih2 _ _ _ _ _ _ _ _ _ _ _
   | exact bD.mono _ _
   | exact bg.mono _ _
   | exact eD.mono _ _
   | exact aM.mono _ _
   | exact LeO.none _
   | refine LeO.ite ?_ ?_
   | refine LeO.bind ?_ (fun _=>?_)
  ·intro y0 y1 y2
   unfold aA.l0
   repeat' first
   | (with_reducible exact Ew _ _ _ _ _ _ _)
   | (with_reducible exact ih1 _ _ _)
   | (with_reducible exact ih2 _ _ _ _ _ _ _ _ _ _ _)
   | (with_reducible exact bD.mono _ _)
   | (with_reducible exact bg.mono _ _)
   | (with_reducible exact eD.mono _ _)
   | (with_reducible exact aM.mono _ _)
   | (with_reducible exact LeO.refl _)
   | (with_reducible exact LeO.none _)
   | (with_reducible refine LeO.ite ?_ ?_)
   | (with_reducible refine LeO.bind ?_ (fun _=>?_))
   | exact Ew _ _ _ _ _ _ _
   | exact ih1 _ _ _
   | exact ih2 _ _ _ _ _ _ _ _ _ _ _
   | exact bD.mono _ _
   | exact bg.mono _ _
   | exact eD.mono _ _
   | exact aM.mono _ _
   | exact LeO.none _
   | refine LeO.ite ?_ ?_
   | refine LeO.bind ?_ (fun _=>?_)
  ·intro y0 y1 y2 y3 y4 y5 y6 y7 y8 y9 G9
   unfold aA.j2
   repeat' first
   | (with_reducible exact Ew _ _ _ _ _ _ _)
   | (with_reducible exact ih1 _ _ _)
   | (with_reducible exact ih2 _ _ _ _ _ _ _ _ _ _ _)
   | (with_reducible exact bD.mono _ _)
   | (with_reducible exact bg.mono _ _)
   | (with_reducible exact eD.mono _ _)
   | (with_reducible exact aM.mono _ _)
   | (with_reducible exact LeO.refl _)
   | (with_reducible exact LeO.none _)
   | (with_reducible refine LeO.ite ?_ ?_)
   | (with_reducible refine LeO.bind ?_ (fun _=>?_))
   | exact Ew _ _ _ _ _ _ _
   | exact ih1 _ _ _
   | exact ih2 _ _ _ _ _ _ _ _ _ _ _
   | exact bD.mono _ _
   | exact bg.mono _ _
   | exact eD.mono _ _
   | exact aM.mono _ _
   | exact LeO.none _
   | refine LeO.ite ?_ ?_
   | refine LeO.bind ?_ (fun _=>?_)
theorem aA.Ay : ∀ a0 a1 a2 a3 a4 a5 k,LeO (aA.g k a0 a1 a2 a3 a4 a5) (aA.g (k + 1) a0 a1 a2 a3 a4 a5):=by
 intro a0 a1 a2 a3 a4 a5 k
 obtain ⟨Ew,ih1,ih2⟩:=aA.eB k
 unfold aA.g
 repeat' first
   | (with_reducible exact Ew _ _ _ _ _ _ _)
   | (with_reducible exact ih1 _ _ _)
   | (with_reducible exact ih2 _ _ _ _ _ _ _ _ _ _ _)
   | (with_reducible exact bD.mono _ _)
   | (with_reducible exact bg.mono _ _)
   | (with_reducible exact eD.mono _ _)
   | (with_reducible exact aM.mono _ _)
   | (with_reducible exact LeO.refl _)
   | (with_reducible exact LeO.none _)
   | (with_reducible refine LeO.ite ?_ ?_)
   | (with_reducible refine LeO.bind ?_ (fun _=>?_))
   | exact Ew _ _ _ _ _ _ _
   | exact ih1 _ _ _
   | exact ih2 _ _ _ _ _ _ _ _ _ _ _
   | exact bD.mono _ _
   | exact bg.mono _ _
   | exact eD.mono _ _
   | exact aM.mono _ _
   | exact LeO.none _
   | refine LeO.ite ?_ ?_
   | refine LeO.bind ?_ (fun _=>?_)
def aA.Ok (k : Nat) (BJ BH : ByteArray) (BF : Int) (Bv : List (S84)) : Prop := eD.f k BJ = some true ∧ BF = 0 ∧ Bv.length = 1 ∧ (au Bv 0).f2.length = 0 ∧ (au Bv 0).f3.length = 0 ∧ (au Bv 0).f6.length = 0 ∧ (bg.f k BH = some true → bG.f (au Bv 0).f4 64000 = some true) ∧ (au Bv 0).f0.size ≤ 1000000000
instance (k : Nat) (BJ BH : ByteArray) (BF : Int) (Bv : List (S84)) : Decidable (aA.Ok k BJ BH BF Bv) := by unfold aA.Ok; infer_instance
def aA.f (k : Nat) (BJ : ByteArray) (BH : ByteArray) (BF : Int) (BI : Int) (BK : Bool) (Bv : List (S84)) : Option (Int) := if aA.Ok k BJ BH BF Bv then aA.g k BJ BH BF BI BK Bv else none
theorem aA.mono : ∀ a0 a1 a2 a3 a4 a5 k, LeO (aA.f k a0 a1 a2 a3 a4 a5) (aA.f (k + 1) a0 a1 a2 a3 a4 a5) := fun a0 a1 a2 a3 a4 a5 k r h => by
  unfold aA.f at h ⊢
  split at h
  case isFalse => cases h
  rename_i hc
  have hb : ∃ b, bg.f k a1 = some b := by
    unfold aA.g at h
    rw [hc.1, Option.bind_some, if_pos rfl] at h
    obtain ⟨b, hb, _⟩ := Option.bind_eq_some_iff.1 h
    exact ⟨b, hb⟩
  obtain ⟨b, hb⟩ := hb
  have hb' := bg.mono _ _ _ hb
  rw [if_pos (show aA.Ok (k + 1) a0 a1 a2 a5 from ⟨eD.mono _ _ _ hc.1, hc.2.1, hc.2.2.1, hc.2.2.2.1, hc.2.2.2.2.1, hc.2.2.2.2.2.1, fun h => hc.2.2.2.2.2.2.1 (by rw [hb'] at h; rw [hb]; exact h), hc.2.2.2.2.2.2.2⟩)]
  exact aA.Ay _ _ _ _ _ _ _ _ h
def aA.T1 : Bool × List (List Nat × List Nat):=(true,[([],[]),([0],[0]),([1],[1]),([2],[2]),([3,2],[3]),([4],[4]),([5,4],[4,5]),([6,4,4],[4,6]),([7,4],[4,7]),([4,8],[4,8]),([9,7],[9]),([],[]),([11],[11]),([12],[12]),([13,10],[13]),([14],[14]),([15,14],[14,15]),([16,14],[14,16]),([14,17],[14,17]),([18,14],[18]),([19],[19]),([20,19],[19,20]),([21,19,19],[19,21]),([22,19],[19,22]),([19,23],[19,23]),([24,22],[24]),([],[]),([26],[26]),([27],[27]),([28],[28]),([29,25],[29]),([],[]),([31],[31]),([32],[32]),([33,30],[33]),([34,34],[34]),([10,25,30,35],[10,25,30,35]),([36,35],[36]),([37,37,0,1,2,3,4,5,6,7,8,9,10,11,12,13,14,15,16,17,18,19,20,21,22,23,24,25,26,27,28,29,30,31,32,33,34,35,36,37],[37])])
def aA.B1 : List Nat:=[0,1,3,7,15,31,63,127,255,511,1023,0,2048,6144,16383,32767,65535,131071,262143,524287,1048575,2097151,4194303,8388607,16777215,33554431,0,67108864,201326592,469762048,1073741823,0,2147483648,6442450944,17179869183,34359738367,68719476735,137438953471,274877906943]
theorem aA.sJ : gX .any (opsOf Tryz.f83 1) = aA.T1:=by kernel_rfl
theorem aA.oK : fU aA.T1.2 aA.B1 = true:=by kernel_rfl
def aA.T9 : Bool × List (List Nat × List Nat) := (true, [([], []), ([0], [0]), ([1], [1]), ([2], [2]), ([3, 2], [3]), ([], []), ([], []), ([6], [6]), ([5, 7], [5, 7]), ([8], [8]), ([9, 4], [9]), ([], []), ([11], [11]), ([12, 10], [12]), ([13], [13]), ([14, 13], [14]), ([], []), ([16], [16]), ([17], [17]), ([18, 15], [18]), ([19, 19], [19]), ([20], [20]), ([21, 20], [20, 21]), ([22, 20], [20, 22]), ([23, 20, 20], [20, 23]), ([20, 24], [20, 24]), ([25, 24], [25]), ([26], [26]), ([27, 26], [26, 27]), ([28, 26], [26, 28]), ([29, 26, 26], [26, 29]), ([26, 30], [26, 30]), ([31, 30], [31]), ([], []), ([33], [33]), ([34, 32], [34]), ([35], [35]), ([36, 35], [36]), ([37], [37]), ([38, 37], [37, 38]), ([39, 37, 37], [37, 39]), ([40, 37], [37, 40]), ([37, 41], [37, 41]), ([42, 40], [42]), ([4, 10, 15, 32, 43], [4, 10, 15, 32, 43]), ([44, 43], [44]), ([45, 45, 0, 1, 2, 3, 4, 5, 6, 7, 8, 9, 10, 11, 12, 13, 14, 15, 16, 17, 18, 19, 20, 21, 22, 23, 24, 25, 26, 27, 28, 29, 30, 31, 32, 33, 34, 35, 36, 37, 38, 39, 40, 41, 42, 43, 44, 45], [45])])
def aA.B9 : List Nat := [0, 1, 3, 7, 15, 0, 0, 64, 224, 480, 1023, 0, 2048, 8191, 16383, 32767, 0, 65536, 196608, 524287, 1048575, 2097151, 4194303, 8388607, 16777215, 33554431, 67108863, 134217727, 268435455, 536870911, 1073741823, 2147483647, 4294967295, 0, 8589934592, 34359738367, 68719476735, 137438953471, 274877906943, 549755813887, 1099511627775, 2199023255551, 4398046511103, 8796093022207, 17592186044415, 35184372088831, 70368744177663]
theorem aA.zK : gX .any (opsOf Tryz.f83 9) = aA.T9:=by kernel_rfl
theorem aA.wK : fU aA.T9.2 aA.B9 = true:=by kernel_rfl
set_option maxHeartbeats 8000000 in
set_option maxRecDepth 100000 in
theorem aA.calls (k : Nat) (BJ : ByteArray) (BH : ByteArray) (BF : Int) (BI : Int) (BK : Bool) (Dh : Option Addr) (Ct : Nat) (Bv : List (S84)) (r : Int) (w : World) (E9 : Kd.C k84 w Dh Bv.length Bv) (Fa : Bv.length ≤ Ct) (h : aA.f k BJ BH BF BI BK Bv = some r) :
  Calls Tryz.prog 83 #[.agg #[.string BJ,.string BH,.int .i64 BF,.int .i64 BI,.bool BK,.slice Dh Bv.length Ct]] w fun e w'=>e = .returned (.int .i64 r) ∧ Below w.heap.size w w':=by
 have IZ:=Tryz.underlying77
 have I4:=Tryz.underlying84
 have FL:=Aside0.mk E9
 have Ir:=Aside0.mk Fa
 clear E9 Fa
 unfold aA.f at h
 split at h
 case isFalse => cases h
 rename_i hcond
 obtain ⟨hnm, hz2, hl1, he2, Iu, Iw, hfr, hsz⟩ := hcond
 have HNm := Aside0.mk hnm
 have HZ2 := Aside0.mk hz2
 have I5 := Aside0.mk hl1
 have HFr := Aside0.mk hfr
 have HSz := Aside0.mk hsz
 have HE := Aside0.mk (wJ hl1 he2 Iu Iw)
 clear hnm hz2 hl1 he2 Iu Iw hfr hsz
 have HB:=Aside0.mk (Below.refl w.heap.size w)
 have H : ((eD.f k BJ).bind fun DV=>(if DV = true then ((bg.f k BH).bind fun CZ=>((aG.f (!CZ) 13).bind fun BS=>(if BF < 0 then ((aG.f true 7).bind fun t116=>((aG.f ((Bv.length : Int) == 0) 16).bind fun t117=>((bM.f (Bv.length : Int)).bind fun C8=>((aG.f C8 18).bind fun t119=>((aM.f k (([BS,t116,t117,t119] : List Int))).bind fun C9=>(aA.j0 k C9 BJ BH BF BI BK Bv)))))) else (if BF > 2 then ((aG.f true 7).bind fun t124=>((aG.f ((Bv.length : Int) == 0) 16).bind fun Da=>((bM.f (Bv.length : Int)).bind fun Db=>((aG.f Db 18).bind fun t127=>((aM.f k (([BS,t124,Da,t127] : List Int))).bind fun t131=>(aA.j0 k t131 BJ BH BF BI BK Bv)))))) else ((bG.f BI 3600).bind fun CB=>((aG.f (!CB) 7).bind fun Co=>((aG.f ((Bv.length : Int) == 0) 16).bind fun Cm=>((bM.f (Bv.length : Int)).bind fun Cq=>((aG.f Cq 18).bind fun Ce=>((aM.f k (([BS,Co,Cm,Ce] : List Int))).bind fun Cg=>(aA.j0 k Cg BJ BH BF BI BK Bv))))))))))) else ((aG.f true 13).bind fun t141=>(if BF < 0 then ((aG.f true 7).bind fun DY=>((aG.f ((Bv.length : Int) == 0) 16).bind fun t143=>((bM.f (Bv.length : Int)).bind fun DZ=>((aG.f DZ 18).bind fun t145=>((aM.f k (([t141,DY,t143,t145] : List Int))).bind fun D5=>(aA.j0 k D5 BJ BH BF BI BK Bv)))))) else (if BF > 2 then ((aG.f true 7).bind fun D6=>((aG.f ((Bv.length : Int) == 0) 16).bind fun D7=>((bM.f (Bv.length : Int)).bind fun t152=>((aG.f t152 18).bind fun D8=>((aM.f k (([t141,D6,D7,D8] : List Int))).bind fun t157=>(aA.j0 k t157 BJ BH BF BI BK Bv)))))) else ((bG.f BI 3600).bind fun D9=>((aG.f (!D9) 7).bind fun t159=>((aG.f ((Bv.length : Int) == 0) 16).bind fun t160=>((bM.f (Bv.length : Int)).bind fun Ea=>((aG.f Ea 18).bind fun t162=>((aM.f k (([t141,t159,t160,t162] : List Int))).bind fun Eb=>(aA.j0 k Eb BJ BH BF BI BK Bv)))))))))))) = some r:=h
 clear h
 have He:=Aside0.mk H
 clear H
 go_enter Tryz.func83,Tryz.ntmps83
 go_upto_region 1 with (first|((with_reducible refine dz (N:=1) rfl ?_);(try (refine iJ (by rfl) ?_;dsimp only));refine dJ ?hg (N:=1) ?hd (cs:=#[.string BJ,.string BH,.int .i64 BF,.int .i64 BI,.bool BK,.slice Dh Bv.length Ct]) (t:=77) ?hr ?_;(case hd=>rfl);(case hg=>rfl);(case hr=>first|(go_simp;done)|(go_simp;rfl));intro BL hg w3 hbox hb;have CF:=Aside0.mk (aN hb_ hb);have CG:=Aside0.mk (hbox);have CS:=Aside0.mk ((by rw [hg];exact (aU hb_) : w.heap.size ≤ BL));have DW:=Aside0.mk ((by rw [hg];exact (aU hb_) : w.heap.size ≤ BL));clear HB;have HB:=CF;have Bz:=CG;have Iy:=CS;have Iz:=DW;clear CF CG CS DW;clear hb hbox hg))
 (try simp only [Act.put,List.setIfInBounds_toArray,List.set_cons_zero,List.set_cons_succ])
 go_cut [3] (fun v3 wc=>∃ (kq : Nat) (Di : Int),v3 = .int .i64 Di ∧ Aside0 (aA.j0 kq Di BJ BH BF BI BK Bv = some r) ∧ Aside0 (kq ≤ k) ∧ Aside0 (Di = 0 → bg.f k BH = some true) ∧ Aside0 (wc.heap[BL]? = some (.cells #[.string BJ,.string BH,.int .i64 BF,.int .i64 BI,.bool BK,(.slice Dh Bv.length Ct)] 77 (0,0))) ∧ Aside0 (Below w.heap.size w wc))
 case first =>
  have H:=He.out
  clear He
  replace H:=Option.bind_eq_some_iff.mp H
  obtain ⟨DV,IB,H⟩:=H
  replace H : (if DV = true then ((bg.f k BH).bind fun CZ=>((aG.f (!CZ) 13).bind fun BS=>(if BF < 0 then ((aG.f true 7).bind fun t116=>((aG.f ((Bv.length : Int) == 0) 16).bind fun t117=>((bM.f (Bv.length : Int)).bind fun C8=>((aG.f C8 18).bind fun t119=>((aM.f k (([BS,t116,t117,t119] : List Int))).bind fun C9=>(aA.j0 k C9 BJ BH BF BI BK Bv)))))) else (if BF > 2 then ((aG.f true 7).bind fun t124=>((aG.f ((Bv.length : Int) == 0) 16).bind fun Da=>((bM.f (Bv.length : Int)).bind fun Db=>((aG.f Db 18).bind fun t127=>((aM.f k (([BS,t124,Da,t127] : List Int))).bind fun t131=>(aA.j0 k t131 BJ BH BF BI BK Bv)))))) else ((bG.f BI 3600).bind fun CB=>((aG.f (!CB) 7).bind fun Co=>((aG.f ((Bv.length : Int) == 0) 16).bind fun Cm=>((bM.f (Bv.length : Int)).bind fun Cq=>((aG.f Cq 18).bind fun Ce=>((aM.f k (([BS,Co,Cm,Ce] : List Int))).bind fun Cg=>(aA.j0 k Cg BJ BH BF BI BK Bv))))))))))) else ((aG.f true 13).bind fun t141=>(if BF < 0 then ((aG.f true 7).bind fun DY=>((aG.f ((Bv.length : Int) == 0) 16).bind fun t143=>((bM.f (Bv.length : Int)).bind fun DZ=>((aG.f DZ 18).bind fun t145=>((aM.f k (([t141,DY,t143,t145] : List Int))).bind fun D5=>(aA.j0 k D5 BJ BH BF BI BK Bv)))))) else (if BF > 2 then ((aG.f true 7).bind fun D6=>((aG.f ((Bv.length : Int) == 0) 16).bind fun D7=>((bM.f (Bv.length : Int)).bind fun t152=>((aG.f t152 18).bind fun D8=>((aM.f k (([t141,D6,D7,D8] : List Int))).bind fun t157=>(aA.j0 k t157 BJ BH BF BI BK Bv)))))) else ((bG.f BI 3600).bind fun D9=>((aG.f (!D9) 7).bind fun t159=>((aG.f ((Bv.length : Int) == 0) 16).bind fun t160=>((bM.f (Bv.length : Int)).bind fun Ea=>((aG.f Ea 18).bind fun t162=>((aM.f k (([t141,t159,t160,t162] : List Int))).bind fun Eb=>(aA.j0 k Eb BJ BH BF BI BK Bv))))))))))) = some r:=H
  have A4:=Aside0.mk IB
  clear IB
  by_cases c5 : DV = true
  ·subst c5
   have H1 : ((bg.f k BH).bind fun CZ=>((aG.f (!CZ) 13).bind fun BS=>(if BF < 0 then ((aG.f true 7).bind fun t116=>((aG.f ((Bv.length : Int) == 0) 16).bind fun t117=>((bM.f (Bv.length : Int)).bind fun C8=>((aG.f C8 18).bind fun t119=>((aM.f k (([BS,t116,t117,t119] : List Int))).bind fun C9=>(aA.j0 k C9 BJ BH BF BI BK Bv)))))) else (if BF > 2 then ((aG.f true 7).bind fun t124=>((aG.f ((Bv.length : Int) == 0) 16).bind fun Da=>((bM.f (Bv.length : Int)).bind fun Db=>((aG.f Db 18).bind fun t127=>((aM.f k (([BS,t124,Da,t127] : List Int))).bind fun t131=>(aA.j0 k t131 BJ BH BF BI BK Bv)))))) else ((bG.f BI 3600).bind fun CB=>((aG.f (!CB) 7).bind fun Co=>((aG.f ((Bv.length : Int) == 0) 16).bind fun Cm=>((bM.f (Bv.length : Int)).bind fun Cq=>((aG.f Cq 18).bind fun Ce=>((aM.f k (([BS,Co,Cm,Ce] : List Int))).bind fun Cg=>(aA.j0 k Cg BJ BH BF BI BK Bv))))))))))) = some r:=by rw [if_pos rfl] at H;exact H
   clear H
   have H:=H1
   clear H1
   replace H:=Option.bind_eq_some_iff.mp H
   obtain ⟨CZ,IC,H⟩:=H
   replace H : ((aG.f (!CZ) 13).bind fun BS=>(if BF < 0 then ((aG.f true 7).bind fun t116=>((aG.f ((Bv.length : Int) == 0) 16).bind fun t117=>((bM.f (Bv.length : Int)).bind fun C8=>((aG.f C8 18).bind fun t119=>((aM.f k (([BS,t116,t117,t119] : List Int))).bind fun C9=>(aA.j0 k C9 BJ BH BF BI BK Bv)))))) else (if BF > 2 then ((aG.f true 7).bind fun t124=>((aG.f ((Bv.length : Int) == 0) 16).bind fun Da=>((bM.f (Bv.length : Int)).bind fun Db=>((aG.f Db 18).bind fun t127=>((aM.f k (([BS,t124,Da,t127] : List Int))).bind fun t131=>(aA.j0 k t131 BJ BH BF BI BK Bv)))))) else ((bG.f BI 3600).bind fun CB=>((aG.f (!CB) 7).bind fun Co=>((aG.f ((Bv.length : Int) == 0) 16).bind fun Cm=>((bM.f (Bv.length : Int)).bind fun Cq=>((aG.f Cq 18).bind fun Ce=>((aM.f k (([BS,Co,Cm,Ce] : List Int))).bind fun Cg=>(aA.j0 k Cg BJ BH BF BI BK Bv)))))))))) = some r:=H
   have A6:=Aside0.mk IC
   clear IC
   replace H:=Option.bind_eq_some_iff.mp H
   obtain ⟨BS,IE,H⟩:=H
   replace H : (if BF < 0 then ((aG.f true 7).bind fun t116=>((aG.f ((Bv.length : Int) == 0) 16).bind fun t117=>((bM.f (Bv.length : Int)).bind fun C8=>((aG.f C8 18).bind fun t119=>((aM.f k (([BS,t116,t117,t119] : List Int))).bind fun C9=>(aA.j0 k C9 BJ BH BF BI BK Bv)))))) else (if BF > 2 then ((aG.f true 7).bind fun t124=>((aG.f ((Bv.length : Int) == 0) 16).bind fun Da=>((bM.f (Bv.length : Int)).bind fun Db=>((aG.f Db 18).bind fun t127=>((aM.f k (([BS,t124,Da,t127] : List Int))).bind fun t131=>(aA.j0 k t131 BJ BH BF BI BK Bv)))))) else ((bG.f BI 3600).bind fun CB=>((aG.f (!CB) 7).bind fun Co=>((aG.f ((Bv.length : Int) == 0) 16).bind fun Cm=>((bM.f (Bv.length : Int)).bind fun Cq=>((aG.f Cq 18).bind fun Ce=>((aM.f k (([BS,Co,Cm,Ce] : List Int))).bind fun Cg=>(aA.j0 k Cg BJ BH BF BI BK Bv))))))))) = some r:=H
   have A7:=Aside0.mk IE
   clear IE
   by_cases c8 : BF < 0
   ·exact absurd c8 (by rw [HZ2.out]; decide)
   ·rw [if_neg c8] at H
    have c8b0 : decide (BF < 0) = false:=decide_eq_false c8
    clear c8
    (first|rw [c8b0]|(simp only [bJ,bK];rw [c8b0])|skip)
    by_cases c19 : BF > 2
    ·exact absurd c19 (by rw [HZ2.out]; decide)
    ·rw [if_neg c19] at H
     have c19b0 : decide (2 < BF) = false:=decide_eq_false c19
     clear c19
     replace H:=Option.bind_eq_some_iff.mp H
     obtain ⟨CB,FM,H⟩:=H
     replace H : ((aG.f (!CB) 7).bind fun Co=>((aG.f ((Bv.length : Int) == 0) 16).bind fun Cm=>((bM.f (Bv.length : Int)).bind fun Cq=>((aG.f Cq 18).bind fun Ce=>((aM.f k (([BS,Co,Cm,Ce] : List Int))).bind fun Cg=>(aA.j0 k Cg BJ BH BF BI BK Bv)))))) = some r:=H
     have I6:=Aside0.mk FM
     clear FM
     replace H:=Option.bind_eq_some_iff.mp H
     obtain ⟨Co,FN,H⟩:=H
     replace H : ((aG.f ((Bv.length : Int) == 0) 16).bind fun Cm=>((bM.f (Bv.length : Int)).bind fun Cq=>((aG.f Cq 18).bind fun Ce=>((aM.f k (([BS,Co,Cm,Ce] : List Int))).bind fun Cg=>(aA.j0 k Cg BJ BH BF BI BK Bv))))) = some r:=H
     have I7:=Aside0.mk FN
     clear FN
     replace H:=Option.bind_eq_some_iff.mp H
     obtain ⟨Cm,FP,H⟩:=H
     replace H : ((bM.f (Bv.length : Int)).bind fun Cq=>((aG.f Cq 18).bind fun Ce=>((aM.f k (([BS,Co,Cm,Ce] : List Int))).bind fun Cg=>(aA.j0 k Cg BJ BH BF BI BK Bv)))) = some r:=H
     have I8:=Aside0.mk FP
     clear FP
     replace H:=Option.bind_eq_some_iff.mp H
     obtain ⟨Cq,FQ,H⟩:=H
     replace H : ((aG.f Cq 18).bind fun Ce=>((aM.f k (([BS,Co,Cm,Ce] : List Int))).bind fun Cg=>(aA.j0 k Cg BJ BH BF BI BK Bv))) = some r:=H
     have I9:=Aside0.mk FQ
     clear FQ
     replace H:=Option.bind_eq_some_iff.mp H
     obtain ⟨Ce,FR,H⟩:=H
     replace H : ((aM.f k (([BS,Co,Cm,Ce] : List Int))).bind fun Cg=>(aA.j0 k Cg BJ BH BF BI BK Bv)) = some r:=H
     have Ja:=Aside0.mk FR
     clear FR
     obtain ⟨Fz,Dr⟩ : ∃ y_ : List Int,y_ = (([BS,Co,Cm,Ce] : List Int)):=⟨_,rfl⟩
     replace H : ((aM.f k Fz).bind fun Cg=>(aA.j0 k Cg BJ BH BF BI BK Bv)) = some r:=by first|(rw [Dr];with_reducible exact H)|(have FB:=(Option.bind_some _ _).symm.trans H;rw [Dr];with_reducible exact FB)|(have FB:=(Option.bind_some _ _).symm.trans H;with_reducible exact FB)|with_reducible exact H|(rw [Dr];exact H)|exact H
     have Ec:=Aside0.mk Dr
     clear Dr
     replace H:=Option.bind_eq_some_iff.mp H
     obtain ⟨Cg,FT,H⟩:=H
     replace H : (aA.j0 k Cg BJ BH BF BI BK Bv) = some r:=H
     have IG:=Aside0.mk FT
     clear FT
     have H':=Aside0.mk H
     clear H
     try go_wp2
     have CF:=Aside0.mk (av Bz.out)
     have CG:=Aside0.mk (bF HB.out)
     clear Bz
     clear HB
     have Bz:=CF
     have HB:=CG
     clear CF CG
     refine iE (n:=39) (S:=fun w'=>w'.cell? ⟨BL,0,none⟩ = some (.string BJ) ∧ w'.cell? ⟨BL,1,none⟩ = some (.string BH) ∧ w'.cell? ⟨BL,2,none⟩ = some (.int .i64 BF) ∧ w'.cell? ⟨BL,3,none⟩ = some (.int .i64 BI) ∧ w'.cell? ⟨BL,4,none⟩ = some (.bool BK) ∧ w'.cell? ⟨BL,5,none⟩ = some (.slice Dh Bv.length Ct)) (ds:=[]) #[O,O,O,O,O,O,O,O,O,O,O,O,O,O,O,O,O,O,O,O,O,O,O,O,O,O,O,O,O,O,O,O,O,O,O,O,O,O,O] (by kernel_rfl) rfl rfl ⟨(ah Bz.out 0).trans rfl,(ah Bz.out 1).trans rfl,(ah Bz.out 2).trans rfl,(ah Bz.out 3).trans rfl,(ah Bz.out 4).trans rfl,(ah Bz.out 5).trans rfl⟩ (fun hHeld=>?_);refine fC aA.sJ aA.oK (fun HT_ HW_=>?_)
     generalize w3.drew = Jm at Bz HB hHeld ⊢
     refine pu_ 0 8 #[I,O,O,O,O,O,O,O,O,O,O,O,O,O,O,O,O,O,O,O,O,O,O,O,O,O,O,O,O,O,O,O,O,O,O,O,O,O,O] HT_.out ?_
     refine pu_ 11 19 #[I,O,O,O,O,O,O,O,O,O,O,I,O,O,O,O,O,O,O,O,O,O,O,O,O,O,O,O,O,O,O,O,O,O,O,O,O,O,O] HT_.out ?_
     refine pu_ 26 34 #[I,O,O,O,O,O,O,O,O,O,O,I,O,O,O,O,O,O,O,O,O,O,O,O,O,O,I,O,O,O,O,O,O,O,O,O,O,O,O] HT_.out ?_
     refine pu_ 31 39 #[I,O,O,O,O,O,O,O,O,O,O,I,O,O,O,O,O,O,O,O,O,O,O,O,O,O,I,O,O,O,O,I,O,O,O,O,O,O,O] HT_.out ?_
     refine ta_ 1 9 #[I,I,O,O,O,O,O,O,O,O,O,I,O,O,O,O,O,O,O,O,O,O,O,O,O,O,I,O,O,O,O,I,O,O,O,O,O,O,O] HT_.out HW_.out hHeld ?_
     refine ta_ 12 20 #[I,I,O,O,O,O,O,O,O,O,O,I,I,O,O,O,O,O,O,O,O,O,O,O,O,O,I,O,O,O,O,I,O,O,O,O,O,O,O] HT_.out HW_.out hHeld ?_
     refine pu_ 13 21 #[I,I,O,O,O,O,O,O,O,O,O,I,I,I,O,O,O,O,O,O,O,O,O,O,O,O,I,O,O,O,O,I,O,O,O,O,O,O,O] HT_.out ?_
     refine ta_ 27 35 #[I,I,O,O,O,O,O,O,O,O,O,I,I,I,O,O,O,O,O,O,O,O,O,O,O,O,I,I,O,O,O,I,O,O,O,O,O,O,O] HT_.out HW_.out hHeld ?_
     refine pu_ 28 36 #[I,I,O,O,O,O,O,O,O,O,O,I,I,I,O,O,O,O,O,O,O,O,O,O,O,O,I,I,I,O,O,I,O,O,O,O,O,O,O] HT_.out ?_
     refine pu_ 29 37 #[I,I,O,O,O,O,O,O,O,O,O,I,I,I,O,O,O,O,O,O,O,O,O,O,O,O,I,I,I,I,O,I,O,O,O,O,O,O,O] HT_.out ?_
     refine ta_ 32 40 #[I,I,O,O,O,O,O,O,O,O,O,I,I,I,O,O,O,O,O,O,O,O,O,O,O,O,I,I,I,I,O,I,I,O,O,O,O,O,O] HT_.out HW_.out hHeld ?_
     refine pu_ 33 41 #[I,I,O,O,O,O,O,O,O,O,O,I,I,I,O,O,O,O,O,O,O,O,O,O,O,O,I,I,I,I,O,I,I,I,O,O,O,O,O] HT_.out ?_
     refine fE (i:=2) (N:=some 10) #[I,I,I,O,O,O,O,O,O,O,O,I,I,I,O,O,O,O,O,O,O,O,O,O,O,O,I,I,I,I,O,I,I,I,O,O,O,O,O] rfl rfl (dh HT_.out (by kernel_rfl)) (by decide) (fun K hK=>?_)
     refine eH Tryz.func71 (by kernel_rfl) rfl #[.string BJ] (by rfl) rfl rfl (by (try simp only [List.map_toArray,List.map_cons,List.map_nil]);first|done|rfl|(simp only [List.length_drop,List.length_take];rfl)) ?_
     with_reducible refine (eD.calls k BJ true _ A4.out).mono ?_
     rintro e Jo ⟨rfl,hb⟩
     refine ⟨_,rfl,?_⟩
     have CF:=Aside0.mk (aI (g:=BL) (o:=.cells #[.string BJ,.string BH,.int .i64 BF,.int .i64 BI,.bool BK,.slice Dh Bv.length Ct] 77 (0,0)) (bk_ Bz.out) hb)
     have CG:=Aside0.mk (aN hb_ hb)
     clear Bz
     clear HB
     have Bz:=CF
     have HB:=CG
     clear CF CG
     (try clear hb)
     (try clear hb2)
     (try clear hk)
     (try clear hi)
     refine hK.out _ _ ⟨(ah Bz.out 0).trans rfl,(ah Bz.out 1).trans rfl,(ah Bz.out 2).trans rfl,(ah Bz.out 3).trans rfl,(ah Bz.out 4).trans rfl,(ah Bz.out 5).trans rfl⟩ (fun hHeld=>?_)
     clear hK K
     refine dS (a':=?_) ?_ ?_
     rotate_left
     ·show Act.put _ (some 10) _ = _
      simp only [Act.put,List.setIfInBounds_toArray,List.set_cons_zero,List.set_cons_succ,bJ,bK]
      rfl
     refine pu_ 3 11 #[I,I,I,I,O,O,O,O,O,O,O,I,I,I,O,O,O,O,O,O,O,O,O,O,O,O,I,I,I,I,O,I,I,I,O,O,O,O,O] HT_.out ?_
     refine pu_ 4 12 #[I,I,I,I,I,O,O,O,O,O,O,I,I,I,O,O,O,O,O,O,O,O,O,O,O,O,I,I,I,I,O,I,I,I,O,O,O,O,O] HT_.out ?_
     refine pu_ 5 13 #[I,I,I,I,I,I,O,O,O,O,O,I,I,I,O,O,O,O,O,O,O,O,O,O,O,O,I,I,I,I,O,I,I,I,O,O,O,O,O] HT_.out ?_
     refine ta_ 6 14 #[I,I,I,I,I,I,I,O,O,O,O,I,I,I,O,O,O,O,O,O,O,O,O,O,O,O,I,I,I,I,O,I,I,I,O,O,O,O,O] HT_.out HW_.out hHeld ?_
     refine fE (i:=7) (N:=some 15) #[I,I,I,I,I,I,I,I,O,O,O,I,I,I,O,O,O,O,O,O,O,O,O,O,O,O,I,I,I,I,O,I,I,I,O,O,O,O,O] rfl rfl (dh HT_.out (by kernel_rfl)) (by decide) (fun K hK=>?_)
     refine eH Tryz.func70 (by kernel_rfl) rfl #[.string BH] (by rfl) rfl rfl (by (try simp only [List.map_toArray,List.map_cons,List.map_nil]);first|done|rfl|(simp only [List.length_drop,List.length_take];rfl)) ?_
     with_reducible refine (bg.calls k BH CZ _ A6.out).mono ?_
     rintro e w' ⟨rfl,⟨nd,rfl⟩⟩
     refine ⟨_,rfl,?_⟩
     refine hK.out _ _ ⟨(ah Bz.out 0).trans rfl,(ah Bz.out 1).trans rfl,(ah Bz.out 2).trans rfl,(ah Bz.out 3).trans rfl,(ah Bz.out 4).trans rfl,(ah Bz.out 5).trans rfl⟩ (fun hHeld=>?_)
     clear hK K
     refine dS (a':=?_) ?_ ?_
     rotate_left
     ·show Act.put _ (some 15) _ = _
      simp only [Act.put,List.setIfInBounds_toArray,List.set_cons_zero,List.set_cons_succ,bJ,bK]
      rfl
     refine pu_ 8 16 #[I,I,I,I,I,I,I,I,I,O,O,I,I,I,O,O,O,O,O,O,O,O,O,O,O,O,I,I,I,I,O,I,I,I,O,O,O,O,O] HT_.out ?_
     refine pu_ 9 17 #[I,I,I,I,I,I,I,I,I,I,O,I,I,I,O,O,O,O,O,O,O,O,O,O,O,O,I,I,I,I,O,I,I,I,O,O,O,O,O] HT_.out ?_
     refine fE (i:=10) (N:=some 18) #[I,I,I,I,I,I,I,I,I,I,I,I,I,I,O,O,O,O,O,O,O,O,O,O,O,O,I,I,I,I,O,I,I,I,O,O,O,O,O] rfl rfl (dh HT_.out (by kernel_rfl)) (by decide) (fun K hK=>?_)
     refine eH Tryz.func105 (by kernel_rfl) rfl #[.bool (!CZ),.int .i64 13] (by rfl) rfl rfl (by (try simp only [List.map_toArray,List.map_cons,List.map_nil]);first|done|rfl|(simp only [List.length_drop,List.length_take];rfl)) ?_
     with_reducible refine (aG.calls (!CZ) 13 BS _ A7.out).mono ?_
     rintro e w' ⟨rfl,⟨nd,rfl⟩⟩
     refine ⟨_,rfl,?_⟩
     refine hK.out _ _ ⟨(ah Bz.out 0).trans rfl,(ah Bz.out 1).trans rfl,(ah Bz.out 2).trans rfl,(ah Bz.out 3).trans rfl,(ah Bz.out 4).trans rfl,(ah Bz.out 5).trans rfl⟩ (fun hHeld=>?_)
     clear hK K
     refine dS (a':=?_) ?_ ?_
     rotate_left
     ·show Act.put _ (some 18) _ = _
      simp only [Act.put,List.setIfInBounds_toArray,List.set_cons_zero,List.set_cons_succ,bJ,bK]
      rfl
     refine pu_ 14 22 #[I,I,I,I,I,I,I,I,I,I,I,I,I,I,I,O,O,O,O,O,O,O,O,O,O,O,I,I,I,I,O,I,I,I,O,O,O,O,O] HT_.out ?_
     refine pu_ 15 23 #[I,I,I,I,I,I,I,I,I,I,I,I,I,I,I,I,O,O,O,O,O,O,O,O,O,O,I,I,I,I,O,I,I,I,O,O,O,O,O] HT_.out ?_
     refine ta_ 16 24 #[I,I,I,I,I,I,I,I,I,I,I,I,I,I,I,I,I,O,O,O,O,O,O,O,O,O,I,I,I,I,O,I,I,I,O,O,O,O,O] HT_.out HW_.out hHeld ?_
     refine pu_ 17 25 #[I,I,I,I,I,I,I,I,I,I,I,I,I,I,I,I,I,I,O,O,O,O,O,O,O,O,I,I,I,I,O,I,I,I,O,O,O,O,O] HT_.out ?_
     refine pu_ 18 26 #[I,I,I,I,I,I,I,I,I,I,I,I,I,I,I,I,I,I,I,O,O,O,O,O,O,O,I,I,I,I,O,I,I,I,O,O,O,O,O] HT_.out ?_
     refine pu_ 19 27 #[I,I,I,I,I,I,I,I,I,I,I,I,I,I,I,I,I,I,I,I,O,O,O,O,O,O,I,I,I,I,O,I,I,I,O,O,O,O,O] HT_.out ?_
     refine pu_ 20 28 #[I,I,I,I,I,I,I,I,I,I,I,I,I,I,I,I,I,I,I,I,I,O,O,O,O,O,I,I,I,I,O,I,I,I,O,O,O,O,O] HT_.out ?_
     refine ta_ 21 29 #[I,I,I,I,I,I,I,I,I,I,I,I,I,I,I,I,I,I,I,I,I,I,O,O,O,O,I,I,I,I,O,I,I,I,O,O,O,O,O] HT_.out HW_.out hHeld ?_
     refine fE (i:=22) (N:=some 30) #[I,I,I,I,I,I,I,I,I,I,I,I,I,I,I,I,I,I,I,I,I,I,I,O,O,O,I,I,I,I,O,I,I,I,O,O,O,O,O] rfl rfl (dh HT_.out (by kernel_rfl)) (by decide) (fun K hK=>?_)
     refine eH Tryz.func106 (by kernel_rfl) rfl #[.int .i64 BI,.int .i64 3600] (by rfl) rfl rfl (by (try simp only [List.map_toArray,List.map_cons,List.map_nil]);first|done|rfl|(simp only [List.length_drop,List.length_take];rfl)) ?_
     with_reducible refine (bG.calls BI 3600 CB _ I6.out).mono ?_
     rintro e w' ⟨rfl,⟨nd,rfl⟩⟩
     refine ⟨_,rfl,?_⟩
     refine hK.out _ _ ⟨(ah Bz.out 0).trans rfl,(ah Bz.out 1).trans rfl,(ah Bz.out 2).trans rfl,(ah Bz.out 3).trans rfl,(ah Bz.out 4).trans rfl,(ah Bz.out 5).trans rfl⟩ (fun hHeld=>?_)
     clear hK K
     refine dS (a':=?_) ?_ ?_
     rotate_left
     ·show Act.put _ (some 30) _ = _
      simp only [Act.put,List.setIfInBounds_toArray,List.set_cons_zero,List.set_cons_succ,bJ,bK]
      rfl
     refine pu_ 23 31 #[I,I,I,I,I,I,I,I,I,I,I,I,I,I,I,I,I,I,I,I,I,I,I,I,O,O,I,I,I,I,O,I,I,I,O,O,O,O,O] HT_.out ?_
     refine pu_ 24 32 #[I,I,I,I,I,I,I,I,I,I,I,I,I,I,I,I,I,I,I,I,I,I,I,I,I,O,I,I,I,I,O,I,I,I,O,O,O,O,O] HT_.out ?_
     refine fE (i:=25) (N:=some 33) #[I,I,I,I,I,I,I,I,I,I,I,I,I,I,I,I,I,I,I,I,I,I,I,I,I,I,I,I,I,I,O,I,I,I,O,O,O,O,O] rfl rfl (dh HT_.out (by kernel_rfl)) (by decide) (fun K hK=>?_)
     refine eH Tryz.func105 (by kernel_rfl) rfl #[.bool (!CB),.int .i64 7] (by rfl) rfl rfl (by (try simp only [List.map_toArray,List.map_cons,List.map_nil]);first|done|rfl|(simp only [List.length_drop,List.length_take];rfl)) ?_
     with_reducible refine (aG.calls (!CB) 7 Co _ I7.out).mono ?_
     rintro e w' ⟨rfl,⟨nd,rfl⟩⟩
     refine ⟨_,rfl,?_⟩
     refine hK.out _ _ ⟨(ah Bz.out 0).trans rfl,(ah Bz.out 1).trans rfl,(ah Bz.out 2).trans rfl,(ah Bz.out 3).trans rfl,(ah Bz.out 4).trans rfl,(ah Bz.out 5).trans rfl⟩ (fun hHeld=>?_)
     clear hK K
     refine dS (a':=?_) ?_ ?_
     rotate_left
     ·show Act.put _ (some 33) _ = _
      simp only [Act.put,List.setIfInBounds_toArray,List.set_cons_zero,List.set_cons_succ,bJ,bK]
      rfl
     refine fE (i:=30) (N:=some 38) #[I,I,I,I,I,I,I,I,I,I,I,I,I,I,I,I,I,I,I,I,I,I,I,I,I,I,I,I,I,I,I,I,I,I,O,O,O,O,O] rfl rfl (dh HT_.out (by kernel_rfl)) (by decide) (fun K hK=>?_)
     refine eH Tryz.func105 (by kernel_rfl) rfl #[.bool ((Bv.length : Int) == 0),.int .i64 16] (by rfl) rfl rfl (by (try simp only [List.map_toArray,List.map_cons,List.map_nil]);first|done|rfl|(simp only [List.length_drop,List.length_take];rfl)) ?_
     with_reducible refine (aG.calls ((Bv.length : Int) == 0) 16 Cm _ I8.out).mono ?_
     rintro e w' ⟨rfl,⟨nd,rfl⟩⟩
     refine ⟨_,rfl,?_⟩
     refine hK.out _ _ ⟨(ah Bz.out 0).trans rfl,(ah Bz.out 1).trans rfl,(ah Bz.out 2).trans rfl,(ah Bz.out 3).trans rfl,(ah Bz.out 4).trans rfl,(ah Bz.out 5).trans rfl⟩ (fun hHeld=>?_)
     clear hK K
     refine dS (a':=?_) ?_ ?_
     rotate_left
     ·show Act.put _ (some 38) _ = _
      simp only [Act.put,List.setIfInBounds_toArray,List.set_cons_zero,List.set_cons_succ,bJ,bK]
      rfl
     refine fE (i:=34) (N:=some 42) #[I,I,I,I,I,I,I,I,I,I,I,I,I,I,I,I,I,I,I,I,I,I,I,I,I,I,I,I,I,I,I,I,I,I,I,O,O,O,O] rfl rfl (dh HT_.out (by kernel_rfl)) (by decide) (fun K hK=>?_)
     refine eH Tryz.func107 (by kernel_rfl) rfl #[.int .i64 (Bv.length : Int)] (by rfl) rfl rfl (by (try simp only [List.map_toArray,List.map_cons,List.map_nil]);first|done|rfl|(simp only [List.length_drop,List.length_take];rfl)) ?_
     with_reducible refine (bM.calls (Bv.length : Int) Cq _ I9.out).mono ?_
     rintro e w' ⟨rfl,⟨nd,rfl⟩⟩
     refine ⟨_,rfl,?_⟩
     refine hK.out _ _ ⟨(ah Bz.out 0).trans rfl,(ah Bz.out 1).trans rfl,(ah Bz.out 2).trans rfl,(ah Bz.out 3).trans rfl,(ah Bz.out 4).trans rfl,(ah Bz.out 5).trans rfl⟩ (fun hHeld=>?_)
     clear hK K
     refine dS (a':=?_) ?_ ?_
     rotate_left
     ·show Act.put _ (some 42) _ = _
      simp only [Act.put,List.setIfInBounds_toArray,List.set_cons_zero,List.set_cons_succ,bJ,bK]
      rfl
     refine fE (i:=35) (N:=some 43) #[I,I,I,I,I,I,I,I,I,I,I,I,I,I,I,I,I,I,I,I,I,I,I,I,I,I,I,I,I,I,I,I,I,I,I,I,O,O,O] rfl rfl (dh HT_.out (by kernel_rfl)) (by decide) (fun K hK=>?_)
     refine eH Tryz.func105 (by kernel_rfl) rfl #[.bool Cq,.int .i64 18] (by rfl) rfl rfl (by (try simp only [List.map_toArray,List.map_cons,List.map_nil]);first|done|rfl|(simp only [List.length_drop,List.length_take];rfl)) ?_
     with_reducible refine (aG.calls Cq 18 Ce _ Ja.out).mono ?_
     rintro e w' ⟨rfl,⟨nd,rfl⟩⟩
     refine ⟨_,rfl,?_⟩
     refine hK.out _ _ ⟨(ah Bz.out 0).trans rfl,(ah Bz.out 1).trans rfl,(ah Bz.out 2).trans rfl,(ah Bz.out 3).trans rfl,(ah Bz.out 4).trans rfl,(ah Bz.out 5).trans rfl⟩ (fun hHeld=>?_)
     clear hK K
     refine dS (a':=?_) ?_ ?_
     rotate_left
     ·show Act.put _ (some 43) _ = _
      simp only [Act.put,List.setIfInBounds_toArray,List.set_cons_zero,List.set_cons_succ,bJ,bK]
      rfl
     refine fE (i:=36) (N:=some 44) #[I,I,I,I,I,I,I,I,I,I,I,I,I,I,I,I,I,I,I,I,I,I,I,I,I,I,I,I,I,I,I,I,I,I,I,I,I,O,O] rfl rfl (dh HT_.out (by kernel_rfl)) (by decide) (fun K hK=>?_)
     refine Kd.lS (Kd.int .i64) _ 114 ?hg (N:=44) ?hd (xs:=([BS,Co,Cm,Ce] : List Int)) (inner:=[.int .i64 BS,.int .i64 Co,.int .i64 Cm,.int .i64 Ce]) (ok:=fun _=>True) (okp:=fun _=>True) ?hr ?hp (fun _ hk=>hk) trivial (Below.refl _ _) (Nat.le_refl _) (by simp) ?_;(case hd=>rfl);(case hg=>rfl);(case hr=>first|(go_simp;done)|(go_simp;rfl));(case hp=>exact (dW.one (show Kd.M (Kd.int .i64) _ _ _ BS [.int .i64 BS] from rfl) (dW.one (show Kd.M (Kd.int .i64) _ _ _ Co [.int .i64 Co] from rfl) (dW.one (show Kd.M (Kd.int .i64) _ _ _ Cm [.int .i64 Cm] from rfl) (dW.one (show Kd.M (Kd.int .i64) _ _ _ Ce [.int .i64 Ce] from rfl) (dW.none _ _))))))
     intro v138 Jp Ed hb hg_ hnew_
     clear hg_ hnew_
     (first|rw [← Ec.out] at Ed|(simp only [Int.reduceToNat] at Ed;rw [← Ec.out] at Ed))
     have CF:=Aside0.mk (Kd.jr Ed (aU hb_))
     have CG:=Aside0.mk (aI (g:=BL) (o:=.cells #[.string BJ,.string BH,.int .i64 BF,.int .i64 BI,.bool BK,.slice Dh Bv.length Ct] 77 (0,0)) (bk_ Bz.out) hb)
     have CS:=Aside0.mk (aN hb_ hb)
     clear Bz
     clear HB
     have Ee:=CF
     have Bz:=CG
     have HB:=CS
     clear CF CG CS
     clear hb Ed
     obtain ⟨Hf,Hg,FU⟩:=Kd.gH Ee.out
     (first|subst FU|(injection FU with FV Hl FW;have Ho:=FV.symm;have Hq:=FW.symm;clear FV Hl FW;subst Ho;subst Hq))
     refine hK.out _ _ ⟨(ah Bz.out 0).trans rfl,(ah Bz.out 1).trans rfl,(ah Bz.out 2).trans rfl,(ah Bz.out 3).trans rfl,(ah Bz.out 4).trans rfl,(ah Bz.out 5).trans rfl⟩ (fun hHeld=>?_)
     clear hK K
     refine dS (a':=?_) ?_ ?_
     rotate_left
     ·show Act.put _ (some 44) _ = _
      simp only [Act.put,List.setIfInBounds_toArray,List.set_cons_zero,List.set_cons_succ,bJ,bK]
      rfl
     refine fE (i:=37) (N:=some 45) #[I,I,I,I,I,I,I,I,I,I,I,I,I,I,I,I,I,I,I,I,I,I,I,I,I,I,I,I,I,I,I,I,I,I,I,I,I,I,O] rfl rfl (dh HT_.out (by kernel_rfl)) (by decide) (fun K hK=>?_)
     refine eH Tryz.func104 (by kernel_rfl) rfl #[.slice Hf Fz.length Hg] (by rfl) rfl rfl (by (try simp only [List.map_toArray,List.map_cons,List.map_nil]);first|done|rfl|(simp only [List.length_drop,List.length_take];rfl)) ?_
     with_reducible refine (aM.calls k _ _ Fz Cg _ ?Dc ?Df IG.out).mono ?_
     (case Dc=>repeat (first|exact (Kd.fH Ee.out).2.2|(with_reducible refine Kd.dn ?_ _)|(with_reducible refine Kd.dw ?_ _)|(with_reducible refine Kd.dL ?_)))
     (case Df=>exact (Kd.fH Ee.out).2.1)
     rintro e w' ⟨rfl,⟨nd,rfl⟩⟩
     refine ⟨_,rfl,?_⟩
     refine hK.out _ _ ⟨(ah Bz.out 0).trans rfl,(ah Bz.out 1).trans rfl,(ah Bz.out 2).trans rfl,(ah Bz.out 3).trans rfl,(ah Bz.out 4).trans rfl,(ah Bz.out 5).trans rfl⟩ (fun hHeld=>?_)
     clear hK K
     refine dS (a':=?_) ?_ ?_
     rotate_left
     ·show Act.put _ (some 45) _ = _
      simp only [Act.put,List.setIfInBounds_toArray,List.set_cons_zero,List.set_cons_succ,bJ,bK]
      rfl
     refine pu_ 38 3 #[I,I,I,I,I,I,I,I,I,I,I,I,I,I,I,I,I,I,I,I,I,I,I,I,I,I,I,I,I,I,I,I,I,I,I,I,I,I,I] HT_.out ?_
     refine jd (gI HT_.out (by kernel_rfl)) ?_
     try go_wp2
     go_meet
     case rel=>exact ⟨_,(Cg),(by first|rfl|(simp;done)|(simp [*];done)),H',⟨by first|omega|exact Nat.le_refl _⟩,⟨fun h0 => zJ (A6.out) (A7.out) (by rw [← h0, ← Ec.out]; exact IG.out)⟩,⟨by (with_reducible repeat (first|apply aj|apply av|apply ak));exact Bz.out⟩,⟨hb_⟩⟩
  ·exact absurd (Option.some.inj (A4.out.symm.trans HNm.out)) c5
 case rest =>
  clear He
  try clear p2
  try clear c3
  try clear c5
  try clear c34
  try clear II
  try clear Jb
  try clear IJ
  try clear IK
  try clear c53
  try clear c53b0
  obtain ⟨kq,Di,rfl,HA,Hr,HLbx,Bz,HB⟩:=hcut
  cases kq with
  | zero=>exact absurd HA.out (by simp [aA.j0])
  | succ IL =>
   have H:=HA.out
   clear HA
   simp only [aA.j0] at H
   by_cases c75 : Di = 0
   ·rw [if_pos c75] at H
    have c75b0 : (Di == 0) = true:=beq_iff_eq.mpr c75
    have c75b1 : (Di != 0) = false:=bne_eq_false_iff_eq.mpr c75
    clear c75
    have H':=Aside0.mk H
    clear H
    have Ey : wc.cell? ⟨BL,0,none⟩ = some (.string BJ):=(ah Bz.out 0).trans rfl
    have Ez : wc.cell? ⟨BL,1,none⟩ = some (.string BH):=(ah Bz.out 1).trans rfl
    have EA : wc.cell? ⟨BL,2,none⟩ = some (.int .i64 BF):=(ah Bz.out 2).trans rfl
    have EB : wc.cell? ⟨BL,3,none⟩ = some (.int .i64 BI):=(ah Bz.out 3).trans rfl
    have EC : wc.cell? ⟨BL,4,none⟩ = some (.bool BK):=(ah Bz.out 4).trans rfl
    have ED : wc.cell? ⟨BL,5,none⟩ = some (.slice Dh Bv.length Ct):=(ah Bz.out 5).trans rfl
    have EF:=ay Bz.out 0
    have EG:=ay Bz.out 1
    have EH:=ay Bz.out 2
    have EI:=ay Bz.out 3
    have EJ:=ay Bz.out 4
    have EK:=ay Bz.out 5
    have HLb := Aside0.mk (HLbx.out (beq_iff_eq.mp c75b0))
    have Fb := Aside0.mk (Nat.ne_of_lt (bE Bz.out) : BL ≠ wc.heap.size)
    have GM := Aside0.mk HB.out.size
    have hmm := @run_makeMap Tryz.prog
    have hcy : (wc.alloc (Obj.map #[] 0)).cell? ⟨BL,5,none⟩ = some (.slice Dh Bv.length Ct) := (ah (ak Bz.out (Obj.map #[] 0)) 5).trans rfl
    go_wp2
    clear hmm hcy
    obtain ⟨mb, hmb⟩ : ∃ m, wc.heap.size = m := ⟨_, rfl⟩
    have HMB := Aside0.mk hmb
    rw [hmb] at Fb GM ⊢
    clear hmb
    go_loopg [53] IL (fun kq v53 w'=>∃ (Bu : Int),v53 = .int .i64 Bu ∧ Aside0 (aA.l0 kq Bv (Bv.length : Int) Bu = some r) ∧ Aside0 (kq ≤ IL) ∧ Aside0 (0 ≤ Bu) ∧ Aside0 (Bu = 0 → w'.ownsMap Tryz.prog 9 (plainElem (H := Unit) Tryz.prog 3) mb 0 (.map [])) ∧ Aside0 (w'.heap[BL]? = some (.cells #[.string BJ,.string BH,.int .i64 BF,.int .i64 BI,.bool BK,(.slice Dh Bv.length Ct)] 77 (0,0))) ∧ Aside0 (Below w.heap.size w w'))
    case atStart=>exact ⟨(0),(by first|rfl|(simp;done)|(simp [*];done)),H',⟨Nat.le_refl _⟩,⟨Int.le_refl _⟩,⟨fun _ => HMB.out ▸ World.ownsMap_made _ _ _ _⟩,⟨by (with_reducible repeat (first|apply aj|apply av|apply ak));exact Bz.out⟩,⟨hb_⟩⟩
    case round =>
     clear H'
     try clear p2
     try clear c3
     try clear c5
     try clear c7
     try clear c34
     try clear II
     try clear Jb
     try clear IJ
     try clear IK
     try clear c53
     try clear c53b0
     try clear c75
     try clear c75b0
     try clear c75b1
     try clear Ey
     try clear Ez
     try clear EA
     try clear EB
     try clear EC
     try clear ED
     try clear EF
     try clear EG
     try clear EH
     try clear EI
     try clear EJ
     try clear EK
     try clear p2
     obtain ⟨Bu,rfl,HA,Ht,Jc,HMp,Bz,HB⟩:=hrel
     cases gk with
     | zero=>exact absurd HA.out (by simp [aA.l0])
     | succ k2 =>
      have H:=HA.out
      clear HA
      simp only [aA.l0] at H
      by_cases FJ : Bu < (Bv.length : Int)
      ·rw [if_pos FJ] at H
       have c77b0 : decide (Bu < (Bv.length : Int)) = true:=decide_eq_true FJ
       clear FJ
       by_cases G6 : 0 ≤ Bu
       ·rw [if_pos G6] at H
        have c78b0 : decide (0 ≤ Bu) = true:=decide_eq_true G6
        clear G6
        by_cases G7 : Bu < (Bv.length : Int)
        ·rw [if_pos G7] at H
         have c79b0 : decide (Bu < (Bv.length : Int)) = true:=decide_eq_true G7
         clear G7
         have FC:=Aside0.mk H
         have HX0 := Aside0.mk (show Bu = 0 from by have h1 := of_decide_eq_true c79b0; have := I5.out; have := Jc.out; omega)
         have HMM := Aside0.mk (HMp.out HX0.out)
         have HKey : Aside0 (keyOf Tryz.prog 9 (.string ((au Bv Bu).f0)) = some (.string ((au Bv Bu).f0).data.toList)) := ⟨keyOf_string_mk Tryz.underlying9 (by have := HSz.out; rw [HX0.out]; unfold maxLen; omega)⟩
         clear HMp
         clear H
         have FD : 0 ≤ (Bu : Int):=of_decide_eq_true (by first|(with_reducible assumption)|assumption)
         have FE : Bu < (Bv.length : Int):=of_decide_eq_true (by first|(with_reducible assumption)|assumption)
         obtain ⟨CV,BN,BO,BQ,BR,Ca,Cb,e167,Dj,Dk,Dl,Dm,Dn,Dp,Dq,Dx,Dy,Dz,DC,DF,DI⟩:=ou FL.out Bu FD FE
         cases e167
         replace Dj:=(HB.out.cell (World.block_lt_of_cell? w _ Dj)).trans Dj
         replace Dk:=(HB.out.cell (World.block_lt_of_cell? w _ Dk)).trans Dk
         replace Dl:=(HB.out.cell (World.block_lt_of_cell? w _ Dl)).trans Dl
         replace Dm:=(HB.out.cell (World.block_lt_of_cell? w _ Dm)).trans Dm
         replace Dn:=(HB.out.cell (World.block_lt_of_cell? w _ Dn)).trans Dn
         replace Dp:=(HB.out.cell (World.block_lt_of_cell? w _ Dp)).trans Dp
         replace Dq:=(HB.out.cell (World.block_lt_of_cell? w _ Dq)).trans Dq
         have DJ:=Aside0.mk Dy
         have DK:=Aside0.mk Dx
         clear Dy Dx
         have DL:=Aside0.mk DC
         have DN:=Aside0.mk Dz
         clear DC Dz
         have DR:=Aside0.mk DI
         have DT:=Aside0.mk DF
         clear DI DF
         replace FD:=eq_true FD
         replace FE:=eq_true FE
         go_upto_region 8 with (first|((with_reducible refine dz (N:=6) rfl ?_);(try (refine iJ (by rfl) ?_;dsimp only));refine dJ ?hg (N:=6) ?hd (cs:=#[.string (⟨#[]⟩ : ByteArray),.string (⟨#[]⟩ : ByteArray),.slice none 0 0,.slice none 0 0,.int .i64 0,.int .i64 0,.slice none 0 0]) (t:=84) ?hr ?_;(case hd=>rfl);(case hg=>rfl);(case hr=>first|(go_simp;done)|(go_simp;rfl));intro BD hg DX hbox hb;have hMb := HMM.out.lt;have Fe:=Aside0.mk (by rw [hg];exact Nat.ne_of_lt hMb : mb ≠ BD);have MM:=Aside0.mk (pE HMM.out hb);clear hMb HMM;have CF:=Aside0.mk (aI (g:=BL) (o:=.cells #[.string BJ,.string BH,.int .i64 BF,.int .i64 BI,.bool BK,.slice (some CV) Bv.length Ct] 77 (0,0)) (bk_ Bz.out) hb);have CG:=Aside0.mk (aN hb_ hb);have CS:=Aside0.mk (hbox);have DW:=Aside0.mk ((by rw [hg];exact (aU hb_) : w.heap.size ≤ BD));have IQ:=Aside0.mk ((by rw [hg];exact (aU hb_) : w.heap.size ≤ BD));have IU:=Aside0.mk ((by rw [hg];exact Nat.ne_of_lt (bE (g:=BL) (o:=.cells #[.string BJ,.string BH,.int .i64 BF,.int .i64 BI,.bool BK,.slice (some CV) Bv.length Ct] 77 (0,0)) (bk_ Bz.out)) : BL ≠ BD));have IV:=Aside0.mk ((by rw [hg];exact Nat.ne_of_gt (bE (g:=BL) (o:=.cells #[.string BJ,.string BH,.int .i64 BF,.int .i64 BI,.bool BK,.slice (some CV) Bv.length Ct] 77 (0,0)) (bk_ Bz.out)) : BD ≠ BL));clear Bz;clear HB;have Bz:=CF;have HB:=CG;have Bw:=CS;have IW:=DW;have IX:=IQ;have BP:=IU;have CU:=IV;clear CF CG CS DW IQ IU IV;clear hb hbox hg;have FX:=CU.out;have FY:=BP.out;have EL : DX.cell? ⟨BD,0,none⟩ = some (.string (⟨#[]⟩ : ByteArray)):=(ah Bw.out 0).trans rfl;have EM : DX.cell? ⟨BD,1,none⟩ = some (.string (⟨#[]⟩ : ByteArray)):=(ah Bw.out 1).trans rfl;have EN : DX.cell? ⟨BD,2,none⟩ = some (.slice none 0 0):=(ah Bw.out 2).trans rfl;have EO : DX.cell? ⟨BD,3,none⟩ = some (.slice none 0 0):=(ah Bw.out 3).trans rfl;have EP : DX.cell? ⟨BD,4,none⟩ = some (.int .i64 0):=(ah Bw.out 4).trans rfl;have ER : DX.cell? ⟨BD,5,none⟩ = some (.int .i64 0):=(ah Bw.out 5).trans rfl;have ES : DX.cell? ⟨BD,6,none⟩ = some (.slice none 0 0):=(ah Bw.out 6).trans rfl;have ET:=ay Bw.out 0;have EU:=ay Bw.out 1;have EW:=ay Bw.out 2;have EX:=ay Bw.out 3;have EY:=ay Bw.out 4;have EZ:=ay Bw.out 5;have E5:=ay Bw.out 6))
         clear FX FY EL ET EM EU EN EW EO EX EP EY ER EZ ES E5
         have CF : Aside0 ((((((((DX.setCell ⟨BD,0,none⟩ (.string ((au Bv Bu).f0))).setCell ⟨BD,1,none⟩ (.string ((au Bv Bu).f1))).setCell ⟨BD,2,none⟩ (.slice BN ((au Bv Bu).f2).length BO)).setCell ⟨BD,3,none⟩ (.slice BQ ((au Bv Bu).f3).length BR)).setCell ⟨BD,4,none⟩ (.int .i64 ((au Bv Bu).f4))).setCell ⟨BD,5,none⟩ (.int .i64 ((au Bv Bu).f5))).setCell ⟨BD,6,none⟩ (.slice Ca ((au Bv Bu).f6).length Cb)).heap[BL]? = some (.cells #[.string BJ,.string BH,.int .i64 BF,.int .i64 BI,.bool BK,.slice (some CV) Bv.length Ct] 77 (0,0))):=⟨by (with_reducible repeat (first|apply aj|apply av|apply ak));refine aH ?_ BP.out _;(with_reducible repeat (first|apply aj|apply av|apply ak));refine aH ?_ BP.out _;(with_reducible repeat (first|apply aj|apply av|apply ak));refine aH ?_ BP.out _;(with_reducible repeat (first|apply aj|apply av|apply ak));refine aH ?_ BP.out _;(with_reducible repeat (first|apply aj|apply av|apply ak));refine aH ?_ BP.out _;(with_reducible repeat (first|apply aj|apply av|apply ak));refine aH ?_ BP.out _;(with_reducible repeat (first|apply aj|apply av|apply ak));refine aH ?_ BP.out _;(with_reducible repeat (first|apply aj|apply av|apply ak));exact Bz.out⟩
         have CG : Aside0 ((((((((DX.setCell ⟨BD,0,none⟩ (.string ((au Bv Bu).f0))).setCell ⟨BD,1,none⟩ (.string ((au Bv Bu).f1))).setCell ⟨BD,2,none⟩ (.slice BN ((au Bv Bu).f2).length BO)).setCell ⟨BD,3,none⟩ (.slice BQ ((au Bv Bu).f3).length BR)).setCell ⟨BD,4,none⟩ (.int .i64 ((au Bv Bu).f4))).setCell ⟨BD,5,none⟩ (.int .i64 ((au Bv Bu).f5))).setCell ⟨BD,6,none⟩ (.slice Ca ((au Bv Bu).f6).length Cb)).heap[BD]? = some (.cells #[.string ((au Bv Bu).f0),.string ((au Bv Bu).f1),.slice BN ((au Bv Bu).f2).length BO,.slice BQ ((au Bv Bu).f3).length BR,.int .i64 ((au Bv Bu).f4),.int .i64 ((au Bv Bu).f5),.slice Ca ((au Bv Bu).f6).length Cb] 84 (0,0))):=⟨by (with_reducible repeat (first|apply aj|apply av|apply ak));refine aT (cs:=#[.string ((au Bv Bu).f0),.string ((au Bv Bu).f1),.slice BN ((au Bv Bu).f2).length BO,.slice BQ ((au Bv Bu).f3).length BR,.int .i64 ((au Bv Bu).f4),.int .i64 ((au Bv Bu).f5),.slice none 0 0]) ?_ 6 _ rfl;(with_reducible repeat (first|apply aj|apply av|apply ak));refine aT (cs:=#[.string ((au Bv Bu).f0),.string ((au Bv Bu).f1),.slice BN ((au Bv Bu).f2).length BO,.slice BQ ((au Bv Bu).f3).length BR,.int .i64 ((au Bv Bu).f4),.int .i64 0,.slice none 0 0]) ?_ 5 _ rfl;(with_reducible repeat (first|apply aj|apply av|apply ak));refine aT (cs:=#[.string ((au Bv Bu).f0),.string ((au Bv Bu).f1),.slice BN ((au Bv Bu).f2).length BO,.slice BQ ((au Bv Bu).f3).length BR,.int .i64 0,.int .i64 0,.slice none 0 0]) ?_ 4 _ rfl;(with_reducible repeat (first|apply aj|apply av|apply ak));refine aT (cs:=#[.string ((au Bv Bu).f0),.string ((au Bv Bu).f1),.slice BN ((au Bv Bu).f2).length BO,.slice none 0 0,.int .i64 0,.int .i64 0,.slice none 0 0]) ?_ 3 _ rfl;(with_reducible repeat (first|apply aj|apply av|apply ak));refine aT (cs:=#[.string ((au Bv Bu).f0),.string ((au Bv Bu).f1),.slice none 0 0,.slice none 0 0,.int .i64 0,.int .i64 0,.slice none 0 0]) ?_ 2 _ rfl;(with_reducible repeat (first|apply aj|apply av|apply ak));refine aT (cs:=#[.string ((au Bv Bu).f0),.string (⟨#[]⟩ : ByteArray),.slice none 0 0,.slice none 0 0,.int .i64 0,.int .i64 0,.slice none 0 0]) ?_ 1 _ rfl;(with_reducible repeat (first|apply aj|apply av|apply ak));refine aT (cs:=#[.string (⟨#[]⟩ : ByteArray),.string (⟨#[]⟩ : ByteArray),.slice none 0 0,.slice none 0 0,.int .i64 0,.int .i64 0,.slice none 0 0]) ?_ 0 _ rfl;(with_reducible repeat (first|apply aj|apply av|apply ak));exact Bw.out⟩
         have CS : Aside0 (Below w.heap.size w (((((((DX.setCell ⟨BD,0,none⟩ (.string ((au Bv Bu).f0))).setCell ⟨BD,1,none⟩ (.string ((au Bv Bu).f1))).setCell ⟨BD,2,none⟩ (.slice BN ((au Bv Bu).f2).length BO)).setCell ⟨BD,3,none⟩ (.slice BQ ((au Bv Bu).f3).length BR)).setCell ⟨BD,4,none⟩ (.int .i64 ((au Bv Bu).f4))).setCell ⟨BD,5,none⟩ (.int .i64 ((au Bv Bu).f5))).setCell ⟨BD,6,none⟩ (.slice Ca ((au Bv Bu).f6).length Cb))):=⟨hb_⟩
         (try clear Bz)
         (try clear Bw)
         (try clear HB)
         have DW : Aside0 (World.ownsMap (((((((DX.setCell ⟨BD,0,none⟩ (.string ((au Bv Bu).f0))).setCell ⟨BD,1,none⟩ (.string ((au Bv Bu).f1))).setCell ⟨BD,2,none⟩ (.slice BN ((au Bv Bu).f2).length BO)).setCell ⟨BD,3,none⟩ (.slice BQ ((au Bv Bu).f3).length BR)).setCell ⟨BD,4,none⟩ (.int .i64 ((au Bv Bu).f4))).setCell ⟨BD,5,none⟩ (.int .i64 ((au Bv Bu).f5))).setCell ⟨BD,6,none⟩ (.slice Ca ((au Bv Bu).f6).length Cb)) Tryz.prog 9 (plainElem (H := Unit) Tryz.prog 3) mb 0 (.map [])):=⟨by (iterate 7 (refine ru ?_ Fe.out _ _)); exact MM.out⟩
         generalize (((((((DX.setCell ⟨BD,0,none⟩ (.string ((au Bv Bu).f0))).setCell ⟨BD,1,none⟩ (.string ((au Bv Bu).f1))).setCell ⟨BD,2,none⟩ (.slice BN ((au Bv Bu).f2).length BO)).setCell ⟨BD,3,none⟩ (.slice BQ ((au Bv Bu).f3).length BR)).setCell ⟨BD,4,none⟩ (.int .i64 ((au Bv Bu).f4))).setCell ⟨BD,5,none⟩ (.int .i64 ((au Bv Bu).f5))).setCell ⟨BD,6,none⟩ (.slice Ca ((au Bv Bu).f6).length Cb)) = Hu at CF CG CS DW ⊢
         have Bz:=CF
         have Bw:=CG
         have HB:=CS
         clear MM
         have MM:=DW
         clear CF CG CS DW
         have z0 : Hu.cell? ⟨BD,0,none⟩ = some (.string ((au Bv Bu).f0)):=(ah Bw.out 0).trans rfl
         go_upto_region 9 with (first|(at_lookup; refine wpList_lookup_own_int _ rfl _ _ 178 rfl 9 3 .i64 sI Tryz.underlying178 Tryz.underlying3 (yQ _) mb 0 _ rfl MM.out _ _ rfl HKey.out ?_; intro c hat hwc; have hc : c = 0 := tZ hat.symm; subst hc; clear hat hwc)|(at_mapUpdate; refine wpList_mapUpdate_own _ rfl _ _ _ 178 rfl 9 3 sI Tryz.underlying178 _ mb 0 _ rfl MM.out (by unfold maxLen; omega) _ (.int .i64 1) _ rfl (by first | rfl | exact congrArg (Value.int .i64) (by decide)) HKey.out _ [] (plainElem_int Tryz.underlying3 (by decide)) ?_; intro w3 hown3 hg3; have CF:=Aside0.mk (moved hg3 Bz.out Fb.out); have CG:=Aside0.mk (moved hg3 Bw.out (Ne.symm Fe.out)); have CS:=Aside0.mk (Below.grown HB.out hg3 (aU HB.out) (fun j hj => by cases hj; exact GM.out)); have ho_:=yc hown3 HKey.out (atKey_put_same isMap_empty (by simp [WideAt.IsKeyLit]) _ _); clear Bz Bw HB hown3 hg3 MM z0; have Bz:=CF; have Bw:=CG; have HB:=CS; clear CF CG CS))
         obtain ⟨om,hom,hlk⟩:=ho_
         have BM:=Aside0.mk hom
         have HLK:=Aside0.mk hlk
         clear hom hlk
         (try simp only [Act.put,List.setIfInBounds_toArray,List.set_cons_zero,List.set_cons_succ])
         go_cut [7] (fun v7 wc=>∃ (kq : Nat) (CW : Int),v7 = .int .i64 CW ∧ Aside0 (aA.j2 kq CW Bv (Bv.length : Int) Bu ((au Bv Bu).f0) ((au Bv Bu).f1) ((au Bv Bu).f2) ((au Bv Bu).f3) ((au Bv Bu).f4) ((au Bv Bu).f5) ((au Bv Bu).f6) = some r) ∧ Aside0 (kq ≤ k2) ∧ Aside0 (wc.heap[BL]? = some (.cells #[.string BJ,.string BH,.int .i64 BF,.int .i64 BI,.bool BK,(.slice (some CV) Bv.length Ct)] 77 (0,0))) ∧ Aside0 (wc.heap[BD]? = some (.cells #[.string ((au Bv Bu).f0),.string ((au Bv Bu).f1),(.slice BN ((au Bv Bu).f2).length BO),(.slice BQ ((au Bv Bu).f3).length BR),.int .i64 ((au Bv Bu).f4),.int .i64 ((au Bv Bu).f5),(.slice Ca ((au Bv Bu).f6).length Cb)] 84 (0,0))) ∧ Aside0 (Below w.heap.size w wc))
         case first =>
          have H:=FC.out
          clear FC
          replace H:=Option.bind_eq_some_iff.mp H
          obtain ⟨DU,FZ,H⟩:=H
          replace H : ((aG.f (!DU) 13).bind fun BG=>((aG.f (decide (1 > 1)) 8).bind fun t171=>((bD.f k2 ((au Bv Bu).f1)).bind fun CX=>((aG.f (!CX) 6).bind fun t173=>((bM.f (((au Bv Bu).f2).length : Int)).bind fun CJ=>(if CJ = true then ((aG.f true 18).bind fun t175=>((bG.f ((au Bv Bu).f4) 64000).bind fun CK=>(if CK = true then ((bG.f ((au Bv Bu).f5) 1048576).bind fun CO=>((aG.f (!CO) 7).bind fun CP=>((aM.f k2 (([BG,t171,t173,t175,CP] : List Int))).bind fun t182=>(aA.j2 k2 t182 Bv (Bv.length : Int) Bu ((au Bv Bu).f0) ((au Bv Bu).f1) ((au Bv Bu).f2) ((au Bv Bu).f3) ((au Bv Bu).f4) ((au Bv Bu).f5) ((au Bv Bu).f6))))) else ((aG.f true 7).bind fun t183=>((aM.f k2 (([BG,t171,t173,t175,t183] : List Int))).bind fun CQ=>(aA.j2 k2 CQ Bv (Bv.length : Int) Bu ((au Bv Bu).f0) ((au Bv Bu).f1) ((au Bv Bu).f2) ((au Bv Bu).f3) ((au Bv Bu).f4) ((au Bv Bu).f5) ((au Bv Bu).f6))))))) else ((bM.f (((au Bv Bu).f3).length : Int)).bind fun Cr=>(if Cr = true then ((aG.f true 18).bind fun Ch=>((bG.f ((au Bv Bu).f4) 64000).bind fun Cu=>(if Cu = true then ((bG.f ((au Bv Bu).f5) 1048576).bind fun Cv=>((aG.f (!Cv) 7).bind fun Cw=>((aM.f k2 (([BG,t171,t173,Ch,Cw] : List Int))).bind fun t196=>(aA.j2 k2 t196 Bv (Bv.length : Int) Bu ((au Bv Bu).f0) ((au Bv Bu).f1) ((au Bv Bu).f2) ((au Bv Bu).f3) ((au Bv Bu).f4) ((au Bv Bu).f5) ((au Bv Bu).f6))))) else ((aG.f true 7).bind fun Cz=>((aM.f k2 (([BG,t171,t173,Ch,Cz] : List Int))).bind fun t201=>(aA.j2 k2 t201 Bv (Bv.length : Int) Bu ((au Bv Bu).f0) ((au Bv Bu).f1) ((au Bv Bu).f2) ((au Bv Bu).f3) ((au Bv Bu).f4) ((au Bv Bu).f5) ((au Bv Bu).f6))))))) else ((bM.f (((au Bv Bu).f6).length : Int)).bind fun Cn=>((aG.f Cn 18).bind fun t203=>((bG.f ((au Bv Bu).f4) 64000).bind fun Ci=>(if Ci = true then ((bG.f ((au Bv Bu).f5) 1048576).bind fun BU=>((aG.f (!BU) 7).bind fun t206=>((aM.f k2 (([BG,t171,t173,t203,t206] : List Int))).bind fun t210=>(aA.j2 k2 t210 Bv (Bv.length : Int) Bu ((au Bv Bu).f0) ((au Bv Bu).f1) ((au Bv Bu).f2) ((au Bv Bu).f3) ((au Bv Bu).f4) ((au Bv Bu).f5) ((au Bv Bu).f6))))) else ((aG.f true 7).bind fun Cj=>((aM.f k2 (([BG,t171,t173,t203,Cj] : List Int))).bind fun Ck=>(aA.j2 k2 Ck Bv (Bv.length : Int) Bu ((au Bv Bu).f0) ((au Bv Bu).f1) ((au Bv Bu).f2) ((au Bv Bu).f3) ((au Bv Bu).f4) ((au Bv Bu).f5) ((au Bv Bu).f6)))))))))))))))) = some r:=H
          have Jd:=Aside0.mk FZ
          clear FZ
          replace H:=Option.bind_eq_some_iff.mp H
          obtain ⟨BG,F3,H⟩:=H
          replace H : ((aG.f (decide (1 > 1)) 8).bind fun t171=>((bD.f k2 ((au Bv Bu).f1)).bind fun CX=>((aG.f (!CX) 6).bind fun t173=>((bM.f (((au Bv Bu).f2).length : Int)).bind fun CJ=>(if CJ = true then ((aG.f true 18).bind fun t175=>((bG.f ((au Bv Bu).f4) 64000).bind fun CK=>(if CK = true then ((bG.f ((au Bv Bu).f5) 1048576).bind fun CO=>((aG.f (!CO) 7).bind fun CP=>((aM.f k2 (([BG,t171,t173,t175,CP] : List Int))).bind fun t182=>(aA.j2 k2 t182 Bv (Bv.length : Int) Bu ((au Bv Bu).f0) ((au Bv Bu).f1) ((au Bv Bu).f2) ((au Bv Bu).f3) ((au Bv Bu).f4) ((au Bv Bu).f5) ((au Bv Bu).f6))))) else ((aG.f true 7).bind fun t183=>((aM.f k2 (([BG,t171,t173,t175,t183] : List Int))).bind fun CQ=>(aA.j2 k2 CQ Bv (Bv.length : Int) Bu ((au Bv Bu).f0) ((au Bv Bu).f1) ((au Bv Bu).f2) ((au Bv Bu).f3) ((au Bv Bu).f4) ((au Bv Bu).f5) ((au Bv Bu).f6))))))) else ((bM.f (((au Bv Bu).f3).length : Int)).bind fun Cr=>(if Cr = true then ((aG.f true 18).bind fun Ch=>((bG.f ((au Bv Bu).f4) 64000).bind fun Cu=>(if Cu = true then ((bG.f ((au Bv Bu).f5) 1048576).bind fun Cv=>((aG.f (!Cv) 7).bind fun Cw=>((aM.f k2 (([BG,t171,t173,Ch,Cw] : List Int))).bind fun t196=>(aA.j2 k2 t196 Bv (Bv.length : Int) Bu ((au Bv Bu).f0) ((au Bv Bu).f1) ((au Bv Bu).f2) ((au Bv Bu).f3) ((au Bv Bu).f4) ((au Bv Bu).f5) ((au Bv Bu).f6))))) else ((aG.f true 7).bind fun Cz=>((aM.f k2 (([BG,t171,t173,Ch,Cz] : List Int))).bind fun t201=>(aA.j2 k2 t201 Bv (Bv.length : Int) Bu ((au Bv Bu).f0) ((au Bv Bu).f1) ((au Bv Bu).f2) ((au Bv Bu).f3) ((au Bv Bu).f4) ((au Bv Bu).f5) ((au Bv Bu).f6))))))) else ((bM.f (((au Bv Bu).f6).length : Int)).bind fun Cn=>((aG.f Cn 18).bind fun t203=>((bG.f ((au Bv Bu).f4) 64000).bind fun Ci=>(if Ci = true then ((bG.f ((au Bv Bu).f5) 1048576).bind fun BU=>((aG.f (!BU) 7).bind fun t206=>((aM.f k2 (([BG,t171,t173,t203,t206] : List Int))).bind fun t210=>(aA.j2 k2 t210 Bv (Bv.length : Int) Bu ((au Bv Bu).f0) ((au Bv Bu).f1) ((au Bv Bu).f2) ((au Bv Bu).f3) ((au Bv Bu).f4) ((au Bv Bu).f5) ((au Bv Bu).f6))))) else ((aG.f true 7).bind fun Cj=>((aM.f k2 (([BG,t171,t173,t203,Cj] : List Int))).bind fun Ck=>(aA.j2 k2 Ck Bv (Bv.length : Int) Bu ((au Bv Bu).f0) ((au Bv Bu).f1) ((au Bv Bu).f2) ((au Bv Bu).f3) ((au Bv Bu).f4) ((au Bv Bu).f5) ((au Bv Bu).f6))))))))))))))) = some r:=H
          have Je:=Aside0.mk F3
          clear F3
          replace H:=Option.bind_eq_some_iff.mp H
          obtain ⟨t171,F4,H⟩:=H
          replace H : ((bD.f k2 ((au Bv Bu).f1)).bind fun CX=>((aG.f (!CX) 6).bind fun t173=>((bM.f (((au Bv Bu).f2).length : Int)).bind fun CJ=>(if CJ = true then ((aG.f true 18).bind fun t175=>((bG.f ((au Bv Bu).f4) 64000).bind fun CK=>(if CK = true then ((bG.f ((au Bv Bu).f5) 1048576).bind fun CO=>((aG.f (!CO) 7).bind fun CP=>((aM.f k2 (([BG,t171,t173,t175,CP] : List Int))).bind fun t182=>(aA.j2 k2 t182 Bv (Bv.length : Int) Bu ((au Bv Bu).f0) ((au Bv Bu).f1) ((au Bv Bu).f2) ((au Bv Bu).f3) ((au Bv Bu).f4) ((au Bv Bu).f5) ((au Bv Bu).f6))))) else ((aG.f true 7).bind fun t183=>((aM.f k2 (([BG,t171,t173,t175,t183] : List Int))).bind fun CQ=>(aA.j2 k2 CQ Bv (Bv.length : Int) Bu ((au Bv Bu).f0) ((au Bv Bu).f1) ((au Bv Bu).f2) ((au Bv Bu).f3) ((au Bv Bu).f4) ((au Bv Bu).f5) ((au Bv Bu).f6))))))) else ((bM.f (((au Bv Bu).f3).length : Int)).bind fun Cr=>(if Cr = true then ((aG.f true 18).bind fun Ch=>((bG.f ((au Bv Bu).f4) 64000).bind fun Cu=>(if Cu = true then ((bG.f ((au Bv Bu).f5) 1048576).bind fun Cv=>((aG.f (!Cv) 7).bind fun Cw=>((aM.f k2 (([BG,t171,t173,Ch,Cw] : List Int))).bind fun t196=>(aA.j2 k2 t196 Bv (Bv.length : Int) Bu ((au Bv Bu).f0) ((au Bv Bu).f1) ((au Bv Bu).f2) ((au Bv Bu).f3) ((au Bv Bu).f4) ((au Bv Bu).f5) ((au Bv Bu).f6))))) else ((aG.f true 7).bind fun Cz=>((aM.f k2 (([BG,t171,t173,Ch,Cz] : List Int))).bind fun t201=>(aA.j2 k2 t201 Bv (Bv.length : Int) Bu ((au Bv Bu).f0) ((au Bv Bu).f1) ((au Bv Bu).f2) ((au Bv Bu).f3) ((au Bv Bu).f4) ((au Bv Bu).f5) ((au Bv Bu).f6))))))) else ((bM.f (((au Bv Bu).f6).length : Int)).bind fun Cn=>((aG.f Cn 18).bind fun t203=>((bG.f ((au Bv Bu).f4) 64000).bind fun Ci=>(if Ci = true then ((bG.f ((au Bv Bu).f5) 1048576).bind fun BU=>((aG.f (!BU) 7).bind fun t206=>((aM.f k2 (([BG,t171,t173,t203,t206] : List Int))).bind fun t210=>(aA.j2 k2 t210 Bv (Bv.length : Int) Bu ((au Bv Bu).f0) ((au Bv Bu).f1) ((au Bv Bu).f2) ((au Bv Bu).f3) ((au Bv Bu).f4) ((au Bv Bu).f5) ((au Bv Bu).f6))))) else ((aG.f true 7).bind fun Cj=>((aM.f k2 (([BG,t171,t173,t203,Cj] : List Int))).bind fun Ck=>(aA.j2 k2 Ck Bv (Bv.length : Int) Bu ((au Bv Bu).f0) ((au Bv Bu).f1) ((au Bv Bu).f2) ((au Bv Bu).f3) ((au Bv Bu).f4) ((au Bv Bu).f5) ((au Bv Bu).f6)))))))))))))) = some r:=H
          have Jf:=Aside0.mk F4
          clear F4
          replace H:=Option.bind_eq_some_iff.mp H
          obtain ⟨CX,F5,H⟩:=H
          replace H : ((aG.f (!CX) 6).bind fun t173=>((bM.f (((au Bv Bu).f2).length : Int)).bind fun CJ=>(if CJ = true then ((aG.f true 18).bind fun t175=>((bG.f ((au Bv Bu).f4) 64000).bind fun CK=>(if CK = true then ((bG.f ((au Bv Bu).f5) 1048576).bind fun CO=>((aG.f (!CO) 7).bind fun CP=>((aM.f k2 (([BG,t171,t173,t175,CP] : List Int))).bind fun t182=>(aA.j2 k2 t182 Bv (Bv.length : Int) Bu ((au Bv Bu).f0) ((au Bv Bu).f1) ((au Bv Bu).f2) ((au Bv Bu).f3) ((au Bv Bu).f4) ((au Bv Bu).f5) ((au Bv Bu).f6))))) else ((aG.f true 7).bind fun t183=>((aM.f k2 (([BG,t171,t173,t175,t183] : List Int))).bind fun CQ=>(aA.j2 k2 CQ Bv (Bv.length : Int) Bu ((au Bv Bu).f0) ((au Bv Bu).f1) ((au Bv Bu).f2) ((au Bv Bu).f3) ((au Bv Bu).f4) ((au Bv Bu).f5) ((au Bv Bu).f6))))))) else ((bM.f (((au Bv Bu).f3).length : Int)).bind fun Cr=>(if Cr = true then ((aG.f true 18).bind fun Ch=>((bG.f ((au Bv Bu).f4) 64000).bind fun Cu=>(if Cu = true then ((bG.f ((au Bv Bu).f5) 1048576).bind fun Cv=>((aG.f (!Cv) 7).bind fun Cw=>((aM.f k2 (([BG,t171,t173,Ch,Cw] : List Int))).bind fun t196=>(aA.j2 k2 t196 Bv (Bv.length : Int) Bu ((au Bv Bu).f0) ((au Bv Bu).f1) ((au Bv Bu).f2) ((au Bv Bu).f3) ((au Bv Bu).f4) ((au Bv Bu).f5) ((au Bv Bu).f6))))) else ((aG.f true 7).bind fun Cz=>((aM.f k2 (([BG,t171,t173,Ch,Cz] : List Int))).bind fun t201=>(aA.j2 k2 t201 Bv (Bv.length : Int) Bu ((au Bv Bu).f0) ((au Bv Bu).f1) ((au Bv Bu).f2) ((au Bv Bu).f3) ((au Bv Bu).f4) ((au Bv Bu).f5) ((au Bv Bu).f6))))))) else ((bM.f (((au Bv Bu).f6).length : Int)).bind fun Cn=>((aG.f Cn 18).bind fun t203=>((bG.f ((au Bv Bu).f4) 64000).bind fun Ci=>(if Ci = true then ((bG.f ((au Bv Bu).f5) 1048576).bind fun BU=>((aG.f (!BU) 7).bind fun t206=>((aM.f k2 (([BG,t171,t173,t203,t206] : List Int))).bind fun t210=>(aA.j2 k2 t210 Bv (Bv.length : Int) Bu ((au Bv Bu).f0) ((au Bv Bu).f1) ((au Bv Bu).f2) ((au Bv Bu).f3) ((au Bv Bu).f4) ((au Bv Bu).f5) ((au Bv Bu).f6))))) else ((aG.f true 7).bind fun Cj=>((aM.f k2 (([BG,t171,t173,t203,Cj] : List Int))).bind fun Ck=>(aA.j2 k2 Ck Bv (Bv.length : Int) Bu ((au Bv Bu).f0) ((au Bv Bu).f1) ((au Bv Bu).f2) ((au Bv Bu).f3) ((au Bv Bu).f4) ((au Bv Bu).f5) ((au Bv Bu).f6))))))))))))) = some r:=H
          have Jg:=Aside0.mk F5
          clear F5
          replace H:=Option.bind_eq_some_iff.mp H
          obtain ⟨t173,F6,H⟩:=H
          replace H : ((bM.f (((au Bv Bu).f2).length : Int)).bind fun CJ=>(if CJ = true then ((aG.f true 18).bind fun t175=>((bG.f ((au Bv Bu).f4) 64000).bind fun CK=>(if CK = true then ((bG.f ((au Bv Bu).f5) 1048576).bind fun CO=>((aG.f (!CO) 7).bind fun CP=>((aM.f k2 (([BG,t171,t173,t175,CP] : List Int))).bind fun t182=>(aA.j2 k2 t182 Bv (Bv.length : Int) Bu ((au Bv Bu).f0) ((au Bv Bu).f1) ((au Bv Bu).f2) ((au Bv Bu).f3) ((au Bv Bu).f4) ((au Bv Bu).f5) ((au Bv Bu).f6))))) else ((aG.f true 7).bind fun t183=>((aM.f k2 (([BG,t171,t173,t175,t183] : List Int))).bind fun CQ=>(aA.j2 k2 CQ Bv (Bv.length : Int) Bu ((au Bv Bu).f0) ((au Bv Bu).f1) ((au Bv Bu).f2) ((au Bv Bu).f3) ((au Bv Bu).f4) ((au Bv Bu).f5) ((au Bv Bu).f6))))))) else ((bM.f (((au Bv Bu).f3).length : Int)).bind fun Cr=>(if Cr = true then ((aG.f true 18).bind fun Ch=>((bG.f ((au Bv Bu).f4) 64000).bind fun Cu=>(if Cu = true then ((bG.f ((au Bv Bu).f5) 1048576).bind fun Cv=>((aG.f (!Cv) 7).bind fun Cw=>((aM.f k2 (([BG,t171,t173,Ch,Cw] : List Int))).bind fun t196=>(aA.j2 k2 t196 Bv (Bv.length : Int) Bu ((au Bv Bu).f0) ((au Bv Bu).f1) ((au Bv Bu).f2) ((au Bv Bu).f3) ((au Bv Bu).f4) ((au Bv Bu).f5) ((au Bv Bu).f6))))) else ((aG.f true 7).bind fun Cz=>((aM.f k2 (([BG,t171,t173,Ch,Cz] : List Int))).bind fun t201=>(aA.j2 k2 t201 Bv (Bv.length : Int) Bu ((au Bv Bu).f0) ((au Bv Bu).f1) ((au Bv Bu).f2) ((au Bv Bu).f3) ((au Bv Bu).f4) ((au Bv Bu).f5) ((au Bv Bu).f6))))))) else ((bM.f (((au Bv Bu).f6).length : Int)).bind fun Cn=>((aG.f Cn 18).bind fun t203=>((bG.f ((au Bv Bu).f4) 64000).bind fun Ci=>(if Ci = true then ((bG.f ((au Bv Bu).f5) 1048576).bind fun BU=>((aG.f (!BU) 7).bind fun t206=>((aM.f k2 (([BG,t171,t173,t203,t206] : List Int))).bind fun t210=>(aA.j2 k2 t210 Bv (Bv.length : Int) Bu ((au Bv Bu).f0) ((au Bv Bu).f1) ((au Bv Bu).f2) ((au Bv Bu).f3) ((au Bv Bu).f4) ((au Bv Bu).f5) ((au Bv Bu).f6))))) else ((aG.f true 7).bind fun Cj=>((aM.f k2 (([BG,t171,t173,t203,Cj] : List Int))).bind fun Ck=>(aA.j2 k2 Ck Bv (Bv.length : Int) Bu ((au Bv Bu).f0) ((au Bv Bu).f1) ((au Bv Bu).f2) ((au Bv Bu).f3) ((au Bv Bu).f4) ((au Bv Bu).f5) ((au Bv Bu).f6)))))))))))) = some r:=H
          have Jh:=Aside0.mk F6
          clear F6
          replace H:=Option.bind_eq_some_iff.mp H
          obtain ⟨CJ,F7,H⟩:=H
          replace H : (if CJ = true then ((aG.f true 18).bind fun t175=>((bG.f ((au Bv Bu).f4) 64000).bind fun CK=>(if CK = true then ((bG.f ((au Bv Bu).f5) 1048576).bind fun CO=>((aG.f (!CO) 7).bind fun CP=>((aM.f k2 (([BG,t171,t173,t175,CP] : List Int))).bind fun t182=>(aA.j2 k2 t182 Bv (Bv.length : Int) Bu ((au Bv Bu).f0) ((au Bv Bu).f1) ((au Bv Bu).f2) ((au Bv Bu).f3) ((au Bv Bu).f4) ((au Bv Bu).f5) ((au Bv Bu).f6))))) else ((aG.f true 7).bind fun t183=>((aM.f k2 (([BG,t171,t173,t175,t183] : List Int))).bind fun CQ=>(aA.j2 k2 CQ Bv (Bv.length : Int) Bu ((au Bv Bu).f0) ((au Bv Bu).f1) ((au Bv Bu).f2) ((au Bv Bu).f3) ((au Bv Bu).f4) ((au Bv Bu).f5) ((au Bv Bu).f6))))))) else ((bM.f (((au Bv Bu).f3).length : Int)).bind fun Cr=>(if Cr = true then ((aG.f true 18).bind fun Ch=>((bG.f ((au Bv Bu).f4) 64000).bind fun Cu=>(if Cu = true then ((bG.f ((au Bv Bu).f5) 1048576).bind fun Cv=>((aG.f (!Cv) 7).bind fun Cw=>((aM.f k2 (([BG,t171,t173,Ch,Cw] : List Int))).bind fun t196=>(aA.j2 k2 t196 Bv (Bv.length : Int) Bu ((au Bv Bu).f0) ((au Bv Bu).f1) ((au Bv Bu).f2) ((au Bv Bu).f3) ((au Bv Bu).f4) ((au Bv Bu).f5) ((au Bv Bu).f6))))) else ((aG.f true 7).bind fun Cz=>((aM.f k2 (([BG,t171,t173,Ch,Cz] : List Int))).bind fun t201=>(aA.j2 k2 t201 Bv (Bv.length : Int) Bu ((au Bv Bu).f0) ((au Bv Bu).f1) ((au Bv Bu).f2) ((au Bv Bu).f3) ((au Bv Bu).f4) ((au Bv Bu).f5) ((au Bv Bu).f6))))))) else ((bM.f (((au Bv Bu).f6).length : Int)).bind fun Cn=>((aG.f Cn 18).bind fun t203=>((bG.f ((au Bv Bu).f4) 64000).bind fun Ci=>(if Ci = true then ((bG.f ((au Bv Bu).f5) 1048576).bind fun BU=>((aG.f (!BU) 7).bind fun t206=>((aM.f k2 (([BG,t171,t173,t203,t206] : List Int))).bind fun t210=>(aA.j2 k2 t210 Bv (Bv.length : Int) Bu ((au Bv Bu).f0) ((au Bv Bu).f1) ((au Bv Bu).f2) ((au Bv Bu).f3) ((au Bv Bu).f4) ((au Bv Bu).f5) ((au Bv Bu).f6))))) else ((aG.f true 7).bind fun Cj=>((aM.f k2 (([BG,t171,t173,t203,Cj] : List Int))).bind fun Ck=>(aA.j2 k2 Ck Bv (Bv.length : Int) Bu ((au Bv Bu).f0) ((au Bv Bu).f1) ((au Bv Bu).f2) ((au Bv Bu).f3) ((au Bv Bu).f4) ((au Bv Bu).f5) ((au Bv Bu).f6))))))))))) = some r:=H
          have IY:=Aside0.mk F7
          clear F7
          by_cases G8 : CJ = true
          ·exact absurd (Option.some.inj (IY.out.symm.trans (show bM.f _ = some false by rw [(HE.out Bu).1]; rfl))) (by rw [G8]; decide)
          ·replace G8:=Bool.eq_false_iff.mpr G8
           subst G8
           have H1 : ((bM.f (((au Bv Bu).f3).length : Int)).bind fun Cr=>(if Cr = true then ((aG.f true 18).bind fun Ch=>((bG.f ((au Bv Bu).f4) 64000).bind fun Cu=>(if Cu = true then ((bG.f ((au Bv Bu).f5) 1048576).bind fun Cv=>((aG.f (!Cv) 7).bind fun Cw=>((aM.f k2 (([BG,t171,t173,Ch,Cw] : List Int))).bind fun t196=>(aA.j2 k2 t196 Bv (Bv.length : Int) Bu ((au Bv Bu).f0) ((au Bv Bu).f1) ((au Bv Bu).f2) ((au Bv Bu).f3) ((au Bv Bu).f4) ((au Bv Bu).f5) ((au Bv Bu).f6))))) else ((aG.f true 7).bind fun Cz=>((aM.f k2 (([BG,t171,t173,Ch,Cz] : List Int))).bind fun t201=>(aA.j2 k2 t201 Bv (Bv.length : Int) Bu ((au Bv Bu).f0) ((au Bv Bu).f1) ((au Bv Bu).f2) ((au Bv Bu).f3) ((au Bv Bu).f4) ((au Bv Bu).f5) ((au Bv Bu).f6))))))) else ((bM.f (((au Bv Bu).f6).length : Int)).bind fun Cn=>((aG.f Cn 18).bind fun t203=>((bG.f ((au Bv Bu).f4) 64000).bind fun Ci=>(if Ci = true then ((bG.f ((au Bv Bu).f5) 1048576).bind fun BU=>((aG.f (!BU) 7).bind fun t206=>((aM.f k2 (([BG,t171,t173,t203,t206] : List Int))).bind fun t210=>(aA.j2 k2 t210 Bv (Bv.length : Int) Bu ((au Bv Bu).f0) ((au Bv Bu).f1) ((au Bv Bu).f2) ((au Bv Bu).f3) ((au Bv Bu).f4) ((au Bv Bu).f5) ((au Bv Bu).f6))))) else ((aG.f true 7).bind fun Cj=>((aM.f k2 (([BG,t171,t173,t203,Cj] : List Int))).bind fun Ck=>(aA.j2 k2 Ck Bv (Bv.length : Int) Bu ((au Bv Bu).f0) ((au Bv Bu).f1) ((au Bv Bu).f2) ((au Bv Bu).f3) ((au Bv Bu).f4) ((au Bv Bu).f5) ((au Bv Bu).f6)))))))))) = some r:=by rw [if_neg (show ¬ (false = true) by decide)] at H;exact H
           clear H
           have H:=H1
           clear H1
           replace H:=Option.bind_eq_some_iff.mp H
           obtain ⟨Cr,Fg,H⟩:=H
           replace H : (if Cr = true then ((aG.f true 18).bind fun Ch=>((bG.f ((au Bv Bu).f4) 64000).bind fun Cu=>(if Cu = true then ((bG.f ((au Bv Bu).f5) 1048576).bind fun Cv=>((aG.f (!Cv) 7).bind fun Cw=>((aM.f k2 (([BG,t171,t173,Ch,Cw] : List Int))).bind fun t196=>(aA.j2 k2 t196 Bv (Bv.length : Int) Bu ((au Bv Bu).f0) ((au Bv Bu).f1) ((au Bv Bu).f2) ((au Bv Bu).f3) ((au Bv Bu).f4) ((au Bv Bu).f5) ((au Bv Bu).f6))))) else ((aG.f true 7).bind fun Cz=>((aM.f k2 (([BG,t171,t173,Ch,Cz] : List Int))).bind fun t201=>(aA.j2 k2 t201 Bv (Bv.length : Int) Bu ((au Bv Bu).f0) ((au Bv Bu).f1) ((au Bv Bu).f2) ((au Bv Bu).f3) ((au Bv Bu).f4) ((au Bv Bu).f5) ((au Bv Bu).f6))))))) else ((bM.f (((au Bv Bu).f6).length : Int)).bind fun Cn=>((aG.f Cn 18).bind fun t203=>((bG.f ((au Bv Bu).f4) 64000).bind fun Ci=>(if Ci = true then ((bG.f ((au Bv Bu).f5) 1048576).bind fun BU=>((aG.f (!BU) 7).bind fun t206=>((aM.f k2 (([BG,t171,t173,t203,t206] : List Int))).bind fun t210=>(aA.j2 k2 t210 Bv (Bv.length : Int) Bu ((au Bv Bu).f0) ((au Bv Bu).f1) ((au Bv Bu).f2) ((au Bv Bu).f3) ((au Bv Bu).f4) ((au Bv Bu).f5) ((au Bv Bu).f6))))) else ((aG.f true 7).bind fun Cj=>((aM.f k2 (([BG,t171,t173,t203,Cj] : List Int))).bind fun Ck=>(aA.j2 k2 Ck Bv (Bv.length : Int) Bu ((au Bv Bu).f0) ((au Bv Bu).f1) ((au Bv Bu).f2) ((au Bv Bu).f3) ((au Bv Bu).f4) ((au Bv Bu).f5) ((au Bv Bu).f6))))))))) = some r:=H
           have F8:=Aside0.mk Fg
           clear Fg
           by_cases E8 : Cr = true
           ·exact absurd (Option.some.inj (F8.out.symm.trans (show bM.f _ = some false by rw [(HE.out Bu).2.1]; rfl))) (by rw [E8]; decide)
           ·replace E8:=Bool.eq_false_iff.mpr E8
            subst E8
            have H1 : ((bM.f (((au Bv Bu).f6).length : Int)).bind fun Cn=>((aG.f Cn 18).bind fun t203=>((bG.f ((au Bv Bu).f4) 64000).bind fun Ci=>(if Ci = true then ((bG.f ((au Bv Bu).f5) 1048576).bind fun BU=>((aG.f (!BU) 7).bind fun t206=>((aM.f k2 (([BG,t171,t173,t203,t206] : List Int))).bind fun t210=>(aA.j2 k2 t210 Bv (Bv.length : Int) Bu ((au Bv Bu).f0) ((au Bv Bu).f1) ((au Bv Bu).f2) ((au Bv Bu).f3) ((au Bv Bu).f4) ((au Bv Bu).f5) ((au Bv Bu).f6))))) else ((aG.f true 7).bind fun Cj=>((aM.f k2 (([BG,t171,t173,t203,Cj] : List Int))).bind fun Ck=>(aA.j2 k2 Ck Bv (Bv.length : Int) Bu ((au Bv Bu).f0) ((au Bv Bu).f1) ((au Bv Bu).f2) ((au Bv Bu).f3) ((au Bv Bu).f4) ((au Bv Bu).f5) ((au Bv Bu).f6)))))))) = some r:=by rw [if_neg (show ¬ (false = true) by decide)] at H;exact H
            clear H
            have H:=H1
            clear H1
            replace H:=Option.bind_eq_some_iff.mp H
            obtain ⟨Cn,Fh,H⟩:=H
            replace H : ((aG.f Cn 18).bind fun t203=>((bG.f ((au Bv Bu).f4) 64000).bind fun Ci=>(if Ci = true then ((bG.f ((au Bv Bu).f5) 1048576).bind fun BU=>((aG.f (!BU) 7).bind fun t206=>((aM.f k2 (([BG,t171,t173,t203,t206] : List Int))).bind fun t210=>(aA.j2 k2 t210 Bv (Bv.length : Int) Bu ((au Bv Bu).f0) ((au Bv Bu).f1) ((au Bv Bu).f2) ((au Bv Bu).f3) ((au Bv Bu).f4) ((au Bv Bu).f5) ((au Bv Bu).f6))))) else ((aG.f true 7).bind fun Cj=>((aM.f k2 (([BG,t171,t173,t203,Cj] : List Int))).bind fun Ck=>(aA.j2 k2 Ck Bv (Bv.length : Int) Bu ((au Bv Bu).f0) ((au Bv Bu).f1) ((au Bv Bu).f2) ((au Bv Bu).f3) ((au Bv Bu).f4) ((au Bv Bu).f5) ((au Bv Bu).f6))))))) = some r:=H
            have Hw:=Aside0.mk Fh
            clear Fh
            replace H:=Option.bind_eq_some_iff.mp H
            obtain ⟨t203,Fj,H⟩:=H
            replace H : ((bG.f ((au Bv Bu).f4) 64000).bind fun Ci=>(if Ci = true then ((bG.f ((au Bv Bu).f5) 1048576).bind fun BU=>((aG.f (!BU) 7).bind fun t206=>((aM.f k2 (([BG,t171,t173,t203,t206] : List Int))).bind fun t210=>(aA.j2 k2 t210 Bv (Bv.length : Int) Bu ((au Bv Bu).f0) ((au Bv Bu).f1) ((au Bv Bu).f2) ((au Bv Bu).f3) ((au Bv Bu).f4) ((au Bv Bu).f5) ((au Bv Bu).f6))))) else ((aG.f true 7).bind fun Cj=>((aM.f k2 (([BG,t171,t173,t203,Cj] : List Int))).bind fun Ck=>(aA.j2 k2 Ck Bv (Bv.length : Int) Bu ((au Bv Bu).f0) ((au Bv Bu).f1) ((au Bv Bu).f2) ((au Bv Bu).f3) ((au Bv Bu).f4) ((au Bv Bu).f5) ((au Bv Bu).f6)))))) = some r:=H
            have Hy:=Aside0.mk Fj
            clear Fj
            replace H:=Option.bind_eq_some_iff.mp H
            obtain ⟨Ci,Fp,H⟩:=H
            replace H : (if Ci = true then ((bG.f ((au Bv Bu).f5) 1048576).bind fun BU=>((aG.f (!BU) 7).bind fun t206=>((aM.f k2 (([BG,t171,t173,t203,t206] : List Int))).bind fun t210=>(aA.j2 k2 t210 Bv (Bv.length : Int) Bu ((au Bv Bu).f0) ((au Bv Bu).f1) ((au Bv Bu).f2) ((au Bv Bu).f3) ((au Bv Bu).f4) ((au Bv Bu).f5) ((au Bv Bu).f6))))) else ((aG.f true 7).bind fun Cj=>((aM.f k2 (([BG,t171,t173,t203,Cj] : List Int))).bind fun Ck=>(aA.j2 k2 Ck Bv (Bv.length : Int) Bu ((au Bv Bu).f0) ((au Bv Bu).f1) ((au Bv Bu).f2) ((au Bv Bu).f3) ((au Bv Bu).f4) ((au Bv Bu).f5) ((au Bv Bu).f6))))) = some r:=H
            have F9:=Aside0.mk Fp
            clear Fp
            by_cases FH : Ci = true
            ·subst FH
             have H1 : ((bG.f ((au Bv Bu).f5) 1048576).bind fun BU=>((aG.f (!BU) 7).bind fun t206=>((aM.f k2 (([BG,t171,t173,t203,t206] : List Int))).bind fun t210=>(aA.j2 k2 t210 Bv (Bv.length : Int) Bu ((au Bv Bu).f0) ((au Bv Bu).f1) ((au Bv Bu).f2) ((au Bv Bu).f3) ((au Bv Bu).f4) ((au Bv Bu).f5) ((au Bv Bu).f6))))) = some r:=by rw [if_pos rfl] at H;exact H
             clear H
             have H:=H1
             clear H1
             replace H:=Option.bind_eq_some_iff.mp H
             obtain ⟨BU,Fq,H⟩:=H
             replace H : ((aG.f (!BU) 7).bind fun t206=>((aM.f k2 (([BG,t171,t173,t203,t206] : List Int))).bind fun t210=>(aA.j2 k2 t210 Bv (Bv.length : Int) Bu ((au Bv Bu).f0) ((au Bv Bu).f1) ((au Bv Bu).f2) ((au Bv Bu).f3) ((au Bv Bu).f4) ((au Bv Bu).f5) ((au Bv Bu).f6)))) = some r:=H
             have Hz:=Aside0.mk Fq
             clear Fq
             replace H:=Option.bind_eq_some_iff.mp H
             obtain ⟨t206,Fu,H⟩:=H
             replace H : ((aM.f k2 (([BG,t171,t173,t203,t206] : List Int))).bind fun t210=>(aA.j2 k2 t210 Bv (Bv.length : Int) Bu ((au Bv Bu).f0) ((au Bv Bu).f1) ((au Bv Bu).f2) ((au Bv Bu).f3) ((au Bv Bu).f4) ((au Bv Bu).f5) ((au Bv Bu).f6))) = some r:=H
             have H6:=Aside0.mk Fu
             clear Fu
             obtain ⟨FI,Dt⟩ : ∃ y_ : List Int,y_ = (([BG,t171,t173,t203,t206] : List Int)):=⟨_,rfl⟩
             replace H : ((aM.f k2 FI).bind fun t210=>(aA.j2 k2 t210 Bv (Bv.length : Int) Bu ((au Bv Bu).f0) ((au Bv Bu).f1) ((au Bv Bu).f2) ((au Bv Bu).f3) ((au Bv Bu).f4) ((au Bv Bu).f5) ((au Bv Bu).f6))) = some r:=by first|(rw [Dt];with_reducible exact H)|(have FB:=(Option.bind_some _ _).symm.trans H;rw [Dt];with_reducible exact FB)|(have FB:=(Option.bind_some _ _).symm.trans H;with_reducible exact FB)|with_reducible exact H|(rw [Dt];exact H)|exact H
             have Fv:=Aside0.mk Dt
             clear Dt
             replace H:=Option.bind_eq_some_iff.mp H
             obtain ⟨t210,Fw,H⟩:=H
             replace H : (aA.j2 k2 t210 Bv (Bv.length : Int) Bu ((au Bv Bu).f0) ((au Bv Bu).f1) ((au Bv Bu).f2) ((au Bv Bu).f3) ((au Bv Bu).f4) ((au Bv Bu).f5) ((au Bv Bu).f6)) = some r:=H
             have H7:=Aside0.mk Fw
             clear Fw
             have H':=Aside0.mk H
             clear H
             try go_wp2
             have CF:=Aside0.mk (av Bz.out)
             have CG:=Aside0.mk (av Bw.out)
             have CS:=Aside0.mk (bF HB.out)
             clear Bz
             clear Bw
             clear HB
             have Bz:=CF
             have Bw:=CG
             have HB:=CS
             clear CF CG CS
             refine iE (n:=47) (S:=fun w'=>w'.cell? ⟨BD,0,none⟩ = some (.string ((au Bv Bu).f0)) ∧ w'.cell? ⟨BD,1,none⟩ = some (.string ((au Bv Bu).f1)) ∧ w'.cell? ⟨BD,2,none⟩ = some (.slice BN ((au Bv Bu).f2).length BO) ∧ w'.cell? ⟨BD,3,none⟩ = some (.slice BQ ((au Bv Bu).f3).length BR) ∧ w'.cell? ⟨BD,4,none⟩ = some (.int .i64 ((au Bv Bu).f4)) ∧ w'.cell? ⟨BD,5,none⟩ = some (.int .i64 ((au Bv Bu).f5)) ∧ w'.cell? ⟨BD,6,none⟩ = some (.slice Ca ((au Bv Bu).f6).length Cb) ∧ w'.heap[mb]? = some om) (ds:=[]) #[O,O,O,O,O,O,O,O,O,O,O,O,O,O,O,O,O,O,O,O,O,O,O,O,O,O,O,O,O,O,O,O,O,O,O,O,O,O,O,O,O,O,O,O,O,O,O] (by kernel_rfl) rfl rfl ⟨(ah Bw.out 0).trans rfl,(ah Bw.out 1).trans rfl,(ah Bw.out 2).trans rfl,(ah Bw.out 3).trans rfl,(ah Bw.out 4).trans rfl,(ah Bw.out 5).trans rfl,(ah Bw.out 6).trans rfl,BM.out⟩ (fun hHeld=>?_);refine fC aA.zK aA.wK (fun HT_ HW_=>?_)
             replace BM : Aside0 (w3.drew.heap[mb]? = some om) := ⟨BM.out⟩
             generalize w3.drew = H8 at Bz Bw HB BM hHeld ⊢
             refine pu_ 0 62 #[I,O,O,O,O,O,O,O,O,O,O,O,O,O,O,O,O,O,O,O,O,O,O,O,O,O,O,O,O,O,O,O,O,O,O,O,O,O,O,O,O,O,O,O,O,O,O] HT_.out ?_
             refine pu_ 5 67 #[I,O,O,O,O,I,O,O,O,O,O,O,O,O,O,O,O,O,O,O,O,O,O,O,O,O,O,O,O,O,O,O,O,O,O,O,O,O,O,O,O,O,O,O,O,O,O] HT_.out ?_
             refine pu_ 6 68 #[I,O,O,O,O,I,I,O,O,O,O,O,O,O,O,O,O,O,O,O,O,O,O,O,O,O,O,O,O,O,O,O,O,O,O,O,O,O,O,O,O,O,O,O,O,O,O] HT_.out ?_
             refine pu_ 11 73 #[I,O,O,O,O,I,I,O,O,O,O,I,O,O,O,O,O,O,O,O,O,O,O,O,O,O,O,O,O,O,O,O,O,O,O,O,O,O,O,O,O,O,O,O,O,O,O] HT_.out ?_
             refine pu_ 16 78 #[I,O,O,O,O,I,I,O,O,O,O,I,O,O,O,O,I,O,O,O,O,O,O,O,O,O,O,O,O,O,O,O,O,O,O,O,O,O,O,O,O,O,O,O,O,O,O] HT_.out ?_
             refine pu_ 33 95 #[I,O,O,O,O,I,I,O,O,O,O,I,O,O,O,O,I,O,O,O,O,O,O,O,O,O,O,O,O,O,O,O,O,I,O,O,O,O,O,O,O,O,O,O,O,O,O] HT_.out ?_
             refine ta_ 1 63 #[I,I,O,O,O,I,I,O,O,O,O,I,O,O,O,O,I,O,O,O,O,O,O,O,O,O,O,O,O,O,O,O,O,I,O,O,O,O,O,O,O,O,O,O,O,O,O] HT_.out HW_.out hHeld ?_
             refine ta_ 7 69 #[I,I,O,O,O,I,I,I,O,O,O,I,O,O,O,O,I,O,O,O,O,O,O,O,O,O,O,O,O,O,O,O,O,I,O,O,O,O,O,O,O,O,O,O,O,O,O] HT_.out HW_.out hHeld ?_
             refine gG (i:=8) (N:=some 70) (v:=.int .i64 1) (a':=?_) #[I,I,O,O,O,I,I,I,I,O,O,I,O,O,O,O,I,O,O,O,O,O,O,O,O,O,O,O,O,O,O,O,O,I,O,O,O,O,O,O,O,O,O,O,O,O,O] rfl rfl (d9 HT_.out HW_.out (by kernel_rfl)) (fun _ _ _ h=>h) (Or.inl ⟨by rfl,?_⟩) hHeld ?_ ?_
             ·rintro w' ⟨s0,s1,s2,s3,s4,s5,s6,s7⟩
              have hl := HLK.out w' s7
              go_simp
              try rfl
             rotate_left
             ·simp only [Act.put,List.setIfInBounds_toArray,List.set_cons_zero,List.set_cons_succ,bJ,bK]
              rfl
             refine pu_ 9 71 #[I,I,O,O,O,I,I,I,I,I,O,I,O,O,O,O,I,O,O,O,O,O,O,O,O,O,O,O,O,O,O,O,O,I,O,O,O,O,O,O,O,O,O,O,O,O,O] HT_.out ?_
             refine ta_ 12 74 #[I,I,O,O,O,I,I,I,I,I,O,I,I,O,O,O,I,O,O,O,O,O,O,O,O,O,O,O,O,O,O,O,O,I,O,O,O,O,O,O,O,O,O,O,O,O,O] HT_.out HW_.out hHeld ?_
             refine ta_ 17 79 #[I,I,O,O,O,I,I,I,I,I,O,I,I,O,O,O,I,I,O,O,O,O,O,O,O,O,O,O,O,O,O,O,O,I,O,O,O,O,O,O,O,O,O,O,O,O,O] HT_.out HW_.out hHeld ?_
             refine pu_ 18 80 #[I,I,O,O,O,I,I,I,I,I,O,I,I,O,O,O,I,I,I,O,O,O,O,O,O,O,O,O,O,O,O,O,O,I,O,O,O,O,O,O,O,O,O,O,O,O,O] HT_.out ?_
             refine ta_ 34 96 #[I,I,O,O,O,I,I,I,I,I,O,I,I,O,O,O,I,I,I,O,O,O,O,O,O,O,O,O,O,O,O,O,O,I,I,O,O,O,O,O,O,O,O,O,O,O,O] HT_.out HW_.out hHeld ?_
             refine fE (i:=2) (N:=some 64) #[I,I,I,O,O,I,I,I,I,I,O,I,I,O,O,O,I,I,I,O,O,O,O,O,O,O,O,O,O,O,O,O,O,I,I,O,O,O,O,O,O,O,O,O,O,O,O] rfl rfl (dh HT_.out (by kernel_rfl)) (by decide) (fun K hK=>?_)
             refine eH Tryz.func70 (by kernel_rfl) rfl #[.string ((au Bv Bu).f0)] (by rfl) rfl rfl (by (try simp only [List.map_toArray,List.map_cons,List.map_nil]);first|done|rfl|(simp only [List.length_drop,List.length_take];rfl)) ?_
             with_reducible refine (bg.calls k2 ((au Bv Bu).f0) DU _ Jd.out).mono ?_
             rintro e w' ⟨rfl,⟨nd,rfl⟩⟩
             refine ⟨_,rfl,?_⟩
             replace Bz:=Aside0.mk (aj Bz.out nd)
             replace Bw:=Aside0.mk (aj Bw.out nd)
             replace HB:=Aside0.mk (aV HB.out nd)
             replace BM:=Aside0.mk (aj BM.out nd)
             clear hHeld
             generalize World.drewN H8 nd = H9 at Bz Bw HB BM hK ⊢
             refine hK.out _ _ ⟨(ah Bw.out 0).trans rfl,(ah Bw.out 1).trans rfl,(ah Bw.out 2).trans rfl,(ah Bw.out 3).trans rfl,(ah Bw.out 4).trans rfl,(ah Bw.out 5).trans rfl,(ah Bw.out 6).trans rfl,BM.out⟩ (fun hHeld=>?_)
             clear hK K
             refine dS (a':=?_) ?_ ?_
             rotate_left
             ·show Act.put _ (some 64) _ = _
              simp only [Act.put,List.setIfInBounds_toArray,List.set_cons_zero,List.set_cons_succ,bJ,bK]
              rfl
             refine pu_ 3 65 #[I,I,I,I,O,I,I,I,I,I,O,I,I,O,O,O,I,I,I,O,O,O,O,O,O,O,O,O,O,O,O,O,O,I,I,O,O,O,O,O,O,O,O,O,O,O,O] HT_.out ?_
             refine fE (i:=4) (N:=some 66) #[I,I,I,I,I,I,I,I,I,I,O,I,I,O,O,O,I,I,I,O,O,O,O,O,O,O,O,O,O,O,O,O,O,I,I,O,O,O,O,O,O,O,O,O,O,O,O] rfl rfl (dh HT_.out (by kernel_rfl)) (by decide) (fun K hK=>?_)
             refine eH Tryz.func105 (by kernel_rfl) rfl #[.bool (!DU),.int .i64 13] (by rfl) rfl rfl (by (try simp only [List.map_toArray,List.map_cons,List.map_nil]);first|done|rfl|(simp only [List.length_drop,List.length_take];rfl)) ?_
             with_reducible refine (aG.calls (!DU) 13 BG _ Je.out).mono ?_
             rintro e w' ⟨rfl,⟨nd,rfl⟩⟩
             refine ⟨_,rfl,?_⟩
             replace Bz:=Aside0.mk (aj Bz.out nd)
             replace Bw:=Aside0.mk (aj Bw.out nd)
             replace HB:=Aside0.mk (aV HB.out nd)
             replace BM:=Aside0.mk (aj BM.out nd)
             clear hHeld
             generalize World.drewN H9 nd = Ia at Bz Bw HB BM hK ⊢
             refine hK.out _ _ ⟨(ah Bw.out 0).trans rfl,(ah Bw.out 1).trans rfl,(ah Bw.out 2).trans rfl,(ah Bw.out 3).trans rfl,(ah Bw.out 4).trans rfl,(ah Bw.out 5).trans rfl,(ah Bw.out 6).trans rfl,BM.out⟩ (fun hHeld=>?_)
             clear hK K
             refine dS (a':=?_) ?_ ?_
             rotate_left
             ·show Act.put _ (some 66) _ = _
              simp only [Act.put,List.setIfInBounds_toArray,List.set_cons_zero,List.set_cons_succ,bJ,bK]
              rfl
             refine fE (i:=10) (N:=some 72) #[I,I,I,I,I,I,I,I,I,I,I,I,I,O,O,O,I,I,I,O,O,O,O,O,O,O,O,O,O,O,O,O,O,I,I,O,O,O,O,O,O,O,O,O,O,O,O] rfl rfl (dh HT_.out (by kernel_rfl)) (by decide) (fun K hK=>?_)
             refine eH Tryz.func105 (by kernel_rfl) rfl #[.bool (decide (1 > 1)),.int .i64 8] (by rfl) rfl rfl (by (try simp only [List.map_toArray,List.map_cons,List.map_nil]);first|done|rfl|(simp only [List.length_drop,List.length_take];rfl)) ?_
             with_reducible refine (aG.calls (decide (1 > 1)) 8 t171 _ Jf.out).mono ?_
             rintro e w' ⟨rfl,⟨nd,rfl⟩⟩
             refine ⟨_,rfl,?_⟩
             replace Bz:=Aside0.mk (aj Bz.out nd)
             replace Bw:=Aside0.mk (aj Bw.out nd)
             replace HB:=Aside0.mk (aV HB.out nd)
             replace BM:=Aside0.mk (aj BM.out nd)
             clear hHeld
             generalize World.drewN Ia nd = Ib at Bz Bw HB BM hK ⊢
             refine hK.out _ _ ⟨(ah Bw.out 0).trans rfl,(ah Bw.out 1).trans rfl,(ah Bw.out 2).trans rfl,(ah Bw.out 3).trans rfl,(ah Bw.out 4).trans rfl,(ah Bw.out 5).trans rfl,(ah Bw.out 6).trans rfl,BM.out⟩ (fun hHeld=>?_)
             clear hK K
             refine dS (a':=?_) ?_ ?_
             rotate_left
             ·show Act.put _ (some 72) _ = _
              simp only [Act.put,List.setIfInBounds_toArray,List.set_cons_zero,List.set_cons_succ,bJ,bK]
              rfl
             refine fE (i:=13) (N:=some 75) #[I,I,I,I,I,I,I,I,I,I,I,I,I,I,O,O,I,I,I,O,O,O,O,O,O,O,O,O,O,O,O,O,O,I,I,O,O,O,O,O,O,O,O,O,O,O,O] rfl rfl (dh HT_.out (by kernel_rfl)) (by decide) (fun K hK=>?_)
             refine eH Tryz.func89 (by kernel_rfl) rfl #[.string ((au Bv Bu).f1)] (by rfl) rfl rfl (by (try simp only [List.map_toArray,List.map_cons,List.map_nil]);first|done|rfl|(simp only [List.length_drop,List.length_take];rfl)) ?_
             with_reducible refine (bD.calls k2 ((au Bv Bu).f1) CX _ Jg.out).mono ?_
             rintro e w' ⟨rfl,⟨nd,rfl⟩⟩
             refine ⟨_,rfl,?_⟩
             replace Bz:=Aside0.mk (aj Bz.out nd)
             replace Bw:=Aside0.mk (aj Bw.out nd)
             replace HB:=Aside0.mk (aV HB.out nd)
             replace BM:=Aside0.mk (aj BM.out nd)
             clear hHeld
             generalize World.drewN Ib nd = Ic at Bz Bw HB BM hK ⊢
             refine hK.out _ _ ⟨(ah Bw.out 0).trans rfl,(ah Bw.out 1).trans rfl,(ah Bw.out 2).trans rfl,(ah Bw.out 3).trans rfl,(ah Bw.out 4).trans rfl,(ah Bw.out 5).trans rfl,(ah Bw.out 6).trans rfl,BM.out⟩ (fun hHeld=>?_)
             clear hK K
             refine dS (a':=?_) ?_ ?_
             rotate_left
             ·show Act.put _ (some 75) _ = _
              simp only [Act.put,List.setIfInBounds_toArray,List.set_cons_zero,List.set_cons_succ,bJ,bK]
              rfl
             refine pu_ 14 76 #[I,I,I,I,I,I,I,I,I,I,I,I,I,I,I,O,I,I,I,O,O,O,O,O,O,O,O,O,O,O,O,O,O,I,I,O,O,O,O,O,O,O,O,O,O,O,O] HT_.out ?_
             refine fE (i:=15) (N:=some 77) #[I,I,I,I,I,I,I,I,I,I,I,I,I,I,I,I,I,I,I,O,O,O,O,O,O,O,O,O,O,O,O,O,O,I,I,O,O,O,O,O,O,O,O,O,O,O,O] rfl rfl (dh HT_.out (by kernel_rfl)) (by decide) (fun K hK=>?_)
             refine eH Tryz.func105 (by kernel_rfl) rfl #[.bool (!CX),.int .i64 6] (by rfl) rfl rfl (by (try simp only [List.map_toArray,List.map_cons,List.map_nil]);first|done|rfl|(simp only [List.length_drop,List.length_take];rfl)) ?_
             with_reducible refine (aG.calls (!CX) 6 t173 _ Jh.out).mono ?_
             rintro e w' ⟨rfl,⟨nd,rfl⟩⟩
             refine ⟨_,rfl,?_⟩
             replace Bz:=Aside0.mk (aj Bz.out nd)
             replace Bw:=Aside0.mk (aj Bw.out nd)
             replace HB:=Aside0.mk (aV HB.out nd)
             replace BM:=Aside0.mk (aj BM.out nd)
             clear hHeld
             generalize World.drewN Ic nd = Ie at Bz Bw HB BM hK ⊢
             refine hK.out _ _ ⟨(ah Bw.out 0).trans rfl,(ah Bw.out 1).trans rfl,(ah Bw.out 2).trans rfl,(ah Bw.out 3).trans rfl,(ah Bw.out 4).trans rfl,(ah Bw.out 5).trans rfl,(ah Bw.out 6).trans rfl,BM.out⟩ (fun hHeld=>?_)
             clear hK K
             refine dS (a':=?_) ?_ ?_
             rotate_left
             ·show Act.put _ (some 77) _ = _
              simp only [Act.put,List.setIfInBounds_toArray,List.set_cons_zero,List.set_cons_succ,bJ,bK]
              rfl
             refine fE (i:=19) (N:=some 81) #[I,I,I,I,I,I,I,I,I,I,I,I,I,I,I,I,I,I,I,I,O,O,O,O,O,O,O,O,O,O,O,O,O,I,I,O,O,O,O,O,O,O,O,O,O,O,O] rfl rfl (dh HT_.out (by kernel_rfl)) (by decide) (fun K hK=>?_)
             refine eH Tryz.func107 (by kernel_rfl) rfl #[.int .i64 (((au Bv Bu).f2).length : Int)] (by rfl) rfl rfl (by (try simp only [List.map_toArray,List.map_cons,List.map_nil]);first|done|rfl|(simp only [List.length_drop,List.length_take];rfl)) ?_
             with_reducible refine (bM.calls (((au Bv Bu).f2).length : Int) false _ IY.out).mono ?_
             rintro e w' ⟨rfl,⟨nd,rfl⟩⟩
             refine ⟨_,rfl,?_⟩
             replace Bz:=Aside0.mk (aj Bz.out nd)
             replace Bw:=Aside0.mk (aj Bw.out nd)
             replace HB:=Aside0.mk (aV HB.out nd)
             replace BM:=Aside0.mk (aj BM.out nd)
             clear hHeld
             generalize World.drewN Ie nd = Ig at Bz Bw HB BM hK ⊢
             refine hK.out _ _ ⟨(ah Bw.out 0).trans rfl,(ah Bw.out 1).trans rfl,(ah Bw.out 2).trans rfl,(ah Bw.out 3).trans rfl,(ah Bw.out 4).trans rfl,(ah Bw.out 5).trans rfl,(ah Bw.out 6).trans rfl,BM.out⟩ (fun hHeld=>?_)
             clear hK K
             refine dS (a':=?_) ?_ ?_
             rotate_left
             ·show Act.put _ (some 81) _ = _
              simp only [Act.put,List.setIfInBounds_toArray,List.set_cons_zero,List.set_cons_succ,bJ,bK]
              rfl
             refine pu_ 20 82 #[I,I,I,I,I,I,I,I,I,I,I,I,I,I,I,I,I,I,I,I,I,O,O,O,O,O,O,O,O,O,O,O,O,I,I,O,O,O,O,O,O,O,O,O,O,O,O] HT_.out ?_
             refine pu_ 21 83 #[I,I,I,I,I,I,I,I,I,I,I,I,I,I,I,I,I,I,I,I,I,I,O,O,O,O,O,O,O,O,O,O,O,I,I,O,O,O,O,O,O,O,O,O,O,O,O] HT_.out ?_
             refine ta_ 22 84 #[I,I,I,I,I,I,I,I,I,I,I,I,I,I,I,I,I,I,I,I,I,I,I,O,O,O,O,O,O,O,O,O,O,I,I,O,O,O,O,O,O,O,O,O,O,O,O] HT_.out HW_.out hHeld ?_
             refine pu_ 23 85 #[I,I,I,I,I,I,I,I,I,I,I,I,I,I,I,I,I,I,I,I,I,I,I,I,O,O,O,O,O,O,O,O,O,I,I,O,O,O,O,O,O,O,O,O,O,O,O] HT_.out ?_
             refine fE (i:=24) (N:=some 86) #[I,I,I,I,I,I,I,I,I,I,I,I,I,I,I,I,I,I,I,I,I,I,I,I,I,O,O,O,O,O,O,O,O,I,I,O,O,O,O,O,O,O,O,O,O,O,O] rfl rfl (dh HT_.out (by kernel_rfl)) (by decide) (fun K hK=>?_)
             refine eH Tryz.func107 (by kernel_rfl) rfl #[.int .i64 (((au Bv Bu).f3).length : Int)] (by rfl) rfl rfl (by (try simp only [List.map_toArray,List.map_cons,List.map_nil]);first|done|rfl|(simp only [List.length_drop,List.length_take];rfl)) ?_
             with_reducible refine (bM.calls (((au Bv Bu).f3).length : Int) false _ F8.out).mono ?_
             rintro e w' ⟨rfl,⟨nd,rfl⟩⟩
             refine ⟨_,rfl,?_⟩
             replace Bz:=Aside0.mk (aj Bz.out nd)
             replace Bw:=Aside0.mk (aj Bw.out nd)
             replace HB:=Aside0.mk (aV HB.out nd)
             replace BM:=Aside0.mk (aj BM.out nd)
             clear hHeld
             generalize World.drewN Ig nd = Ih at Bz Bw HB BM hK ⊢
             refine hK.out _ _ ⟨(ah Bw.out 0).trans rfl,(ah Bw.out 1).trans rfl,(ah Bw.out 2).trans rfl,(ah Bw.out 3).trans rfl,(ah Bw.out 4).trans rfl,(ah Bw.out 5).trans rfl,(ah Bw.out 6).trans rfl,BM.out⟩ (fun hHeld=>?_)
             clear hK K
             refine dS (a':=?_) ?_ ?_
             rotate_left
             ·show Act.put _ (some 86) _ = _
              simp only [Act.put,List.setIfInBounds_toArray,List.set_cons_zero,List.set_cons_succ,bJ,bK]
              rfl
             refine pu_ 25 87 #[I,I,I,I,I,I,I,I,I,I,I,I,I,I,I,I,I,I,I,I,I,I,I,I,I,I,O,O,O,O,O,O,O,I,I,O,O,O,O,O,O,O,O,O,O,O,O] HT_.out ?_
             refine pu_ 26 88 #[I,I,I,I,I,I,I,I,I,I,I,I,I,I,I,I,I,I,I,I,I,I,I,I,I,I,I,O,O,O,O,O,O,I,I,O,O,O,O,O,O,O,O,O,O,O,O] HT_.out ?_
             refine pu_ 27 89 #[I,I,I,I,I,I,I,I,I,I,I,I,I,I,I,I,I,I,I,I,I,I,I,I,I,I,I,I,O,O,O,O,O,I,I,O,O,O,O,O,O,O,O,O,O,O,O] HT_.out ?_
             refine ta_ 28 90 #[I,I,I,I,I,I,I,I,I,I,I,I,I,I,I,I,I,I,I,I,I,I,I,I,I,I,I,I,I,O,O,O,O,I,I,O,O,O,O,O,O,O,O,O,O,O,O] HT_.out HW_.out hHeld ?_
             refine pu_ 29 91 #[I,I,I,I,I,I,I,I,I,I,I,I,I,I,I,I,I,I,I,I,I,I,I,I,I,I,I,I,I,I,O,O,O,I,I,O,O,O,O,O,O,O,O,O,O,O,O] HT_.out ?_
             refine fE (i:=30) (N:=some 92) #[I,I,I,I,I,I,I,I,I,I,I,I,I,I,I,I,I,I,I,I,I,I,I,I,I,I,I,I,I,I,I,O,O,I,I,O,O,O,O,O,O,O,O,O,O,O,O] rfl rfl (dh HT_.out (by kernel_rfl)) (by decide) (fun K hK=>?_)
             refine eH Tryz.func107 (by kernel_rfl) rfl #[.int .i64 (((au Bv Bu).f6).length : Int)] (by rfl) rfl rfl (by (try simp only [List.map_toArray,List.map_cons,List.map_nil]);first|done|rfl|(simp only [List.length_drop,List.length_take];rfl)) ?_
             with_reducible refine (bM.calls (((au Bv Bu).f6).length : Int) Cn _ Hw.out).mono ?_
             rintro e w' ⟨rfl,⟨nd,rfl⟩⟩
             refine ⟨_,rfl,?_⟩
             replace Bz:=Aside0.mk (aj Bz.out nd)
             replace Bw:=Aside0.mk (aj Bw.out nd)
             replace HB:=Aside0.mk (aV HB.out nd)
             replace BM:=Aside0.mk (aj BM.out nd)
             clear hHeld
             generalize World.drewN Ih nd = Ii at Bz Bw HB BM hK ⊢
             refine hK.out _ _ ⟨(ah Bw.out 0).trans rfl,(ah Bw.out 1).trans rfl,(ah Bw.out 2).trans rfl,(ah Bw.out 3).trans rfl,(ah Bw.out 4).trans rfl,(ah Bw.out 5).trans rfl,(ah Bw.out 6).trans rfl,BM.out⟩ (fun hHeld=>?_)
             clear hK K
             refine dS (a':=?_) ?_ ?_
             rotate_left
             ·show Act.put _ (some 92) _ = _
              simp only [Act.put,List.setIfInBounds_toArray,List.set_cons_zero,List.set_cons_succ,bJ,bK]
              rfl
             refine pu_ 31 93 #[I,I,I,I,I,I,I,I,I,I,I,I,I,I,I,I,I,I,I,I,I,I,I,I,I,I,I,I,I,I,I,I,O,I,I,O,O,O,O,O,O,O,O,O,O,O,O] HT_.out ?_
             refine fE (i:=32) (N:=some 94) #[I,I,I,I,I,I,I,I,I,I,I,I,I,I,I,I,I,I,I,I,I,I,I,I,I,I,I,I,I,I,I,I,I,I,I,O,O,O,O,O,O,O,O,O,O,O,O] rfl rfl (dh HT_.out (by kernel_rfl)) (by decide) (fun K hK=>?_)
             refine eH Tryz.func105 (by kernel_rfl) rfl #[.bool Cn,.int .i64 18] (by rfl) rfl rfl (by (try simp only [List.map_toArray,List.map_cons,List.map_nil]);first|done|rfl|(simp only [List.length_drop,List.length_take];rfl)) ?_
             with_reducible refine (aG.calls Cn 18 t203 _ Hy.out).mono ?_
             rintro e w' ⟨rfl,⟨nd,rfl⟩⟩
             refine ⟨_,rfl,?_⟩
             replace Bz:=Aside0.mk (aj Bz.out nd)
             replace Bw:=Aside0.mk (aj Bw.out nd)
             replace HB:=Aside0.mk (aV HB.out nd)
             replace BM:=Aside0.mk (aj BM.out nd)
             clear hHeld
             generalize World.drewN Ii nd = Ij at Bz Bw HB BM hK ⊢
             refine hK.out _ _ ⟨(ah Bw.out 0).trans rfl,(ah Bw.out 1).trans rfl,(ah Bw.out 2).trans rfl,(ah Bw.out 3).trans rfl,(ah Bw.out 4).trans rfl,(ah Bw.out 5).trans rfl,(ah Bw.out 6).trans rfl,BM.out⟩ (fun hHeld=>?_)
             clear hK K
             refine dS (a':=?_) ?_ ?_
             rotate_left
             ·show Act.put _ (some 94) _ = _
              simp only [Act.put,List.setIfInBounds_toArray,List.set_cons_zero,List.set_cons_succ,bJ,bK]
              rfl
             refine fE (i:=35) (N:=some 97) #[I,I,I,I,I,I,I,I,I,I,I,I,I,I,I,I,I,I,I,I,I,I,I,I,I,I,I,I,I,I,I,I,I,I,I,I,O,O,O,O,O,O,O,O,O,O,O] rfl rfl (dh HT_.out (by kernel_rfl)) (by decide) (fun K hK=>?_)
             refine eH Tryz.func106 (by kernel_rfl) rfl #[.int .i64 ((au Bv Bu).f4),.int .i64 64000] (by rfl) rfl rfl (by (try simp only [List.map_toArray,List.map_cons,List.map_nil]);first|done|rfl|(simp only [List.length_drop,List.length_take];rfl)) ?_
             with_reducible refine (bG.calls ((au Bv Bu).f4) 64000 true _ F9.out).mono ?_
             rintro e w' ⟨rfl,⟨nd,rfl⟩⟩
             refine ⟨_,rfl,?_⟩
             replace Bz:=Aside0.mk (aj Bz.out nd)
             replace Bw:=Aside0.mk (aj Bw.out nd)
             replace HB:=Aside0.mk (aV HB.out nd)
             replace BM:=Aside0.mk (aj BM.out nd)
             clear hHeld
             generalize World.drewN Ij nd = Ik at Bz Bw HB BM hK ⊢
             refine hK.out _ _ ⟨(ah Bw.out 0).trans rfl,(ah Bw.out 1).trans rfl,(ah Bw.out 2).trans rfl,(ah Bw.out 3).trans rfl,(ah Bw.out 4).trans rfl,(ah Bw.out 5).trans rfl,(ah Bw.out 6).trans rfl,BM.out⟩ (fun hHeld=>?_)
             clear hK K
             refine dS (a':=?_) ?_ ?_
             rotate_left
             ·show Act.put _ (some 97) _ = _
              simp only [Act.put,List.setIfInBounds_toArray,List.set_cons_zero,List.set_cons_succ,bJ,bK]
              rfl
             refine pu_ 36 98 #[I,I,I,I,I,I,I,I,I,I,I,I,I,I,I,I,I,I,I,I,I,I,I,I,I,I,I,I,I,I,I,I,I,I,I,I,I,O,O,O,O,O,O,O,O,O,O] HT_.out ?_
             refine pu_ 37 99 #[I,I,I,I,I,I,I,I,I,I,I,I,I,I,I,I,I,I,I,I,I,I,I,I,I,I,I,I,I,I,I,I,I,I,I,I,I,I,O,O,O,O,O,O,O,O,O] HT_.out ?_
             refine pu_ 38 100 #[I,I,I,I,I,I,I,I,I,I,I,I,I,I,I,I,I,I,I,I,I,I,I,I,I,I,I,I,I,I,I,I,I,I,I,I,I,I,I,O,O,O,O,O,O,O,O] HT_.out ?_
             refine ta_ 39 101 #[I,I,I,I,I,I,I,I,I,I,I,I,I,I,I,I,I,I,I,I,I,I,I,I,I,I,I,I,I,I,I,I,I,I,I,I,I,I,I,I,O,O,O,O,O,O,O] HT_.out HW_.out hHeld ?_
             refine fE (i:=40) (N:=some 102) #[I,I,I,I,I,I,I,I,I,I,I,I,I,I,I,I,I,I,I,I,I,I,I,I,I,I,I,I,I,I,I,I,I,I,I,I,I,I,I,I,I,O,O,O,O,O,O] rfl rfl (dh HT_.out (by kernel_rfl)) (by decide) (fun K hK=>?_)
             refine eH Tryz.func106 (by kernel_rfl) rfl #[.int .i64 ((au Bv Bu).f5),.int .i64 1048576] (by rfl) rfl rfl (by (try simp only [List.map_toArray,List.map_cons,List.map_nil]);first|done|rfl|(simp only [List.length_drop,List.length_take];rfl)) ?_
             with_reducible refine (bG.calls ((au Bv Bu).f5) 1048576 BU _ Hz.out).mono ?_
             rintro e w' ⟨rfl,⟨nd,rfl⟩⟩
             refine ⟨_,rfl,?_⟩
             replace Bz:=Aside0.mk (aj Bz.out nd)
             replace Bw:=Aside0.mk (aj Bw.out nd)
             replace HB:=Aside0.mk (aV HB.out nd)
             replace BM:=Aside0.mk (aj BM.out nd)
             clear hHeld
             generalize World.drewN Ik nd = Il at Bz Bw HB BM hK ⊢
             refine hK.out _ _ ⟨(ah Bw.out 0).trans rfl,(ah Bw.out 1).trans rfl,(ah Bw.out 2).trans rfl,(ah Bw.out 3).trans rfl,(ah Bw.out 4).trans rfl,(ah Bw.out 5).trans rfl,(ah Bw.out 6).trans rfl,BM.out⟩ (fun hHeld=>?_)
             clear hK K
             refine dS (a':=?_) ?_ ?_
             rotate_left
             ·show Act.put _ (some 102) _ = _
              simp only [Act.put,List.setIfInBounds_toArray,List.set_cons_zero,List.set_cons_succ,bJ,bK]
              rfl
             refine pu_ 41 103 #[I,I,I,I,I,I,I,I,I,I,I,I,I,I,I,I,I,I,I,I,I,I,I,I,I,I,I,I,I,I,I,I,I,I,I,I,I,I,I,I,I,I,O,O,O,O,O] HT_.out ?_
             refine pu_ 42 104 #[I,I,I,I,I,I,I,I,I,I,I,I,I,I,I,I,I,I,I,I,I,I,I,I,I,I,I,I,I,I,I,I,I,I,I,I,I,I,I,I,I,I,I,O,O,O,O] HT_.out ?_
             refine fE (i:=43) (N:=some 105) #[I,I,I,I,I,I,I,I,I,I,I,I,I,I,I,I,I,I,I,I,I,I,I,I,I,I,I,I,I,I,I,I,I,I,I,I,I,I,I,I,I,I,I,I,O,O,O] rfl rfl (dh HT_.out (by kernel_rfl)) (by decide) (fun K hK=>?_)
             refine eH Tryz.func105 (by kernel_rfl) rfl #[.bool (!BU),.int .i64 7] (by rfl) rfl rfl (by (try simp only [List.map_toArray,List.map_cons,List.map_nil]);first|done|rfl|(simp only [List.length_drop,List.length_take];rfl)) ?_
             with_reducible refine (aG.calls (!BU) 7 t206 _ H6.out).mono ?_
             rintro e w' ⟨rfl,⟨nd,rfl⟩⟩
             refine ⟨_,rfl,?_⟩
             replace Bz:=Aside0.mk (aj Bz.out nd)
             replace Bw:=Aside0.mk (aj Bw.out nd)
             replace HB:=Aside0.mk (aV HB.out nd)
             replace BM:=Aside0.mk (aj BM.out nd)
             clear hHeld
             generalize World.drewN Il nd = Ji at Bz Bw HB BM hK ⊢
             refine hK.out _ _ ⟨(ah Bw.out 0).trans rfl,(ah Bw.out 1).trans rfl,(ah Bw.out 2).trans rfl,(ah Bw.out 3).trans rfl,(ah Bw.out 4).trans rfl,(ah Bw.out 5).trans rfl,(ah Bw.out 6).trans rfl,BM.out⟩ (fun hHeld=>?_)
             clear hK K
             refine dS (a':=?_) ?_ ?_
             rotate_left
             ·show Act.put _ (some 105) _ = _
              simp only [Act.put,List.setIfInBounds_toArray,List.set_cons_zero,List.set_cons_succ,bJ,bK]
              rfl
             refine fE (i:=44) (N:=some 106) #[I,I,I,I,I,I,I,I,I,I,I,I,I,I,I,I,I,I,I,I,I,I,I,I,I,I,I,I,I,I,I,I,I,I,I,I,I,I,I,I,I,I,I,I,I,O,O] rfl rfl (dh HT_.out (by kernel_rfl)) (by decide) (fun K hK=>?_)
             refine Kd.lS (Kd.int .i64) _ 114 ?hg (N:=106) ?hd (xs:=([BG,t171,t173,t203,t206] : List Int)) (inner:=[.int .i64 BG,.int .i64 t171,.int .i64 t173,.int .i64 t203,.int .i64 t206]) (ok:=fun _=>True) (okp:=fun _=>True) ?hr ?hp (fun _ hk=>hk) trivial (Below.refl _ _) (Nat.le_refl _) (by simp) ?_;(case hd=>rfl);(case hg=>rfl);(case hr=>first|(go_simp;done)|(go_simp;rfl));(case hp=>exact (dW.one (show Kd.M (Kd.int .i64) _ _ _ BG [.int .i64 BG] from rfl) (dW.one (show Kd.M (Kd.int .i64) _ _ _ t171 [.int .i64 t171] from rfl) (dW.one (show Kd.M (Kd.int .i64) _ _ _ t173 [.int .i64 t173] from rfl) (dW.one (show Kd.M (Kd.int .i64) _ _ _ t203 [.int .i64 t203] from rfl) (dW.one (show Kd.M (Kd.int .i64) _ _ _ t206 [.int .i64 t206] from rfl) (dW.none _ _)))))))
             intro v208 Jj Du hb hg_ hnew_
             clear hg_ hnew_
             (first|rw [← Fv.out] at Du|(simp only [Int.reduceToNat] at Du;rw [← Fv.out] at Du))
             have CF:=Aside0.mk (Kd.jr Du (aU hb_))
             have CG:=Aside0.mk (aI (g:=BL) (o:=.cells #[.string BJ,.string BH,.int .i64 BF,.int .i64 BI,.bool BK,.slice (some CV) Bv.length Ct] 77 (0,0)) (bk_ Bz.out) hb)
             replace BM:=Aside0.mk (aI (g:=mb) (o:=om) (bk_ BM.out) hb)
             have CS:=Aside0.mk (aI (g:=BD) (o:=.cells #[.string ((au Bv Bu).f0),.string ((au Bv Bu).f1),.slice BN ((au Bv Bu).f2).length BO,.slice BQ ((au Bv Bu).f3).length BR,.int .i64 ((au Bv Bu).f4),.int .i64 ((au Bv Bu).f5),.slice Ca ((au Bv Bu).f6).length Cb] 84 (0,0)) (bk_ Bw.out) hb)
             have DW:=Aside0.mk (aN hb_ hb)
             clear Bz
             clear Bw
             clear HB
             have Ef:=CF
             have Bz:=CG
             have Bw:=CS
             have HB:=DW
             clear CF CG CS DW
             clear hb Du
             obtain ⟨Ga,Gb,Fx⟩:=Kd.gH Ef.out
             (first|subst Fx|(injection Fx with FV Hl FW;have Ho:=FV.symm;have Hq:=FW.symm;clear FV Hl FW;subst Ho;subst Hq))
             refine hK.out _ _ ⟨(ah Bw.out 0).trans rfl,(ah Bw.out 1).trans rfl,(ah Bw.out 2).trans rfl,(ah Bw.out 3).trans rfl,(ah Bw.out 4).trans rfl,(ah Bw.out 5).trans rfl,(ah Bw.out 6).trans rfl,BM.out⟩ (fun hHeld=>?_)
             clear hK K
             refine dS (a':=?_) ?_ ?_
             rotate_left
             ·show Act.put _ (some 106) _ = _
              simp only [Act.put,List.setIfInBounds_toArray,List.set_cons_zero,List.set_cons_succ,bJ,bK]
              rfl
             refine fE (i:=45) (N:=some 107) #[I,I,I,I,I,I,I,I,I,I,I,I,I,I,I,I,I,I,I,I,I,I,I,I,I,I,I,I,I,I,I,I,I,I,I,I,I,I,I,I,I,I,I,I,I,I,O] rfl rfl (dh HT_.out (by kernel_rfl)) (by decide) (fun K hK=>?_)
             refine eH Tryz.func104 (by kernel_rfl) rfl #[.slice Ga FI.length Gb] (by rfl) rfl rfl (by (try simp only [List.map_toArray,List.map_cons,List.map_nil]);first|done|rfl|(simp only [List.length_drop,List.length_take];rfl)) ?_
             with_reducible refine (aM.calls k2 _ _ FI t210 _ ?Dc ?Df H7.out).mono ?_
             (case Dc=>repeat (first|exact (Kd.fH Ef.out).2.2|(with_reducible refine Kd.dn ?_ _)|(with_reducible refine Kd.dw ?_ _)|(with_reducible refine Kd.dL ?_)))
             (case Df=>exact (Kd.fH Ef.out).2.1)
             rintro e w' ⟨rfl,⟨nd,rfl⟩⟩
             refine ⟨_,rfl,?_⟩
             refine hK.out _ _ ⟨(ah Bw.out 0).trans rfl,(ah Bw.out 1).trans rfl,(ah Bw.out 2).trans rfl,(ah Bw.out 3).trans rfl,(ah Bw.out 4).trans rfl,(ah Bw.out 5).trans rfl,(ah Bw.out 6).trans rfl,BM.out⟩ (fun hHeld=>?_)
             clear hK K
             refine dS (a':=?_) ?_ ?_
             rotate_left
             ·show Act.put _ (some 107) _ = _
              simp only [Act.put,List.setIfInBounds_toArray,List.set_cons_zero,List.set_cons_succ,bJ,bK]
              rfl
             refine pu_ 46 7 #[I,I,I,I,I,I,I,I,I,I,I,I,I,I,I,I,I,I,I,I,I,I,I,I,I,I,I,I,I,I,I,I,I,I,I,I,I,I,I,I,I,I,I,I,I,I,I] HT_.out ?_
             refine jd (gI HT_.out (by kernel_rfl)) ?_
             try go_wp2
             go_meet
             case rel=>exact ⟨_,(t210),(by first|rfl|(simp;done)|(simp [*];done)),H',⟨by have:=Hr.out;have:=Ht.out;first|omega|exact Nat.le_refl _⟩,⟨by (with_reducible repeat (first|apply aj|apply av|apply ak));exact Bz.out⟩,⟨by (with_reducible repeat (first|apply aj|apply av|apply ak));exact Bw.out⟩,⟨hb_⟩⟩
            ·exact absurd (Option.some.inj (F9.out.symm.trans (by rw [HX0.out]; exact HFr.out HLb.out))) FH
         case rest =>
          clear FC
          try clear c1
          try clear p2
          try clear c3
          try clear c4
          try clear c13
          try clear c16
          try clear c34
          try clear II
          try clear c37
          try clear IJ
          try clear IK
          try clear c40
          try clear FH
          obtain ⟨kq,CW,rfl,HA,Gc,Bz,Bw,HB⟩:=hcut
          cases kq with
          | zero=>exact absurd HA.out (by simp [aA.j2])
          | succ Gd =>
           have H:=HA.out
           clear HA
           simp only [aA.j2] at H
           by_cases c148 : CW = 0
           ·rw [if_pos c148] at H
            have c148b0 : (CW == 0) = true:=beq_iff_eq.mpr c148
            have c148b1 : (CW != 0) = false:=bne_eq_false_iff_eq.mpr c148
            clear c148
            replace H:=Option.bind_eq_some_iff.mp H
            obtain ⟨CY,Fy,H⟩:=H
            replace H : (if CY = 0 then (aA.l0 Gd Bv (Bv.length : Int) (wrap64 (Bu + 1))) else (some CY)) = some r:=H
            have Gf:=Aside0.mk Fy
            clear Fy
            by_cases Dv : CY = 0
            ·rw [if_pos Dv] at H
             have c150b0 : (CY == 0) = true:=beq_iff_eq.mpr Dv
             have c150b1 : (CY != 0) = false:=bne_eq_false_iff_eq.mpr Dv
             clear Dv
             have H':=Aside0.mk H
             clear H
             have Im:=CU.out
             have Io:=BP.out
             have Gg : wc.cell? ⟨BD,0,none⟩ = some (.string ((au Bv Bu).f0)):=(ah Bw.out 0).trans rfl
             have Gh : wc.cell? ⟨BD,1,none⟩ = some (.string ((au Bv Bu).f1)):=(ah Bw.out 1).trans rfl
             have Gi : wc.cell? ⟨BD,2,none⟩ = some (.slice BN ((au Bv Bu).f2).length BO):=(ah Bw.out 2).trans rfl
             have Gj : wc.cell? ⟨BD,3,none⟩ = some (.slice BQ ((au Bv Bu).f3).length BR):=(ah Bw.out 3).trans rfl
             have Gl : wc.cell? ⟨BD,4,none⟩ = some (.int .i64 ((au Bv Bu).f4)):=(ah Bw.out 4).trans rfl
             have Gm : wc.cell? ⟨BD,5,none⟩ = some (.int .i64 ((au Bv Bu).f5)):=(ah Bw.out 5).trans rfl
             have Gn : wc.cell? ⟨BD,6,none⟩ = some (.slice Ca ((au Bv Bu).f6).length Cb):=(ah Bw.out 6).trans rfl
             have Gp:=ay Bw.out 0
             have Gq:=ay Bw.out 1
             have Gr:=ay Bw.out 2
             have Gs:=ay Bw.out 3
             have Gt:=ay Bw.out 4
             have Gu:=ay Bw.out 5
             have Gv:=ay Bw.out 6
             go_wp2_with (first|((with_reducible refine bO (f:=108) rfl ?_);refine dZ (some 111) rfl rfl Tryz.func108 (by kernel_rfl) rfl #[.agg #[.string ((au Bv Bu).f0),.string ((au Bv Bu).f1),.slice BN ((au Bv Bu).f2).length BO,.slice BQ ((au Bv Bu).f3).length BR,.int .i64 ((au Bv Bu).f4),.int .i64 ((au Bv Bu).f5),.slice Ca ((au Bv Bu).f6).length Cb]] rfl (by (try simp only [List.map_toArray,List.map_cons,List.map_nil]);first|done|rfl|(simp only [List.length_drop,List.length_take];rfl)|(simp (disch:=first|omega|(simp at *;omega)) only [eu,dD,fA];rfl)) ?_;(with_reducible refine (fP.calls ((au Bv Bu).f0) ((au Bv Bu).f1) _ _ ((au Bv Bu).f2) _ _ ((au Bv Bu).f3) ((au Bv Bu).f4) ((au Bv Bu).f5) _ _ ((au Bv Bu).f6) CY _ ?Dc ?Df ?Eh ?Ei ?Ej ?El Gf.out).mono ?_);(case Dc=>repeat (first|exact (Kd.cZ DJ.out HB.out)|(with_reducible refine Kd.dn ?_ _)|(with_reducible refine Kd.dw ?_ _)|(with_reducible refine Kd.dL ?_)));(case Df=>exact DK.out);(case Eh=>repeat (first|exact (Kd.cZ DL.out HB.out)|(with_reducible refine Kd.dn ?_ _)|(with_reducible refine Kd.dw ?_ _)|(with_reducible refine Kd.dL ?_)));(case Ei=>exact DN.out);(case Ej=>repeat (first|exact (Kd.cZ DR.out HB.out)|(with_reducible refine Kd.dn ?_ _)|(with_reducible refine Kd.dw ?_ _)|(with_reducible refine Kd.dL ?_)));(case El=>exact DT.out);rintro e Jk ⟨rfl,hb⟩;refine ⟨_,rfl,?_⟩;have CF:=Aside0.mk (aI (g:=BL) (o:=.cells #[.string BJ,.string BH,.int .i64 BF,.int .i64 BI,.bool BK,.slice (some CV) Bv.length Ct] 77 (0,0)) (bk_ Bz.out) hb);have CG:=Aside0.mk (aI (g:=BD) (o:=.cells #[.string ((au Bv Bu).f0),.string ((au Bv Bu).f1),.slice BN ((au Bv Bu).f2).length BO,.slice BQ ((au Bv Bu).f3).length BR,.int .i64 ((au Bv Bu).f4),.int .i64 ((au Bv Bu).f5),.slice Ca ((au Bv Bu).f6).length Cb] 84 (0,0)) (bk_ Bw.out) hb);have CS:=Aside0.mk (aN hb_ hb);clear Bz;clear Bw;clear HB;have Bz:=CF;have Bw:=CG;have HB:=CS;clear CF CG CS;(try clear hb);(try clear hb2);(try clear hk);(try clear hi)))
             go_roundg Gd
             case measure=>have:=Hr.out;have:=Ht.out;have:=Gc.out;omega
             case rel=>exact ⟨(wrap64 (Bu + 1)),(by first|rfl|(simp;done)|(simp [*];done)),H',⟨by have:=Hr.out;have:=Ht.out;have:=Gc.out;omega⟩,⟨by rw [HX0.out, w01]; decide⟩,⟨fun h => absurd h (by rw [HX0.out, w01]; decide)⟩,⟨by (with_reducible repeat (first|apply aj|apply av|apply ak));exact Bz.out⟩,⟨hb_⟩⟩
            ·rw [if_neg Dv] at H
             have c150b0 : (CY == 0) = false:=beq_eq_false_iff_ne.mpr Dv
             have c150b1 : (CY != 0) = true:=bne_iff_ne.mpr Dv
             obtain rfl:=Option.some.inj H
             have Ip:=CU.out
             have Iq:=BP.out
             have Gw : wc.cell? ⟨BD,0,none⟩ = some (.string ((au Bv Bu).f0)):=(ah Bw.out 0).trans rfl
             have Gx : wc.cell? ⟨BD,1,none⟩ = some (.string ((au Bv Bu).f1)):=(ah Bw.out 1).trans rfl
             have Gy : wc.cell? ⟨BD,2,none⟩ = some (.slice BN ((au Bv Bu).f2).length BO):=(ah Bw.out 2).trans rfl
             have Gz : wc.cell? ⟨BD,3,none⟩ = some (.slice BQ ((au Bv Bu).f3).length BR):=(ah Bw.out 3).trans rfl
             have GA : wc.cell? ⟨BD,4,none⟩ = some (.int .i64 ((au Bv Bu).f4)):=(ah Bw.out 4).trans rfl
             have GD : wc.cell? ⟨BD,5,none⟩ = some (.int .i64 ((au Bv Bu).f5)):=(ah Bw.out 5).trans rfl
             have GI : wc.cell? ⟨BD,6,none⟩ = some (.slice Ca ((au Bv Bu).f6).length Cb):=(ah Bw.out 6).trans rfl
             have GJ:=ay Bw.out 0
             have GK:=ay Bw.out 1
             have GL:=ay Bw.out 2
             have GN:=ay Bw.out 3
             have GQ:=ay Bw.out 4
             have GR:=ay Bw.out 5
             have GU:=ay Bw.out 6
             go_wp2_with (first|((with_reducible refine bO (f:=108) rfl ?_);refine dZ (some 111) rfl rfl Tryz.func108 (by kernel_rfl) rfl #[.agg #[.string ((au Bv Bu).f0),.string ((au Bv Bu).f1),.slice BN ((au Bv Bu).f2).length BO,.slice BQ ((au Bv Bu).f3).length BR,.int .i64 ((au Bv Bu).f4),.int .i64 ((au Bv Bu).f5),.slice Ca ((au Bv Bu).f6).length Cb]] rfl (by (try simp only [List.map_toArray,List.map_cons,List.map_nil]);first|done|rfl|(simp only [List.length_drop,List.length_take];rfl)|(simp (disch:=first|omega|(simp at *;omega)) only [eu,dD,fA];rfl)) ?_;(with_reducible refine (fP.calls ((au Bv Bu).f0) ((au Bv Bu).f1) _ _ ((au Bv Bu).f2) _ _ ((au Bv Bu).f3) ((au Bv Bu).f4) ((au Bv Bu).f5) _ _ ((au Bv Bu).f6) CY _ ?Dc ?Df ?Eh ?Ei ?Ej ?El Gf.out).mono ?_);(case Dc=>repeat (first|exact (Kd.cZ DJ.out HB.out)|(with_reducible refine Kd.dn ?_ _)|(with_reducible refine Kd.dw ?_ _)|(with_reducible refine Kd.dL ?_)));(case Df=>exact DK.out);(case Eh=>repeat (first|exact (Kd.cZ DL.out HB.out)|(with_reducible refine Kd.dn ?_ _)|(with_reducible refine Kd.dw ?_ _)|(with_reducible refine Kd.dL ?_)));(case Ei=>exact DN.out);(case Ej=>repeat (first|exact (Kd.cZ DR.out HB.out)|(with_reducible refine Kd.dn ?_ _)|(with_reducible refine Kd.dw ?_ _)|(with_reducible refine Kd.dL ?_)));(case El=>exact DT.out);rintro e Jl ⟨rfl,hb⟩;refine ⟨_,rfl,?_⟩;have CF:=Aside0.mk (aI (g:=BL) (o:=.cells #[.string BJ,.string BH,.int .i64 BF,.int .i64 BI,.bool BK,.slice (some CV) Bv.length Ct] 77 (0,0)) (bk_ Bz.out) hb);have CG:=Aside0.mk (aI (g:=BD) (o:=.cells #[.string ((au Bv Bu).f0),.string ((au Bv Bu).f1),.slice BN ((au Bv Bu).f2).length BO,.slice BQ ((au Bv Bu).f3).length BR,.int .i64 ((au Bv Bu).f4),.int .i64 ((au Bv Bu).f5),.slice Ca ((au Bv Bu).f6).length Cb] 84 (0,0)) (bk_ Bw.out) hb);have CS:=Aside0.mk (aN hb_ hb);clear Bz;clear Bw;clear HB;have Bz:=CF;have Bw:=CG;have HB:=CS;clear CF CG CS;(try clear hb);(try clear hb2);(try clear hk);(try clear hi)))
             go_ret
             exact ⟨by first|rfl|(simp [bB,bC] <;> rfl)|(simp [*,bB,bC] <;> rfl),hb_⟩
           ·rw [if_neg c148] at H
            have c148b0 : (CW == 0) = false:=beq_eq_false_iff_ne.mpr c148
            have c148b1 : (CW != 0) = true:=bne_iff_ne.mpr c148
            obtain rfl:=Option.some.inj H
            go_wp2
            go_ret
            exact ⟨by first|rfl|(simp [bB,bC] <;> rfl)|(simp [*,bB,bC] <;> rfl),hb_⟩
        ·rw [if_neg G7] at H
         exact absurd H (by simp)
       ·rw [if_neg G6] at H
        exact absurd H (by simp)
      ·rw [if_neg FJ] at H
       have c77b0 : decide (Bu < (Bv.length : Int)) = false:=decide_eq_false FJ
       clear FJ
       obtain rfl:=Option.some.inj H
       go_wp2
       go_ret
       exact ⟨by first|rfl|(simp [bB,bC] <;> rfl)|(simp [*,bB,bC] <;> rfl),hb_⟩
   ·rw [if_neg c75] at H
    have c75b0 : (Di == 0) = false:=beq_eq_false_iff_ne.mpr c75
    have c75b1 : (Di != 0) = true:=bne_iff_ne.mpr c75
    obtain rfl:=Option.some.inj H
    go_wp2
    go_ret
    exact ⟨by first|rfl|(simp [bB,bC] <;> rfl)|(simp [*,bB,bC] <;> rfl),hb_⟩
end Go.Proofs.YtpncpefppifgdaaGreatDoor.GUt
