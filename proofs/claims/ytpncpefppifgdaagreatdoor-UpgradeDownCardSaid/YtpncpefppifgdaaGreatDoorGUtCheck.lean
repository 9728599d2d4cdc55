/- spec.Pod.Check of a pod of one container without lists: its contract, in terms of plain functions. Printed by this session's own program for a pretended function without its map, and mended. No conditions beside those stated. -/
import Derived.Test.YtpncpefppifgdaaGreatDoorCp
import Derived.Test.YtpncpefppifgdaaGreatDoorGUtName
import Derived.Test.YtpncpefppifgdaaGreatDoorGUtx10
import Derived.Test.YtpncpefppifgdaaGreatDoorGUtParts
import Derived.Test.YtpncpefppifgdaaGreatDoorGUtx11
import Derived.Test.YtpncpefppifgdaaGreatDoorGUtx3
namespace Go.Proofs.YtpncpefppifgdaaGreatDoor.GUt
open Go.RowKit Go.Maps Go.WideMaps Go.Proofs.YtpncpefppifgdaaGreatDoorW.PrintWords Go.Proofs.YtpncpefppifgdaaGreatDoorW.PrintLast Go.Proofs.YtpncpefppifgdaaGreatDoorW.PrintMore
set_option linter.unusedVariables false
set_option linter.unusedSimpArgs false
theorem w01 : wrap64 ((0 : Int) + 1) = 1 := by rw [bW (by omega) (by omega)]; rfl
theorem sj : Keyed Tryz.prog 9 := string_keyed Tryz.underlying9
theorem yG (w : World) : (zeroValue 3).run Tryz.prog w = .ok (.int .i64 0) w := by kernel_rfl
theorem pz {w w' : World} {P : Program} {k : TypeId} {R : Value → Option (DataW Unit × List MemPlace)} {b n : Nat} {D : DataW Unit} (h : w.ownsMap P k R b n D) (hb : Below w.heap.size w w') : w'.ownsMap P k R b n D := by
  have hlt := h.lt
  obtain ⟨es, clock, hh, F, hs, hD⟩ := h
  exact ⟨es, clock, (hb.block b hlt).trans hh, F, hs, hD⟩
theorem qZ {w : World} {P : Program} {k : TypeId} {R : Value → Option (DataW Unit × List MemPlace)} {b n g : Nat} {D : DataW Unit} (h : w.ownsMap P k R b n D) (hne : b ≠ g) (j : Nat) (u : Value) : (w.setCell ⟨g, j, none⟩ u).ownsMap P k R b n D := by
  obtain ⟨es, clock, hh, F, hs, hD⟩ := h
  exact ⟨es, clock, (Below.heap_setCell w ⟨g, j, none⟩ u b hne).trans hh, F, hs, hD⟩
theorem tL {a b : Int} (h : (.lit (.int .i64 a) : DataW Unit) = .lit (.int .i64 b)) : a = b := by
  injection h with h
  injection h
theorem moved {W w3 : World} {g m : Nat} {o : Obj} (hg : W.grownBy w3 (some m)) (h : W.heap[g]? = some o) (hne : g ≠ m) : w3.heap[g]? = some o := (hg.block g (aW h) (fun e => hne (by injection e))).trans h
theorem xO {w : World} {b n : Nat} {D : DataW Unit} {s : ByteArray} {kl : Lit} (h : w.ownsMap Tryz.prog 9 (plainElem Tryz.prog 3) b n D) (hkey : keyOf Tryz.prog 9 (.string s) = some kl) (hat : D.atKey kl (.lit (.int .i64 0)) = .lit (.int .i64 1)) :
    ∃ o : Obj, w.heap[b]? = some o ∧ ∀ W : World, W.heap[b]? = some o → (Instr.lookup 178 (.map (some b)) (.string s) false).run Tryz.prog W = .ok (.int .i64 1) W := by
  obtain ⟨es, clock, hh, F, hs, hD⟩ := h
  refine ⟨_, hh, fun W hW => ?_⟩
  have hW' : W.ownsMap Tryz.prog 9 (plainElem Tryz.prog 3) b n D := ⟨es, clock, hW, F, hs, hD⟩
  obtain ⟨c, hrun, hc, _⟩ := hW'.lookup_int sj Tryz.underlying178 Tryz.underlying3 (yG W) hkey
  rw [hrun, tL (hc.symm.trans hat)]
theorem xP (l : List Int) : ∀ (k : Nat) (t : Int), aM.f k (13 :: l) = some t → t = 13
  | 0, t, h => by simp [aM.f, aM.l0] at h
  | k + 1, t, h => by
    rw [aM.f, aM.l0, if_pos (by simp), if_pos (by decide), if_pos (by simp)] at h
    have e : rd (13 :: l) 0 = 13 := rfl
    simp only [e] at h
    simpa using h.symm
theorem zB {k : Nat} {a : ByteArray} {b : Bool} {t : Int} {l : List Int} (h1 : aZ.f k a = some b) (h2 : aH.f (!b) 13 = some t) (h3 : aM.f k (t :: l) = some 0) : aZ.f k a = some true := by
  cases b with
  | true => exact h1
  | false =>
    have e : t = 13 := by simpa [aH.f] using h2.symm
    subst e
    exact absurd (xP l k 0 h3) (by decide)
theorem wI {l : List S84} (h1 : l.length = 1) (h2 : (au l 0).f2.length = 0) (h3 : (au l 0).f3.length = 0) (h6 : (au l 0).f6.length = 0) : ∀ i : Int, (au l i).f2.length = 0 ∧ (au l i).f3.length = 0 ∧ (au l i).f6.length = 0 := fun i => by
  by_cases hi : i.toNat = 0
  · have e : au l i = au l 0 := by unfold au; rw [hi]; rfl
    rw [e]; exact ⟨h2, h3, h6⟩
  · have e : au l i = z84 := by unfold au; rw [List.getD_eq_getElem?_getD, List.getElem?_eq_none (by omega)]; rfl
    rw [e]; exact ⟨rfl, rfl, rfl⟩
mutual
def aC.j0 : Nat → Int → ByteArray → ByteArray → Int → Int → Bool → List (S84) → Option (Int)
 | 0,_,_,_,_,_,_,_=>none
 | k + 1,x3,GX,GY,GZ,G6,G7,Dw=>if x3 = 0 then (aC.l0 k Dw (Dw.length : Int) 0) else (some x3)
def aC.l0 : Nat → List (S84) → Int → Int → Option (Int)
 | 0,_,_,_=>none
 | k + 1,Cg,En,Cb=>if Cb < En then (if 0 ≤ Cb then (if Cb < (Cg.length : Int) then ((aZ.f k ((au Cg Cb).f0)).bind fun DV=>((aH.f (!DV) 13).bind fun BI=>((aH.f (decide (1 > 1)) 8).bind fun t171=>((bC.f k ((au Cg Cb).f1)).bind fun CX=>((aH.f (!CX) 6).bind fun t173=>((bK.f (((au Cg Cb).f2).length : Int)).bind fun CJ=>(if CJ = true then ((aH.f true 18).bind fun t175=>((bD.f ((au Cg Cb).f4) 64000).bind fun CK=>(if CK = true then ((bD.f ((au Cg Cb).f5) 1048576).bind fun CO=>((aH.f (!CO) 7).bind fun CP=>((aM.f k (([BI,t171,t173,t175,CP] : List Int))).bind fun t182=>(aC.j2 k t182 Cg En Cb ((au Cg Cb).f0) ((au Cg Cb).f1) ((au Cg Cb).f2) ((au Cg Cb).f3) ((au Cg Cb).f4) ((au Cg Cb).f5) ((au Cg Cb).f6))))) else ((aH.f true 7).bind fun t183=>((aM.f k (([BI,t171,t173,t175,t183] : List Int))).bind fun CQ=>(aC.j2 k CQ Cg En Cb ((au Cg Cb).f0) ((au Cg Cb).f1) ((au Cg Cb).f2) ((au Cg Cb).f3) ((au Cg Cb).f4) ((au Cg Cb).f5) ((au Cg Cb).f6))))))) else ((bK.f (((au Cg Cb).f3).length : Int)).bind fun Cu=>(if Cu = true then ((aH.f true 18).bind fun Cj=>((bD.f ((au Cg Cb).f4) 64000).bind fun Cw=>(if Cw = true then ((bD.f ((au Cg Cb).f5) 1048576).bind fun Cx=>((aH.f (!Cx) 7).bind fun Cy=>((aM.f k (([BI,t171,t173,Cj,Cy] : List Int))).bind fun t196=>(aC.j2 k t196 Cg En Cb ((au Cg Cb).f0) ((au Cg Cb).f1) ((au Cg Cb).f2) ((au Cg Cb).f3) ((au Cg Cb).f4) ((au Cg Cb).f5) ((au Cg Cb).f6))))) else ((aH.f true 7).bind fun Cz=>((aM.f k (([BI,t171,t173,Cj,Cz] : List Int))).bind fun t201=>(aC.j2 k t201 Cg En Cb ((au Cg Cb).f0) ((au Cg Cb).f1) ((au Cg Cb).f2) ((au Cg Cb).f3) ((au Cg Cb).f4) ((au Cg Cb).f5) ((au Cg Cb).f6))))))) else ((bK.f (((au Cg Cb).f6).length : Int)).bind fun Cq=>((aH.f Cq 18).bind fun t203=>((bD.f ((au Cg Cb).f4) 64000).bind fun Ck=>(if Ck = true then ((bD.f ((au Cg Cb).f5) 1048576).bind fun Ca=>((aH.f (!Ca) 7).bind fun t206=>((aM.f k (([BI,t171,t173,t203,t206] : List Int))).bind fun t210=>(aC.j2 k t210 Cg En Cb ((au Cg Cb).f0) ((au Cg Cb).f1) ((au Cg Cb).f2) ((au Cg Cb).f3) ((au Cg Cb).f4) ((au Cg Cb).f5) ((au Cg Cb).f6))))) else ((aH.f true 7).bind fun Cm=>((aM.f k (([BI,t171,t173,t203,Cm] : List Int))).bind fun Cn=>(aC.j2 k Cn Cg En Cb ((au Cg Cb).f0) ((au Cg Cb).f1) ((au Cg Cb).f2) ((au Cg Cb).f3) ((au Cg Cb).f4) ((au Cg Cb).f5) ((au Cg Cb).f6))))))))))))))))) else (none)) else (none)) else (some 0)
def aC.j2 : Nat → Int → List (S84) → Int → Int → ByteArray → ByteArray → List ByteArray → List (S126) → Int → Int → List (S127) → Option (Int)
 | 0,_,_,_,_,_,_,_,_,_,_,_=>none
 | k + 1,x7,Cg,En,Cb,Eo,Ep,Er,Es,Et,Eu,Ew=>if x7 = 0 then ((fM.f Eo Ep Er Es Et Eu Ew).bind fun CY=>(if CY = 0 then (aC.l0 k Cg En (wrap64 (Cb + 1))) else (some CY))) else (some x7)
end
def aC.g (k : Nat) (BL : ByteArray) (BJ : ByteArray) (BH : Int) (BK : Int) (BN : Bool) (Bz : List (S84)) : Option (Int):=(dY.f k BL).bind fun DW=>(if DW = true then ((aZ.f k BJ).bind fun CZ=>((aH.f (!CZ) 13).bind fun BZ=>(if BH < 0 then ((aH.f true 7).bind fun t116=>((aH.f ((Bz.length : Int) == 0) 16).bind fun t117=>((bK.f (Bz.length : Int)).bind fun C8=>((aH.f C8 18).bind fun t119=>((aM.f k (([BZ,t116,t117,t119] : List Int))).bind fun C9=>(aC.j0 k C9 BL BJ BH BK BN Bz)))))) else (if BH > 2 then ((aH.f true 7).bind fun t124=>((aH.f ((Bz.length : Int) == 0) 16).bind fun Da=>((bK.f (Bz.length : Int)).bind fun Db=>((aH.f Db 18).bind fun t127=>((aM.f k (([BZ,t124,Da,t127] : List Int))).bind fun t131=>(aC.j0 k t131 BL BJ BH BK BN Bz)))))) else ((bD.f BK 3600).bind fun CB=>((aH.f (!CB) 7).bind fun Cr=>((aH.f ((Bz.length : Int) == 0) 16).bind fun Co=>((bK.f (Bz.length : Int)).bind fun Ct=>((aH.f Ct 18).bind fun Ch=>((aM.f k (([BZ,Cr,Co,Ch] : List Int))).bind fun Ci=>(aC.j0 k Ci BL BJ BH BK BN Bz))))))))))) else ((aH.f true 13).bind fun t141=>(if BH < 0 then ((aH.f true 7).bind fun DZ=>((aH.f ((Bz.length : Int) == 0) 16).bind fun t143=>((bK.f (Bz.length : Int)).bind fun D5=>((aH.f D5 18).bind fun t145=>((aM.f k (([t141,DZ,t143,t145] : List Int))).bind fun D6=>(aC.j0 k D6 BL BJ BH BK BN Bz)))))) else (if BH > 2 then ((aH.f true 7).bind fun D7=>((aH.f ((Bz.length : Int) == 0) 16).bind fun D8=>((bK.f (Bz.length : Int)).bind fun t152=>((aH.f t152 18).bind fun D9=>((aM.f k (([t141,D7,D8,D9] : List Int))).bind fun t157=>(aC.j0 k t157 BL BJ BH BK BN Bz)))))) else ((bD.f BK 3600).bind fun Ea=>((aH.f (!Ea) 7).bind fun t159=>((aH.f ((Bz.length : Int) == 0) 16).bind fun t160=>((bK.f (Bz.length : Int)).bind fun Eb=>((aH.f Eb 18).bind fun t162=>((aM.f k (([t141,t159,t160,t162] : List Int))).bind fun Ec=>(aC.j0 k Ec BL BJ BH BK BN Bz)))))))))))
theorem aC.eB : ∀ k,(∀ y0 y1 y2 y3 y4 y5 y6,LeO (aC.j0 k y0 y1 y2 y3 y4 y5 y6) (aC.j0 (k + 1) y0 y1 y2 y3 y4 y5 y6)) ∧ (∀ y0 y1 y2,LeO (aC.l0 k y0 y1 y2) (aC.l0 (k + 1) y0 y1 y2)) ∧ (∀ y0 y1 y2 y3 y4 y5 y6 y7 y8 y9 Hf,LeO (aC.j2 k y0 y1 y2 y3 y4 y5 y6 y7 y8 y9 Hf) (aC.j2 (k + 1) y0 y1 y2 y3 y4 y5 y6 y7 y8 y9 Hf))
 | 0=>⟨fun _ _ _ _ _ _ _ r h=>by simp [aC.j0] at h,fun _ _ _ r h=>by simp [aC.l0] at h,fun _ _ _ _ _ _ _ _ _ _ _ r h=>by simp [aC.j2] at h⟩
 | k + 1=>by
  obtain ⟨Ey,ih1,ih2⟩:=aC.eB k
  refine ⟨?_,?_,?_⟩
  ·intro y0 y1 y2 y3 y4 y5 y6
   unfold aC.j0
   repeat' first
   | (with_reducible exact Ey _ _ _ _ _ _ _)
   | (with_reducible exact ih1 _ _ _)
   | (with_reducible exact ih2 _ _ _ _ _ _ _ _ _ _ _)
   | (with_reducible exact bC.mono _ _)
   | (with_reducible exact aZ.mono _ _)
   | (with_reducible exact dY.mono _ _)
   | (with_reducible exact aM.mono _ _)
   | (with_reducible exact LeO.refl _)
   | (with_reducible exact LeO.none _)
   | (with_reducible refine LeO.ite ?_ ?_)
   | (with_reducible refine LeO.bind ?_ (fun _=>?_))
   | exact Ey _ _ _ _ _ _ _
   | exact ih1 _ _ _
   | exact ih2 _ _ _ _ _ _ _ _ _ _ _
   | exact bC.mono _ _
   | exact aZ.mono _ _
   | exact dY.mono _ _
   | exact aM.mono _ _
   | exact LeO.none _
   | refine LeO.ite ?_ ?_
   | refine LeO.bind ?_ (fun _=>?_)
  ·intro y0 y1 y2
   unfold aC.l0
   repeat' first
   | (with_reducible exact Ey _ _ _ _ _ _ _)
   | (with_reducible exact ih1 _ _ _)
   | (with_reducible exact ih2 _ _ _ _ _ _ _ _ _ _ _)
   | (with_reducible exact bC.mono _ _)
   | (with_reducible exact aZ.mono _ _)
   | (with_reducible exact dY.mono _ _)
   | (with_reducible exact aM.mono _ _)
   | (with_reducible exact LeO.refl _)
   | (with_reducible exact LeO.none _)
   | (with_reducible refine LeO.ite ?_ ?_)
   | (with_reducible refine LeO.bind ?_ (fun _=>?_))
   | exact Ey _ _ _ _ _ _ _
   | exact ih1 _ _ _
   | exact ih2 _ _ _ _ _ _ _ _ _ _ _
   | exact bC.mono _ _
   | exact aZ.mono _ _
   | exact dY.mono _ _
   | exact aM.mono _ _
   | exact LeO.none _
   | refine LeO.ite ?_ ?_
   | refine LeO.bind ?_ (fun _=>?_)
  ·intro y0 y1 y2 y3 y4 y5 y6 y7 y8 y9 Hf
   unfold aC.j2
   repeat' first
   | (with_reducible exact Ey _ _ _ _ _ _ _)
   | (with_reducible exact ih1 _ _ _)
   | (with_reducible exact ih2 _ _ _ _ _ _ _ _ _ _ _)
   | (with_reducible exact bC.mono _ _)
   | (with_reducible exact aZ.mono _ _)
   | (with_reducible exact dY.mono _ _)
   | (with_reducible exact aM.mono _ _)
   | (with_reducible exact LeO.refl _)
   | (with_reducible exact LeO.none _)
   | (with_reducible refine LeO.ite ?_ ?_)
   | (with_reducible refine LeO.bind ?_ (fun _=>?_))
   | exact Ey _ _ _ _ _ _ _
   | exact ih1 _ _ _
   | exact ih2 _ _ _ _ _ _ _ _ _ _ _
   | exact bC.mono _ _
   | exact aZ.mono _ _
   | exact dY.mono _ _
   | exact aM.mono _ _
   | exact LeO.none _
   | refine LeO.ite ?_ ?_
   | refine LeO.bind ?_ (fun _=>?_)
theorem aC.Aq : ∀ a0 a1 a2 a3 a4 a5 k,LeO (aC.g k a0 a1 a2 a3 a4 a5) (aC.g (k + 1) a0 a1 a2 a3 a4 a5):=by
 intro a0 a1 a2 a3 a4 a5 k
 obtain ⟨Ey,ih1,ih2⟩:=aC.eB k
 unfold aC.g
 repeat' first
   | (with_reducible exact Ey _ _ _ _ _ _ _)
   | (with_reducible exact ih1 _ _ _)
   | (with_reducible exact ih2 _ _ _ _ _ _ _ _ _ _ _)
   | (with_reducible exact bC.mono _ _)
   | (with_reducible exact aZ.mono _ _)
   | (with_reducible exact dY.mono _ _)
   | (with_reducible exact aM.mono _ _)
   | (with_reducible exact LeO.refl _)
   | (with_reducible exact LeO.none _)
   | (with_reducible refine LeO.ite ?_ ?_)
   | (with_reducible refine LeO.bind ?_ (fun _=>?_))
   | exact Ey _ _ _ _ _ _ _
   | exact ih1 _ _ _
   | exact ih2 _ _ _ _ _ _ _ _ _ _ _
   | exact bC.mono _ _
   | exact aZ.mono _ _
   | exact dY.mono _ _
   | exact aM.mono _ _
   | exact LeO.none _
   | refine LeO.ite ?_ ?_
   | refine LeO.bind ?_ (fun _=>?_)
def aC.Ok (k : Nat) (BL BJ : ByteArray) (BH : Int) (Bz : List (S84)) : Prop := dY.f k BL = some true ∧ BH = 0 ∧ Bz.length = 1 ∧ (au Bz 0).f2.length = 0 ∧ (au Bz 0).f3.length = 0 ∧ (au Bz 0).f6.length = 0 ∧ (aZ.f k BJ = some true → bD.f (au Bz 0).f4 64000 = some true) ∧ (au Bz 0).f0.size ≤ 1000000000
instance (k : Nat) (BL BJ : ByteArray) (BH : Int) (Bz : List (S84)) : Decidable (aC.Ok k BL BJ BH Bz) := by unfold aC.Ok; infer_instance
def aC.f (k : Nat) (BL : ByteArray) (BJ : ByteArray) (BH : Int) (BK : Int) (BN : Bool) (Bz : List (S84)) : Option (Int) := if aC.Ok k BL BJ BH Bz then aC.g k BL BJ BH BK BN Bz else none
theorem aC.mono : ∀ a0 a1 a2 a3 a4 a5 k, LeO (aC.f k a0 a1 a2 a3 a4 a5) (aC.f (k + 1) a0 a1 a2 a3 a4 a5) := fun a0 a1 a2 a3 a4 a5 k r h => by
  unfold aC.f at h ⊢
  split at h
  case isFalse => cases h
  rename_i hc
  have hb : ∃ b, aZ.f k a1 = some b := by
    unfold aC.g at h
    rw [hc.1, Option.bind_some, if_pos rfl] at h
    obtain ⟨b, hb, _⟩ := Option.bind_eq_some_iff.1 h
    exact ⟨b, hb⟩
  obtain ⟨b, hb⟩ := hb
  have hb' := aZ.mono _ _ _ hb
  rw [if_pos (show aC.Ok (k + 1) a0 a1 a2 a5 from ⟨dY.mono _ _ _ hc.1, hc.2.1, hc.2.2.1, hc.2.2.2.1, hc.2.2.2.2.1, hc.2.2.2.2.2.1, fun h => hc.2.2.2.2.2.2.1 (by rw [hb'] at h; rw [hb]; exact h), hc.2.2.2.2.2.2.2⟩)]
  exact aC.Aq _ _ _ _ _ _ _ _ h
def aC.T1 : Bool × List (List Nat × List Nat):=(true,[([],[]),([0],[0]),([1],[1]),([2],[2]),([3,2],[3]),([4],[4]),([5,4],[4,5]),([6,4,4],[4,6]),([7,4],[4,7]),([4,8],[4,8]),([9,7],[9]),([],[]),([11],[11]),([12],[12]),([13,10],[13]),([14],[14]),([15,14],[14,15]),([16,14],[14,16]),([14,17],[14,17]),([18,14],[18]),([19],[19]),([20,19],[19,20]),([21,19,19],[19,21]),([22,19],[19,22]),([19,23],[19,23]),([24,22],[24]),([],[]),([26],[26]),([27],[27]),([28],[28]),([29,25],[29]),([],[]),([31],[31]),([32],[32]),([33,30],[33]),([34,34],[34]),([10,25,30,35],[10,25,30,35]),([36,35],[36]),([37,37,0,1,2,3,4,5,6,7,8,9,10,11,12,13,14,15,16,17,18,19,20,21,22,23,24,25,26,27,28,29,30,31,32,33,34,35,36,37],[37])])
def aC.B1 : List Nat:=[0,1,3,7,15,31,63,127,255,511,1023,0,2048,6144,16383,32767,65535,131071,262143,524287,1048575,2097151,4194303,8388607,16777215,33554431,0,67108864,201326592,469762048,1073741823,0,2147483648,6442450944,17179869183,34359738367,68719476735,137438953471,274877906943]
theorem aC.qE : gT .any (opsOf Tryz.f83 1) = aC.T1:=by kernel_rfl
theorem aC.mO : fO aC.T1.2 aC.B1 = true:=by kernel_rfl
def aC.T9 : Bool × List (List Nat × List Nat) := (true, [([], []), ([0], [0]), ([1], [1]), ([2], [2]), ([3, 2], [3]), ([], []), ([], []), ([6], [6]), ([5, 7], [5, 7]), ([8], [8]), ([9, 4], [9]), ([], []), ([11], [11]), ([12, 10], [12]), ([13], [13]), ([14, 13], [14]), ([], []), ([16], [16]), ([17], [17]), ([18, 15], [18]), ([19, 19], [19]), ([20], [20]), ([21, 20], [20, 21]), ([22, 20], [20, 22]), ([23, 20, 20], [20, 23]), ([20, 24], [20, 24]), ([25, 24], [25]), ([26], [26]), ([27, 26], [26, 27]), ([28, 26], [26, 28]), ([29, 26, 26], [26, 29]), ([26, 30], [26, 30]), ([31, 30], [31]), ([], []), ([33], [33]), ([34, 32], [34]), ([35], [35]), ([36, 35], [36]), ([37], [37]), ([38, 37], [37, 38]), ([39, 37, 37], [37, 39]), ([40, 37], [37, 40]), ([37, 41], [37, 41]), ([42, 40], [42]), ([4, 10, 15, 32, 43], [4, 10, 15, 32, 43]), ([44, 43], [44]), ([45, 45, 0, 1, 2, 3, 4, 5, 6, 7, 8, 9, 10, 11, 12, 13, 14, 15, 16, 17, 18, 19, 20, 21, 22, 23, 24, 25, 26, 27, 28, 29, 30, 31, 32, 33, 34, 35, 36, 37, 38, 39, 40, 41, 42, 43, 44, 45], [45])])
def aC.B9 : List Nat := [0, 1, 3, 7, 15, 0, 0, 64, 224, 480, 1023, 0, 2048, 8191, 16383, 32767, 0, 65536, 196608, 524287, 1048575, 2097151, 4194303, 8388607, 16777215, 33554431, 67108863, 134217727, 268435455, 536870911, 1073741823, 2147483647, 4294967295, 0, 8589934592, 34359738367, 68719476735, 137438953471, 274877906943, 549755813887, 1099511627775, 2199023255551, 4398046511103, 8796093022207, 17592186044415, 35184372088831, 70368744177663]
theorem aC.zC : gT .any (opsOf Tryz.f83 9) = aC.T9:=by kernel_rfl
theorem aC.wJ : fO aC.T9.2 aC.B9 = true:=by kernel_rfl
set_option maxHeartbeats 8000000 in
set_option maxRecDepth 100000 in
theorem aC.calls (k : Nat) (BL : ByteArray) (BJ : ByteArray) (BH : Int) (BK : Int) (BN : Bool) (Dh : Option Addr) (Cv : Nat) (Bz : List (S84)) (r : Int) (w : World) (Fa : Kd.C k84 w Dh Bz.length Bz) (Fb : Bz.length ≤ Cv) (h : aC.f k BL BJ BH BK BN Bz = some r) :
  Calls Tryz.prog 83 #[.agg #[.string BL,.string BJ,.int .i64 BH,.int .i64 BK,.bool BN,.slice Dh Bz.length Cv]] w fun e w'=>e = .returned (.int .i64 r) ∧ Below w.heap.size w w':=by
 have I4:=Tryz.underlying77
 have I5:=Tryz.underlying84
 have FM:=Aside0.mk Fa
 have Iu:=Aside0.mk Fb
 clear Fa Fb
 unfold aC.f at h
 split at h
 case isFalse => cases h
 rename_i hcond
 obtain ⟨hnm, hz2, hl1, he2, Iw, Iy, hfr, hsz⟩ := hcond
 have HNm := Aside0.mk hnm
 have HZ2 := Aside0.mk hz2
 have I6 := Aside0.mk hl1
 have HFr := Aside0.mk hfr
 have HSz := Aside0.mk hsz
 have HE := Aside0.mk (wI hl1 he2 Iw Iy)
 clear hnm hz2 hl1 he2 Iw Iy hfr hsz
 have HB:=Aside0.mk (Below.refl w.heap.size w)
 have H : ((dY.f k BL).bind fun DW=>(if DW = true then ((aZ.f k BJ).bind fun CZ=>((aH.f (!CZ) 13).bind fun BZ=>(if BH < 0 then ((aH.f true 7).bind fun t116=>((aH.f ((Bz.length : Int) == 0) 16).bind fun t117=>((bK.f (Bz.length : Int)).bind fun C8=>((aH.f C8 18).bind fun t119=>((aM.f k (([BZ,t116,t117,t119] : List Int))).bind fun C9=>(aC.j0 k C9 BL BJ BH BK BN Bz)))))) else (if BH > 2 then ((aH.f true 7).bind fun t124=>((aH.f ((Bz.length : Int) == 0) 16).bind fun Da=>((bK.f (Bz.length : Int)).bind fun Db=>((aH.f Db 18).bind fun t127=>((aM.f k (([BZ,t124,Da,t127] : List Int))).bind fun t131=>(aC.j0 k t131 BL BJ BH BK BN Bz)))))) else ((bD.f BK 3600).bind fun CB=>((aH.f (!CB) 7).bind fun Cr=>((aH.f ((Bz.length : Int) == 0) 16).bind fun Co=>((bK.f (Bz.length : Int)).bind fun Ct=>((aH.f Ct 18).bind fun Ch=>((aM.f k (([BZ,Cr,Co,Ch] : List Int))).bind fun Ci=>(aC.j0 k Ci BL BJ BH BK BN Bz))))))))))) else ((aH.f true 13).bind fun t141=>(if BH < 0 then ((aH.f true 7).bind fun DZ=>((aH.f ((Bz.length : Int) == 0) 16).bind fun t143=>((bK.f (Bz.length : Int)).bind fun D5=>((aH.f D5 18).bind fun t145=>((aM.f k (([t141,DZ,t143,t145] : List Int))).bind fun D6=>(aC.j0 k D6 BL BJ BH BK BN Bz)))))) else (if BH > 2 then ((aH.f true 7).bind fun D7=>((aH.f ((Bz.length : Int) == 0) 16).bind fun D8=>((bK.f (Bz.length : Int)).bind fun t152=>((aH.f t152 18).bind fun D9=>((aM.f k (([t141,D7,D8,D9] : List Int))).bind fun t157=>(aC.j0 k t157 BL BJ BH BK BN Bz)))))) else ((bD.f BK 3600).bind fun Ea=>((aH.f (!Ea) 7).bind fun t159=>((aH.f ((Bz.length : Int) == 0) 16).bind fun t160=>((bK.f (Bz.length : Int)).bind fun Eb=>((aH.f Eb 18).bind fun t162=>((aM.f k (([t141,t159,t160,t162] : List Int))).bind fun Ec=>(aC.j0 k Ec BL BJ BH BK BN Bz)))))))))))) = some r:=h
 clear h
 have Hg:=Aside0.mk H
 clear H
 go_enter Tryz.func83,Tryz.ntmps83
 go_upto_region 1 with (first|((with_reducible refine bN (N:=1) rfl ?_);(try (refine eX (by rfl) ?_;dsimp only));refine bT ?hg (N:=1) ?hd (cs:=#[.string BL,.string BJ,.int .i64 BH,.int .i64 BK,.bool BN,.slice Dh Bz.length Cv]) (t:=77) ?hr ?_;(case hd=>rfl);(case hg=>rfl);(case hr=>first|(go_simp;done)|(go_simp;rfl));intro BO hg w3 hbox hb;have CF:=Aside0.mk (aN hb_ hb);have CG:=Aside0.mk (hbox);have CS:=Aside0.mk ((by rw [hg];exact (aR hb_) : w.heap.size ≤ BO));have DX:=Aside0.mk ((by rw [hg];exact (aR hb_) : w.heap.size ≤ BO));clear HB;have HB:=CF;have BF:=CG;have Iz:=CS;have IB:=DX;clear CF CG CS DX;clear hb hbox hg))
 (try simp only [Act.put,List.setIfInBounds_toArray,List.set_cons_zero,List.set_cons_succ])
 go_cut [3] (fun v3 wc=>∃ (kq : Nat) (Di : Int),v3 = .int .i64 Di ∧ Aside0 (aC.j0 kq Di BL BJ BH BK BN Bz = some r) ∧ Aside0 (kq ≤ k) ∧ Aside0 (Di = 0 → aZ.f k BJ = some true) ∧ Aside0 (wc.heap[BO]? = some (.cells #[.string BL,.string BJ,.int .i64 BH,.int .i64 BK,.bool BN,(.slice Dh Bz.length Cv)] 77 (0,0))) ∧ Aside0 (Below w.heap.size w wc))
 case first =>
  have H:=Hg.out
  clear Hg
  replace H:=Option.bind_eq_some_iff.mp H
  obtain ⟨DW,IC,H⟩:=H
  replace H : (if DW = true then ((aZ.f k BJ).bind fun CZ=>((aH.f (!CZ) 13).bind fun BZ=>(if BH < 0 then ((aH.f true 7).bind fun t116=>((aH.f ((Bz.length : Int) == 0) 16).bind fun t117=>((bK.f (Bz.length : Int)).bind fun C8=>((aH.f C8 18).bind fun t119=>((aM.f k (([BZ,t116,t117,t119] : List Int))).bind fun C9=>(aC.j0 k C9 BL BJ BH BK BN Bz)))))) else (if BH > 2 then ((aH.f true 7).bind fun t124=>((aH.f ((Bz.length : Int) == 0) 16).bind fun Da=>((bK.f (Bz.length : Int)).bind fun Db=>((aH.f Db 18).bind fun t127=>((aM.f k (([BZ,t124,Da,t127] : List Int))).bind fun t131=>(aC.j0 k t131 BL BJ BH BK BN Bz)))))) else ((bD.f BK 3600).bind fun CB=>((aH.f (!CB) 7).bind fun Cr=>((aH.f ((Bz.length : Int) == 0) 16).bind fun Co=>((bK.f (Bz.length : Int)).bind fun Ct=>((aH.f Ct 18).bind fun Ch=>((aM.f k (([BZ,Cr,Co,Ch] : List Int))).bind fun Ci=>(aC.j0 k Ci BL BJ BH BK BN Bz))))))))))) else ((aH.f true 13).bind fun t141=>(if BH < 0 then ((aH.f true 7).bind fun DZ=>((aH.f ((Bz.length : Int) == 0) 16).bind fun t143=>((bK.f (Bz.length : Int)).bind fun D5=>((aH.f D5 18).bind fun t145=>((aM.f k (([t141,DZ,t143,t145] : List Int))).bind fun D6=>(aC.j0 k D6 BL BJ BH BK BN Bz)))))) else (if BH > 2 then ((aH.f true 7).bind fun D7=>((aH.f ((Bz.length : Int) == 0) 16).bind fun D8=>((bK.f (Bz.length : Int)).bind fun t152=>((aH.f t152 18).bind fun D9=>((aM.f k (([t141,D7,D8,D9] : List Int))).bind fun t157=>(aC.j0 k t157 BL BJ BH BK BN Bz)))))) else ((bD.f BK 3600).bind fun Ea=>((aH.f (!Ea) 7).bind fun t159=>((aH.f ((Bz.length : Int) == 0) 16).bind fun t160=>((bK.f (Bz.length : Int)).bind fun Eb=>((aH.f Eb 18).bind fun t162=>((aM.f k (([t141,t159,t160,t162] : List Int))).bind fun Ec=>(aC.j0 k Ec BL BJ BH BK BN Bz))))))))))) = some r:=H
  have A4:=Aside0.mk IC
  clear IC
  by_cases c5 : DW = true
  ·subst c5
   have H1 : ((aZ.f k BJ).bind fun CZ=>((aH.f (!CZ) 13).bind fun BZ=>(if BH < 0 then ((aH.f true 7).bind fun t116=>((aH.f ((Bz.length : Int) == 0) 16).bind fun t117=>((bK.f (Bz.length : Int)).bind fun C8=>((aH.f C8 18).bind fun t119=>((aM.f k (([BZ,t116,t117,t119] : List Int))).bind fun C9=>(aC.j0 k C9 BL BJ BH BK BN Bz)))))) else (if BH > 2 then ((aH.f true 7).bind fun t124=>((aH.f ((Bz.length : Int) == 0) 16).bind fun Da=>((bK.f (Bz.length : Int)).bind fun Db=>((aH.f Db 18).bind fun t127=>((aM.f k (([BZ,t124,Da,t127] : List Int))).bind fun t131=>(aC.j0 k t131 BL BJ BH BK BN Bz)))))) else ((bD.f BK 3600).bind fun CB=>((aH.f (!CB) 7).bind fun Cr=>((aH.f ((Bz.length : Int) == 0) 16).bind fun Co=>((bK.f (Bz.length : Int)).bind fun Ct=>((aH.f Ct 18).bind fun Ch=>((aM.f k (([BZ,Cr,Co,Ch] : List Int))).bind fun Ci=>(aC.j0 k Ci BL BJ BH BK BN Bz))))))))))) = some r:=by rw [if_pos rfl] at H;exact H
   clear H
   have H:=H1
   clear H1
   replace H:=Option.bind_eq_some_iff.mp H
   obtain ⟨CZ,IE,H⟩:=H
   replace H : ((aH.f (!CZ) 13).bind fun BZ=>(if BH < 0 then ((aH.f true 7).bind fun t116=>((aH.f ((Bz.length : Int) == 0) 16).bind fun t117=>((bK.f (Bz.length : Int)).bind fun C8=>((aH.f C8 18).bind fun t119=>((aM.f k (([BZ,t116,t117,t119] : List Int))).bind fun C9=>(aC.j0 k C9 BL BJ BH BK BN Bz)))))) else (if BH > 2 then ((aH.f true 7).bind fun t124=>((aH.f ((Bz.length : Int) == 0) 16).bind fun Da=>((bK.f (Bz.length : Int)).bind fun Db=>((aH.f Db 18).bind fun t127=>((aM.f k (([BZ,t124,Da,t127] : List Int))).bind fun t131=>(aC.j0 k t131 BL BJ BH BK BN Bz)))))) else ((bD.f BK 3600).bind fun CB=>((aH.f (!CB) 7).bind fun Cr=>((aH.f ((Bz.length : Int) == 0) 16).bind fun Co=>((bK.f (Bz.length : Int)).bind fun Ct=>((aH.f Ct 18).bind fun Ch=>((aM.f k (([BZ,Cr,Co,Ch] : List Int))).bind fun Ci=>(aC.j0 k Ci BL BJ BH BK BN Bz)))))))))) = some r:=H
   have A6:=Aside0.mk IE
   clear IE
   replace H:=Option.bind_eq_some_iff.mp H
   obtain ⟨BZ,IG,H⟩:=H
   replace H : (if BH < 0 then ((aH.f true 7).bind fun t116=>((aH.f ((Bz.length : Int) == 0) 16).bind fun t117=>((bK.f (Bz.length : Int)).bind fun C8=>((aH.f C8 18).bind fun t119=>((aM.f k (([BZ,t116,t117,t119] : List Int))).bind fun C9=>(aC.j0 k C9 BL BJ BH BK BN Bz)))))) else (if BH > 2 then ((aH.f true 7).bind fun t124=>((aH.f ((Bz.length : Int) == 0) 16).bind fun Da=>((bK.f (Bz.length : Int)).bind fun Db=>((aH.f Db 18).bind fun t127=>((aM.f k (([BZ,t124,Da,t127] : List Int))).bind fun t131=>(aC.j0 k t131 BL BJ BH BK BN Bz)))))) else ((bD.f BK 3600).bind fun CB=>((aH.f (!CB) 7).bind fun Cr=>((aH.f ((Bz.length : Int) == 0) 16).bind fun Co=>((bK.f (Bz.length : Int)).bind fun Ct=>((aH.f Ct 18).bind fun Ch=>((aM.f k (([BZ,Cr,Co,Ch] : List Int))).bind fun Ci=>(aC.j0 k Ci BL BJ BH BK BN Bz))))))))) = some r:=H
   have A7:=Aside0.mk IG
   clear IG
   by_cases c8 : BH < 0
   ·exact absurd c8 (by rw [HZ2.out]; decide)
   ·rw [if_neg c8] at H
    have c8b0 : decide (BH < 0) = false:=decide_eq_false c8
    clear c8
    (first|rw [c8b0]|(simp only [bO,bR];rw [c8b0])|skip)
    by_cases c19 : BH > 2
    ·exact absurd c19 (by rw [HZ2.out]; decide)
    ·rw [if_neg c19] at H
     have c19b0 : decide (2 < BH) = false:=decide_eq_false c19
     clear c19
     replace H:=Option.bind_eq_some_iff.mp H
     obtain ⟨CB,FN,H⟩:=H
     replace H : ((aH.f (!CB) 7).bind fun Cr=>((aH.f ((Bz.length : Int) == 0) 16).bind fun Co=>((bK.f (Bz.length : Int)).bind fun Ct=>((aH.f Ct 18).bind fun Ch=>((aM.f k (([BZ,Cr,Co,Ch] : List Int))).bind fun Ci=>(aC.j0 k Ci BL BJ BH BK BN Bz)))))) = some r:=H
     have I7:=Aside0.mk FN
     clear FN
     replace H:=Option.bind_eq_some_iff.mp H
     obtain ⟨Cr,FP,H⟩:=H
     replace H : ((aH.f ((Bz.length : Int) == 0) 16).bind fun Co=>((bK.f (Bz.length : Int)).bind fun Ct=>((aH.f Ct 18).bind fun Ch=>((aM.f k (([BZ,Cr,Co,Ch] : List Int))).bind fun Ci=>(aC.j0 k Ci BL BJ BH BK BN Bz))))) = some r:=H
     have I8:=Aside0.mk FP
     clear FP
     replace H:=Option.bind_eq_some_iff.mp H
     obtain ⟨Co,FQ,H⟩:=H
     replace H : ((bK.f (Bz.length : Int)).bind fun Ct=>((aH.f Ct 18).bind fun Ch=>((aM.f k (([BZ,Cr,Co,Ch] : List Int))).bind fun Ci=>(aC.j0 k Ci BL BJ BH BK BN Bz)))) = some r:=H
     have I9:=Aside0.mk FQ
     clear FQ
     replace H:=Option.bind_eq_some_iff.mp H
     obtain ⟨Ct,FR,H⟩:=H
     replace H : ((aH.f Ct 18).bind fun Ch=>((aM.f k (([BZ,Cr,Co,Ch] : List Int))).bind fun Ci=>(aC.j0 k Ci BL BJ BH BK BN Bz))) = some r:=H
     have Ja:=Aside0.mk FR
     clear FR
     replace H:=Option.bind_eq_some_iff.mp H
     obtain ⟨Ch,FT,H⟩:=H
     replace H : ((aM.f k (([BZ,Cr,Co,Ch] : List Int))).bind fun Ci=>(aC.j0 k Ci BL BJ BH BK BN Bz)) = some r:=H
     have Jb:=Aside0.mk FT
     clear FT
     obtain ⟨FB,Dr⟩ : ∃ y_ : List Int,y_ = (([BZ,Cr,Co,Ch] : List Int)):=⟨_,rfl⟩
     replace H : ((aM.f k FB).bind fun Ci=>(aC.j0 k Ci BL BJ BH BK BN Bz)) = some r:=by first|(rw [Dr];with_reducible exact H)|(have FC:=(Option.bind_some _ _).symm.trans H;rw [Dr];with_reducible exact FC)|(have FC:=(Option.bind_some _ _).symm.trans H;with_reducible exact FC)|with_reducible exact H|(rw [Dr];exact H)|exact H
     have Ed:=Aside0.mk Dr
     clear Dr
     replace H:=Option.bind_eq_some_iff.mp H
     obtain ⟨Ci,FU,H⟩:=H
     replace H : (aC.j0 k Ci BL BJ BH BK BN Bz) = some r:=H
     have II:=Aside0.mk FU
     clear FU
     have H':=Aside0.mk H
     clear H
     try go_wp2
     have CF:=Aside0.mk (ay BF.out)
     have CG:=Aside0.mk (bL HB.out)
     clear BF
     clear HB
     have BF:=CF
     have HB:=CG
     clear CF CG
     refine gZ (n:=39) (S:=fun w'=>w'.cell? ⟨BO,0,none⟩ = some (.string BL) ∧ w'.cell? ⟨BO,1,none⟩ = some (.string BJ) ∧ w'.cell? ⟨BO,2,none⟩ = some (.int .i64 BH) ∧ w'.cell? ⟨BO,3,none⟩ = some (.int .i64 BK) ∧ w'.cell? ⟨BO,4,none⟩ = some (.bool BN) ∧ w'.cell? ⟨BO,5,none⟩ = some (.slice Dh Bz.length Cv)) (ds:=[]) #[O,O,O,O,O,O,O,O,O,O,O,O,O,O,O,O,O,O,O,O,O,O,O,O,O,O,O,O,O,O,O,O,O,O,O,O,O,O,O] (by kernel_rfl) rfl rfl ⟨(ah BF.out 0).trans rfl,(ah BF.out 1).trans rfl,(ah BF.out 2).trans rfl,(ah BF.out 3).trans rfl,(ah BF.out 4).trans rfl,(ah BF.out 5).trans rfl⟩ (fun hHeld=>?_);refine eY aC.qE aC.mO (fun HT_ HW_=>?_)
     generalize w3.drew = Jo at BF HB hHeld ⊢
     refine pu_ 0 8 #[I,O,O,O,O,O,O,O,O,O,O,O,O,O,O,O,O,O,O,O,O,O,O,O,O,O,O,O,O,O,O,O,O,O,O,O,O,O,O] HT_.out ?_
     refine pu_ 11 19 #[I,O,O,O,O,O,O,O,O,O,O,I,O,O,O,O,O,O,O,O,O,O,O,O,O,O,O,O,O,O,O,O,O,O,O,O,O,O,O] HT_.out ?_
     refine pu_ 26 34 #[I,O,O,O,O,O,O,O,O,O,O,I,O,O,O,O,O,O,O,O,O,O,O,O,O,O,I,O,O,O,O,O,O,O,O,O,O,O,O] HT_.out ?_
     refine pu_ 31 39 #[I,O,O,O,O,O,O,O,O,O,O,I,O,O,O,O,O,O,O,O,O,O,O,O,O,O,I,O,O,O,O,I,O,O,O,O,O,O,O] HT_.out ?_
     refine ta_ 1 9 #[I,I,O,O,O,O,O,O,O,O,O,I,O,O,O,O,O,O,O,O,O,O,O,O,O,O,I,O,O,O,O,I,O,O,O,O,O,O,O] HT_.out HW_.out hHeld ?_
     refine ta_ 12 20 #[I,I,O,O,O,O,O,O,O,O,O,I,I,O,O,O,O,O,O,O,O,O,O,O,O,O,I,O,O,O,O,I,O,O,O,O,O,O,O] HT_.out HW_.out hHeld ?_
     refine pu_ 13 21 #[I,I,O,O,O,O,O,O,O,O,O,I,I,I,O,O,O,O,O,O,O,O,O,O,O,O,I,O,O,O,O,I,O,O,O,O,O,O,O] HT_.out ?_
     refine ta_ 27 35 #[I,I,O,O,O,O,O,O,O,O,O,I,I,I,O,O,O,O,O,O,O,O,O,O,O,O,I,I,O,O,O,I,O,O,O,O,O,O,O] HT_.out HW_.out hHeld ?_
     refine pu_ 28 36 #[I,I,O,O,O,O,O,O,O,O,O,I,I,I,O,O,O,O,O,O,O,O,O,O,O,O,I,I,I,O,O,I,O,O,O,O,O,O,O] HT_.out ?_
     refine pu_ 29 37 #[I,I,O,O,O,O,O,O,O,O,O,I,I,I,O,O,O,O,O,O,O,O,O,O,O,O,I,I,I,I,O,I,O,O,O,O,O,O,O] HT_.out ?_
     refine ta_ 32 40 #[I,I,O,O,O,O,O,O,O,O,O,I,I,I,O,O,O,O,O,O,O,O,O,O,O,O,I,I,I,I,O,I,I,O,O,O,O,O,O] HT_.out HW_.out hHeld ?_
     refine pu_ 33 41 #[I,I,O,O,O,O,O,O,O,O,O,I,I,I,O,O,O,O,O,O,O,O,O,O,O,O,I,I,I,I,O,I,I,I,O,O,O,O,O] HT_.out ?_
     refine fU (i:=2) (N:=some 10) #[I,I,I,O,O,O,O,O,O,O,O,I,I,I,O,O,O,O,O,O,O,O,O,O,O,O,I,I,I,I,O,I,I,I,O,O,O,O,O] rfl rfl (cO HT_.out (by kernel_rfl)) (by decide) (fun K hK=>?_)
     refine eU Tryz.func71 (by kernel_rfl) rfl #[.string BL] (by rfl) rfl rfl (by (try simp only [List.map_toArray,List.map_cons,List.map_nil]);first|done|rfl|(simp only [List.length_drop,List.length_take];rfl)) ?_
     with_reducible refine (dY.calls k BL true _ A4.out).mono ?_
     rintro e Jp ⟨rfl,hb⟩
     refine ⟨_,rfl,?_⟩
     have CF:=Aside0.mk (aJ (g:=BO) (o:=.cells #[.string BL,.string BJ,.int .i64 BH,.int .i64 BK,.bool BN,.slice Dh Bz.length Cv] 77 (0,0)) (bk_ BF.out) hb)
     have CG:=Aside0.mk (aN hb_ hb)
     clear BF
     clear HB
     have BF:=CF
     have HB:=CG
     clear CF CG
     (try clear hb)
     (try clear hb2)
     (try clear hk)
     (try clear hi)
     refine hK.out _ _ ⟨(ah BF.out 0).trans rfl,(ah BF.out 1).trans rfl,(ah BF.out 2).trans rfl,(ah BF.out 3).trans rfl,(ah BF.out 4).trans rfl,(ah BF.out 5).trans rfl⟩ (fun hHeld=>?_)
     clear hK K
     refine dX (a':=?_) ?_ ?_
     rotate_left
     ·show Act.put _ (some 10) _ = _
      simp only [Act.put,List.setIfInBounds_toArray,List.set_cons_zero,List.set_cons_succ,bO,bR]
      rfl
     refine pu_ 3 11 #[I,I,I,I,O,O,O,O,O,O,O,I,I,I,O,O,O,O,O,O,O,O,O,O,O,O,I,I,I,I,O,I,I,I,O,O,O,O,O] HT_.out ?_
     refine pu_ 4 12 #[I,I,I,I,I,O,O,O,O,O,O,I,I,I,O,O,O,O,O,O,O,O,O,O,O,O,I,I,I,I,O,I,I,I,O,O,O,O,O] HT_.out ?_
     refine pu_ 5 13 #[I,I,I,I,I,I,O,O,O,O,O,I,I,I,O,O,O,O,O,O,O,O,O,O,O,O,I,I,I,I,O,I,I,I,O,O,O,O,O] HT_.out ?_
     refine ta_ 6 14 #[I,I,I,I,I,I,I,O,O,O,O,I,I,I,O,O,O,O,O,O,O,O,O,O,O,O,I,I,I,I,O,I,I,I,O,O,O,O,O] HT_.out HW_.out hHeld ?_
     refine fU (i:=7) (N:=some 15) #[I,I,I,I,I,I,I,I,O,O,O,I,I,I,O,O,O,O,O,O,O,O,O,O,O,O,I,I,I,I,O,I,I,I,O,O,O,O,O] rfl rfl (cO HT_.out (by kernel_rfl)) (by decide) (fun K hK=>?_)
     refine eU Tryz.func70 (by kernel_rfl) rfl #[.string BJ] (by rfl) rfl rfl (by (try simp only [List.map_toArray,List.map_cons,List.map_nil]);first|done|rfl|(simp only [List.length_drop,List.length_take];rfl)) ?_
     with_reducible refine (aZ.calls k BJ CZ _ A6.out).mono ?_
     rintro e w' ⟨rfl,⟨nd,rfl⟩⟩
     refine ⟨_,rfl,?_⟩
     refine hK.out _ _ ⟨(ah BF.out 0).trans rfl,(ah BF.out 1).trans rfl,(ah BF.out 2).trans rfl,(ah BF.out 3).trans rfl,(ah BF.out 4).trans rfl,(ah BF.out 5).trans rfl⟩ (fun hHeld=>?_)
     clear hK K
     refine dX (a':=?_) ?_ ?_
     rotate_left
     ·show Act.put _ (some 15) _ = _
      simp only [Act.put,List.setIfInBounds_toArray,List.set_cons_zero,List.set_cons_succ,bO,bR]
      rfl
     refine pu_ 8 16 #[I,I,I,I,I,I,I,I,I,O,O,I,I,I,O,O,O,O,O,O,O,O,O,O,O,O,I,I,I,I,O,I,I,I,O,O,O,O,O] HT_.out ?_
     refine pu_ 9 17 #[I,I,I,I,I,I,I,I,I,I,O,I,I,I,O,O,O,O,O,O,O,O,O,O,O,O,I,I,I,I,O,I,I,I,O,O,O,O,O] HT_.out ?_
     refine fU (i:=10) (N:=some 18) #[I,I,I,I,I,I,I,I,I,I,I,I,I,I,O,O,O,O,O,O,O,O,O,O,O,O,I,I,I,I,O,I,I,I,O,O,O,O,O] rfl rfl (cO HT_.out (by kernel_rfl)) (by decide) (fun K hK=>?_)
     refine eU Tryz.func105 (by kernel_rfl) rfl #[.bool (!CZ),.int .i64 13] (by rfl) rfl rfl (by (try simp only [List.map_toArray,List.map_cons,List.map_nil]);first|done|rfl|(simp only [List.length_drop,List.length_take];rfl)) ?_
     with_reducible refine (aH.calls (!CZ) 13 BZ _ A7.out).mono ?_
     rintro e w' ⟨rfl,⟨nd,rfl⟩⟩
     refine ⟨_,rfl,?_⟩
     refine hK.out _ _ ⟨(ah BF.out 0).trans rfl,(ah BF.out 1).trans rfl,(ah BF.out 2).trans rfl,(ah BF.out 3).trans rfl,(ah BF.out 4).trans rfl,(ah BF.out 5).trans rfl⟩ (fun hHeld=>?_)
     clear hK K
     refine dX (a':=?_) ?_ ?_
     rotate_left
     ·show Act.put _ (some 18) _ = _
      simp only [Act.put,List.setIfInBounds_toArray,List.set_cons_zero,List.set_cons_succ,bO,bR]
      rfl
     refine pu_ 14 22 #[I,I,I,I,I,I,I,I,I,I,I,I,I,I,I,O,O,O,O,O,O,O,O,O,O,O,I,I,I,I,O,I,I,I,O,O,O,O,O] HT_.out ?_
     refine pu_ 15 23 #[I,I,I,I,I,I,I,I,I,I,I,I,I,I,I,I,O,O,O,O,O,O,O,O,O,O,I,I,I,I,O,I,I,I,O,O,O,O,O] HT_.out ?_
     refine ta_ 16 24 #[I,I,I,I,I,I,I,I,I,I,I,I,I,I,I,I,I,O,O,O,O,O,O,O,O,O,I,I,I,I,O,I,I,I,O,O,O,O,O] HT_.out HW_.out hHeld ?_
     refine pu_ 17 25 #[I,I,I,I,I,I,I,I,I,I,I,I,I,I,I,I,I,I,O,O,O,O,O,O,O,O,I,I,I,I,O,I,I,I,O,O,O,O,O] HT_.out ?_
     refine pu_ 18 26 #[I,I,I,I,I,I,I,I,I,I,I,I,I,I,I,I,I,I,I,O,O,O,O,O,O,O,I,I,I,I,O,I,I,I,O,O,O,O,O] HT_.out ?_
     refine pu_ 19 27 #[I,I,I,I,I,I,I,I,I,I,I,I,I,I,I,I,I,I,I,I,O,O,O,O,O,O,I,I,I,I,O,I,I,I,O,O,O,O,O] HT_.out ?_
     refine pu_ 20 28 #[I,I,I,I,I,I,I,I,I,I,I,I,I,I,I,I,I,I,I,I,I,O,O,O,O,O,I,I,I,I,O,I,I,I,O,O,O,O,O] HT_.out ?_
     refine ta_ 21 29 #[I,I,I,I,I,I,I,I,I,I,I,I,I,I,I,I,I,I,I,I,I,I,O,O,O,O,I,I,I,I,O,I,I,I,O,O,O,O,O] HT_.out HW_.out hHeld ?_
     refine fU (i:=22) (N:=some 30) #[I,I,I,I,I,I,I,I,I,I,I,I,I,I,I,I,I,I,I,I,I,I,I,O,O,O,I,I,I,I,O,I,I,I,O,O,O,O,O] rfl rfl (cO HT_.out (by kernel_rfl)) (by decide) (fun K hK=>?_)
     refine eU Tryz.func106 (by kernel_rfl) rfl #[.int .i64 BK,.int .i64 3600] (by rfl) rfl rfl (by (try simp only [List.map_toArray,List.map_cons,List.map_nil]);first|done|rfl|(simp only [List.length_drop,List.length_take];rfl)) ?_
     with_reducible refine (bD.calls BK 3600 CB _ I7.out).mono ?_
     rintro e w' ⟨rfl,⟨nd,rfl⟩⟩
     refine ⟨_,rfl,?_⟩
     refine hK.out _ _ ⟨(ah BF.out 0).trans rfl,(ah BF.out 1).trans rfl,(ah BF.out 2).trans rfl,(ah BF.out 3).trans rfl,(ah BF.out 4).trans rfl,(ah BF.out 5).trans rfl⟩ (fun hHeld=>?_)
     clear hK K
     refine dX (a':=?_) ?_ ?_
     rotate_left
     ·show Act.put _ (some 30) _ = _
      simp only [Act.put,List.setIfInBounds_toArray,List.set_cons_zero,List.set_cons_succ,bO,bR]
      rfl
     refine pu_ 23 31 #[I,I,I,I,I,I,I,I,I,I,I,I,I,I,I,I,I,I,I,I,I,I,I,I,O,O,I,I,I,I,O,I,I,I,O,O,O,O,O] HT_.out ?_
     refine pu_ 24 32 #[I,I,I,I,I,I,I,I,I,I,I,I,I,I,I,I,I,I,I,I,I,I,I,I,I,O,I,I,I,I,O,I,I,I,O,O,O,O,O] HT_.out ?_
     refine fU (i:=25) (N:=some 33) #[I,I,I,I,I,I,I,I,I,I,I,I,I,I,I,I,I,I,I,I,I,I,I,I,I,I,I,I,I,I,O,I,I,I,O,O,O,O,O] rfl rfl (cO HT_.out (by kernel_rfl)) (by decide) (fun K hK=>?_)
     refine eU Tryz.func105 (by kernel_rfl) rfl #[.bool (!CB),.int .i64 7] (by rfl) rfl rfl (by (try simp only [List.map_toArray,List.map_cons,List.map_nil]);first|done|rfl|(simp only [List.length_drop,List.length_take];rfl)) ?_
     with_reducible refine (aH.calls (!CB) 7 Cr _ I8.out).mono ?_
     rintro e w' ⟨rfl,⟨nd,rfl⟩⟩
     refine ⟨_,rfl,?_⟩
     refine hK.out _ _ ⟨(ah BF.out 0).trans rfl,(ah BF.out 1).trans rfl,(ah BF.out 2).trans rfl,(ah BF.out 3).trans rfl,(ah BF.out 4).trans rfl,(ah BF.out 5).trans rfl⟩ (fun hHeld=>?_)
     clear hK K
     refine dX (a':=?_) ?_ ?_
     rotate_left
     ·show Act.put _ (some 33) _ = _
      simp only [Act.put,List.setIfInBounds_toArray,List.set_cons_zero,List.set_cons_succ,bO,bR]
      rfl
     refine fU (i:=30) (N:=some 38) #[I,I,I,I,I,I,I,I,I,I,I,I,I,I,I,I,I,I,I,I,I,I,I,I,I,I,I,I,I,I,I,I,I,I,O,O,O,O,O] rfl rfl (cO HT_.out (by kernel_rfl)) (by decide) (fun K hK=>?_)
     refine eU Tryz.func105 (by kernel_rfl) rfl #[.bool ((Bz.length : Int) == 0),.int .i64 16] (by rfl) rfl rfl (by (try simp only [List.map_toArray,List.map_cons,List.map_nil]);first|done|rfl|(simp only [List.length_drop,List.length_take];rfl)) ?_
     with_reducible refine (aH.calls ((Bz.length : Int) == 0) 16 Co _ I9.out).mono ?_
     rintro e w' ⟨rfl,⟨nd,rfl⟩⟩
     refine ⟨_,rfl,?_⟩
     refine hK.out _ _ ⟨(ah BF.out 0).trans rfl,(ah BF.out 1).trans rfl,(ah BF.out 2).trans rfl,(ah BF.out 3).trans rfl,(ah BF.out 4).trans rfl,(ah BF.out 5).trans rfl⟩ (fun hHeld=>?_)
     clear hK K
     refine dX (a':=?_) ?_ ?_
     rotate_left
     ·show Act.put _ (some 38) _ = _
      simp only [Act.put,List.setIfInBounds_toArray,List.set_cons_zero,List.set_cons_succ,bO,bR]
      rfl
     refine fU (i:=34) (N:=some 42) #[I,I,I,I,I,I,I,I,I,I,I,I,I,I,I,I,I,I,I,I,I,I,I,I,I,I,I,I,I,I,I,I,I,I,I,O,O,O,O] rfl rfl (cO HT_.out (by kernel_rfl)) (by decide) (fun K hK=>?_)
     refine eU Tryz.func107 (by kernel_rfl) rfl #[.int .i64 (Bz.length : Int)] (by rfl) rfl rfl (by (try simp only [List.map_toArray,List.map_cons,List.map_nil]);first|done|rfl|(simp only [List.length_drop,List.length_take];rfl)) ?_
     with_reducible refine (bK.calls (Bz.length : Int) Ct _ Ja.out).mono ?_
     rintro e w' ⟨rfl,⟨nd,rfl⟩⟩
     refine ⟨_,rfl,?_⟩
     refine hK.out _ _ ⟨(ah BF.out 0).trans rfl,(ah BF.out 1).trans rfl,(ah BF.out 2).trans rfl,(ah BF.out 3).trans rfl,(ah BF.out 4).trans rfl,(ah BF.out 5).trans rfl⟩ (fun hHeld=>?_)
     clear hK K
     refine dX (a':=?_) ?_ ?_
     rotate_left
     ·show Act.put _ (some 42) _ = _
      simp only [Act.put,List.setIfInBounds_toArray,List.set_cons_zero,List.set_cons_succ,bO,bR]
      rfl
     refine fU (i:=35) (N:=some 43) #[I,I,I,I,I,I,I,I,I,I,I,I,I,I,I,I,I,I,I,I,I,I,I,I,I,I,I,I,I,I,I,I,I,I,I,I,O,O,O] rfl rfl (cO HT_.out (by kernel_rfl)) (by decide) (fun K hK=>?_)
     refine eU Tryz.func105 (by kernel_rfl) rfl #[.bool Ct,.int .i64 18] (by rfl) rfl rfl (by (try simp only [List.map_toArray,List.map_cons,List.map_nil]);first|done|rfl|(simp only [List.length_drop,List.length_take];rfl)) ?_
     with_reducible refine (aH.calls Ct 18 Ch _ Jb.out).mono ?_
     rintro e w' ⟨rfl,⟨nd,rfl⟩⟩
     refine ⟨_,rfl,?_⟩
     refine hK.out _ _ ⟨(ah BF.out 0).trans rfl,(ah BF.out 1).trans rfl,(ah BF.out 2).trans rfl,(ah BF.out 3).trans rfl,(ah BF.out 4).trans rfl,(ah BF.out 5).trans rfl⟩ (fun hHeld=>?_)
     clear hK K
     refine dX (a':=?_) ?_ ?_
     rotate_left
     ·show Act.put _ (some 43) _ = _
      simp only [Act.put,List.setIfInBounds_toArray,List.set_cons_zero,List.set_cons_succ,bO,bR]
      rfl
     refine fU (i:=36) (N:=some 44) #[I,I,I,I,I,I,I,I,I,I,I,I,I,I,I,I,I,I,I,I,I,I,I,I,I,I,I,I,I,I,I,I,I,I,I,I,I,O,O] rfl rfl (cO HT_.out (by kernel_rfl)) (by decide) (fun K hK=>?_)
     refine Kd.l9 (Kd.int .i64) _ 114 ?hg (N:=44) ?hd (xs:=([BZ,Cr,Co,Ch] : List Int)) (inner:=[.int .i64 BZ,.int .i64 Cr,.int .i64 Co,.int .i64 Ch]) (ok:=fun _=>True) (okp:=fun _=>True) ?hr ?hp (fun _ hk=>hk) trivial (Below.refl _ _) (Nat.le_refl _) (by simp) ?_;(case hd=>rfl);(case hg=>rfl);(case hr=>first|(go_simp;done)|(go_simp;rfl));(case hp=>exact (dQ.one (show Kd.M (Kd.int .i64) _ _ _ BZ [.int .i64 BZ] from rfl) (dQ.one (show Kd.M (Kd.int .i64) _ _ _ Cr [.int .i64 Cr] from rfl) (dQ.one (show Kd.M (Kd.int .i64) _ _ _ Co [.int .i64 Co] from rfl) (dQ.one (show Kd.M (Kd.int .i64) _ _ _ Ch [.int .i64 Ch] from rfl) (dQ.none _ _))))))
     intro v138 Jq Ee hb hg_ hnew_
     clear hg_ hnew_
     (first|rw [← Ed.out] at Ee|(simp only [Int.reduceToNat] at Ee;rw [← Ed.out] at Ee))
     have CF:=Aside0.mk (Kd.lC Ee (aR hb_))
     have CG:=Aside0.mk (aJ (g:=BO) (o:=.cells #[.string BL,.string BJ,.int .i64 BH,.int .i64 BK,.bool BN,.slice Dh Bz.length Cv] 77 (0,0)) (bk_ BF.out) hb)
     have CS:=Aside0.mk (aN hb_ hb)
     clear BF
     clear HB
     have Ef:=CF
     have BF:=CG
     have HB:=CS
     clear CF CG CS
     clear hb Ee
     obtain ⟨Hl,Ho,FV⟩:=Kd.iJ Ef.out
     (first|subst FV|(injection FV with FW Hq FX;have Hr:=FW.symm;have Ht:=FX.symm;clear FW Hq FX;subst Hr;subst Ht))
     refine hK.out _ _ ⟨(ah BF.out 0).trans rfl,(ah BF.out 1).trans rfl,(ah BF.out 2).trans rfl,(ah BF.out 3).trans rfl,(ah BF.out 4).trans rfl,(ah BF.out 5).trans rfl⟩ (fun hHeld=>?_)
     clear hK K
     refine dX (a':=?_) ?_ ?_
     rotate_left
     ·show Act.put _ (some 44) _ = _
      simp only [Act.put,List.setIfInBounds_toArray,List.set_cons_zero,List.set_cons_succ,bO,bR]
      rfl
     refine fU (i:=37) (N:=some 45) #[I,I,I,I,I,I,I,I,I,I,I,I,I,I,I,I,I,I,I,I,I,I,I,I,I,I,I,I,I,I,I,I,I,I,I,I,I,I,O] rfl rfl (cO HT_.out (by kernel_rfl)) (by decide) (fun K hK=>?_)
     refine eU Tryz.func104 (by kernel_rfl) rfl #[.slice Hl FB.length Ho] (by rfl) rfl rfl (by (try simp only [List.map_toArray,List.map_cons,List.map_nil]);first|done|rfl|(simp only [List.length_drop,List.length_take];rfl)) ?_
     with_reducible refine (aM.calls k _ _ FB Ci _ ?Dc ?Df II.out).mono ?_
     (case Dc=>repeat (first|exact (Kd.gY Ef.out).2.2|(with_reducible refine Kd.bH ?_ _)|(with_reducible refine Kd.bX ?_ _)|(with_reducible refine Kd.dA ?_)))
     (case Df=>exact (Kd.gY Ef.out).2.1)
     rintro e w' ⟨rfl,⟨nd,rfl⟩⟩
     refine ⟨_,rfl,?_⟩
     refine hK.out _ _ ⟨(ah BF.out 0).trans rfl,(ah BF.out 1).trans rfl,(ah BF.out 2).trans rfl,(ah BF.out 3).trans rfl,(ah BF.out 4).trans rfl,(ah BF.out 5).trans rfl⟩ (fun hHeld=>?_)
     clear hK K
     refine dX (a':=?_) ?_ ?_
     rotate_left
     ·show Act.put _ (some 45) _ = _
      simp only [Act.put,List.setIfInBounds_toArray,List.set_cons_zero,List.set_cons_succ,bO,bR]
      rfl
     refine pu_ 38 3 #[I,I,I,I,I,I,I,I,I,I,I,I,I,I,I,I,I,I,I,I,I,I,I,I,I,I,I,I,I,I,I,I,I,I,I,I,I,I,I] HT_.out ?_
     refine iZ (gD HT_.out (by kernel_rfl)) ?_
     try go_wp2
     go_meet
     case rel=>exact ⟨_,(Ci),(by first|rfl|(simp;done)|(simp [*];done)),H',⟨by first|omega|exact Nat.le_refl _⟩,⟨fun h0 => zB (A6.out) (A7.out) (by rw [← h0, ← Ed.out]; exact II.out)⟩,⟨by (with_reducible repeat (first|apply aj|apply ay|apply ak));exact BF.out⟩,⟨hb_⟩⟩
  ·exact absurd (Option.some.inj (A4.out.symm.trans HNm.out)) c5
 case rest =>
  clear Hg
  try clear p2
  try clear c3
  try clear c5
  try clear c34
  try clear IJ
  try clear Jc
  try clear IK
  try clear IL
  try clear c53
  try clear c53b0
  obtain ⟨kq,Di,rfl,HA,Hu,HLbx,BF,HB⟩:=hcut
  cases kq with
  | zero=>exact absurd HA.out (by simp [aC.j0])
  | succ IQ =>
   have H:=HA.out
   clear HA
   simp only [aC.j0] at H
   by_cases c75 : Di = 0
   ·rw [if_pos c75] at H
    have c75b0 : (Di == 0) = true:=beq_iff_eq.mpr c75
    have c75b1 : (Di != 0) = false:=bne_eq_false_iff_eq.mpr c75
    clear c75
    have H':=Aside0.mk H
    clear H
    have Ez : wc.cell? ⟨BO,0,none⟩ = some (.string BL):=(ah BF.out 0).trans rfl
    have EA : wc.cell? ⟨BO,1,none⟩ = some (.string BJ):=(ah BF.out 1).trans rfl
    have EB : wc.cell? ⟨BO,2,none⟩ = some (.int .i64 BH):=(ah BF.out 2).trans rfl
    have EC : wc.cell? ⟨BO,3,none⟩ = some (.int .i64 BK):=(ah BF.out 3).trans rfl
    have ED : wc.cell? ⟨BO,4,none⟩ = some (.bool BN):=(ah BF.out 4).trans rfl
    have EF : wc.cell? ⟨BO,5,none⟩ = some (.slice Dh Bz.length Cv):=(ah BF.out 5).trans rfl
    have EG:=av BF.out 0
    have EH:=av BF.out 1
    have EI:=av BF.out 2
    have EJ:=av BF.out 3
    have EK:=av BF.out 4
    have EL:=av BF.out 5
    have HLb := Aside0.mk (HLbx.out (beq_iff_eq.mp c75b0))
    have Fe := Aside0.mk (Nat.ne_of_lt (aW BF.out) : BO ≠ wc.heap.size)
    have GM := Aside0.mk HB.out.size
    have hmm := @run_makeMap Tryz.prog
    have hcy : (wc.alloc (Obj.map #[] 0)).cell? ⟨BO,5,none⟩ = some (.slice Dh Bz.length Cv) := (ah (ak BF.out (Obj.map #[] 0)) 5).trans rfl
    go_wp2
    clear hmm hcy
    obtain ⟨mb, hmb⟩ : ∃ m, wc.heap.size = m := ⟨_, rfl⟩
    have HMB := Aside0.mk hmb
    rw [hmb] at Fe GM ⊢
    clear hmb
    go_loopg [53] IQ (fun kq v53 w'=>∃ (Bw : Int),v53 = .int .i64 Bw ∧ Aside0 (aC.l0 kq Bz (Bz.length : Int) Bw = some r) ∧ Aside0 (kq ≤ IQ) ∧ Aside0 (0 ≤ Bw) ∧ Aside0 (Bw = 0 → w'.ownsMap Tryz.prog 9 (plainElem (H := Unit) Tryz.prog 3) mb 0 (.map [])) ∧ Aside0 (w'.heap[BO]? = some (.cells #[.string BL,.string BJ,.int .i64 BH,.int .i64 BK,.bool BN,(.slice Dh Bz.length Cv)] 77 (0,0))) ∧ Aside0 (Below w.heap.size w w'))
    case atStart=>exact ⟨(0),(by first|rfl|(simp;done)|(simp [*];done)),H',⟨Nat.le_refl _⟩,⟨Int.le_refl _⟩,⟨fun _ => HMB.out ▸ World.ownsMap_made _ _ _ _⟩,⟨by (with_reducible repeat (first|apply aj|apply ay|apply ak));exact BF.out⟩,⟨hb_⟩⟩
    case round =>
     clear H'
     try clear p2
     try clear c3
     try clear c5
     try clear c7
     try clear c34
     try clear IJ
     try clear Jc
     try clear IK
     try clear IL
     try clear c53
     try clear c53b0
     try clear c75
     try clear c75b0
     try clear c75b1
     try clear Ez
     try clear EA
     try clear EB
     try clear EC
     try clear ED
     try clear EF
     try clear EG
     try clear EH
     try clear EI
     try clear EJ
     try clear EK
     try clear EL
     try clear p2
     obtain ⟨Bw,rfl,HA,Hw,Jd,HMp,BF,HB⟩:=hrel
     cases gk with
     | zero=>exact absurd HA.out (by simp [aC.l0])
     | succ k2 =>
      have H:=HA.out
      clear HA
      simp only [aC.l0] at H
      by_cases FL : Bw < (Bz.length : Int)
      ·rw [if_pos FL] at H
       have c77b0 : decide (Bw < (Bz.length : Int)) = true:=decide_eq_true FL
       clear FL
       by_cases G8 : 0 ≤ Bw
       ·rw [if_pos G8] at H
        have c78b0 : decide (0 ≤ Bw) = true:=decide_eq_true G8
        clear G8
        by_cases G9 : Bw < (Bz.length : Int)
        ·rw [if_pos G9] at H
         have c79b0 : decide (Bw < (Bz.length : Int)) = true:=decide_eq_true G9
         clear G9
         have FD:=Aside0.mk H
         have HX0 := Aside0.mk (show Bw = 0 from by have h1 := of_decide_eq_true c79b0; have := I6.out; have := Jd.out; omega)
         have HMM := Aside0.mk (HMp.out HX0.out)
         have HKey : Aside0 (keyOf Tryz.prog 9 (.string ((au Bz Bw).f0)) = some (.string ((au Bz Bw).f0).data.toList)) := ⟨keyOf_string_mk Tryz.underlying9 (by have := HSz.out; rw [HX0.out]; unfold maxLen; omega)⟩
         clear HMp
         clear H
         have FE : 0 ≤ (Bw : Int):=of_decide_eq_true (by first|(with_reducible assumption)|assumption)
         have FH : Bw < (Bz.length : Int):=of_decide_eq_true (by first|(with_reducible assumption)|assumption)
         obtain ⟨CV,BP,BQ,BS,BU,Cc,Ce,e167,Dj,Dk,Dl,Dm,Dn,Dp,Dq,Dx,Dy,Dz,DF,DI,DJ⟩:=kF FM.out Bw FE FH
         cases e167
         replace Dj:=(HB.out.cell (World.block_lt_of_cell? w _ Dj)).trans Dj
         replace Dk:=(HB.out.cell (World.block_lt_of_cell? w _ Dk)).trans Dk
         replace Dl:=(HB.out.cell (World.block_lt_of_cell? w _ Dl)).trans Dl
         replace Dm:=(HB.out.cell (World.block_lt_of_cell? w _ Dm)).trans Dm
         replace Dn:=(HB.out.cell (World.block_lt_of_cell? w _ Dn)).trans Dn
         replace Dp:=(HB.out.cell (World.block_lt_of_cell? w _ Dp)).trans Dp
         replace Dq:=(HB.out.cell (World.block_lt_of_cell? w _ Dq)).trans Dq
         have DK:=Aside0.mk Dy
         have DL:=Aside0.mk Dx
         clear Dy Dx
         have DN:=Aside0.mk DF
         have DR:=Aside0.mk Dz
         clear DF Dz
         have DT:=Aside0.mk DJ
         have DU:=Aside0.mk DI
         clear DJ DI
         replace FE:=eq_true FE
         replace FH:=eq_true FH
         go_upto_region 8 with (first|((with_reducible refine bN (N:=6) rfl ?_);(try (refine eX (by rfl) ?_;dsimp only));refine bT ?hg (N:=6) ?hd (cs:=#[.string (⟨#[]⟩ : ByteArray),.string (⟨#[]⟩ : ByteArray),.slice none 0 0,.slice none 0 0,.int .i64 0,.int .i64 0,.slice none 0 0]) (t:=84) ?hr ?_;(case hd=>rfl);(case hg=>rfl);(case hr=>first|(go_simp;done)|(go_simp;rfl));intro BG hg DY hbox hb;have hMb := HMM.out.lt;have Fg:=Aside0.mk (by rw [hg];exact Nat.ne_of_lt hMb : mb ≠ BG);have MM:=Aside0.mk (pz HMM.out hb);clear hMb HMM;have CF:=Aside0.mk (aJ (g:=BO) (o:=.cells #[.string BL,.string BJ,.int .i64 BH,.int .i64 BK,.bool BN,.slice (some CV) Bz.length Cv] 77 (0,0)) (bk_ BF.out) hb);have CG:=Aside0.mk (aN hb_ hb);have CS:=Aside0.mk (hbox);have DX:=Aside0.mk ((by rw [hg];exact (aR hb_) : w.heap.size ≤ BG));have IU:=Aside0.mk ((by rw [hg];exact (aR hb_) : w.heap.size ≤ BG));have IV:=Aside0.mk ((by rw [hg];exact Nat.ne_of_lt (aW (g:=BO) (o:=.cells #[.string BL,.string BJ,.int .i64 BH,.int .i64 BK,.bool BN,.slice (some CV) Bz.length Cv] 77 (0,0)) (bk_ BF.out)) : BO ≠ BG));have IW:=Aside0.mk ((by rw [hg];exact Nat.ne_of_gt (aW (g:=BO) (o:=.cells #[.string BL,.string BJ,.int .i64 BH,.int .i64 BK,.bool BN,.slice (some CV) Bz.length Cv] 77 (0,0)) (bk_ BF.out)) : BG ≠ BO));clear BF;clear HB;have BF:=CF;have HB:=CG;have BD:=CS;have IX:=DX;have IY:=IU;have BR:=IV;have CU:=IW;clear CF CG CS DX IU IV IW;clear hb hbox hg;have FY:=CU.out;have FZ:=BR.out;have EM : DY.cell? ⟨BG,0,none⟩ = some (.string (⟨#[]⟩ : ByteArray)):=(ah BD.out 0).trans rfl;have EN : DY.cell? ⟨BG,1,none⟩ = some (.string (⟨#[]⟩ : ByteArray)):=(ah BD.out 1).trans rfl;have EO : DY.cell? ⟨BG,2,none⟩ = some (.slice none 0 0):=(ah BD.out 2).trans rfl;have EP : DY.cell? ⟨BG,3,none⟩ = some (.slice none 0 0):=(ah BD.out 3).trans rfl;have ER : DY.cell? ⟨BG,4,none⟩ = some (.int .i64 0):=(ah BD.out 4).trans rfl;have ES : DY.cell? ⟨BG,5,none⟩ = some (.int .i64 0):=(ah BD.out 5).trans rfl;have ET : DY.cell? ⟨BG,6,none⟩ = some (.slice none 0 0):=(ah BD.out 6).trans rfl;have EU:=av BD.out 0;have EW:=av BD.out 1;have EX:=av BD.out 2;have EY:=av BD.out 3;have EZ:=av BD.out 4;have E5:=av BD.out 5;have E8:=av BD.out 6))
         clear FY FZ EM EU EN EW EO EX EP EY ER EZ ES E5 ET E8
         have CF : Aside0 ((((((((DY.setCell ⟨BG,0,none⟩ (.string ((au Bz Bw).f0))).setCell ⟨BG,1,none⟩ (.string ((au Bz Bw).f1))).setCell ⟨BG,2,none⟩ (.slice BP ((au Bz Bw).f2).length BQ)).setCell ⟨BG,3,none⟩ (.slice BS ((au Bz Bw).f3).length BU)).setCell ⟨BG,4,none⟩ (.int .i64 ((au Bz Bw).f4))).setCell ⟨BG,5,none⟩ (.int .i64 ((au Bz Bw).f5))).setCell ⟨BG,6,none⟩ (.slice Cc ((au Bz Bw).f6).length Ce)).heap[BO]? = some (.cells #[.string BL,.string BJ,.int .i64 BH,.int .i64 BK,.bool BN,.slice (some CV) Bz.length Cv] 77 (0,0))):=⟨by (with_reducible repeat (first|apply aj|apply ay|apply ak));refine aD ?_ BR.out _;(with_reducible repeat (first|apply aj|apply ay|apply ak));refine aD ?_ BR.out _;(with_reducible repeat (first|apply aj|apply ay|apply ak));refine aD ?_ BR.out _;(with_reducible repeat (first|apply aj|apply ay|apply ak));refine aD ?_ BR.out _;(with_reducible repeat (first|apply aj|apply ay|apply ak));refine aD ?_ BR.out _;(with_reducible repeat (first|apply aj|apply ay|apply ak));refine aD ?_ BR.out _;(with_reducible repeat (first|apply aj|apply ay|apply ak));refine aD ?_ BR.out _;(with_reducible repeat (first|apply aj|apply ay|apply ak));exact BF.out⟩
         have CG : Aside0 ((((((((DY.setCell ⟨BG,0,none⟩ (.string ((au Bz Bw).f0))).setCell ⟨BG,1,none⟩ (.string ((au Bz Bw).f1))).setCell ⟨BG,2,none⟩ (.slice BP ((au Bz Bw).f2).length BQ)).setCell ⟨BG,3,none⟩ (.slice BS ((au Bz Bw).f3).length BU)).setCell ⟨BG,4,none⟩ (.int .i64 ((au Bz Bw).f4))).setCell ⟨BG,5,none⟩ (.int .i64 ((au Bz Bw).f5))).setCell ⟨BG,6,none⟩ (.slice Cc ((au Bz Bw).f6).length Ce)).heap[BG]? = some (.cells #[.string ((au Bz Bw).f0),.string ((au Bz Bw).f1),.slice BP ((au Bz Bw).f2).length BQ,.slice BS ((au Bz Bw).f3).length BU,.int .i64 ((au Bz Bw).f4),.int .i64 ((au Bz Bw).f5),.slice Cc ((au Bz Bw).f6).length Ce] 84 (0,0))):=⟨by (with_reducible repeat (first|apply aj|apply ay|apply ak));refine aQ (cs:=#[.string ((au Bz Bw).f0),.string ((au Bz Bw).f1),.slice BP ((au Bz Bw).f2).length BQ,.slice BS ((au Bz Bw).f3).length BU,.int .i64 ((au Bz Bw).f4),.int .i64 ((au Bz Bw).f5),.slice none 0 0]) ?_ 6 _ rfl;(with_reducible repeat (first|apply aj|apply ay|apply ak));refine aQ (cs:=#[.string ((au Bz Bw).f0),.string ((au Bz Bw).f1),.slice BP ((au Bz Bw).f2).length BQ,.slice BS ((au Bz Bw).f3).length BU,.int .i64 ((au Bz Bw).f4),.int .i64 0,.slice none 0 0]) ?_ 5 _ rfl;(with_reducible repeat (first|apply aj|apply ay|apply ak));refine aQ (cs:=#[.string ((au Bz Bw).f0),.string ((au Bz Bw).f1),.slice BP ((au Bz Bw).f2).length BQ,.slice BS ((au Bz Bw).f3).length BU,.int .i64 0,.int .i64 0,.slice none 0 0]) ?_ 4 _ rfl;(with_reducible repeat (first|apply aj|apply ay|apply ak));refine aQ (cs:=#[.string ((au Bz Bw).f0),.string ((au Bz Bw).f1),.slice BP ((au Bz Bw).f2).length BQ,.slice none 0 0,.int .i64 0,.int .i64 0,.slice none 0 0]) ?_ 3 _ rfl;(with_reducible repeat (first|apply aj|apply ay|apply ak));refine aQ (cs:=#[.string ((au Bz Bw).f0),.string ((au Bz Bw).f1),.slice none 0 0,.slice none 0 0,.int .i64 0,.int .i64 0,.slice none 0 0]) ?_ 2 _ rfl;(with_reducible repeat (first|apply aj|apply ay|apply ak));refine aQ (cs:=#[.string ((au Bz Bw).f0),.string (⟨#[]⟩ : ByteArray),.slice none 0 0,.slice none 0 0,.int .i64 0,.int .i64 0,.slice none 0 0]) ?_ 1 _ rfl;(with_reducible repeat (first|apply aj|apply ay|apply ak));refine aQ (cs:=#[.string (⟨#[]⟩ : ByteArray),.string (⟨#[]⟩ : ByteArray),.slice none 0 0,.slice none 0 0,.int .i64 0,.int .i64 0,.slice none 0 0]) ?_ 0 _ rfl;(with_reducible repeat (first|apply aj|apply ay|apply ak));exact BD.out⟩
         have CS : Aside0 (Below w.heap.size w (((((((DY.setCell ⟨BG,0,none⟩ (.string ((au Bz Bw).f0))).setCell ⟨BG,1,none⟩ (.string ((au Bz Bw).f1))).setCell ⟨BG,2,none⟩ (.slice BP ((au Bz Bw).f2).length BQ)).setCell ⟨BG,3,none⟩ (.slice BS ((au Bz Bw).f3).length BU)).setCell ⟨BG,4,none⟩ (.int .i64 ((au Bz Bw).f4))).setCell ⟨BG,5,none⟩ (.int .i64 ((au Bz Bw).f5))).setCell ⟨BG,6,none⟩ (.slice Cc ((au Bz Bw).f6).length Ce))):=⟨hb_⟩
         (try clear BF)
         (try clear BD)
         (try clear HB)
         have DX : Aside0 (World.ownsMap (((((((DY.setCell ⟨BG,0,none⟩ (.string ((au Bz Bw).f0))).setCell ⟨BG,1,none⟩ (.string ((au Bz Bw).f1))).setCell ⟨BG,2,none⟩ (.slice BP ((au Bz Bw).f2).length BQ)).setCell ⟨BG,3,none⟩ (.slice BS ((au Bz Bw).f3).length BU)).setCell ⟨BG,4,none⟩ (.int .i64 ((au Bz Bw).f4))).setCell ⟨BG,5,none⟩ (.int .i64 ((au Bz Bw).f5))).setCell ⟨BG,6,none⟩ (.slice Cc ((au Bz Bw).f6).length Ce)) Tryz.prog 9 (plainElem (H := Unit) Tryz.prog 3) mb 0 (.map [])):=⟨by (iterate 7 (refine qZ ?_ Fg.out _ _)); exact MM.out⟩
         generalize (((((((DY.setCell ⟨BG,0,none⟩ (.string ((au Bz Bw).f0))).setCell ⟨BG,1,none⟩ (.string ((au Bz Bw).f1))).setCell ⟨BG,2,none⟩ (.slice BP ((au Bz Bw).f2).length BQ)).setCell ⟨BG,3,none⟩ (.slice BS ((au Bz Bw).f3).length BU)).setCell ⟨BG,4,none⟩ (.int .i64 ((au Bz Bw).f4))).setCell ⟨BG,5,none⟩ (.int .i64 ((au Bz Bw).f5))).setCell ⟨BG,6,none⟩ (.slice Cc ((au Bz Bw).f6).length Ce)) = Hy at CF CG CS DX ⊢
         have BF:=CF
         have BD:=CG
         have HB:=CS
         clear MM
         have MM:=DX
         clear CF CG CS DX
         have z0 : Hy.cell? ⟨BG,0,none⟩ = some (.string ((au Bz Bw).f0)):=(ah BD.out 0).trans rfl
         go_upto_region 9 with (first|(at_lookup; refine wpList_lookup_own_int _ rfl _ _ 178 rfl 9 3 .i64 sj Tryz.underlying178 Tryz.underlying3 (yG _) mb 0 _ rfl MM.out _ _ rfl HKey.out ?_; intro c hat hwc; have hc : c = 0 := tL hat.symm; subst hc; clear hat hwc)|(at_mapUpdate; refine wpList_mapUpdate_own _ rfl _ _ _ 178 rfl 9 3 sj Tryz.underlying178 _ mb 0 _ rfl MM.out (by unfold maxLen; omega) _ (.int .i64 1) _ rfl (by first | rfl | exact congrArg (Value.int .i64) (by decide)) HKey.out _ [] (plainElem_int Tryz.underlying3 (by decide)) ?_; intro w3 hown3 hg3; have CF:=Aside0.mk (moved hg3 BF.out Fe.out); have CG:=Aside0.mk (moved hg3 BD.out (Ne.symm Fg.out)); have CS:=Aside0.mk (Below.grown HB.out hg3 (aR HB.out) (fun j hj => by cases hj; exact GM.out)); have ho_:=xO hown3 HKey.out (atKey_put_same isMap_empty (by simp [WideAt.IsKeyLit]) _ _); clear BF BD HB hown3 hg3 MM z0; have BF:=CF; have BD:=CG; have HB:=CS; clear CF CG CS))
         obtain ⟨om,hom,hlk⟩:=ho_
         have BM:=Aside0.mk hom
         have HLK:=Aside0.mk hlk
         clear hom hlk
         (try simp only [Act.put,List.setIfInBounds_toArray,List.set_cons_zero,List.set_cons_succ])
         go_cut [7] (fun v7 wc=>∃ (kq : Nat) (CW : Int),v7 = .int .i64 CW ∧ Aside0 (aC.j2 kq CW Bz (Bz.length : Int) Bw ((au Bz Bw).f0) ((au Bz Bw).f1) ((au Bz Bw).f2) ((au Bz Bw).f3) ((au Bz Bw).f4) ((au Bz Bw).f5) ((au Bz Bw).f6) = some r) ∧ Aside0 (kq ≤ k2) ∧ Aside0 (wc.heap[BO]? = some (.cells #[.string BL,.string BJ,.int .i64 BH,.int .i64 BK,.bool BN,(.slice (some CV) Bz.length Cv)] 77 (0,0))) ∧ Aside0 (wc.heap[BG]? = some (.cells #[.string ((au Bz Bw).f0),.string ((au Bz Bw).f1),(.slice BP ((au Bz Bw).f2).length BQ),(.slice BS ((au Bz Bw).f3).length BU),.int .i64 ((au Bz Bw).f4),.int .i64 ((au Bz Bw).f5),(.slice Cc ((au Bz Bw).f6).length Ce)] 84 (0,0))) ∧ Aside0 (Below w.heap.size w wc))
         case first =>
          have H:=FD.out
          clear FD
          replace H:=Option.bind_eq_some_iff.mp H
          obtain ⟨DV,F3,H⟩:=H
          replace H : ((aH.f (!DV) 13).bind fun BI=>((aH.f (decide (1 > 1)) 8).bind fun t171=>((bC.f k2 ((au Bz Bw).f1)).bind fun CX=>((aH.f (!CX) 6).bind fun t173=>((bK.f (((au Bz Bw).f2).length : Int)).bind fun CJ=>(if CJ = true then ((aH.f true 18).bind fun t175=>((bD.f ((au Bz Bw).f4) 64000).bind fun CK=>(if CK = true then ((bD.f ((au Bz Bw).f5) 1048576).bind fun CO=>((aH.f (!CO) 7).bind fun CP=>((aM.f k2 (([BI,t171,t173,t175,CP] : List Int))).bind fun t182=>(aC.j2 k2 t182 Bz (Bz.length : Int) Bw ((au Bz Bw).f0) ((au Bz Bw).f1) ((au Bz Bw).f2) ((au Bz Bw).f3) ((au Bz Bw).f4) ((au Bz Bw).f5) ((au Bz Bw).f6))))) else ((aH.f true 7).bind fun t183=>((aM.f k2 (([BI,t171,t173,t175,t183] : List Int))).bind fun CQ=>(aC.j2 k2 CQ Bz (Bz.length : Int) Bw ((au Bz Bw).f0) ((au Bz Bw).f1) ((au Bz Bw).f2) ((au Bz Bw).f3) ((au Bz Bw).f4) ((au Bz Bw).f5) ((au Bz Bw).f6))))))) else ((bK.f (((au Bz Bw).f3).length : Int)).bind fun Cu=>(if Cu = true then ((aH.f true 18).bind fun Cj=>((bD.f ((au Bz Bw).f4) 64000).bind fun Cw=>(if Cw = true then ((bD.f ((au Bz Bw).f5) 1048576).bind fun Cx=>((aH.f (!Cx) 7).bind fun Cy=>((aM.f k2 (([BI,t171,t173,Cj,Cy] : List Int))).bind fun t196=>(aC.j2 k2 t196 Bz (Bz.length : Int) Bw ((au Bz Bw).f0) ((au Bz Bw).f1) ((au Bz Bw).f2) ((au Bz Bw).f3) ((au Bz Bw).f4) ((au Bz Bw).f5) ((au Bz Bw).f6))))) else ((aH.f true 7).bind fun Cz=>((aM.f k2 (([BI,t171,t173,Cj,Cz] : List Int))).bind fun t201=>(aC.j2 k2 t201 Bz (Bz.length : Int) Bw ((au Bz Bw).f0) ((au Bz Bw).f1) ((au Bz Bw).f2) ((au Bz Bw).f3) ((au Bz Bw).f4) ((au Bz Bw).f5) ((au Bz Bw).f6))))))) else ((bK.f (((au Bz Bw).f6).length : Int)).bind fun Cq=>((aH.f Cq 18).bind fun t203=>((bD.f ((au Bz Bw).f4) 64000).bind fun Ck=>(if Ck = true then ((bD.f ((au Bz Bw).f5) 1048576).bind fun Ca=>((aH.f (!Ca) 7).bind fun t206=>((aM.f k2 (([BI,t171,t173,t203,t206] : List Int))).bind fun t210=>(aC.j2 k2 t210 Bz (Bz.length : Int) Bw ((au Bz Bw).f0) ((au Bz Bw).f1) ((au Bz Bw).f2) ((au Bz Bw).f3) ((au Bz Bw).f4) ((au Bz Bw).f5) ((au Bz Bw).f6))))) else ((aH.f true 7).bind fun Cm=>((aM.f k2 (([BI,t171,t173,t203,Cm] : List Int))).bind fun Cn=>(aC.j2 k2 Cn Bz (Bz.length : Int) Bw ((au Bz Bw).f0) ((au Bz Bw).f1) ((au Bz Bw).f2) ((au Bz Bw).f3) ((au Bz Bw).f4) ((au Bz Bw).f5) ((au Bz Bw).f6)))))))))))))))) = some r:=H
          have Je:=Aside0.mk F3
          clear F3
          replace H:=Option.bind_eq_some_iff.mp H
          obtain ⟨BI,F4,H⟩:=H
          replace H : ((aH.f (decide (1 > 1)) 8).bind fun t171=>((bC.f k2 ((au Bz Bw).f1)).bind fun CX=>((aH.f (!CX) 6).bind fun t173=>((bK.f (((au Bz Bw).f2).length : Int)).bind fun CJ=>(if CJ = true then ((aH.f true 18).bind fun t175=>((bD.f ((au Bz Bw).f4) 64000).bind fun CK=>(if CK = true then ((bD.f ((au Bz Bw).f5) 1048576).bind fun CO=>((aH.f (!CO) 7).bind fun CP=>((aM.f k2 (([BI,t171,t173,t175,CP] : List Int))).bind fun t182=>(aC.j2 k2 t182 Bz (Bz.length : Int) Bw ((au Bz Bw).f0) ((au Bz Bw).f1) ((au Bz Bw).f2) ((au Bz Bw).f3) ((au Bz Bw).f4) ((au Bz Bw).f5) ((au Bz Bw).f6))))) else ((aH.f true 7).bind fun t183=>((aM.f k2 (([BI,t171,t173,t175,t183] : List Int))).bind fun CQ=>(aC.j2 k2 CQ Bz (Bz.length : Int) Bw ((au Bz Bw).f0) ((au Bz Bw).f1) ((au Bz Bw).f2) ((au Bz Bw).f3) ((au Bz Bw).f4) ((au Bz Bw).f5) ((au Bz Bw).f6))))))) else ((bK.f (((au Bz Bw).f3).length : Int)).bind fun Cu=>(if Cu = true then ((aH.f true 18).bind fun Cj=>((bD.f ((au Bz Bw).f4) 64000).bind fun Cw=>(if Cw = true then ((bD.f ((au Bz Bw).f5) 1048576).bind fun Cx=>((aH.f (!Cx) 7).bind fun Cy=>((aM.f k2 (([BI,t171,t173,Cj,Cy] : List Int))).bind fun t196=>(aC.j2 k2 t196 Bz (Bz.length : Int) Bw ((au Bz Bw).f0) ((au Bz Bw).f1) ((au Bz Bw).f2) ((au Bz Bw).f3) ((au Bz Bw).f4) ((au Bz Bw).f5) ((au Bz Bw).f6))))) else ((aH.f true 7).bind fun Cz=>((aM.f k2 (([BI,t171,t173,Cj,Cz] : List Int))).bind fun t201=>(aC.j2 k2 t201 Bz (Bz.length : Int) Bw ((au Bz Bw).f0) ((au Bz Bw).f1) ((au Bz Bw).f2) ((au Bz Bw).f3) ((au Bz Bw).f4) ((au Bz Bw).f5) ((au Bz Bw).f6))))))) else ((bK.f (((au Bz Bw).f6).length : Int)).bind fun Cq=>((aH.f Cq 18).bind fun t203=>((bD.f ((au Bz Bw).f4) 64000).bind fun Ck=>(if Ck = true then ((bD.f ((au Bz Bw).f5) 1048576).bind fun Ca=>((aH.f (!Ca) 7).bind fun t206=>((aM.f k2 (([BI,t171,t173,t203,t206] : List Int))).bind fun t210=>(aC.j2 k2 t210 Bz (Bz.length : Int) Bw ((au Bz Bw).f0) ((au Bz Bw).f1) ((au Bz Bw).f2) ((au Bz Bw).f3) ((au Bz Bw).f4) ((au Bz Bw).f5) ((au Bz Bw).f6))))) else ((aH.f true 7).bind fun Cm=>((aM.f k2 (([BI,t171,t173,t203,Cm] : List Int))).bind fun Cn=>(aC.j2 k2 Cn Bz (Bz.length : Int) Bw ((au Bz Bw).f0) ((au Bz Bw).f1) ((au Bz Bw).f2) ((au Bz Bw).f3) ((au Bz Bw).f4) ((au Bz Bw).f5) ((au Bz Bw).f6))))))))))))))) = some r:=H
          have Jf:=Aside0.mk F4
          clear F4
          replace H:=Option.bind_eq_some_iff.mp H
          obtain ⟨t171,F5,H⟩:=H
          replace H : ((bC.f k2 ((au Bz Bw).f1)).bind fun CX=>((aH.f (!CX) 6).bind fun t173=>((bK.f (((au Bz Bw).f2).length : Int)).bind fun CJ=>(if CJ = true then ((aH.f true 18).bind fun t175=>((bD.f ((au Bz Bw).f4) 64000).bind fun CK=>(if CK = true then ((bD.f ((au Bz Bw).f5) 1048576).bind fun CO=>((aH.f (!CO) 7).bind fun CP=>((aM.f k2 (([BI,t171,t173,t175,CP] : List Int))).bind fun t182=>(aC.j2 k2 t182 Bz (Bz.length : Int) Bw ((au Bz Bw).f0) ((au Bz Bw).f1) ((au Bz Bw).f2) ((au Bz Bw).f3) ((au Bz Bw).f4) ((au Bz Bw).f5) ((au Bz Bw).f6))))) else ((aH.f true 7).bind fun t183=>((aM.f k2 (([BI,t171,t173,t175,t183] : List Int))).bind fun CQ=>(aC.j2 k2 CQ Bz (Bz.length : Int) Bw ((au Bz Bw).f0) ((au Bz Bw).f1) ((au Bz Bw).f2) ((au Bz Bw).f3) ((au Bz Bw).f4) ((au Bz Bw).f5) ((au Bz Bw).f6))))))) else ((bK.f (((au Bz Bw).f3).length : Int)).bind fun Cu=>(if Cu = true then ((aH.f true 18).bind fun Cj=>((bD.f ((au Bz Bw).f4) 64000).bind fun Cw=>(if Cw = true then ((bD.f ((au Bz Bw).f5) 1048576).bind fun Cx=>((aH.f (!Cx) 7).bind fun Cy=>((aM.f k2 (([BI,t171,t173,Cj,Cy] : List Int))).bind fun t196=>(aC.j2 k2 t196 Bz (Bz.length : Int) Bw ((au Bz Bw).f0) ((au Bz Bw).f1) ((au Bz Bw).f2) ((au Bz Bw).f3) ((au Bz Bw).f4) ((au Bz Bw).f5) ((au Bz Bw).f6))))) else ((aH.f true 7).bind fun Cz=>((aM.f k2 (([BI,t171,t173,Cj,Cz] : List Int))).bind fun t201=>(aC.j2 k2 t201 Bz (Bz.length : Int) Bw ((au Bz Bw).f0) ((au Bz Bw).f1) ((au Bz Bw).f2) ((au Bz Bw).f3) ((au Bz Bw).f4) ((au Bz Bw).f5) ((au Bz Bw).f6))))))) else ((bK.f (((au Bz Bw).f6).length : Int)).bind fun Cq=>((aH.f Cq 18).bind fun t203=>((bD.f ((au Bz Bw).f4) 64000).bind fun Ck=>(if Ck = true then ((bD.f ((au Bz Bw).f5) 1048576).bind fun Ca=>((aH.f (!Ca) 7).bind fun t206=>((aM.f k2 (([BI,t171,t173,t203,t206] : List Int))).bind fun t210=>(aC.j2 k2 t210 Bz (Bz.length : Int) Bw ((au Bz Bw).f0) ((au Bz Bw).f1) ((au Bz Bw).f2) ((au Bz Bw).f3) ((au Bz Bw).f4) ((au Bz Bw).f5) ((au Bz Bw).f6))))) else ((aH.f true 7).bind fun Cm=>((aM.f k2 (([BI,t171,t173,t203,Cm] : List Int))).bind fun Cn=>(aC.j2 k2 Cn Bz (Bz.length : Int) Bw ((au Bz Bw).f0) ((au Bz Bw).f1) ((au Bz Bw).f2) ((au Bz Bw).f3) ((au Bz Bw).f4) ((au Bz Bw).f5) ((au Bz Bw).f6)))))))))))))) = some r:=H
          have Jg:=Aside0.mk F5
          clear F5
          replace H:=Option.bind_eq_some_iff.mp H
          obtain ⟨CX,F6,H⟩:=H
          replace H : ((aH.f (!CX) 6).bind fun t173=>((bK.f (((au Bz Bw).f2).length : Int)).bind fun CJ=>(if CJ = true then ((aH.f true 18).bind fun t175=>((bD.f ((au Bz Bw).f4) 64000).bind fun CK=>(if CK = true then ((bD.f ((au Bz Bw).f5) 1048576).bind fun CO=>((aH.f (!CO) 7).bind fun CP=>((aM.f k2 (([BI,t171,t173,t175,CP] : List Int))).bind fun t182=>(aC.j2 k2 t182 Bz (Bz.length : Int) Bw ((au Bz Bw).f0) ((au Bz Bw).f1) ((au Bz Bw).f2) ((au Bz Bw).f3) ((au Bz Bw).f4) ((au Bz Bw).f5) ((au Bz Bw).f6))))) else ((aH.f true 7).bind fun t183=>((aM.f k2 (([BI,t171,t173,t175,t183] : List Int))).bind fun CQ=>(aC.j2 k2 CQ Bz (Bz.length : Int) Bw ((au Bz Bw).f0) ((au Bz Bw).f1) ((au Bz Bw).f2) ((au Bz Bw).f3) ((au Bz Bw).f4) ((au Bz Bw).f5) ((au Bz Bw).f6))))))) else ((bK.f (((au Bz Bw).f3).length : Int)).bind fun Cu=>(if Cu = true then ((aH.f true 18).bind fun Cj=>((bD.f ((au Bz Bw).f4) 64000).bind fun Cw=>(if Cw = true then ((bD.f ((au Bz Bw).f5) 1048576).bind fun Cx=>((aH.f (!Cx) 7).bind fun Cy=>((aM.f k2 (([BI,t171,t173,Cj,Cy] : List Int))).bind fun t196=>(aC.j2 k2 t196 Bz (Bz.length : Int) Bw ((au Bz Bw).f0) ((au Bz Bw).f1) ((au Bz Bw).f2) ((au Bz Bw).f3) ((au Bz Bw).f4) ((au Bz Bw).f5) ((au Bz Bw).f6))))) else ((aH.f true 7).bind fun Cz=>((aM.f k2 (([BI,t171,t173,Cj,Cz] : List Int))).bind fun t201=>(aC.j2 k2 t201 Bz (Bz.length : Int) Bw ((au Bz Bw).f0) ((au Bz Bw).f1) ((au Bz Bw).f2) ((au Bz Bw).f3) ((au Bz Bw).f4) ((au Bz Bw).f5) ((au Bz Bw).f6))))))) else ((bK.f (((au Bz Bw).f6).length : Int)).bind fun Cq=>((aH.f Cq 18).bind fun t203=>((bD.f ((au Bz Bw).f4) 64000).bind fun Ck=>(if Ck = true then ((bD.f ((au Bz Bw).f5) 1048576).bind fun Ca=>((aH.f (!Ca) 7).bind fun t206=>((aM.f k2 (([BI,t171,t173,t203,t206] : List Int))).bind fun t210=>(aC.j2 k2 t210 Bz (Bz.length : Int) Bw ((au Bz Bw).f0) ((au Bz Bw).f1) ((au Bz Bw).f2) ((au Bz Bw).f3) ((au Bz Bw).f4) ((au Bz Bw).f5) ((au Bz Bw).f6))))) else ((aH.f true 7).bind fun Cm=>((aM.f k2 (([BI,t171,t173,t203,Cm] : List Int))).bind fun Cn=>(aC.j2 k2 Cn Bz (Bz.length : Int) Bw ((au Bz Bw).f0) ((au Bz Bw).f1) ((au Bz Bw).f2) ((au Bz Bw).f3) ((au Bz Bw).f4) ((au Bz Bw).f5) ((au Bz Bw).f6))))))))))))) = some r:=H
          have Jh:=Aside0.mk F6
          clear F6
          replace H:=Option.bind_eq_some_iff.mp H
          obtain ⟨t173,F7,H⟩:=H
          replace H : ((bK.f (((au Bz Bw).f2).length : Int)).bind fun CJ=>(if CJ = true then ((aH.f true 18).bind fun t175=>((bD.f ((au Bz Bw).f4) 64000).bind fun CK=>(if CK = true then ((bD.f ((au Bz Bw).f5) 1048576).bind fun CO=>((aH.f (!CO) 7).bind fun CP=>((aM.f k2 (([BI,t171,t173,t175,CP] : List Int))).bind fun t182=>(aC.j2 k2 t182 Bz (Bz.length : Int) Bw ((au Bz Bw).f0) ((au Bz Bw).f1) ((au Bz Bw).f2) ((au Bz Bw).f3) ((au Bz Bw).f4) ((au Bz Bw).f5) ((au Bz Bw).f6))))) else ((aH.f true 7).bind fun t183=>((aM.f k2 (([BI,t171,t173,t175,t183] : List Int))).bind fun CQ=>(aC.j2 k2 CQ Bz (Bz.length : Int) Bw ((au Bz Bw).f0) ((au Bz Bw).f1) ((au Bz Bw).f2) ((au Bz Bw).f3) ((au Bz Bw).f4) ((au Bz Bw).f5) ((au Bz Bw).f6))))))) else ((bK.f (((au Bz Bw).f3).length : Int)).bind fun Cu=>(if Cu = true then ((aH.f true 18).bind fun Cj=>((bD.f ((au Bz Bw).f4) 64000).bind fun Cw=>(if Cw = true then ((bD.f ((au Bz Bw).f5) 1048576).bind fun Cx=>((aH.f (!Cx) 7).bind fun Cy=>((aM.f k2 (([BI,t171,t173,Cj,Cy] : List Int))).bind fun t196=>(aC.j2 k2 t196 Bz (Bz.length : Int) Bw ((au Bz Bw).f0) ((au Bz Bw).f1) ((au Bz Bw).f2) ((au Bz Bw).f3) ((au Bz Bw).f4) ((au Bz Bw).f5) ((au Bz Bw).f6))))) else ((aH.f true 7).bind fun Cz=>((aM.f k2 (([BI,t171,t173,Cj,Cz] : List Int))).bind fun t201=>(aC.j2 k2 t201 Bz (Bz.length : Int) Bw ((au Bz Bw).f0) ((au Bz Bw).f1) ((au Bz Bw).f2) ((au Bz Bw).f3) ((au Bz Bw).f4) ((au Bz Bw).f5) ((au Bz Bw).f6))))))) else ((bK.f (((au Bz Bw).f6).length : Int)).bind fun Cq=>((aH.f Cq 18).bind fun t203=>((bD.f ((au Bz Bw).f4) 64000).bind fun Ck=>(if Ck = true then ((bD.f ((au Bz Bw).f5) 1048576).bind fun Ca=>((aH.f (!Ca) 7).bind fun t206=>((aM.f k2 (([BI,t171,t173,t203,t206] : List Int))).bind fun t210=>(aC.j2 k2 t210 Bz (Bz.length : Int) Bw ((au Bz Bw).f0) ((au Bz Bw).f1) ((au Bz Bw).f2) ((au Bz Bw).f3) ((au Bz Bw).f4) ((au Bz Bw).f5) ((au Bz Bw).f6))))) else ((aH.f true 7).bind fun Cm=>((aM.f k2 (([BI,t171,t173,t203,Cm] : List Int))).bind fun Cn=>(aC.j2 k2 Cn Bz (Bz.length : Int) Bw ((au Bz Bw).f0) ((au Bz Bw).f1) ((au Bz Bw).f2) ((au Bz Bw).f3) ((au Bz Bw).f4) ((au Bz Bw).f5) ((au Bz Bw).f6)))))))))))) = some r:=H
          have Ji:=Aside0.mk F7
          clear F7
          replace H:=Option.bind_eq_some_iff.mp H
          obtain ⟨CJ,F8,H⟩:=H
          replace H : (if CJ = true then ((aH.f true 18).bind fun t175=>((bD.f ((au Bz Bw).f4) 64000).bind fun CK=>(if CK = true then ((bD.f ((au Bz Bw).f5) 1048576).bind fun CO=>((aH.f (!CO) 7).bind fun CP=>((aM.f k2 (([BI,t171,t173,t175,CP] : List Int))).bind fun t182=>(aC.j2 k2 t182 Bz (Bz.length : Int) Bw ((au Bz Bw).f0) ((au Bz Bw).f1) ((au Bz Bw).f2) ((au Bz Bw).f3) ((au Bz Bw).f4) ((au Bz Bw).f5) ((au Bz Bw).f6))))) else ((aH.f true 7).bind fun t183=>((aM.f k2 (([BI,t171,t173,t175,t183] : List Int))).bind fun CQ=>(aC.j2 k2 CQ Bz (Bz.length : Int) Bw ((au Bz Bw).f0) ((au Bz Bw).f1) ((au Bz Bw).f2) ((au Bz Bw).f3) ((au Bz Bw).f4) ((au Bz Bw).f5) ((au Bz Bw).f6))))))) else ((bK.f (((au Bz Bw).f3).length : Int)).bind fun Cu=>(if Cu = true then ((aH.f true 18).bind fun Cj=>((bD.f ((au Bz Bw).f4) 64000).bind fun Cw=>(if Cw = true then ((bD.f ((au Bz Bw).f5) 1048576).bind fun Cx=>((aH.f (!Cx) 7).bind fun Cy=>((aM.f k2 (([BI,t171,t173,Cj,Cy] : List Int))).bind fun t196=>(aC.j2 k2 t196 Bz (Bz.length : Int) Bw ((au Bz Bw).f0) ((au Bz Bw).f1) ((au Bz Bw).f2) ((au Bz Bw).f3) ((au Bz Bw).f4) ((au Bz Bw).f5) ((au Bz Bw).f6))))) else ((aH.f true 7).bind fun Cz=>((aM.f k2 (([BI,t171,t173,Cj,Cz] : List Int))).bind fun t201=>(aC.j2 k2 t201 Bz (Bz.length : Int) Bw ((au Bz Bw).f0) ((au Bz Bw).f1) ((au Bz Bw).f2) ((au Bz Bw).f3) ((au Bz Bw).f4) ((au Bz Bw).f5) ((au Bz Bw).f6))))))) else ((bK.f (((au Bz Bw).f6).length : Int)).bind fun Cq=>((aH.f Cq 18).bind fun t203=>((bD.f ((au Bz Bw).f4) 64000).bind fun Ck=>(if Ck = true then ((bD.f ((au Bz Bw).f5) 1048576).bind fun Ca=>((aH.f (!Ca) 7).bind fun t206=>((aM.f k2 (([BI,t171,t173,t203,t206] : List Int))).bind fun t210=>(aC.j2 k2 t210 Bz (Bz.length : Int) Bw ((au Bz Bw).f0) ((au Bz Bw).f1) ((au Bz Bw).f2) ((au Bz Bw).f3) ((au Bz Bw).f4) ((au Bz Bw).f5) ((au Bz Bw).f6))))) else ((aH.f true 7).bind fun Cm=>((aM.f k2 (([BI,t171,t173,t203,Cm] : List Int))).bind fun Cn=>(aC.j2 k2 Cn Bz (Bz.length : Int) Bw ((au Bz Bw).f0) ((au Bz Bw).f1) ((au Bz Bw).f2) ((au Bz Bw).f3) ((au Bz Bw).f4) ((au Bz Bw).f5) ((au Bz Bw).f6))))))))))) = some r:=H
          have IZ:=Aside0.mk F8
          clear F8
          by_cases He : CJ = true
          ·exact absurd (Option.some.inj (IZ.out.symm.trans (show bK.f _ = some false by rw [(HE.out Bw).1]; rfl))) (by rw [He]; decide)
          ·replace He:=Bool.eq_false_iff.mpr He
           subst He
           have H1 : ((bK.f (((au Bz Bw).f3).length : Int)).bind fun Cu=>(if Cu = true then ((aH.f true 18).bind fun Cj=>((bD.f ((au Bz Bw).f4) 64000).bind fun Cw=>(if Cw = true then ((bD.f ((au Bz Bw).f5) 1048576).bind fun Cx=>((aH.f (!Cx) 7).bind fun Cy=>((aM.f k2 (([BI,t171,t173,Cj,Cy] : List Int))).bind fun t196=>(aC.j2 k2 t196 Bz (Bz.length : Int) Bw ((au Bz Bw).f0) ((au Bz Bw).f1) ((au Bz Bw).f2) ((au Bz Bw).f3) ((au Bz Bw).f4) ((au Bz Bw).f5) ((au Bz Bw).f6))))) else ((aH.f true 7).bind fun Cz=>((aM.f k2 (([BI,t171,t173,Cj,Cz] : List Int))).bind fun t201=>(aC.j2 k2 t201 Bz (Bz.length : Int) Bw ((au Bz Bw).f0) ((au Bz Bw).f1) ((au Bz Bw).f2) ((au Bz Bw).f3) ((au Bz Bw).f4) ((au Bz Bw).f5) ((au Bz Bw).f6))))))) else ((bK.f (((au Bz Bw).f6).length : Int)).bind fun Cq=>((aH.f Cq 18).bind fun t203=>((bD.f ((au Bz Bw).f4) 64000).bind fun Ck=>(if Ck = true then ((bD.f ((au Bz Bw).f5) 1048576).bind fun Ca=>((aH.f (!Ca) 7).bind fun t206=>((aM.f k2 (([BI,t171,t173,t203,t206] : List Int))).bind fun t210=>(aC.j2 k2 t210 Bz (Bz.length : Int) Bw ((au Bz Bw).f0) ((au Bz Bw).f1) ((au Bz Bw).f2) ((au Bz Bw).f3) ((au Bz Bw).f4) ((au Bz Bw).f5) ((au Bz Bw).f6))))) else ((aH.f true 7).bind fun Cm=>((aM.f k2 (([BI,t171,t173,t203,Cm] : List Int))).bind fun Cn=>(aC.j2 k2 Cn Bz (Bz.length : Int) Bw ((au Bz Bw).f0) ((au Bz Bw).f1) ((au Bz Bw).f2) ((au Bz Bw).f3) ((au Bz Bw).f4) ((au Bz Bw).f5) ((au Bz Bw).f6)))))))))) = some r:=by rw [if_neg (show ¬ (false = true) by decide)] at H;exact H
           clear H
           have H:=H1
           clear H1
           replace H:=Option.bind_eq_some_iff.mp H
           obtain ⟨Cu,Fh,H⟩:=H
           replace H : (if Cu = true then ((aH.f true 18).bind fun Cj=>((bD.f ((au Bz Bw).f4) 64000).bind fun Cw=>(if Cw = true then ((bD.f ((au Bz Bw).f5) 1048576).bind fun Cx=>((aH.f (!Cx) 7).bind fun Cy=>((aM.f k2 (([BI,t171,t173,Cj,Cy] : List Int))).bind fun t196=>(aC.j2 k2 t196 Bz (Bz.length : Int) Bw ((au Bz Bw).f0) ((au Bz Bw).f1) ((au Bz Bw).f2) ((au Bz Bw).f3) ((au Bz Bw).f4) ((au Bz Bw).f5) ((au Bz Bw).f6))))) else ((aH.f true 7).bind fun Cz=>((aM.f k2 (([BI,t171,t173,Cj,Cz] : List Int))).bind fun t201=>(aC.j2 k2 t201 Bz (Bz.length : Int) Bw ((au Bz Bw).f0) ((au Bz Bw).f1) ((au Bz Bw).f2) ((au Bz Bw).f3) ((au Bz Bw).f4) ((au Bz Bw).f5) ((au Bz Bw).f6))))))) else ((bK.f (((au Bz Bw).f6).length : Int)).bind fun Cq=>((aH.f Cq 18).bind fun t203=>((bD.f ((au Bz Bw).f4) 64000).bind fun Ck=>(if Ck = true then ((bD.f ((au Bz Bw).f5) 1048576).bind fun Ca=>((aH.f (!Ca) 7).bind fun t206=>((aM.f k2 (([BI,t171,t173,t203,t206] : List Int))).bind fun t210=>(aC.j2 k2 t210 Bz (Bz.length : Int) Bw ((au Bz Bw).f0) ((au Bz Bw).f1) ((au Bz Bw).f2) ((au Bz Bw).f3) ((au Bz Bw).f4) ((au Bz Bw).f5) ((au Bz Bw).f6))))) else ((aH.f true 7).bind fun Cm=>((aM.f k2 (([BI,t171,t173,t203,Cm] : List Int))).bind fun Cn=>(aC.j2 k2 Cn Bz (Bz.length : Int) Bw ((au Bz Bw).f0) ((au Bz Bw).f1) ((au Bz Bw).f2) ((au Bz Bw).f3) ((au Bz Bw).f4) ((au Bz Bw).f5) ((au Bz Bw).f6))))))))) = some r:=H
           have F9:=Aside0.mk Fh
           clear Fh
           by_cases E9 : Cu = true
           ·exact absurd (Option.some.inj (F9.out.symm.trans (show bK.f _ = some false by rw [(HE.out Bw).2.1]; rfl))) (by rw [E9]; decide)
           ·replace E9:=Bool.eq_false_iff.mpr E9
            subst E9
            have H1 : ((bK.f (((au Bz Bw).f6).length : Int)).bind fun Cq=>((aH.f Cq 18).bind fun t203=>((bD.f ((au Bz Bw).f4) 64000).bind fun Ck=>(if Ck = true then ((bD.f ((au Bz Bw).f5) 1048576).bind fun Ca=>((aH.f (!Ca) 7).bind fun t206=>((aM.f k2 (([BI,t171,t173,t203,t206] : List Int))).bind fun t210=>(aC.j2 k2 t210 Bz (Bz.length : Int) Bw ((au Bz Bw).f0) ((au Bz Bw).f1) ((au Bz Bw).f2) ((au Bz Bw).f3) ((au Bz Bw).f4) ((au Bz Bw).f5) ((au Bz Bw).f6))))) else ((aH.f true 7).bind fun Cm=>((aM.f k2 (([BI,t171,t173,t203,Cm] : List Int))).bind fun Cn=>(aC.j2 k2 Cn Bz (Bz.length : Int) Bw ((au Bz Bw).f0) ((au Bz Bw).f1) ((au Bz Bw).f2) ((au Bz Bw).f3) ((au Bz Bw).f4) ((au Bz Bw).f5) ((au Bz Bw).f6)))))))) = some r:=by rw [if_neg (show ¬ (false = true) by decide)] at H;exact H
            clear H
            have H:=H1
            clear H1
            replace H:=Option.bind_eq_some_iff.mp H
            obtain ⟨Cq,Fj,H⟩:=H
            replace H : ((aH.f Cq 18).bind fun t203=>((bD.f ((au Bz Bw).f4) 64000).bind fun Ck=>(if Ck = true then ((bD.f ((au Bz Bw).f5) 1048576).bind fun Ca=>((aH.f (!Ca) 7).bind fun t206=>((aM.f k2 (([BI,t171,t173,t203,t206] : List Int))).bind fun t210=>(aC.j2 k2 t210 Bz (Bz.length : Int) Bw ((au Bz Bw).f0) ((au Bz Bw).f1) ((au Bz Bw).f2) ((au Bz Bw).f3) ((au Bz Bw).f4) ((au Bz Bw).f5) ((au Bz Bw).f6))))) else ((aH.f true 7).bind fun Cm=>((aM.f k2 (([BI,t171,t173,t203,Cm] : List Int))).bind fun Cn=>(aC.j2 k2 Cn Bz (Bz.length : Int) Bw ((au Bz Bw).f0) ((au Bz Bw).f1) ((au Bz Bw).f2) ((au Bz Bw).f3) ((au Bz Bw).f4) ((au Bz Bw).f5) ((au Bz Bw).f6))))))) = some r:=H
            have Hz:=Aside0.mk Fj
            clear Fj
            replace H:=Option.bind_eq_some_iff.mp H
            obtain ⟨t203,Fp,H⟩:=H
            replace H : ((bD.f ((au Bz Bw).f4) 64000).bind fun Ck=>(if Ck = true then ((bD.f ((au Bz Bw).f5) 1048576).bind fun Ca=>((aH.f (!Ca) 7).bind fun t206=>((aM.f k2 (([BI,t171,t173,t203,t206] : List Int))).bind fun t210=>(aC.j2 k2 t210 Bz (Bz.length : Int) Bw ((au Bz Bw).f0) ((au Bz Bw).f1) ((au Bz Bw).f2) ((au Bz Bw).f3) ((au Bz Bw).f4) ((au Bz Bw).f5) ((au Bz Bw).f6))))) else ((aH.f true 7).bind fun Cm=>((aM.f k2 (([BI,t171,t173,t203,Cm] : List Int))).bind fun Cn=>(aC.j2 k2 Cn Bz (Bz.length : Int) Bw ((au Bz Bw).f0) ((au Bz Bw).f1) ((au Bz Bw).f2) ((au Bz Bw).f3) ((au Bz Bw).f4) ((au Bz Bw).f5) ((au Bz Bw).f6)))))) = some r:=H
            have HY:=Aside0.mk Fp
            clear Fp
            replace H:=Option.bind_eq_some_iff.mp H
            obtain ⟨Ck,Fq,H⟩:=H
            replace H : (if Ck = true then ((bD.f ((au Bz Bw).f5) 1048576).bind fun Ca=>((aH.f (!Ca) 7).bind fun t206=>((aM.f k2 (([BI,t171,t173,t203,t206] : List Int))).bind fun t210=>(aC.j2 k2 t210 Bz (Bz.length : Int) Bw ((au Bz Bw).f0) ((au Bz Bw).f1) ((au Bz Bw).f2) ((au Bz Bw).f3) ((au Bz Bw).f4) ((au Bz Bw).f5) ((au Bz Bw).f6))))) else ((aH.f true 7).bind fun Cm=>((aM.f k2 (([BI,t171,t173,t203,Cm] : List Int))).bind fun Cn=>(aC.j2 k2 Cn Bz (Bz.length : Int) Bw ((au Bz Bw).f0) ((au Bz Bw).f1) ((au Bz Bw).f2) ((au Bz Bw).f3) ((au Bz Bw).f4) ((au Bz Bw).f5) ((au Bz Bw).f6))))) = some r:=H
            have Ga:=Aside0.mk Fq
            clear Fq
            by_cases FI : Ck = true
            ·subst FI
             have H1 : ((bD.f ((au Bz Bw).f5) 1048576).bind fun Ca=>((aH.f (!Ca) 7).bind fun t206=>((aM.f k2 (([BI,t171,t173,t203,t206] : List Int))).bind fun t210=>(aC.j2 k2 t210 Bz (Bz.length : Int) Bw ((au Bz Bw).f0) ((au Bz Bw).f1) ((au Bz Bw).f2) ((au Bz Bw).f3) ((au Bz Bw).f4) ((au Bz Bw).f5) ((au Bz Bw).f6))))) = some r:=by rw [if_pos rfl] at H;exact H
             clear H
             have H:=H1
             clear H1
             replace H:=Option.bind_eq_some_iff.mp H
             obtain ⟨Ca,Fu,H⟩:=H
             replace H : ((aH.f (!Ca) 7).bind fun t206=>((aM.f k2 (([BI,t171,t173,t203,t206] : List Int))).bind fun t210=>(aC.j2 k2 t210 Bz (Bz.length : Int) Bw ((au Bz Bw).f0) ((au Bz Bw).f1) ((au Bz Bw).f2) ((au Bz Bw).f3) ((au Bz Bw).f4) ((au Bz Bw).f5) ((au Bz Bw).f6)))) = some r:=H
             have H6:=Aside0.mk Fu
             clear Fu
             replace H:=Option.bind_eq_some_iff.mp H
             obtain ⟨t206,Fv,H⟩:=H
             replace H : ((aM.f k2 (([BI,t171,t173,t203,t206] : List Int))).bind fun t210=>(aC.j2 k2 t210 Bz (Bz.length : Int) Bw ((au Bz Bw).f0) ((au Bz Bw).f1) ((au Bz Bw).f2) ((au Bz Bw).f3) ((au Bz Bw).f4) ((au Bz Bw).f5) ((au Bz Bw).f6))) = some r:=H
             have H7:=Aside0.mk Fv
             clear Fv
             obtain ⟨FJ,Dt⟩ : ∃ y_ : List Int,y_ = (([BI,t171,t173,t203,t206] : List Int)):=⟨_,rfl⟩
             replace H : ((aM.f k2 FJ).bind fun t210=>(aC.j2 k2 t210 Bz (Bz.length : Int) Bw ((au Bz Bw).f0) ((au Bz Bw).f1) ((au Bz Bw).f2) ((au Bz Bw).f3) ((au Bz Bw).f4) ((au Bz Bw).f5) ((au Bz Bw).f6))) = some r:=by first|(rw [Dt];with_reducible exact H)|(have FC:=(Option.bind_some _ _).symm.trans H;rw [Dt];with_reducible exact FC)|(have FC:=(Option.bind_some _ _).symm.trans H;with_reducible exact FC)|with_reducible exact H|(rw [Dt];exact H)|exact H
             have Fw:=Aside0.mk Dt
             clear Dt
             replace H:=Option.bind_eq_some_iff.mp H
             obtain ⟨t210,Fx,H⟩:=H
             replace H : (aC.j2 k2 t210 Bz (Bz.length : Int) Bw ((au Bz Bw).f0) ((au Bz Bw).f1) ((au Bz Bw).f2) ((au Bz Bw).f3) ((au Bz Bw).f4) ((au Bz Bw).f5) ((au Bz Bw).f6)) = some r:=H
             have H8:=Aside0.mk Fx
             clear Fx
             have H':=Aside0.mk H
             clear H
             try go_wp2
             have CF:=Aside0.mk (ay BF.out)
             have CG:=Aside0.mk (ay BD.out)
             have CS:=Aside0.mk (bL HB.out)
             clear BF
             clear BD
             clear HB
             have BF:=CF
             have BD:=CG
             have HB:=CS
             clear CF CG CS
             refine gZ (n:=47) (S:=fun w'=>w'.cell? ⟨BG,0,none⟩ = some (.string ((au Bz Bw).f0)) ∧ w'.cell? ⟨BG,1,none⟩ = some (.string ((au Bz Bw).f1)) ∧ w'.cell? ⟨BG,2,none⟩ = some (.slice BP ((au Bz Bw).f2).length BQ) ∧ w'.cell? ⟨BG,3,none⟩ = some (.slice BS ((au Bz Bw).f3).length BU) ∧ w'.cell? ⟨BG,4,none⟩ = some (.int .i64 ((au Bz Bw).f4)) ∧ w'.cell? ⟨BG,5,none⟩ = some (.int .i64 ((au Bz Bw).f5)) ∧ w'.cell? ⟨BG,6,none⟩ = some (.slice Cc ((au Bz Bw).f6).length Ce) ∧ w'.heap[mb]? = some om) (ds:=[]) #[O,O,O,O,O,O,O,O,O,O,O,O,O,O,O,O,O,O,O,O,O,O,O,O,O,O,O,O,O,O,O,O,O,O,O,O,O,O,O,O,O,O,O,O,O,O,O] (by kernel_rfl) rfl rfl ⟨(ah BD.out 0).trans rfl,(ah BD.out 1).trans rfl,(ah BD.out 2).trans rfl,(ah BD.out 3).trans rfl,(ah BD.out 4).trans rfl,(ah BD.out 5).trans rfl,(ah BD.out 6).trans rfl,BM.out⟩ (fun hHeld=>?_);refine eY aC.zC aC.wJ (fun HT_ HW_=>?_)
             replace BM : Aside0 (w3.drew.heap[mb]? = some om) := ⟨BM.out⟩
             generalize w3.drew = H9 at BF BD HB BM hHeld ⊢
             refine pu_ 0 62 #[I,O,O,O,O,O,O,O,O,O,O,O,O,O,O,O,O,O,O,O,O,O,O,O,O,O,O,O,O,O,O,O,O,O,O,O,O,O,O,O,O,O,O,O,O,O,O] HT_.out ?_
             refine pu_ 5 67 #[I,O,O,O,O,I,O,O,O,O,O,O,O,O,O,O,O,O,O,O,O,O,O,O,O,O,O,O,O,O,O,O,O,O,O,O,O,O,O,O,O,O,O,O,O,O,O] HT_.out ?_
             refine pu_ 6 68 #[I,O,O,O,O,I,I,O,O,O,O,O,O,O,O,O,O,O,O,O,O,O,O,O,O,O,O,O,O,O,O,O,O,O,O,O,O,O,O,O,O,O,O,O,O,O,O] HT_.out ?_
             refine pu_ 11 73 #[I,O,O,O,O,I,I,O,O,O,O,I,O,O,O,O,O,O,O,O,O,O,O,O,O,O,O,O,O,O,O,O,O,O,O,O,O,O,O,O,O,O,O,O,O,O,O] HT_.out ?_
             refine pu_ 16 78 #[I,O,O,O,O,I,I,O,O,O,O,I,O,O,O,O,I,O,O,O,O,O,O,O,O,O,O,O,O,O,O,O,O,O,O,O,O,O,O,O,O,O,O,O,O,O,O] HT_.out ?_
             refine pu_ 33 95 #[I,O,O,O,O,I,I,O,O,O,O,I,O,O,O,O,I,O,O,O,O,O,O,O,O,O,O,O,O,O,O,O,O,I,O,O,O,O,O,O,O,O,O,O,O,O,O] HT_.out ?_
             refine ta_ 1 63 #[I,I,O,O,O,I,I,O,O,O,O,I,O,O,O,O,I,O,O,O,O,O,O,O,O,O,O,O,O,O,O,O,O,I,O,O,O,O,O,O,O,O,O,O,O,O,O] HT_.out HW_.out hHeld ?_
             refine ta_ 7 69 #[I,I,O,O,O,I,I,I,O,O,O,I,O,O,O,O,I,O,O,O,O,O,O,O,O,O,O,O,O,O,O,O,O,I,O,O,O,O,O,O,O,O,O,O,O,O,O] HT_.out HW_.out hHeld ?_
             refine gy (i:=8) (N:=some 70) (v:=.int .i64 1) (a':=?_) #[I,I,O,O,O,I,I,I,I,O,O,I,O,O,O,O,I,O,O,O,O,O,O,O,O,O,O,O,O,O,O,O,O,I,O,O,O,O,O,O,O,O,O,O,O,O,O] rfl rfl (dR HT_.out HW_.out (by kernel_rfl)) (fun _ _ _ h=>h) (Or.inl ⟨by rfl,?_⟩) hHeld ?_ ?_
             ·rintro w' ⟨s0,s1,s2,s3,s4,s5,s6,s7⟩
              have hl := HLK.out w' s7
              go_simp
              try rfl
             rotate_left
             ·simp only [Act.put,List.setIfInBounds_toArray,List.set_cons_zero,List.set_cons_succ,bO,bR]
              rfl
             refine pu_ 9 71 #[I,I,O,O,O,I,I,I,I,I,O,I,O,O,O,O,I,O,O,O,O,O,O,O,O,O,O,O,O,O,O,O,O,I,O,O,O,O,O,O,O,O,O,O,O,O,O] HT_.out ?_
             refine ta_ 12 74 #[I,I,O,O,O,I,I,I,I,I,O,I,I,O,O,O,I,O,O,O,O,O,O,O,O,O,O,O,O,O,O,O,O,I,O,O,O,O,O,O,O,O,O,O,O,O,O] HT_.out HW_.out hHeld ?_
             refine ta_ 17 79 #[I,I,O,O,O,I,I,I,I,I,O,I,I,O,O,O,I,I,O,O,O,O,O,O,O,O,O,O,O,O,O,O,O,I,O,O,O,O,O,O,O,O,O,O,O,O,O] HT_.out HW_.out hHeld ?_
             refine pu_ 18 80 #[I,I,O,O,O,I,I,I,I,I,O,I,I,O,O,O,I,I,I,O,O,O,O,O,O,O,O,O,O,O,O,O,O,I,O,O,O,O,O,O,O,O,O,O,O,O,O] HT_.out ?_
             refine ta_ 34 96 #[I,I,O,O,O,I,I,I,I,I,O,I,I,O,O,O,I,I,I,O,O,O,O,O,O,O,O,O,O,O,O,O,O,I,I,O,O,O,O,O,O,O,O,O,O,O,O] HT_.out HW_.out hHeld ?_
             refine fU (i:=2) (N:=some 64) #[I,I,I,O,O,I,I,I,I,I,O,I,I,O,O,O,I,I,I,O,O,O,O,O,O,O,O,O,O,O,O,O,O,I,I,O,O,O,O,O,O,O,O,O,O,O,O] rfl rfl (cO HT_.out (by kernel_rfl)) (by decide) (fun K hK=>?_)
             refine eU Tryz.func70 (by kernel_rfl) rfl #[.string ((au Bz Bw).f0)] (by rfl) rfl rfl (by (try simp only [List.map_toArray,List.map_cons,List.map_nil]);first|done|rfl|(simp only [List.length_drop,List.length_take];rfl)) ?_
             with_reducible refine (aZ.calls k2 ((au Bz Bw).f0) DV _ Je.out).mono ?_
             rintro e w' ⟨rfl,⟨nd,rfl⟩⟩
             refine ⟨_,rfl,?_⟩
             replace BF:=Aside0.mk (aj BF.out nd)
             replace BD:=Aside0.mk (aj BD.out nd)
             replace HB:=Aside0.mk (bB HB.out nd)
             replace BM:=Aside0.mk (aj BM.out nd)
             clear hHeld
             generalize World.drewN H9 nd = Ia at BF BD HB BM hK ⊢
             refine hK.out _ _ ⟨(ah BD.out 0).trans rfl,(ah BD.out 1).trans rfl,(ah BD.out 2).trans rfl,(ah BD.out 3).trans rfl,(ah BD.out 4).trans rfl,(ah BD.out 5).trans rfl,(ah BD.out 6).trans rfl,BM.out⟩ (fun hHeld=>?_)
             clear hK K
             refine dX (a':=?_) ?_ ?_
             rotate_left
             ·show Act.put _ (some 64) _ = _
              simp only [Act.put,List.setIfInBounds_toArray,List.set_cons_zero,List.set_cons_succ,bO,bR]
              rfl
             refine pu_ 3 65 #[I,I,I,I,O,I,I,I,I,I,O,I,I,O,O,O,I,I,I,O,O,O,O,O,O,O,O,O,O,O,O,O,O,I,I,O,O,O,O,O,O,O,O,O,O,O,O] HT_.out ?_
             refine fU (i:=4) (N:=some 66) #[I,I,I,I,I,I,I,I,I,I,O,I,I,O,O,O,I,I,I,O,O,O,O,O,O,O,O,O,O,O,O,O,O,I,I,O,O,O,O,O,O,O,O,O,O,O,O] rfl rfl (cO HT_.out (by kernel_rfl)) (by decide) (fun K hK=>?_)
             refine eU Tryz.func105 (by kernel_rfl) rfl #[.bool (!DV),.int .i64 13] (by rfl) rfl rfl (by (try simp only [List.map_toArray,List.map_cons,List.map_nil]);first|done|rfl|(simp only [List.length_drop,List.length_take];rfl)) ?_
             with_reducible refine (aH.calls (!DV) 13 BI _ Jf.out).mono ?_
             rintro e w' ⟨rfl,⟨nd,rfl⟩⟩
             refine ⟨_,rfl,?_⟩
             replace BF:=Aside0.mk (aj BF.out nd)
             replace BD:=Aside0.mk (aj BD.out nd)
             replace HB:=Aside0.mk (bB HB.out nd)
             replace BM:=Aside0.mk (aj BM.out nd)
             clear hHeld
             generalize World.drewN Ia nd = Ib at BF BD HB BM hK ⊢
             refine hK.out _ _ ⟨(ah BD.out 0).trans rfl,(ah BD.out 1).trans rfl,(ah BD.out 2).trans rfl,(ah BD.out 3).trans rfl,(ah BD.out 4).trans rfl,(ah BD.out 5).trans rfl,(ah BD.out 6).trans rfl,BM.out⟩ (fun hHeld=>?_)
             clear hK K
             refine dX (a':=?_) ?_ ?_
             rotate_left
             ·show Act.put _ (some 66) _ = _
              simp only [Act.put,List.setIfInBounds_toArray,List.set_cons_zero,List.set_cons_succ,bO,bR]
              rfl
             refine fU (i:=10) (N:=some 72) #[I,I,I,I,I,I,I,I,I,I,I,I,I,O,O,O,I,I,I,O,O,O,O,O,O,O,O,O,O,O,O,O,O,I,I,O,O,O,O,O,O,O,O,O,O,O,O] rfl rfl (cO HT_.out (by kernel_rfl)) (by decide) (fun K hK=>?_)
             refine eU Tryz.func105 (by kernel_rfl) rfl #[.bool (decide (1 > 1)),.int .i64 8] (by rfl) rfl rfl (by (try simp only [List.map_toArray,List.map_cons,List.map_nil]);first|done|rfl|(simp only [List.length_drop,List.length_take];rfl)) ?_
             with_reducible refine (aH.calls (decide (1 > 1)) 8 t171 _ Jg.out).mono ?_
             rintro e w' ⟨rfl,⟨nd,rfl⟩⟩
             refine ⟨_,rfl,?_⟩
             replace BF:=Aside0.mk (aj BF.out nd)
             replace BD:=Aside0.mk (aj BD.out nd)
             replace HB:=Aside0.mk (bB HB.out nd)
             replace BM:=Aside0.mk (aj BM.out nd)
             clear hHeld
             generalize World.drewN Ib nd = Ic at BF BD HB BM hK ⊢
             refine hK.out _ _ ⟨(ah BD.out 0).trans rfl,(ah BD.out 1).trans rfl,(ah BD.out 2).trans rfl,(ah BD.out 3).trans rfl,(ah BD.out 4).trans rfl,(ah BD.out 5).trans rfl,(ah BD.out 6).trans rfl,BM.out⟩ (fun hHeld=>?_)
             clear hK K
             refine dX (a':=?_) ?_ ?_
             rotate_left
             ·show Act.put _ (some 72) _ = _
              simp only [Act.put,List.setIfInBounds_toArray,List.set_cons_zero,List.set_cons_succ,bO,bR]
              rfl
             refine fU (i:=13) (N:=some 75) #[I,I,I,I,I,I,I,I,I,I,I,I,I,I,O,O,I,I,I,O,O,O,O,O,O,O,O,O,O,O,O,O,O,I,I,O,O,O,O,O,O,O,O,O,O,O,O] rfl rfl (cO HT_.out (by kernel_rfl)) (by decide) (fun K hK=>?_)
             refine eU Tryz.func89 (by kernel_rfl) rfl #[.string ((au Bz Bw).f1)] (by rfl) rfl rfl (by (try simp only [List.map_toArray,List.map_cons,List.map_nil]);first|done|rfl|(simp only [List.length_drop,List.length_take];rfl)) ?_
             with_reducible refine (bC.calls k2 ((au Bz Bw).f1) CX _ Jh.out).mono ?_
             rintro e w' ⟨rfl,⟨nd,rfl⟩⟩
             refine ⟨_,rfl,?_⟩
             replace BF:=Aside0.mk (aj BF.out nd)
             replace BD:=Aside0.mk (aj BD.out nd)
             replace HB:=Aside0.mk (bB HB.out nd)
             replace BM:=Aside0.mk (aj BM.out nd)
             clear hHeld
             generalize World.drewN Ic nd = Ie at BF BD HB BM hK ⊢
             refine hK.out _ _ ⟨(ah BD.out 0).trans rfl,(ah BD.out 1).trans rfl,(ah BD.out 2).trans rfl,(ah BD.out 3).trans rfl,(ah BD.out 4).trans rfl,(ah BD.out 5).trans rfl,(ah BD.out 6).trans rfl,BM.out⟩ (fun hHeld=>?_)
             clear hK K
             refine dX (a':=?_) ?_ ?_
             rotate_left
             ·show Act.put _ (some 75) _ = _
              simp only [Act.put,List.setIfInBounds_toArray,List.set_cons_zero,List.set_cons_succ,bO,bR]
              rfl
             refine pu_ 14 76 #[I,I,I,I,I,I,I,I,I,I,I,I,I,I,I,O,I,I,I,O,O,O,O,O,O,O,O,O,O,O,O,O,O,I,I,O,O,O,O,O,O,O,O,O,O,O,O] HT_.out ?_
             refine fU (i:=15) (N:=some 77) #[I,I,I,I,I,I,I,I,I,I,I,I,I,I,I,I,I,I,I,O,O,O,O,O,O,O,O,O,O,O,O,O,O,I,I,O,O,O,O,O,O,O,O,O,O,O,O] rfl rfl (cO HT_.out (by kernel_rfl)) (by decide) (fun K hK=>?_)
             refine eU Tryz.func105 (by kernel_rfl) rfl #[.bool (!CX),.int .i64 6] (by rfl) rfl rfl (by (try simp only [List.map_toArray,List.map_cons,List.map_nil]);first|done|rfl|(simp only [List.length_drop,List.length_take];rfl)) ?_
             with_reducible refine (aH.calls (!CX) 6 t173 _ Ji.out).mono ?_
             rintro e w' ⟨rfl,⟨nd,rfl⟩⟩
             refine ⟨_,rfl,?_⟩
             replace BF:=Aside0.mk (aj BF.out nd)
             replace BD:=Aside0.mk (aj BD.out nd)
             replace HB:=Aside0.mk (bB HB.out nd)
             replace BM:=Aside0.mk (aj BM.out nd)
             clear hHeld
             generalize World.drewN Ie nd = Ig at BF BD HB BM hK ⊢
             refine hK.out _ _ ⟨(ah BD.out 0).trans rfl,(ah BD.out 1).trans rfl,(ah BD.out 2).trans rfl,(ah BD.out 3).trans rfl,(ah BD.out 4).trans rfl,(ah BD.out 5).trans rfl,(ah BD.out 6).trans rfl,BM.out⟩ (fun hHeld=>?_)
             clear hK K
             refine dX (a':=?_) ?_ ?_
             rotate_left
             ·show Act.put _ (some 77) _ = _
              simp only [Act.put,List.setIfInBounds_toArray,List.set_cons_zero,List.set_cons_succ,bO,bR]
              rfl
             refine fU (i:=19) (N:=some 81) #[I,I,I,I,I,I,I,I,I,I,I,I,I,I,I,I,I,I,I,I,O,O,O,O,O,O,O,O,O,O,O,O,O,I,I,O,O,O,O,O,O,O,O,O,O,O,O] rfl rfl (cO HT_.out (by kernel_rfl)) (by decide) (fun K hK=>?_)
             refine eU Tryz.func107 (by kernel_rfl) rfl #[.int .i64 (((au Bz Bw).f2).length : Int)] (by rfl) rfl rfl (by (try simp only [List.map_toArray,List.map_cons,List.map_nil]);first|done|rfl|(simp only [List.length_drop,List.length_take];rfl)) ?_
             with_reducible refine (bK.calls (((au Bz Bw).f2).length : Int) false _ IZ.out).mono ?_
             rintro e w' ⟨rfl,⟨nd,rfl⟩⟩
             refine ⟨_,rfl,?_⟩
             replace BF:=Aside0.mk (aj BF.out nd)
             replace BD:=Aside0.mk (aj BD.out nd)
             replace HB:=Aside0.mk (bB HB.out nd)
             replace BM:=Aside0.mk (aj BM.out nd)
             clear hHeld
             generalize World.drewN Ig nd = Ih at BF BD HB BM hK ⊢
             refine hK.out _ _ ⟨(ah BD.out 0).trans rfl,(ah BD.out 1).trans rfl,(ah BD.out 2).trans rfl,(ah BD.out 3).trans rfl,(ah BD.out 4).trans rfl,(ah BD.out 5).trans rfl,(ah BD.out 6).trans rfl,BM.out⟩ (fun hHeld=>?_)
             clear hK K
             refine dX (a':=?_) ?_ ?_
             rotate_left
             ·show Act.put _ (some 81) _ = _
              simp only [Act.put,List.setIfInBounds_toArray,List.set_cons_zero,List.set_cons_succ,bO,bR]
              rfl
             refine pu_ 20 82 #[I,I,I,I,I,I,I,I,I,I,I,I,I,I,I,I,I,I,I,I,I,O,O,O,O,O,O,O,O,O,O,O,O,I,I,O,O,O,O,O,O,O,O,O,O,O,O] HT_.out ?_
             refine pu_ 21 83 #[I,I,I,I,I,I,I,I,I,I,I,I,I,I,I,I,I,I,I,I,I,I,O,O,O,O,O,O,O,O,O,O,O,I,I,O,O,O,O,O,O,O,O,O,O,O,O] HT_.out ?_
             refine ta_ 22 84 #[I,I,I,I,I,I,I,I,I,I,I,I,I,I,I,I,I,I,I,I,I,I,I,O,O,O,O,O,O,O,O,O,O,I,I,O,O,O,O,O,O,O,O,O,O,O,O] HT_.out HW_.out hHeld ?_
             refine pu_ 23 85 #[I,I,I,I,I,I,I,I,I,I,I,I,I,I,I,I,I,I,I,I,I,I,I,I,O,O,O,O,O,O,O,O,O,I,I,O,O,O,O,O,O,O,O,O,O,O,O] HT_.out ?_
             refine fU (i:=24) (N:=some 86) #[I,I,I,I,I,I,I,I,I,I,I,I,I,I,I,I,I,I,I,I,I,I,I,I,I,O,O,O,O,O,O,O,O,I,I,O,O,O,O,O,O,O,O,O,O,O,O] rfl rfl (cO HT_.out (by kernel_rfl)) (by decide) (fun K hK=>?_)
             refine eU Tryz.func107 (by kernel_rfl) rfl #[.int .i64 (((au Bz Bw).f3).length : Int)] (by rfl) rfl rfl (by (try simp only [List.map_toArray,List.map_cons,List.map_nil]);first|done|rfl|(simp only [List.length_drop,List.length_take];rfl)) ?_
             with_reducible refine (bK.calls (((au Bz Bw).f3).length : Int) false _ F9.out).mono ?_
             rintro e w' ⟨rfl,⟨nd,rfl⟩⟩
             refine ⟨_,rfl,?_⟩
             replace BF:=Aside0.mk (aj BF.out nd)
             replace BD:=Aside0.mk (aj BD.out nd)
             replace HB:=Aside0.mk (bB HB.out nd)
             replace BM:=Aside0.mk (aj BM.out nd)
             clear hHeld
             generalize World.drewN Ih nd = Ii at BF BD HB BM hK ⊢
             refine hK.out _ _ ⟨(ah BD.out 0).trans rfl,(ah BD.out 1).trans rfl,(ah BD.out 2).trans rfl,(ah BD.out 3).trans rfl,(ah BD.out 4).trans rfl,(ah BD.out 5).trans rfl,(ah BD.out 6).trans rfl,BM.out⟩ (fun hHeld=>?_)
             clear hK K
             refine dX (a':=?_) ?_ ?_
             rotate_left
             ·show Act.put _ (some 86) _ = _
              simp only [Act.put,List.setIfInBounds_toArray,List.set_cons_zero,List.set_cons_succ,bO,bR]
              rfl
             refine pu_ 25 87 #[I,I,I,I,I,I,I,I,I,I,I,I,I,I,I,I,I,I,I,I,I,I,I,I,I,I,O,O,O,O,O,O,O,I,I,O,O,O,O,O,O,O,O,O,O,O,O] HT_.out ?_
             refine pu_ 26 88 #[I,I,I,I,I,I,I,I,I,I,I,I,I,I,I,I,I,I,I,I,I,I,I,I,I,I,I,O,O,O,O,O,O,I,I,O,O,O,O,O,O,O,O,O,O,O,O] HT_.out ?_
             refine pu_ 27 89 #[I,I,I,I,I,I,I,I,I,I,I,I,I,I,I,I,I,I,I,I,I,I,I,I,I,I,I,I,O,O,O,O,O,I,I,O,O,O,O,O,O,O,O,O,O,O,O] HT_.out ?_
             refine ta_ 28 90 #[I,I,I,I,I,I,I,I,I,I,I,I,I,I,I,I,I,I,I,I,I,I,I,I,I,I,I,I,I,O,O,O,O,I,I,O,O,O,O,O,O,O,O,O,O,O,O] HT_.out HW_.out hHeld ?_
             refine pu_ 29 91 #[I,I,I,I,I,I,I,I,I,I,I,I,I,I,I,I,I,I,I,I,I,I,I,I,I,I,I,I,I,I,O,O,O,I,I,O,O,O,O,O,O,O,O,O,O,O,O] HT_.out ?_
             refine fU (i:=30) (N:=some 92) #[I,I,I,I,I,I,I,I,I,I,I,I,I,I,I,I,I,I,I,I,I,I,I,I,I,I,I,I,I,I,I,O,O,I,I,O,O,O,O,O,O,O,O,O,O,O,O] rfl rfl (cO HT_.out (by kernel_rfl)) (by decide) (fun K hK=>?_)
             refine eU Tryz.func107 (by kernel_rfl) rfl #[.int .i64 (((au Bz Bw).f6).length : Int)] (by rfl) rfl rfl (by (try simp only [List.map_toArray,List.map_cons,List.map_nil]);first|done|rfl|(simp only [List.length_drop,List.length_take];rfl)) ?_
             with_reducible refine (bK.calls (((au Bz Bw).f6).length : Int) Cq _ Hz.out).mono ?_
             rintro e w' ⟨rfl,⟨nd,rfl⟩⟩
             refine ⟨_,rfl,?_⟩
             replace BF:=Aside0.mk (aj BF.out nd)
             replace BD:=Aside0.mk (aj BD.out nd)
             replace HB:=Aside0.mk (bB HB.out nd)
             replace BM:=Aside0.mk (aj BM.out nd)
             clear hHeld
             generalize World.drewN Ii nd = Ij at BF BD HB BM hK ⊢
             refine hK.out _ _ ⟨(ah BD.out 0).trans rfl,(ah BD.out 1).trans rfl,(ah BD.out 2).trans rfl,(ah BD.out 3).trans rfl,(ah BD.out 4).trans rfl,(ah BD.out 5).trans rfl,(ah BD.out 6).trans rfl,BM.out⟩ (fun hHeld=>?_)
             clear hK K
             refine dX (a':=?_) ?_ ?_
             rotate_left
             ·show Act.put _ (some 92) _ = _
              simp only [Act.put,List.setIfInBounds_toArray,List.set_cons_zero,List.set_cons_succ,bO,bR]
              rfl
             refine pu_ 31 93 #[I,I,I,I,I,I,I,I,I,I,I,I,I,I,I,I,I,I,I,I,I,I,I,I,I,I,I,I,I,I,I,I,O,I,I,O,O,O,O,O,O,O,O,O,O,O,O] HT_.out ?_
             refine fU (i:=32) (N:=some 94) #[I,I,I,I,I,I,I,I,I,I,I,I,I,I,I,I,I,I,I,I,I,I,I,I,I,I,I,I,I,I,I,I,I,I,I,O,O,O,O,O,O,O,O,O,O,O,O] rfl rfl (cO HT_.out (by kernel_rfl)) (by decide) (fun K hK=>?_)
             refine eU Tryz.func105 (by kernel_rfl) rfl #[.bool Cq,.int .i64 18] (by rfl) rfl rfl (by (try simp only [List.map_toArray,List.map_cons,List.map_nil]);first|done|rfl|(simp only [List.length_drop,List.length_take];rfl)) ?_
             with_reducible refine (aH.calls Cq 18 t203 _ HY.out).mono ?_
             rintro e w' ⟨rfl,⟨nd,rfl⟩⟩
             refine ⟨_,rfl,?_⟩
             replace BF:=Aside0.mk (aj BF.out nd)
             replace BD:=Aside0.mk (aj BD.out nd)
             replace HB:=Aside0.mk (bB HB.out nd)
             replace BM:=Aside0.mk (aj BM.out nd)
             clear hHeld
             generalize World.drewN Ij nd = Ik at BF BD HB BM hK ⊢
             refine hK.out _ _ ⟨(ah BD.out 0).trans rfl,(ah BD.out 1).trans rfl,(ah BD.out 2).trans rfl,(ah BD.out 3).trans rfl,(ah BD.out 4).trans rfl,(ah BD.out 5).trans rfl,(ah BD.out 6).trans rfl,BM.out⟩ (fun hHeld=>?_)
             clear hK K
             refine dX (a':=?_) ?_ ?_
             rotate_left
             ·show Act.put _ (some 94) _ = _
              simp only [Act.put,List.setIfInBounds_toArray,List.set_cons_zero,List.set_cons_succ,bO,bR]
              rfl
             refine fU (i:=35) (N:=some 97) #[I,I,I,I,I,I,I,I,I,I,I,I,I,I,I,I,I,I,I,I,I,I,I,I,I,I,I,I,I,I,I,I,I,I,I,I,O,O,O,O,O,O,O,O,O,O,O] rfl rfl (cO HT_.out (by kernel_rfl)) (by decide) (fun K hK=>?_)
             refine eU Tryz.func106 (by kernel_rfl) rfl #[.int .i64 ((au Bz Bw).f4),.int .i64 64000] (by rfl) rfl rfl (by (try simp only [List.map_toArray,List.map_cons,List.map_nil]);first|done|rfl|(simp only [List.length_drop,List.length_take];rfl)) ?_
             with_reducible refine (bD.calls ((au Bz Bw).f4) 64000 true _ Ga.out).mono ?_
             rintro e w' ⟨rfl,⟨nd,rfl⟩⟩
             refine ⟨_,rfl,?_⟩
             replace BF:=Aside0.mk (aj BF.out nd)
             replace BD:=Aside0.mk (aj BD.out nd)
             replace HB:=Aside0.mk (bB HB.out nd)
             replace BM:=Aside0.mk (aj BM.out nd)
             clear hHeld
             generalize World.drewN Ik nd = Il at BF BD HB BM hK ⊢
             refine hK.out _ _ ⟨(ah BD.out 0).trans rfl,(ah BD.out 1).trans rfl,(ah BD.out 2).trans rfl,(ah BD.out 3).trans rfl,(ah BD.out 4).trans rfl,(ah BD.out 5).trans rfl,(ah BD.out 6).trans rfl,BM.out⟩ (fun hHeld=>?_)
             clear hK K
             refine dX (a':=?_) ?_ ?_
             rotate_left
             ·show Act.put _ (some 97) _ = _
              simp only [Act.put,List.setIfInBounds_toArray,List.set_cons_zero,List.set_cons_succ,bO,bR]
              rfl
             refine pu_ 36 98 #[I,I,I,I,I,I,I,I,I,I,I,I,I,I,I,I,I,I,I,I,I,I,I,I,I,I,I,I,I,I,I,I,I,I,I,I,I,O,O,O,O,O,O,O,O,O,O] HT_.out ?_
             refine pu_ 37 99 #[I,I,I,I,I,I,I,I,I,I,I,I,I,I,I,I,I,I,I,I,I,I,I,I,I,I,I,I,I,I,I,I,I,I,I,I,I,I,O,O,O,O,O,O,O,O,O] HT_.out ?_
             refine pu_ 38 100 #[I,I,I,I,I,I,I,I,I,I,I,I,I,I,I,I,I,I,I,I,I,I,I,I,I,I,I,I,I,I,I,I,I,I,I,I,I,I,I,O,O,O,O,O,O,O,O] HT_.out ?_
             refine ta_ 39 101 #[I,I,I,I,I,I,I,I,I,I,I,I,I,I,I,I,I,I,I,I,I,I,I,I,I,I,I,I,I,I,I,I,I,I,I,I,I,I,I,I,O,O,O,O,O,O,O] HT_.out HW_.out hHeld ?_
             refine fU (i:=40) (N:=some 102) #[I,I,I,I,I,I,I,I,I,I,I,I,I,I,I,I,I,I,I,I,I,I,I,I,I,I,I,I,I,I,I,I,I,I,I,I,I,I,I,I,I,O,O,O,O,O,O] rfl rfl (cO HT_.out (by kernel_rfl)) (by decide) (fun K hK=>?_)
             refine eU Tryz.func106 (by kernel_rfl) rfl #[.int .i64 ((au Bz Bw).f5),.int .i64 1048576] (by rfl) rfl rfl (by (try simp only [List.map_toArray,List.map_cons,List.map_nil]);first|done|rfl|(simp only [List.length_drop,List.length_take];rfl)) ?_
             with_reducible refine (bD.calls ((au Bz Bw).f5) 1048576 Ca _ H6.out).mono ?_
             rintro e w' ⟨rfl,⟨nd,rfl⟩⟩
             refine ⟨_,rfl,?_⟩
             replace BF:=Aside0.mk (aj BF.out nd)
             replace BD:=Aside0.mk (aj BD.out nd)
             replace HB:=Aside0.mk (bB HB.out nd)
             replace BM:=Aside0.mk (aj BM.out nd)
             clear hHeld
             generalize World.drewN Il nd = Im at BF BD HB BM hK ⊢
             refine hK.out _ _ ⟨(ah BD.out 0).trans rfl,(ah BD.out 1).trans rfl,(ah BD.out 2).trans rfl,(ah BD.out 3).trans rfl,(ah BD.out 4).trans rfl,(ah BD.out 5).trans rfl,(ah BD.out 6).trans rfl,BM.out⟩ (fun hHeld=>?_)
             clear hK K
             refine dX (a':=?_) ?_ ?_
             rotate_left
             ·show Act.put _ (some 102) _ = _
              simp only [Act.put,List.setIfInBounds_toArray,List.set_cons_zero,List.set_cons_succ,bO,bR]
              rfl
             refine pu_ 41 103 #[I,I,I,I,I,I,I,I,I,I,I,I,I,I,I,I,I,I,I,I,I,I,I,I,I,I,I,I,I,I,I,I,I,I,I,I,I,I,I,I,I,I,O,O,O,O,O] HT_.out ?_
             refine pu_ 42 104 #[I,I,I,I,I,I,I,I,I,I,I,I,I,I,I,I,I,I,I,I,I,I,I,I,I,I,I,I,I,I,I,I,I,I,I,I,I,I,I,I,I,I,I,O,O,O,O] HT_.out ?_
             refine fU (i:=43) (N:=some 105) #[I,I,I,I,I,I,I,I,I,I,I,I,I,I,I,I,I,I,I,I,I,I,I,I,I,I,I,I,I,I,I,I,I,I,I,I,I,I,I,I,I,I,I,I,O,O,O] rfl rfl (cO HT_.out (by kernel_rfl)) (by decide) (fun K hK=>?_)
             refine eU Tryz.func105 (by kernel_rfl) rfl #[.bool (!Ca),.int .i64 7] (by rfl) rfl rfl (by (try simp only [List.map_toArray,List.map_cons,List.map_nil]);first|done|rfl|(simp only [List.length_drop,List.length_take];rfl)) ?_
             with_reducible refine (aH.calls (!Ca) 7 t206 _ H7.out).mono ?_
             rintro e w' ⟨rfl,⟨nd,rfl⟩⟩
             refine ⟨_,rfl,?_⟩
             replace BF:=Aside0.mk (aj BF.out nd)
             replace BD:=Aside0.mk (aj BD.out nd)
             replace HB:=Aside0.mk (bB HB.out nd)
             replace BM:=Aside0.mk (aj BM.out nd)
             clear hHeld
             generalize World.drewN Im nd = Jj at BF BD HB BM hK ⊢
             refine hK.out _ _ ⟨(ah BD.out 0).trans rfl,(ah BD.out 1).trans rfl,(ah BD.out 2).trans rfl,(ah BD.out 3).trans rfl,(ah BD.out 4).trans rfl,(ah BD.out 5).trans rfl,(ah BD.out 6).trans rfl,BM.out⟩ (fun hHeld=>?_)
             clear hK K
             refine dX (a':=?_) ?_ ?_
             rotate_left
             ·show Act.put _ (some 105) _ = _
              simp only [Act.put,List.setIfInBounds_toArray,List.set_cons_zero,List.set_cons_succ,bO,bR]
              rfl
             refine fU (i:=44) (N:=some 106) #[I,I,I,I,I,I,I,I,I,I,I,I,I,I,I,I,I,I,I,I,I,I,I,I,I,I,I,I,I,I,I,I,I,I,I,I,I,I,I,I,I,I,I,I,I,O,O] rfl rfl (cO HT_.out (by kernel_rfl)) (by decide) (fun K hK=>?_)
             refine Kd.l9 (Kd.int .i64) _ 114 ?hg (N:=106) ?hd (xs:=([BI,t171,t173,t203,t206] : List Int)) (inner:=[.int .i64 BI,.int .i64 t171,.int .i64 t173,.int .i64 t203,.int .i64 t206]) (ok:=fun _=>True) (okp:=fun _=>True) ?hr ?hp (fun _ hk=>hk) trivial (Below.refl _ _) (Nat.le_refl _) (by simp) ?_;(case hd=>rfl);(case hg=>rfl);(case hr=>first|(go_simp;done)|(go_simp;rfl));(case hp=>exact (dQ.one (show Kd.M (Kd.int .i64) _ _ _ BI [.int .i64 BI] from rfl) (dQ.one (show Kd.M (Kd.int .i64) _ _ _ t171 [.int .i64 t171] from rfl) (dQ.one (show Kd.M (Kd.int .i64) _ _ _ t173 [.int .i64 t173] from rfl) (dQ.one (show Kd.M (Kd.int .i64) _ _ _ t203 [.int .i64 t203] from rfl) (dQ.one (show Kd.M (Kd.int .i64) _ _ _ t206 [.int .i64 t206] from rfl) (dQ.none _ _)))))))
             intro v208 Jk Du hb hg_ hnew_
             clear hg_ hnew_
             (first|rw [← Fw.out] at Du|(simp only [Int.reduceToNat] at Du;rw [← Fw.out] at Du))
             have CF:=Aside0.mk (Kd.lC Du (aR hb_))
             have CG:=Aside0.mk (aJ (g:=BO) (o:=.cells #[.string BL,.string BJ,.int .i64 BH,.int .i64 BK,.bool BN,.slice (some CV) Bz.length Cv] 77 (0,0)) (bk_ BF.out) hb)
             replace BM:=Aside0.mk (aJ (g:=mb) (o:=om) (bk_ BM.out) hb)
             have CS:=Aside0.mk (aJ (g:=BG) (o:=.cells #[.string ((au Bz Bw).f0),.string ((au Bz Bw).f1),.slice BP ((au Bz Bw).f2).length BQ,.slice BS ((au Bz Bw).f3).length BU,.int .i64 ((au Bz Bw).f4),.int .i64 ((au Bz Bw).f5),.slice Cc ((au Bz Bw).f6).length Ce] 84 (0,0)) (bk_ BD.out) hb)
             have DX:=Aside0.mk (aN hb_ hb)
             clear BF
             clear BD
             clear HB
             have Eh:=CF
             have BF:=CG
             have BD:=CS
             have HB:=DX
             clear CF CG CS DX
             clear hb Du
             obtain ⟨Gb,Gc,Fy⟩:=Kd.iJ Eh.out
             (first|subst Fy|(injection Fy with FW Hq FX;have Hr:=FW.symm;have Ht:=FX.symm;clear FW Hq FX;subst Hr;subst Ht))
             refine hK.out _ _ ⟨(ah BD.out 0).trans rfl,(ah BD.out 1).trans rfl,(ah BD.out 2).trans rfl,(ah BD.out 3).trans rfl,(ah BD.out 4).trans rfl,(ah BD.out 5).trans rfl,(ah BD.out 6).trans rfl,BM.out⟩ (fun hHeld=>?_)
             clear hK K
             refine dX (a':=?_) ?_ ?_
             rotate_left
             ·show Act.put _ (some 106) _ = _
              simp only [Act.put,List.setIfInBounds_toArray,List.set_cons_zero,List.set_cons_succ,bO,bR]
              rfl
             refine fU (i:=45) (N:=some 107) #[I,I,I,I,I,I,I,I,I,I,I,I,I,I,I,I,I,I,I,I,I,I,I,I,I,I,I,I,I,I,I,I,I,I,I,I,I,I,I,I,I,I,I,I,I,I,O] rfl rfl (cO HT_.out (by kernel_rfl)) (by decide) (fun K hK=>?_)
             refine eU Tryz.func104 (by kernel_rfl) rfl #[.slice Gb FJ.length Gc] (by rfl) rfl rfl (by (try simp only [List.map_toArray,List.map_cons,List.map_nil]);first|done|rfl|(simp only [List.length_drop,List.length_take];rfl)) ?_
             with_reducible refine (aM.calls k2 _ _ FJ t210 _ ?Dc ?Df H8.out).mono ?_
             (case Dc=>repeat (first|exact (Kd.gY Eh.out).2.2|(with_reducible refine Kd.bH ?_ _)|(with_reducible refine Kd.bX ?_ _)|(with_reducible refine Kd.dA ?_)))
             (case Df=>exact (Kd.gY Eh.out).2.1)
             rintro e w' ⟨rfl,⟨nd,rfl⟩⟩
             refine ⟨_,rfl,?_⟩
             refine hK.out _ _ ⟨(ah BD.out 0).trans rfl,(ah BD.out 1).trans rfl,(ah BD.out 2).trans rfl,(ah BD.out 3).trans rfl,(ah BD.out 4).trans rfl,(ah BD.out 5).trans rfl,(ah BD.out 6).trans rfl,BM.out⟩ (fun hHeld=>?_)
             clear hK K
             refine dX (a':=?_) ?_ ?_
             rotate_left
             ·show Act.put _ (some 107) _ = _
              simp only [Act.put,List.setIfInBounds_toArray,List.set_cons_zero,List.set_cons_succ,bO,bR]
              rfl
             refine pu_ 46 7 #[I,I,I,I,I,I,I,I,I,I,I,I,I,I,I,I,I,I,I,I,I,I,I,I,I,I,I,I,I,I,I,I,I,I,I,I,I,I,I,I,I,I,I,I,I,I,I] HT_.out ?_
             refine iZ (gD HT_.out (by kernel_rfl)) ?_
             try go_wp2
             go_meet
             case rel=>exact ⟨_,(t210),(by first|rfl|(simp;done)|(simp [*];done)),H',⟨by have:=Hu.out;have:=Hw.out;first|omega|exact Nat.le_refl _⟩,⟨by (with_reducible repeat (first|apply aj|apply ay|apply ak));exact BF.out⟩,⟨by (with_reducible repeat (first|apply aj|apply ay|apply ak));exact BD.out⟩,⟨hb_⟩⟩
            ·exact absurd (Option.some.inj (Ga.out.symm.trans (by rw [HX0.out]; exact HFr.out HLb.out))) FI
         case rest =>
          clear FD
          try clear c1
          try clear p2
          try clear c3
          try clear c4
          try clear c13
          try clear c16
          try clear c34
          try clear IJ
          try clear c37
          try clear IK
          try clear IL
          try clear c40
          try clear FI
          obtain ⟨kq,CW,rfl,HA,Gd,BF,BD,HB⟩:=hcut
          cases kq with
          | zero=>exact absurd HA.out (by simp [aC.j2])
          | succ Gf =>
           have H:=HA.out
           clear HA
           simp only [aC.j2] at H
           by_cases c148 : CW = 0
           ·rw [if_pos c148] at H
            have c148b0 : (CW == 0) = true:=beq_iff_eq.mpr c148
            have c148b1 : (CW != 0) = false:=bne_eq_false_iff_eq.mpr c148
            clear c148
            replace H:=Option.bind_eq_some_iff.mp H
            obtain ⟨CY,Fz,H⟩:=H
            replace H : (if CY = 0 then (aC.l0 Gf Bz (Bz.length : Int) (wrap64 (Bw + 1))) else (some CY)) = some r:=H
            have Gg:=Aside0.mk Fz
            clear Fz
            by_cases Dv : CY = 0
            ·rw [if_pos Dv] at H
             have c150b0 : (CY == 0) = true:=beq_iff_eq.mpr Dv
             have c150b1 : (CY != 0) = false:=bne_eq_false_iff_eq.mpr Dv
             clear Dv
             have H':=Aside0.mk H
             clear H
             have Io:=CU.out
             have Ip:=BR.out
             have Gh : wc.cell? ⟨BG,0,none⟩ = some (.string ((au Bz Bw).f0)):=(ah BD.out 0).trans rfl
             have Gi : wc.cell? ⟨BG,1,none⟩ = some (.string ((au Bz Bw).f1)):=(ah BD.out 1).trans rfl
             have Gj : wc.cell? ⟨BG,2,none⟩ = some (.slice BP ((au Bz Bw).f2).length BQ):=(ah BD.out 2).trans rfl
             have Gl : wc.cell? ⟨BG,3,none⟩ = some (.slice BS ((au Bz Bw).f3).length BU):=(ah BD.out 3).trans rfl
             have Gm : wc.cell? ⟨BG,4,none⟩ = some (.int .i64 ((au Bz Bw).f4)):=(ah BD.out 4).trans rfl
             have Gn : wc.cell? ⟨BG,5,none⟩ = some (.int .i64 ((au Bz Bw).f5)):=(ah BD.out 5).trans rfl
             have Gp : wc.cell? ⟨BG,6,none⟩ = some (.slice Cc ((au Bz Bw).f6).length Ce):=(ah BD.out 6).trans rfl
             have Gq:=av BD.out 0
             have Gr:=av BD.out 1
             have Gs:=av BD.out 2
             have Gt:=av BD.out 3
             have Gu:=av BD.out 4
             have Gv:=av BD.out 5
             have Gw:=av BD.out 6
             go_wp2_with (first|((with_reducible refine bG (f:=108) rfl ?_);refine dJ (some 111) rfl rfl Tryz.func108 (by kernel_rfl) rfl #[.agg #[.string ((au Bz Bw).f0),.string ((au Bz Bw).f1),.slice BP ((au Bz Bw).f2).length BQ,.slice BS ((au Bz Bw).f3).length BU,.int .i64 ((au Bz Bw).f4),.int .i64 ((au Bz Bw).f5),.slice Cc ((au Bz Bw).f6).length Ce]] rfl (by (try simp only [List.map_toArray,List.map_cons,List.map_nil]);first|done|rfl|(simp only [List.length_drop,List.length_take];rfl)|(simp (disch:=first|omega|(simp at *;omega)) only [dK,bW,eG];rfl)) ?_;(with_reducible refine (fM.calls ((au Bz Bw).f0) ((au Bz Bw).f1) _ _ ((au Bz Bw).f2) _ _ ((au Bz Bw).f3) ((au Bz Bw).f4) ((au Bz Bw).f5) _ _ ((au Bz Bw).f6) CY _ ?Dc ?Df ?Ei ?Ej ?El ?Em Gg.out).mono ?_);(case Dc=>repeat (first|exact (Kd.bJ DK.out HB.out)|(with_reducible refine Kd.bH ?_ _)|(with_reducible refine Kd.bX ?_ _)|(with_reducible refine Kd.dA ?_)));(case Df=>exact DL.out);(case Ei=>repeat (first|exact (Kd.bJ DN.out HB.out)|(with_reducible refine Kd.bH ?_ _)|(with_reducible refine Kd.bX ?_ _)|(with_reducible refine Kd.dA ?_)));(case Ej=>exact DR.out);(case El=>repeat (first|exact (Kd.bJ DT.out HB.out)|(with_reducible refine Kd.bH ?_ _)|(with_reducible refine Kd.bX ?_ _)|(with_reducible refine Kd.dA ?_)));(case Em=>exact DU.out);rintro e Jl ⟨rfl,hb⟩;refine ⟨_,rfl,?_⟩;have CF:=Aside0.mk (aJ (g:=BO) (o:=.cells #[.string BL,.string BJ,.int .i64 BH,.int .i64 BK,.bool BN,.slice (some CV) Bz.length Cv] 77 (0,0)) (bk_ BF.out) hb);have CG:=Aside0.mk (aJ (g:=BG) (o:=.cells #[.string ((au Bz Bw).f0),.string ((au Bz Bw).f1),.slice BP ((au Bz Bw).f2).length BQ,.slice BS ((au Bz Bw).f3).length BU,.int .i64 ((au Bz Bw).f4),.int .i64 ((au Bz Bw).f5),.slice Cc ((au Bz Bw).f6).length Ce] 84 (0,0)) (bk_ BD.out) hb);have CS:=Aside0.mk (aN hb_ hb);clear BF;clear BD;clear HB;have BF:=CF;have BD:=CG;have HB:=CS;clear CF CG CS;(try clear hb);(try clear hb2);(try clear hk);(try clear hi)))
             go_roundg Gf
             case measure=>have:=Hu.out;have:=Hw.out;have:=Gd.out;omega
             case rel=>exact ⟨(wrap64 (Bw + 1)),(by first|rfl|(simp;done)|(simp [*];done)),H',⟨by have:=Hu.out;have:=Hw.out;have:=Gd.out;omega⟩,⟨by rw [HX0.out, w01]; decide⟩,⟨fun h => absurd h (by rw [HX0.out, w01]; decide)⟩,⟨by (with_reducible repeat (first|apply aj|apply ay|apply ak));exact BF.out⟩,⟨hb_⟩⟩
            ·rw [if_neg Dv] at H
             have c150b0 : (CY == 0) = false:=beq_eq_false_iff_ne.mpr Dv
             have c150b1 : (CY != 0) = true:=bne_iff_ne.mpr Dv
             obtain rfl:=Option.some.inj H
             have Iq:=CU.out
             have Ir:=BR.out
             have Gx : wc.cell? ⟨BG,0,none⟩ = some (.string ((au Bz Bw).f0)):=(ah BD.out 0).trans rfl
             have Gy : wc.cell? ⟨BG,1,none⟩ = some (.string ((au Bz Bw).f1)):=(ah BD.out 1).trans rfl
             have Gz : wc.cell? ⟨BG,2,none⟩ = some (.slice BP ((au Bz Bw).f2).length BQ):=(ah BD.out 2).trans rfl
             have GA : wc.cell? ⟨BG,3,none⟩ = some (.slice BS ((au Bz Bw).f3).length BU):=(ah BD.out 3).trans rfl
             have GD : wc.cell? ⟨BG,4,none⟩ = some (.int .i64 ((au Bz Bw).f4)):=(ah BD.out 4).trans rfl
             have GI : wc.cell? ⟨BG,5,none⟩ = some (.int .i64 ((au Bz Bw).f5)):=(ah BD.out 5).trans rfl
             have GJ : wc.cell? ⟨BG,6,none⟩ = some (.slice Cc ((au Bz Bw).f6).length Ce):=(ah BD.out 6).trans rfl
             have GK:=av BD.out 0
             have GL:=av BD.out 1
             have GN:=av BD.out 2
             have GQ:=av BD.out 3
             have GR:=av BD.out 4
             have GU:=av BD.out 5
             have GV:=av BD.out 6
             go_wp2_with (first|((with_reducible refine bG (f:=108) rfl ?_);refine dJ (some 111) rfl rfl Tryz.func108 (by kernel_rfl) rfl #[.agg #[.string ((au Bz Bw).f0),.string ((au Bz Bw).f1),.slice BP ((au Bz Bw).f2).length BQ,.slice BS ((au Bz Bw).f3).length BU,.int .i64 ((au Bz Bw).f4),.int .i64 ((au Bz Bw).f5),.slice Cc ((au Bz Bw).f6).length Ce]] rfl (by (try simp only [List.map_toArray,List.map_cons,List.map_nil]);first|done|rfl|(simp only [List.length_drop,List.length_take];rfl)|(simp (disch:=first|omega|(simp at *;omega)) only [dK,bW,eG];rfl)) ?_;(with_reducible refine (fM.calls ((au Bz Bw).f0) ((au Bz Bw).f1) _ _ ((au Bz Bw).f2) _ _ ((au Bz Bw).f3) ((au Bz Bw).f4) ((au Bz Bw).f5) _ _ ((au Bz Bw).f6) CY _ ?Dc ?Df ?Ei ?Ej ?El ?Em Gg.out).mono ?_);(case Dc=>repeat (first|exact (Kd.bJ DK.out HB.out)|(with_reducible refine Kd.bH ?_ _)|(with_reducible refine Kd.bX ?_ _)|(with_reducible refine Kd.dA ?_)));(case Df=>exact DL.out);(case Ei=>repeat (first|exact (Kd.bJ DN.out HB.out)|(with_reducible refine Kd.bH ?_ _)|(with_reducible refine Kd.bX ?_ _)|(with_reducible refine Kd.dA ?_)));(case Ej=>exact DR.out);(case El=>repeat (first|exact (Kd.bJ DT.out HB.out)|(with_reducible refine Kd.bH ?_ _)|(with_reducible refine Kd.bX ?_ _)|(with_reducible refine Kd.dA ?_)));(case Em=>exact DU.out);rintro e Jm ⟨rfl,hb⟩;refine ⟨_,rfl,?_⟩;have CF:=Aside0.mk (aJ (g:=BO) (o:=.cells #[.string BL,.string BJ,.int .i64 BH,.int .i64 BK,.bool BN,.slice (some CV) Bz.length Cv] 77 (0,0)) (bk_ BF.out) hb);have CG:=Aside0.mk (aJ (g:=BG) (o:=.cells #[.string ((au Bz Bw).f0),.string ((au Bz Bw).f1),.slice BP ((au Bz Bw).f2).length BQ,.slice BS ((au Bz Bw).f3).length BU,.int .i64 ((au Bz Bw).f4),.int .i64 ((au Bz Bw).f5),.slice Cc ((au Bz Bw).f6).length Ce] 84 (0,0)) (bk_ BD.out) hb);have CS:=Aside0.mk (aN hb_ hb);clear BF;clear BD;clear HB;have BF:=CF;have BD:=CG;have HB:=CS;clear CF CG CS;(try clear hb);(try clear hb2);(try clear hk);(try clear hi)))
             go_ret
             exact ⟨by first|rfl|(simp [bg,bA] <;> rfl)|(simp [*,bg,bA] <;> rfl),hb_⟩
           ·rw [if_neg c148] at H
            have c148b0 : (CW == 0) = false:=beq_eq_false_iff_ne.mpr c148
            have c148b1 : (CW != 0) = true:=bne_iff_ne.mpr c148
            obtain rfl:=Option.some.inj H
            go_wp2
            go_ret
            exact ⟨by first|rfl|(simp [bg,bA] <;> rfl)|(simp [*,bg,bA] <;> rfl),hb_⟩
        ·rw [if_neg G9] at H
         exact absurd H (by simp)
       ·rw [if_neg G8] at H
        exact absurd H (by simp)
      ·rw [if_neg FL] at H
       have c77b0 : decide (Bw < (Bz.length : Int)) = false:=decide_eq_false FL
       clear FL
       obtain rfl:=Option.some.inj H
       go_wp2
       go_ret
       exact ⟨by first|rfl|(simp [bg,bA] <;> rfl)|(simp [*,bg,bA] <;> rfl),hb_⟩
   ·rw [if_neg c75] at H
    have c75b0 : (Di == 0) = false:=beq_eq_false_iff_ne.mpr c75
    have c75b1 : (Di != 0) = true:=bne_iff_ne.mpr c75
    obtain rfl:=Option.some.inj H
    go_wp2
    go_ret
    exact ⟨by first|rfl|(simp [bg,bA] <;> rfl)|(simp [*,bg,bA] <;> rfl),hb_⟩
end Go.Proofs.YtpncpefppifgdaaGreatDoor.GUt
