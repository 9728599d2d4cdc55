/- spec.Pod.Check of a pod of one container without lists: its contract, in terms of plain functions. Printed by this session's own program for a pretended function without its map, and mended. No conditions beside those stated. -/
import Derived.Test.YtpflenjhmeaeoaaDoorCp
import Derived.Test.YtpflenjhmeaeoaaDoorGUtName
import Derived.Test.YtpflenjhmeaeoaaDoorGUtx8
import Derived.Test.YtpflenjhmeaeoaaDoorGUtParts
namespace Go.Proofs.YtpflenjhmeaeoaaDoor.GUt
open Go.RowKit Go.Maps Go.WideMaps Go.Proofs.YtpflenjhmeaeoaaDoorW.PrintWords Go.Proofs.YtpflenjhmeaeoaaDoorW.PrintLast Go.Proofs.YtpflenjhmeaeoaaDoorW.PrintMore
set_option linter.unusedVariables false
set_option linter.unusedSimpArgs false
theorem w01 : wrap64 ((0 : Int) + 1) = 1 := by rw [bS (by omega) (by omega)]; rfl
theorem rV : Keyed Tryd.prog 9 := string_keyed Tryd.underlying9
theorem xP (w : World) : (zeroValue 3).run Tryd.prog w = .ok (.int .i64 0) w := by kernel_rfl
theorem oW {w w' : World} {P : Program} {k : TypeId} {R : Value → Option (DataW Unit × List MemPlace)} {b n : Nat} {D : DataW Unit} (h : w.ownsMap P k R b n D) (hb : Below w.heap.size w w') : w'.ownsMap P k R b n D := by
  have hlt := h.lt
  obtain ⟨es, clock, hh, F, hs, hD⟩ := h
  exact ⟨es, clock, (hb.block b hlt).trans hh, F, hs, hD⟩
theorem qR {w : World} {P : Program} {k : TypeId} {R : Value → Option (DataW Unit × List MemPlace)} {b n g : Nat} {D : DataW Unit} (h : w.ownsMap P k R b n D) (hne : b ≠ g) (j : Nat) (u : Value) : (w.setCell ⟨g, j, none⟩ u).ownsMap P k R b n D := by
  obtain ⟨es, clock, hh, F, hs, hD⟩ := h
  exact ⟨es, clock, (Below.heap_setCell w ⟨g, j, none⟩ u b hne).trans hh, F, hs, hD⟩
theorem sO {a b : Int} (h : (.lit (.int .i64 a) : DataW Unit) = .lit (.int .i64 b)) : a = b := by
  injection h with h
  injection h
theorem moved {W w3 : World} {g m : Nat} {o : Obj} (hg : W.grownBy w3 (some m)) (h : W.heap[g]? = some o) (hne : g ≠ m) : w3.heap[g]? = some o := (hg.block g (dn h) (fun e => hne (by injection e))).trans h
theorem xk {w : World} {b n : Nat} {D : DataW Unit} {s : ByteArray} {kl : Lit} (h : w.ownsMap Tryd.prog 9 (plainElem Tryd.prog 3) b n D) (hkey : keyOf Tryd.prog 9 (.string s) = some kl) (hat : D.atKey kl (.lit (.int .i64 0)) = .lit (.int .i64 1)) :
    ∃ o : Obj, w.heap[b]? = some o ∧ ∀ W : World, W.heap[b]? = some o → (Instr.lookup 89 (.map (some b)) (.string s) false).run Tryd.prog W = .ok (.int .i64 1) W := by
  obtain ⟨es, clock, hh, F, hs, hD⟩ := h
  refine ⟨_, hh, fun W hW => ?_⟩
  have hW' : W.ownsMap Tryd.prog 9 (plainElem Tryd.prog 3) b n D := ⟨es, clock, hW, F, hs, hD⟩
  obtain ⟨c, hrun, hc, _⟩ := hW'.lookup_int rV Tryd.underlying89 Tryd.underlying3 (xP W) hkey
  rw [hrun, sO (hc.symm.trans hat)]
theorem xq (l : List Int) : ∀ (k : Nat) (t : Int), aN.f k (13 :: l) = some t → t = 13
  | 0, t, h => by simp [aN.f, aN.l0] at h
  | k + 1, t, h => by
    rw [aN.f, aN.l0, if_pos (by simp), if_pos (by decide), if_pos (by simp)] at h
    have e : rd (13 :: l) 0 = 13 := rfl
    simp only [e] at h
    simpa using h.symm
theorem yJ {k : Nat} {a : ByteArray} {b : Bool} {t : Int} {l : List Int} (h1 : bg.f k a = some b) (h2 : aD.f (!b) 13 = some t) (h3 : aN.f k (t :: l) = some 0) : bg.f k a = some true := by
  cases b with
  | true => exact h1
  | false =>
    have e : t = 13 := by simpa [aD.f] using h2.symm
    subst e
    exact absurd (xq l k 0 h3) (by decide)
theorem vR {l : List S43} (h1 : l.length = 1) (h2 : (aj l 0).f2.length = 0) (h3 : (aj l 0).f3.length = 0) (h6 : (aj l 0).f6.length = 0) : ∀ i : Int, (aj l i).f2.length = 0 ∧ (aj l i).f3.length = 0 ∧ (aj l i).f6.length = 0 := fun i => by
  by_cases hi : i.toNat = 0
  · have e : aj l i = aj l 0 := by unfold aj; rw [hi]; rfl
    rw [e]; exact ⟨h2, h3, h6⟩
  · have e : aj l i = z43 := by unfold aj; rw [List.getD_eq_getElem?_getD, List.getElem?_eq_none (by omega)]; rfl
    rw [e]; exact ⟨rfl, rfl, rfl⟩
mutual
def av.j0 : Nat → Int → ByteArray → ByteArray → Int → Int → Bool → List (S43) → Option (Int)
 | 0,_,_,_,_,_,_,_=>none
 | k + 1,x3,Ga,Gb,Gc,Gd,Gf,CF=>if x3 = 0 then (av.l0 k CF (CF.length : Int) 0) else (some x3)
def av.l0 : Nat → List (S43) → Int → Int → Option (Int)
 | 0,_,_,_=>none
 | k + 1,Bg,Dx,AY=>if AY < Dx then (if 0 ≤ AY then (if AY < (Bg.length : Int) then ((bg.f k ((aj Bg AY).f0)).bind fun CZ=>((aD.f (!CZ) 13).bind fun Aw=>((aD.f (decide (1 > 1)) 8).bind fun t171=>((bD.f k ((aj Bg AY).f1)).bind fun BX=>((aD.f (!BX) 6).bind fun t173=>((bK.f (((aj Bg AY).f2).length : Int)).bind fun BK=>(if BK = true then ((aD.f true 18).bind fun t175=>((bE.f ((aj Bg AY).f4) 64000).bind fun BL=>(if BL = true then ((bE.f ((aj Bg AY).f5) 1048576).bind fun BN=>((aD.f (!BN) 7).bind fun BO=>((aN.f k (([Aw,t171,t173,t175,BO] : List Int))).bind fun t182=>(av.j2 k t182 Bg Dx AY ((aj Bg AY).f0) ((aj Bg AY).f1) ((aj Bg AY).f2) ((aj Bg AY).f3) ((aj Bg AY).f4) ((aj Bg AY).f5) ((aj Bg AY).f6))))) else ((aD.f true 7).bind fun t183=>((aN.f k (([Aw,t171,t173,t175,t183] : List Int))).bind fun BP=>(av.j2 k BP Bg Dx AY ((aj Bg AY).f0) ((aj Bg AY).f1) ((aj Bg AY).f2) ((aj Bg AY).f3) ((aj Bg AY).f4) ((aj Bg AY).f5) ((aj Bg AY).f6))))))) else ((bK.f (((aj Bg AY).f3).length : Int)).bind fun Bv=>(if Bv = true then ((aD.f true 18).bind fun Bl=>((bE.f ((aj Bg AY).f4) 64000).bind fun Bz=>(if Bz = true then ((bE.f ((aj Bg AY).f5) 1048576).bind fun BD=>((aD.f (!BD) 7).bind fun BF=>((aN.f k (([Aw,t171,t173,Bl,BF] : List Int))).bind fun t196=>(av.j2 k t196 Bg Dx AY ((aj Bg AY).f0) ((aj Bg AY).f1) ((aj Bg AY).f2) ((aj Bg AY).f3) ((aj Bg AY).f4) ((aj Bg AY).f5) ((aj Bg AY).f6))))) else ((aD.f true 7).bind fun BG=>((aN.f k (([Aw,t171,t173,Bl,BG] : List Int))).bind fun t201=>(av.j2 k t201 Bg Dx AY ((aj Bg AY).f0) ((aj Bg AY).f1) ((aj Bg AY).f2) ((aj Bg AY).f3) ((aj Bg AY).f4) ((aj Bg AY).f5) ((aj Bg AY).f6))))))) else ((bK.f (((aj Bg AY).f6).length : Int)).bind fun Br=>((aD.f Br 18).bind fun t203=>((bE.f ((aj Bg AY).f4) 64000).bind fun Bn=>(if Bn = true then ((bE.f ((aj Bg AY).f5) 1048576).bind fun AX=>((aD.f (!AX) 7).bind fun t206=>((aN.f k (([Aw,t171,t173,t203,t206] : List Int))).bind fun t210=>(av.j2 k t210 Bg Dx AY ((aj Bg AY).f0) ((aj Bg AY).f1) ((aj Bg AY).f2) ((aj Bg AY).f3) ((aj Bg AY).f4) ((aj Bg AY).f5) ((aj Bg AY).f6))))) else ((aD.f true 7).bind fun Bo=>((aN.f k (([Aw,t171,t173,t203,Bo] : List Int))).bind fun Bp=>(av.j2 k Bp Bg Dx AY ((aj Bg AY).f0) ((aj Bg AY).f1) ((aj Bg AY).f2) ((aj Bg AY).f3) ((aj Bg AY).f4) ((aj Bg AY).f5) ((aj Bg AY).f6))))))))))))))))) else (none)) else (none)) else (some 0)
def av.j2 : Nat → Int → List (S43) → Int → Int → ByteArray → ByteArray → List ByteArray → List (S46) → Int → Int → List (S82) → Option (Int)
 | 0,_,_,_,_,_,_,_,_,_,_,_=>none
 | k + 1,x7,Bg,Dx,AY,Dy,Dz,DC,DF,DI,DJ,DK=>if x7 = 0 then ((fM.f Dy Dz DC DF DI DJ DK).bind fun BZ=>(if BZ = 0 then (av.l0 k Bg Dx (wrap64 (AY + 1))) else (some BZ))) else (some x7)
end
def av.g (k : Nat) (AA : ByteArray) (Ay : ByteArray) (Au : Int) (Az : Int) (AB : Bool) (Am : List (S43)) : Option (Int):=(dZ.f k AA).bind fun C8=>(if C8 = true then ((bg.f k Ay).bind fun Ca=>((aD.f (!Ca) 13).bind fun AV=>(if Au < 0 then ((aD.f true 7).bind fun t116=>((aD.f ((Am.length : Int) == 0) 16).bind fun t117=>((bK.f (Am.length : Int)).bind fun Cb=>((aD.f Cb 18).bind fun t119=>((aN.f k (([AV,t116,t117,t119] : List Int))).bind fun Cc=>(av.j0 k Cc AA Ay Au Az AB Am)))))) else (if Au > 2 then ((aD.f true 7).bind fun t124=>((aD.f ((Am.length : Int) == 0) 16).bind fun Ce=>((bK.f (Am.length : Int)).bind fun Cg=>((aD.f Cg 18).bind fun t127=>((aN.f k (([AV,t124,Ce,t127] : List Int))).bind fun t131=>(av.j0 k t131 AA Ay Au Az AB Am)))))) else ((bE.f Az 3600).bind fun BH=>((aD.f (!BH) 7).bind fun Bt=>((aD.f ((Am.length : Int) == 0) 16).bind fun Bq=>((bK.f (Am.length : Int)).bind fun Bu=>((aD.f Bu 18).bind fun Bh=>((aN.f k (([AV,Bt,Bq,Bh] : List Int))).bind fun Bj=>(av.j0 k Bj AA Ay Au Az AB Am))))))))))) else ((aD.f true 13).bind fun t141=>(if Au < 0 then ((aD.f true 7).bind fun Db=>((aD.f ((Am.length : Int) == 0) 16).bind fun t143=>((bK.f (Am.length : Int)).bind fun Dc=>((aD.f Dc 18).bind fun t145=>((aN.f k (([t141,Db,t143,t145] : List Int))).bind fun Df=>(av.j0 k Df AA Ay Au Az AB Am)))))) else (if Au > 2 then ((aD.f true 7).bind fun Dh=>((aD.f ((Am.length : Int) == 0) 16).bind fun Di=>((bK.f (Am.length : Int)).bind fun t152=>((aD.f t152 18).bind fun Dj=>((aN.f k (([t141,Dh,Di,Dj] : List Int))).bind fun t157=>(av.j0 k t157 AA Ay Au Az AB Am)))))) else ((bE.f Az 3600).bind fun Dk=>((aD.f (!Dk) 7).bind fun t159=>((aD.f ((Am.length : Int) == 0) 16).bind fun t160=>((bK.f (Am.length : Int)).bind fun Dl=>((aD.f Dl 18).bind fun t162=>((aN.f k (([t141,t159,t160,t162] : List Int))).bind fun Dm=>(av.j0 k Dm AA Ay Au Az AB Am)))))))))))
theorem av.dV : ∀ k,(∀ y0 y1 y2 y3 y4 y5 y6,LeO (av.j0 k y0 y1 y2 y3 y4 y5 y6) (av.j0 (k + 1) y0 y1 y2 y3 y4 y5 y6)) ∧ (∀ y0 y1 y2,LeO (av.l0 k y0 y1 y2) (av.l0 (k + 1) y0 y1 y2)) ∧ (∀ y0 y1 y2 y3 y4 y5 y6 y7 y8 y9 Gj,LeO (av.j2 k y0 y1 y2 y3 y4 y5 y6 y7 y8 y9 Gj) (av.j2 (k + 1) y0 y1 y2 y3 y4 y5 y6 y7 y8 y9 Gj))
 | 0=>⟨fun _ _ _ _ _ _ _ r h=>by simp [av.j0] at h,fun _ _ _ r h=>by simp [av.l0] at h,fun _ _ _ _ _ _ _ _ _ _ _ r h=>by simp [av.j2] at h⟩
 | k + 1=>by
  obtain ⟨DL,ih1,ih2⟩:=av.dV k
  refine ⟨?_,?_,?_⟩
  ·intro y0 y1 y2 y3 y4 y5 y6
   unfold av.j0
   repeat' first
   | (with_reducible exact DL _ _ _ _ _ _ _)
   | (with_reducible exact ih1 _ _ _)
   | (with_reducible exact ih2 _ _ _ _ _ _ _ _ _ _ _)
   | (with_reducible exact bD.mono _ _)
   | (with_reducible exact bg.mono _ _)
   | (with_reducible exact dZ.mono _ _)
   | (with_reducible exact aN.mono _ _)
   | (with_reducible exact LeO.refl _)
   | (with_reducible exact LeO.none _)
   | (with_reducible refine LeO.ite ?_ ?_)
   | (with_reducible refine LeO.bind ?_ (fun _=>?_))
   | exact DL _ _ _ _ _ _ _
   | exact ih1 _ _ _
   | exact ih2 _ _ _ _ _ _ _ _ _ _ _
   | exact bD.mono _ _
   | exact bg.mono _ _
   | exact dZ.mono _ _
   | exact aN.mono _ _
   | exact LeO.none _
   | refine LeO.ite ?_ ?_
   | refine LeO.bind ?_ (fun _=>?_)
  ·intro y0 y1 y2
   unfold av.l0
   repeat' first
   | (with_reducible exact DL _ _ _ _ _ _ _)
   | (with_reducible exact ih1 _ _ _)
   | (with_reducible exact ih2 _ _ _ _ _ _ _ _ _ _ _)
   | (with_reducible exact bD.mono _ _)
   | (with_reducible exact bg.mono _ _)
   | (with_reducible exact dZ.mono _ _)
   | (with_reducible exact aN.mono _ _)
   | (with_reducible exact LeO.refl _)
   | (with_reducible exact LeO.none _)
   | (with_reducible refine LeO.ite ?_ ?_)
   | (with_reducible refine LeO.bind ?_ (fun _=>?_))
   | exact DL _ _ _ _ _ _ _
   | exact ih1 _ _ _
   | exact ih2 _ _ _ _ _ _ _ _ _ _ _
   | exact bD.mono _ _
   | exact bg.mono _ _
   | exact dZ.mono _ _
   | exact aN.mono _ _
   | exact LeO.none _
   | refine LeO.ite ?_ ?_
   | refine LeO.bind ?_ (fun _=>?_)
  ·intro y0 y1 y2 y3 y4 y5 y6 y7 y8 y9 Gj
   unfold av.j2
   repeat' first
   | (with_reducible exact DL _ _ _ _ _ _ _)
   | (with_reducible exact ih1 _ _ _)
   | (with_reducible exact ih2 _ _ _ _ _ _ _ _ _ _ _)
   | (with_reducible exact bD.mono _ _)
   | (with_reducible exact bg.mono _ _)
   | (with_reducible exact dZ.mono _ _)
   | (with_reducible exact aN.mono _ _)
   | (with_reducible exact LeO.refl _)
   | (with_reducible exact LeO.none _)
   | (with_reducible refine LeO.ite ?_ ?_)
   | (with_reducible refine LeO.bind ?_ (fun _=>?_))
   | exact DL _ _ _ _ _ _ _
   | exact ih1 _ _ _
   | exact ih2 _ _ _ _ _ _ _ _ _ _ _
   | exact bD.mono _ _
   | exact bg.mono _ _
   | exact dZ.mono _ _
   | exact aN.mono _ _
   | exact LeO.none _
   | refine LeO.ite ?_ ?_
   | refine LeO.bind ?_ (fun _=>?_)
theorem av.zM : ∀ a0 a1 a2 a3 a4 a5 k,LeO (av.g k a0 a1 a2 a3 a4 a5) (av.g (k + 1) a0 a1 a2 a3 a4 a5):=by
 intro a0 a1 a2 a3 a4 a5 k
 obtain ⟨DL,ih1,ih2⟩:=av.dV k
 unfold av.g
 repeat' first
   | (with_reducible exact DL _ _ _ _ _ _ _)
   | (with_reducible exact ih1 _ _ _)
   | (with_reducible exact ih2 _ _ _ _ _ _ _ _ _ _ _)
   | (with_reducible exact bD.mono _ _)
   | (with_reducible exact bg.mono _ _)
   | (with_reducible exact dZ.mono _ _)
   | (with_reducible exact aN.mono _ _)
   | (with_reducible exact LeO.refl _)
   | (with_reducible exact LeO.none _)
   | (with_reducible refine LeO.ite ?_ ?_)
   | (with_reducible refine LeO.bind ?_ (fun _=>?_))
   | exact DL _ _ _ _ _ _ _
   | exact ih1 _ _ _
   | exact ih2 _ _ _ _ _ _ _ _ _ _ _
   | exact bD.mono _ _
   | exact bg.mono _ _
   | exact dZ.mono _ _
   | exact aN.mono _ _
   | exact LeO.none _
   | refine LeO.ite ?_ ?_
   | refine LeO.bind ?_ (fun _=>?_)
def av.Ok (k : Nat) (AA Ay : ByteArray) (Au : Int) (Am : List (S43)) : Prop := dZ.f k AA = some true ∧ Au = 0 ∧ Am.length = 1 ∧ (aj Am 0).f2.length = 0 ∧ (aj Am 0).f3.length = 0 ∧ (aj Am 0).f6.length = 0 ∧ (bg.f k Ay = some true → bE.f (aj Am 0).f4 64000 = some true) ∧ (aj Am 0).f0.size ≤ 1000000000
instance (k : Nat) (AA Ay : ByteArray) (Au : Int) (Am : List (S43)) : Decidable (av.Ok k AA Ay Au Am) := by unfold av.Ok; infer_instance
def av.f (k : Nat) (AA : ByteArray) (Ay : ByteArray) (Au : Int) (Az : Int) (AB : Bool) (Am : List (S43)) : Option (Int) := if av.Ok k AA Ay Au Am then av.g k AA Ay Au Az AB Am else none
theorem av.mono : ∀ a0 a1 a2 a3 a4 a5 k, LeO (av.f k a0 a1 a2 a3 a4 a5) (av.f (k + 1) a0 a1 a2 a3 a4 a5) := fun a0 a1 a2 a3 a4 a5 k r h => by
  unfold av.f at h ⊢
  split at h
  case isFalse => cases h
  rename_i hc
  have hb : ∃ b, bg.f k a1 = some b := by
    unfold av.g at h
    rw [hc.1, Option.bind_some, if_pos rfl] at h
    obtain ⟨b, hb, _⟩ := Option.bind_eq_some_iff.1 h
    exact ⟨b, hb⟩
  obtain ⟨b, hb⟩ := hb
  have hb' := bg.mono _ _ _ hb
  rw [if_pos (show av.Ok (k + 1) a0 a1 a2 a5 from ⟨dZ.mono _ _ _ hc.1, hc.2.1, hc.2.2.1, hc.2.2.2.1, hc.2.2.2.2.1, hc.2.2.2.2.2.1, fun h => hc.2.2.2.2.2.2.1 (by rw [hb'] at h; rw [hb]; exact h), hc.2.2.2.2.2.2.2⟩)]
  exact av.zM _ _ _ _ _ _ _ _ h
def av.T1 : Bool × List (List Nat × List Nat):=(true,[([],[]),([0],[0]),([1],[1]),([2],[2]),([3,2],[3]),([4],[4]),([5,4],[4,5]),([6,4,4],[4,6]),([7,4],[4,7]),([4,8],[4,8]),([9,7],[9]),([],[]),([11],[11]),([12],[12]),([13,10],[13]),([14],[14]),([15,14],[14,15]),([16,14],[14,16]),([14,17],[14,17]),([18,14],[18]),([19],[19]),([20,19],[19,20]),([21,19,19],[19,21]),([22,19],[19,22]),([19,23],[19,23]),([24,22],[24]),([],[]),([26],[26]),([27],[27]),([28],[28]),([29,25],[29]),([],[]),([31],[31]),([32],[32]),([33,30],[33]),([34,34],[34]),([10,25,30,35],[10,25,30,35]),([36,35],[36]),([37,37,0,1,2,3,4,5,6,7,8,9,10,11,12,13,14,15,16,17,18,19,20,21,22,23,24,25,26,27,28,29,30,31,32,33,34,35,36,37],[37])])
def av.B1 : List Nat:=[0,1,3,7,15,31,63,127,255,511,1023,0,2048,6144,16383,32767,65535,131071,262143,524287,1048575,2097151,4194303,8388607,16777215,33554431,0,67108864,201326592,469762048,1073741823,0,2147483648,6442450944,17179869183,34359738367,68719476735,137438953471,274877906943]
theorem av.yK : gM .any (opsOf Tryd.f10 1) = av.T1:=by kernel_rfl
theorem av.vS : eY av.T1.2 av.B1 = true:=by kernel_rfl
def av.T9 : Bool × List (List Nat × List Nat) := (true, [([], []), ([0], [0]), ([1], [1]), ([2], [2]), ([3, 2], [3]), ([], []), ([], []), ([6], [6]), ([5, 7], [5, 7]), ([8], [8]), ([9, 4], [9]), ([], []), ([11], [11]), ([12, 10], [12]), ([13], [13]), ([14, 13], [14]), ([], []), ([16], [16]), ([17], [17]), ([18, 15], [18]), ([19, 19], [19]), ([20], [20]), ([21, 20], [20, 21]), ([22, 20], [20, 22]), ([23, 20, 20], [20, 23]), ([20, 24], [20, 24]), ([25, 24], [25]), ([26], [26]), ([27, 26], [26, 27]), ([28, 26], [26, 28]), ([29, 26, 26], [26, 29]), ([26, 30], [26, 30]), ([31, 30], [31]), ([], []), ([33], [33]), ([34, 32], [34]), ([35], [35]), ([36, 35], [36]), ([37], [37]), ([38, 37], [37, 38]), ([39, 37, 37], [37, 39]), ([40, 37], [37, 40]), ([37, 41], [37, 41]), ([42, 40], [42]), ([4, 10, 15, 32, 43], [4, 10, 15, 32, 43]), ([44, 43], [44]), ([45, 45, 0, 1, 2, 3, 4, 5, 6, 7, 8, 9, 10, 11, 12, 13, 14, 15, 16, 17, 18, 19, 20, 21, 22, 23, 24, 25, 26, 27, 28, 29, 30, 31, 32, 33, 34, 35, 36, 37, 38, 39, 40, 41, 42, 43, 44, 45], [45])])
def av.B9 : List Nat := [0, 1, 3, 7, 15, 0, 0, 64, 224, 480, 1023, 0, 2048, 8191, 16383, 32767, 0, 65536, 196608, 524287, 1048575, 2097151, 4194303, 8388607, 16777215, 33554431, 67108863, 134217727, 268435455, 536870911, 1073741823, 2147483647, 4294967295, 0, 8589934592, 34359738367, 68719476735, 137438953471, 274877906943, 549755813887, 1099511627775, 2199023255551, 4398046511103, 8796093022207, 17592186044415, 35184372088831, 70368744177663]
theorem av.rM : gM .any (opsOf Tryd.f10 9) = av.T9:=by kernel_rfl
theorem av.oz : eY av.T9.2 av.B9 = true:=by kernel_rfl
set_option maxHeartbeats 8000000 in
set_option maxRecDepth 100000 in
theorem av.calls (k : Nat) (AA : ByteArray) (Ay : ByteArray) (Au : Int) (Az : Int) (AB : Bool) (Cj : Option Addr) (Bw : Nat) (Am : List (S43)) (r : Int) (w : World) (Ep : Kd.C k43 w Cj Am.length Am) (Er : Am.length ≤ Bw) (h : av.f k AA Ay Au Az AB Am = some r) :
  Calls Tryd.prog 10 #[.agg #[.string AA,.string Ay,.int .i64 Au,.int .i64 Az,.bool AB,.slice Cj Am.length Bw]] w fun e w'=>e = .returned (.int .i64 r) ∧ Below w.heap.size w w':=by
 have Ib:=Tryd.underlying25
 have Ic:=Tryd.underlying43
 have EP:=Aside0.mk Ep
 have G8:=Aside0.mk Er
 clear Ep Er
 unfold av.f at h
 split at h
 case isFalse => cases h
 rename_i hcond
 obtain ⟨hnm, hz2, hl1, he2, G9, He, hfr, hsz⟩ := hcond
 have HNm := Aside0.mk hnm
 have HZ2 := Aside0.mk hz2
 have Ie := Aside0.mk hl1
 have HFr := Aside0.mk hfr
 have HSz := Aside0.mk hsz
 have HE := Aside0.mk (vR hl1 he2 G9 He)
 clear hnm hz2 hl1 he2 G9 He hfr hsz
 have HB:=Aside0.mk (Below.refl w.heap.size w)
 have H : ((dZ.f k AA).bind fun C8=>(if C8 = true then ((bg.f k Ay).bind fun Ca=>((aD.f (!Ca) 13).bind fun AV=>(if Au < 0 then ((aD.f true 7).bind fun t116=>((aD.f ((Am.length : Int) == 0) 16).bind fun t117=>((bK.f (Am.length : Int)).bind fun Cb=>((aD.f Cb 18).bind fun t119=>((aN.f k (([AV,t116,t117,t119] : List Int))).bind fun Cc=>(av.j0 k Cc AA Ay Au Az AB Am)))))) else (if Au > 2 then ((aD.f true 7).bind fun t124=>((aD.f ((Am.length : Int) == 0) 16).bind fun Ce=>((bK.f (Am.length : Int)).bind fun Cg=>((aD.f Cg 18).bind fun t127=>((aN.f k (([AV,t124,Ce,t127] : List Int))).bind fun t131=>(av.j0 k t131 AA Ay Au Az AB Am)))))) else ((bE.f Az 3600).bind fun BH=>((aD.f (!BH) 7).bind fun Bt=>((aD.f ((Am.length : Int) == 0) 16).bind fun Bq=>((bK.f (Am.length : Int)).bind fun Bu=>((aD.f Bu 18).bind fun Bh=>((aN.f k (([AV,Bt,Bq,Bh] : List Int))).bind fun Bj=>(av.j0 k Bj AA Ay Au Az AB Am))))))))))) else ((aD.f true 13).bind fun t141=>(if Au < 0 then ((aD.f true 7).bind fun Db=>((aD.f ((Am.length : Int) == 0) 16).bind fun t143=>((bK.f (Am.length : Int)).bind fun Dc=>((aD.f Dc 18).bind fun t145=>((aN.f k (([t141,Db,t143,t145] : List Int))).bind fun Df=>(av.j0 k Df AA Ay Au Az AB Am)))))) else (if Au > 2 then ((aD.f true 7).bind fun Dh=>((aD.f ((Am.length : Int) == 0) 16).bind fun Di=>((bK.f (Am.length : Int)).bind fun t152=>((aD.f t152 18).bind fun Dj=>((aN.f k (([t141,Dh,Di,Dj] : List Int))).bind fun t157=>(av.j0 k t157 AA Ay Au Az AB Am)))))) else ((bE.f Az 3600).bind fun Dk=>((aD.f (!Dk) 7).bind fun t159=>((aD.f ((Am.length : Int) == 0) 16).bind fun t160=>((bK.f (Am.length : Int)).bind fun Dl=>((aD.f Dl 18).bind fun t162=>((aN.f k (([t141,t159,t160,t162] : List Int))).bind fun Dm=>(av.j0 k Dm AA Ay Au Az AB Am)))))))))))) = some r:=h
 clear h
 have Gl:=Aside0.mk H
 clear H
 go_enter Tryd.func10,Tryd.ntmps10
 go_upto_region 1 with (first|((with_reducible refine dA (N:=1) rfl ?_);(try (refine gH (by rfl) ?_;dsimp only));refine dG ?hg (N:=1) ?hd (cs:=#[.string AA,.string Ay,.int .i64 Au,.int .i64 Az,.bool AB,.slice Cj Am.length Bw]) (t:=25) ?hr ?_;(case hd=>rfl);(case hg=>rfl);(case hr=>first|(go_simp;done)|(go_simp;rfl));intro AJ hg w3 hbox hb;have BI:=Aside0.mk (aJ hb_ hb);have BJ:=Aside0.mk (hbox);have BQ:=Aside0.mk ((by rw [hg];exact (aY hb_) : w.heap.size ≤ AJ));have C9:=Aside0.mk ((by rw [hg];exact (aY hb_) : w.heap.size ≤ AJ));clear HB;have HB:=BI;have Ap:=BJ;have Hf:=BQ;have Hg:=C9;clear BI BJ BQ C9;clear hb hbox hg))
 (try simp only [Act.put,List.setIfInBounds_toArray,List.set_cons_zero,List.set_cons_succ])
 go_cut [3] (fun v3 wc=>∃ (kq : Nat) (Ck : Int),v3 = .int .i64 Ck ∧ Aside0 (av.j0 kq Ck AA Ay Au Az AB Am = some r) ∧ Aside0 (kq ≤ k) ∧ Aside0 (Ck = 0 → bg.f k Ay = some true) ∧ Aside0 (wc.heap[AJ]? = some (.cells #[.string AA,.string Ay,.int .i64 Au,.int .i64 Az,.bool AB,(.slice Cj Am.length Bw)] 25 (0,0))) ∧ Aside0 (Below w.heap.size w wc))
 case first =>
  have H:=Gl.out
  clear Gl
  replace H:=Option.bind_eq_some_iff.mp H
  obtain ⟨C8,Hl,H⟩:=H
  replace H : (if C8 = true then ((bg.f k Ay).bind fun Ca=>((aD.f (!Ca) 13).bind fun AV=>(if Au < 0 then ((aD.f true 7).bind fun t116=>((aD.f ((Am.length : Int) == 0) 16).bind fun t117=>((bK.f (Am.length : Int)).bind fun Cb=>((aD.f Cb 18).bind fun t119=>((aN.f k (([AV,t116,t117,t119] : List Int))).bind fun Cc=>(av.j0 k Cc AA Ay Au Az AB Am)))))) else (if Au > 2 then ((aD.f true 7).bind fun t124=>((aD.f ((Am.length : Int) == 0) 16).bind fun Ce=>((bK.f (Am.length : Int)).bind fun Cg=>((aD.f Cg 18).bind fun t127=>((aN.f k (([AV,t124,Ce,t127] : List Int))).bind fun t131=>(av.j0 k t131 AA Ay Au Az AB Am)))))) else ((bE.f Az 3600).bind fun BH=>((aD.f (!BH) 7).bind fun Bt=>((aD.f ((Am.length : Int) == 0) 16).bind fun Bq=>((bK.f (Am.length : Int)).bind fun Bu=>((aD.f Bu 18).bind fun Bh=>((aN.f k (([AV,Bt,Bq,Bh] : List Int))).bind fun Bj=>(av.j0 k Bj AA Ay Au Az AB Am))))))))))) else ((aD.f true 13).bind fun t141=>(if Au < 0 then ((aD.f true 7).bind fun Db=>((aD.f ((Am.length : Int) == 0) 16).bind fun t143=>((bK.f (Am.length : Int)).bind fun Dc=>((aD.f Dc 18).bind fun t145=>((aN.f k (([t141,Db,t143,t145] : List Int))).bind fun Df=>(av.j0 k Df AA Ay Au Az AB Am)))))) else (if Au > 2 then ((aD.f true 7).bind fun Dh=>((aD.f ((Am.length : Int) == 0) 16).bind fun Di=>((bK.f (Am.length : Int)).bind fun t152=>((aD.f t152 18).bind fun Dj=>((aN.f k (([t141,Dh,Di,Dj] : List Int))).bind fun t157=>(av.j0 k t157 AA Ay Au Az AB Am)))))) else ((bE.f Az 3600).bind fun Dk=>((aD.f (!Dk) 7).bind fun t159=>((aD.f ((Am.length : Int) == 0) 16).bind fun t160=>((bK.f (Am.length : Int)).bind fun Dl=>((aD.f Dl 18).bind fun t162=>((aN.f k (([t141,t159,t160,t162] : List Int))).bind fun Dm=>(av.j0 k Dm AA Ay Au Az AB Am))))))))))) = some r:=H
  have A4:=Aside0.mk Hl
  clear Hl
  by_cases c5 : C8 = true
  ·subst c5
   have H1 : ((bg.f k Ay).bind fun Ca=>((aD.f (!Ca) 13).bind fun AV=>(if Au < 0 then ((aD.f true 7).bind fun t116=>((aD.f ((Am.length : Int) == 0) 16).bind fun t117=>((bK.f (Am.length : Int)).bind fun Cb=>((aD.f Cb 18).bind fun t119=>((aN.f k (([AV,t116,t117,t119] : List Int))).bind fun Cc=>(av.j0 k Cc AA Ay Au Az AB Am)))))) else (if Au > 2 then ((aD.f true 7).bind fun t124=>((aD.f ((Am.length : Int) == 0) 16).bind fun Ce=>((bK.f (Am.length : Int)).bind fun Cg=>((aD.f Cg 18).bind fun t127=>((aN.f k (([AV,t124,Ce,t127] : List Int))).bind fun t131=>(av.j0 k t131 AA Ay Au Az AB Am)))))) else ((bE.f Az 3600).bind fun BH=>((aD.f (!BH) 7).bind fun Bt=>((aD.f ((Am.length : Int) == 0) 16).bind fun Bq=>((bK.f (Am.length : Int)).bind fun Bu=>((aD.f Bu 18).bind fun Bh=>((aN.f k (([AV,Bt,Bq,Bh] : List Int))).bind fun Bj=>(av.j0 k Bj AA Ay Au Az AB Am))))))))))) = some r:=by rw [if_pos rfl] at H;exact H
   clear H
   have H:=H1
   clear H1
   replace H:=Option.bind_eq_some_iff.mp H
   obtain ⟨Ca,Ho,H⟩:=H
   replace H : ((aD.f (!Ca) 13).bind fun AV=>(if Au < 0 then ((aD.f true 7).bind fun t116=>((aD.f ((Am.length : Int) == 0) 16).bind fun t117=>((bK.f (Am.length : Int)).bind fun Cb=>((aD.f Cb 18).bind fun t119=>((aN.f k (([AV,t116,t117,t119] : List Int))).bind fun Cc=>(av.j0 k Cc AA Ay Au Az AB Am)))))) else (if Au > 2 then ((aD.f true 7).bind fun t124=>((aD.f ((Am.length : Int) == 0) 16).bind fun Ce=>((bK.f (Am.length : Int)).bind fun Cg=>((aD.f Cg 18).bind fun t127=>((aN.f k (([AV,t124,Ce,t127] : List Int))).bind fun t131=>(av.j0 k t131 AA Ay Au Az AB Am)))))) else ((bE.f Az 3600).bind fun BH=>((aD.f (!BH) 7).bind fun Bt=>((aD.f ((Am.length : Int) == 0) 16).bind fun Bq=>((bK.f (Am.length : Int)).bind fun Bu=>((aD.f Bu 18).bind fun Bh=>((aN.f k (([AV,Bt,Bq,Bh] : List Int))).bind fun Bj=>(av.j0 k Bj AA Ay Au Az AB Am)))))))))) = some r:=H
   have A6:=Aside0.mk Ho
   clear Ho
   replace H:=Option.bind_eq_some_iff.mp H
   obtain ⟨AV,Hq,H⟩:=H
   replace H : (if Au < 0 then ((aD.f true 7).bind fun t116=>((aD.f ((Am.length : Int) == 0) 16).bind fun t117=>((bK.f (Am.length : Int)).bind fun Cb=>((aD.f Cb 18).bind fun t119=>((aN.f k (([AV,t116,t117,t119] : List Int))).bind fun Cc=>(av.j0 k Cc AA Ay Au Az AB Am)))))) else (if Au > 2 then ((aD.f true 7).bind fun t124=>((aD.f ((Am.length : Int) == 0) 16).bind fun Ce=>((bK.f (Am.length : Int)).bind fun Cg=>((aD.f Cg 18).bind fun t127=>((aN.f k (([AV,t124,Ce,t127] : List Int))).bind fun t131=>(av.j0 k t131 AA Ay Au Az AB Am)))))) else ((bE.f Az 3600).bind fun BH=>((aD.f (!BH) 7).bind fun Bt=>((aD.f ((Am.length : Int) == 0) 16).bind fun Bq=>((bK.f (Am.length : Int)).bind fun Bu=>((aD.f Bu 18).bind fun Bh=>((aN.f k (([AV,Bt,Bq,Bh] : List Int))).bind fun Bj=>(av.j0 k Bj AA Ay Au Az AB Am))))))))) = some r:=H
   have A7:=Aside0.mk Hq
   clear Hq
   by_cases c8 : Au < 0
   ·exact absurd c8 (by rw [HZ2.out]; decide)
   ·rw [if_neg c8] at H
    have c8b0 : decide (Au < 0) = false:=decide_eq_false c8
    clear c8
    (first|rw [c8b0]|(simp only [bH,bI];rw [c8b0])|skip)
    by_cases c19 : Au > 2
    ·exact absurd c19 (by rw [HZ2.out]; decide)
    ·rw [if_neg c19] at H
     have c19b0 : decide (2 < Au) = false:=decide_eq_false c19
     clear c19
     replace H:=Option.bind_eq_some_iff.mp H
     obtain ⟨BH,ER,H⟩:=H
     replace H : ((aD.f (!BH) 7).bind fun Bt=>((aD.f ((Am.length : Int) == 0) 16).bind fun Bq=>((bK.f (Am.length : Int)).bind fun Bu=>((aD.f Bu 18).bind fun Bh=>((aN.f k (([AV,Bt,Bq,Bh] : List Int))).bind fun Bj=>(av.j0 k Bj AA Ay Au Az AB Am)))))) = some r:=H
     have Ig:=Aside0.mk ER
     clear ER
     replace H:=Option.bind_eq_some_iff.mp H
     obtain ⟨Bt,ES,H⟩:=H
     replace H : ((aD.f ((Am.length : Int) == 0) 16).bind fun Bq=>((bK.f (Am.length : Int)).bind fun Bu=>((aD.f Bu 18).bind fun Bh=>((aN.f k (([AV,Bt,Bq,Bh] : List Int))).bind fun Bj=>(av.j0 k Bj AA Ay Au Az AB Am))))) = some r:=H
     have Ih:=Aside0.mk ES
     clear ES
     replace H:=Option.bind_eq_some_iff.mp H
     obtain ⟨Bq,ET,H⟩:=H
     replace H : ((bK.f (Am.length : Int)).bind fun Bu=>((aD.f Bu 18).bind fun Bh=>((aN.f k (([AV,Bt,Bq,Bh] : List Int))).bind fun Bj=>(av.j0 k Bj AA Ay Au Az AB Am)))) = some r:=H
     have Ii:=Aside0.mk ET
     clear ET
     replace H:=Option.bind_eq_some_iff.mp H
     obtain ⟨Bu,EU,H⟩:=H
     replace H : ((aD.f Bu 18).bind fun Bh=>((aN.f k (([AV,Bt,Bq,Bh] : List Int))).bind fun Bj=>(av.j0 k Bj AA Ay Au Az AB Am))) = some r:=H
     have Ij:=Aside0.mk EU
     clear EU
     replace H:=Option.bind_eq_some_iff.mp H
     obtain ⟨Bh,EW,H⟩:=H
     replace H : ((aN.f k (([AV,Bt,Bq,Bh] : List Int))).bind fun Bj=>(av.j0 k Bj AA Ay Au Az AB Am)) = some r:=H
     have Ik:=Aside0.mk EW
     clear EW
     obtain ⟨EH,Cv⟩ : ∃ y_ : List Int,y_ = (([AV,Bt,Bq,Bh] : List Int)):=⟨_,rfl⟩
     replace H : ((aN.f k EH).bind fun Bj=>(av.j0 k Bj AA Ay Au Az AB Am)) = some r:=by first|(rw [Cv];with_reducible exact H)|(have EI:=(Option.bind_some _ _).symm.trans H;rw [Cv];with_reducible exact EI)|(have EI:=(Option.bind_some _ _).symm.trans H;with_reducible exact EI)|with_reducible exact H|(rw [Cv];exact H)|exact H
     have Dn:=Aside0.mk Cv
     clear Cv
     replace H:=Option.bind_eq_some_iff.mp H
     obtain ⟨Bj,EX,H⟩:=H
     replace H : (av.j0 k Bj AA Ay Au Az AB Am) = some r:=H
     have Hr:=Aside0.mk EX
     clear EX
     have H':=Aside0.mk H
     clear H
     try go_wp2
     have BI:=Aside0.mk (aG Ap.out)
     have BJ:=Aside0.mk (aZ HB.out)
     clear Ap
     clear HB
     have Ap:=BI
     have HB:=BJ
     clear BI BJ
     refine fu (n:=39) (S:=fun w'=>w'.cell? ⟨AJ,0,none⟩ = some (.string AA) ∧ w'.cell? ⟨AJ,1,none⟩ = some (.string Ay) ∧ w'.cell? ⟨AJ,2,none⟩ = some (.int .i64 Au) ∧ w'.cell? ⟨AJ,3,none⟩ = some (.int .i64 Az) ∧ w'.cell? ⟨AJ,4,none⟩ = some (.bool AB) ∧ w'.cell? ⟨AJ,5,none⟩ = some (.slice Cj Am.length Bw)) (ds:=[]) #[O,O,O,O,O,O,O,O,O,O,O,O,O,O,O,O,O,O,O,O,O,O,O,O,O,O,O,O,O,O,O,O,O,O,O,O,O,O,O] (by kernel_rfl) rfl rfl ⟨(ah Ap.out 0).trans rfl,(ah Ap.out 1).trans rfl,(ah Ap.out 2).trans rfl,(ah Ap.out 3).trans rfl,(ah Ap.out 4).trans rfl,(ah Ap.out 5).trans rfl⟩ (fun hHeld=>?_);refine dR av.yK av.vS (fun HT_ HW_=>?_)
     generalize w3.drew = IC at Ap HB hHeld ⊢
     refine pu_ 0 8 #[I,O,O,O,O,O,O,O,O,O,O,O,O,O,O,O,O,O,O,O,O,O,O,O,O,O,O,O,O,O,O,O,O,O,O,O,O,O,O] HT_.out ?_
     refine pu_ 11 19 #[I,O,O,O,O,O,O,O,O,O,O,I,O,O,O,O,O,O,O,O,O,O,O,O,O,O,O,O,O,O,O,O,O,O,O,O,O,O,O] HT_.out ?_
     refine pu_ 26 34 #[I,O,O,O,O,O,O,O,O,O,O,I,O,O,O,O,O,O,O,O,O,O,O,O,O,O,I,O,O,O,O,O,O,O,O,O,O,O,O] HT_.out ?_
     refine pu_ 31 39 #[I,O,O,O,O,O,O,O,O,O,O,I,O,O,O,O,O,O,O,O,O,O,O,O,O,O,I,O,O,O,O,I,O,O,O,O,O,O,O] HT_.out ?_
     refine ta_ 1 9 #[I,I,O,O,O,O,O,O,O,O,O,I,O,O,O,O,O,O,O,O,O,O,O,O,O,O,I,O,O,O,O,I,O,O,O,O,O,O,O] HT_.out HW_.out hHeld ?_
     refine ta_ 12 20 #[I,I,O,O,O,O,O,O,O,O,O,I,I,O,O,O,O,O,O,O,O,O,O,O,O,O,I,O,O,O,O,I,O,O,O,O,O,O,O] HT_.out HW_.out hHeld ?_
     refine pu_ 13 21 #[I,I,O,O,O,O,O,O,O,O,O,I,I,I,O,O,O,O,O,O,O,O,O,O,O,O,I,O,O,O,O,I,O,O,O,O,O,O,O] HT_.out ?_
     refine ta_ 27 35 #[I,I,O,O,O,O,O,O,O,O,O,I,I,I,O,O,O,O,O,O,O,O,O,O,O,O,I,I,O,O,O,I,O,O,O,O,O,O,O] HT_.out HW_.out hHeld ?_
     refine pu_ 28 36 #[I,I,O,O,O,O,O,O,O,O,O,I,I,I,O,O,O,O,O,O,O,O,O,O,O,O,I,I,I,O,O,I,O,O,O,O,O,O,O] HT_.out ?_
     refine pu_ 29 37 #[I,I,O,O,O,O,O,O,O,O,O,I,I,I,O,O,O,O,O,O,O,O,O,O,O,O,I,I,I,I,O,I,O,O,O,O,O,O,O] HT_.out ?_
     refine ta_ 32 40 #[I,I,O,O,O,O,O,O,O,O,O,I,I,I,O,O,O,O,O,O,O,O,O,O,O,O,I,I,I,I,O,I,I,O,O,O,O,O,O] HT_.out HW_.out hHeld ?_
     refine pu_ 33 41 #[I,I,O,O,O,O,O,O,O,O,O,I,I,I,O,O,O,O,O,O,O,O,O,O,O,O,I,I,I,I,O,I,I,I,O,O,O,O,O] HT_.out ?_
     refine gG (i:=2) (N:=some 10) #[I,I,I,O,O,O,O,O,O,O,O,I,I,I,O,O,O,O,O,O,O,O,O,O,O,O,I,I,I,I,O,I,I,I,O,O,O,O,O] rfl rfl (dw HT_.out (by kernel_rfl)) (by decide) (fun K hK=>?_)
     refine eZ Tryd.func36 (by kernel_rfl) rfl #[.string AA] (by rfl) rfl rfl (by (try simp only [List.map_toArray,List.map_cons,List.map_nil]);first|done|rfl|(simp only [List.length_drop,List.length_take];rfl)) ?_
     with_reducible refine (dZ.calls k AA true _ A4.out).mono ?_
     rintro e IE ⟨rfl,hb⟩
     refine ⟨_,rfl,?_⟩
     have BI:=Aside0.mk (aM (g:=AJ) (o:=.cells #[.string AA,.string Ay,.int .i64 Au,.int .i64 Az,.bool AB,.slice Cj Am.length Bw] 25 (0,0)) (bk_ Ap.out) hb)
     have BJ:=Aside0.mk (aJ hb_ hb)
     clear Ap
     clear HB
     have Ap:=BI
     have HB:=BJ
     clear BI BJ
     (try clear hb)
     (try clear hb2)
     (try clear hk)
     (try clear hi)
     refine hK.out _ _ ⟨(ah Ap.out 0).trans rfl,(ah Ap.out 1).trans rfl,(ah Ap.out 2).trans rfl,(ah Ap.out 3).trans rfl,(ah Ap.out 4).trans rfl,(ah Ap.out 5).trans rfl⟩ (fun hHeld=>?_)
     clear hK K
     refine dU (a':=?_) ?_ ?_
     rotate_left
     ·show Act.put _ (some 10) _ = _
      simp only [Act.put,List.setIfInBounds_toArray,List.set_cons_zero,List.set_cons_succ,bH,bI]
      rfl
     refine pu_ 3 11 #[I,I,I,I,O,O,O,O,O,O,O,I,I,I,O,O,O,O,O,O,O,O,O,O,O,O,I,I,I,I,O,I,I,I,O,O,O,O,O] HT_.out ?_
     refine pu_ 4 12 #[I,I,I,I,I,O,O,O,O,O,O,I,I,I,O,O,O,O,O,O,O,O,O,O,O,O,I,I,I,I,O,I,I,I,O,O,O,O,O] HT_.out ?_
     refine pu_ 5 13 #[I,I,I,I,I,I,O,O,O,O,O,I,I,I,O,O,O,O,O,O,O,O,O,O,O,O,I,I,I,I,O,I,I,I,O,O,O,O,O] HT_.out ?_
     refine ta_ 6 14 #[I,I,I,I,I,I,I,O,O,O,O,I,I,I,O,O,O,O,O,O,O,O,O,O,O,O,I,I,I,I,O,I,I,I,O,O,O,O,O] HT_.out HW_.out hHeld ?_
     refine gG (i:=7) (N:=some 15) #[I,I,I,I,I,I,I,I,O,O,O,I,I,I,O,O,O,O,O,O,O,O,O,O,O,O,I,I,I,I,O,I,I,I,O,O,O,O,O] rfl rfl (dw HT_.out (by kernel_rfl)) (by decide) (fun K hK=>?_)
     refine eZ Tryd.func37 (by kernel_rfl) rfl #[.string Ay] (by rfl) rfl rfl (by (try simp only [List.map_toArray,List.map_cons,List.map_nil]);first|done|rfl|(simp only [List.length_drop,List.length_take];rfl)) ?_
     with_reducible refine (bg.calls k Ay Ca _ A6.out).mono ?_
     rintro e w' ⟨rfl,⟨nd,rfl⟩⟩
     refine ⟨_,rfl,?_⟩
     refine hK.out _ _ ⟨(ah Ap.out 0).trans rfl,(ah Ap.out 1).trans rfl,(ah Ap.out 2).trans rfl,(ah Ap.out 3).trans rfl,(ah Ap.out 4).trans rfl,(ah Ap.out 5).trans rfl⟩ (fun hHeld=>?_)
     clear hK K
     refine dU (a':=?_) ?_ ?_
     rotate_left
     ·show Act.put _ (some 15) _ = _
      simp only [Act.put,List.setIfInBounds_toArray,List.set_cons_zero,List.set_cons_succ,bH,bI]
      rfl
     refine pu_ 8 16 #[I,I,I,I,I,I,I,I,I,O,O,I,I,I,O,O,O,O,O,O,O,O,O,O,O,O,I,I,I,I,O,I,I,I,O,O,O,O,O] HT_.out ?_
     refine pu_ 9 17 #[I,I,I,I,I,I,I,I,I,I,O,I,I,I,O,O,O,O,O,O,O,O,O,O,O,O,I,I,I,I,O,I,I,I,O,O,O,O,O] HT_.out ?_
     refine gG (i:=10) (N:=some 18) #[I,I,I,I,I,I,I,I,I,I,I,I,I,I,O,O,O,O,O,O,O,O,O,O,O,O,I,I,I,I,O,I,I,I,O,O,O,O,O] rfl rfl (dw HT_.out (by kernel_rfl)) (by decide) (fun K hK=>?_)
     refine eZ Tryd.func35 (by kernel_rfl) rfl #[.bool (!Ca),.int .i64 13] (by rfl) rfl rfl (by (try simp only [List.map_toArray,List.map_cons,List.map_nil]);first|done|rfl|(simp only [List.length_drop,List.length_take];rfl)) ?_
     with_reducible refine (aD.calls (!Ca) 13 AV _ A7.out).mono ?_
     rintro e w' ⟨rfl,⟨nd,rfl⟩⟩
     refine ⟨_,rfl,?_⟩
     refine hK.out _ _ ⟨(ah Ap.out 0).trans rfl,(ah Ap.out 1).trans rfl,(ah Ap.out 2).trans rfl,(ah Ap.out 3).trans rfl,(ah Ap.out 4).trans rfl,(ah Ap.out 5).trans rfl⟩ (fun hHeld=>?_)
     clear hK K
     refine dU (a':=?_) ?_ ?_
     rotate_left
     ·show Act.put _ (some 18) _ = _
      simp only [Act.put,List.setIfInBounds_toArray,List.set_cons_zero,List.set_cons_succ,bH,bI]
      rfl
     refine pu_ 14 22 #[I,I,I,I,I,I,I,I,I,I,I,I,I,I,I,O,O,O,O,O,O,O,O,O,O,O,I,I,I,I,O,I,I,I,O,O,O,O,O] HT_.out ?_
     refine pu_ 15 23 #[I,I,I,I,I,I,I,I,I,I,I,I,I,I,I,I,O,O,O,O,O,O,O,O,O,O,I,I,I,I,O,I,I,I,O,O,O,O,O] HT_.out ?_
     refine ta_ 16 24 #[I,I,I,I,I,I,I,I,I,I,I,I,I,I,I,I,I,O,O,O,O,O,O,O,O,O,I,I,I,I,O,I,I,I,O,O,O,O,O] HT_.out HW_.out hHeld ?_
     refine pu_ 17 25 #[I,I,I,I,I,I,I,I,I,I,I,I,I,I,I,I,I,I,O,O,O,O,O,O,O,O,I,I,I,I,O,I,I,I,O,O,O,O,O] HT_.out ?_
     refine pu_ 18 26 #[I,I,I,I,I,I,I,I,I,I,I,I,I,I,I,I,I,I,I,O,O,O,O,O,O,O,I,I,I,I,O,I,I,I,O,O,O,O,O] HT_.out ?_
     refine pu_ 19 27 #[I,I,I,I,I,I,I,I,I,I,I,I,I,I,I,I,I,I,I,I,O,O,O,O,O,O,I,I,I,I,O,I,I,I,O,O,O,O,O] HT_.out ?_
     refine pu_ 20 28 #[I,I,I,I,I,I,I,I,I,I,I,I,I,I,I,I,I,I,I,I,I,O,O,O,O,O,I,I,I,I,O,I,I,I,O,O,O,O,O] HT_.out ?_
     refine ta_ 21 29 #[I,I,I,I,I,I,I,I,I,I,I,I,I,I,I,I,I,I,I,I,I,I,O,O,O,O,I,I,I,I,O,I,I,I,O,O,O,O,O] HT_.out HW_.out hHeld ?_
     refine gG (i:=22) (N:=some 30) #[I,I,I,I,I,I,I,I,I,I,I,I,I,I,I,I,I,I,I,I,I,I,I,O,O,O,I,I,I,I,O,I,I,I,O,O,O,O,O] rfl rfl (dw HT_.out (by kernel_rfl)) (by decide) (fun K hK=>?_)
     refine eZ Tryd.func38 (by kernel_rfl) rfl #[.int .i64 Az,.int .i64 3600] (by rfl) rfl rfl (by (try simp only [List.map_toArray,List.map_cons,List.map_nil]);first|done|rfl|(simp only [List.length_drop,List.length_take];rfl)) ?_
     with_reducible refine (bE.calls Az 3600 BH _ Ig.out).mono ?_
     rintro e w' ⟨rfl,⟨nd,rfl⟩⟩
     refine ⟨_,rfl,?_⟩
     refine hK.out _ _ ⟨(ah Ap.out 0).trans rfl,(ah Ap.out 1).trans rfl,(ah Ap.out 2).trans rfl,(ah Ap.out 3).trans rfl,(ah Ap.out 4).trans rfl,(ah Ap.out 5).trans rfl⟩ (fun hHeld=>?_)
     clear hK K
     refine dU (a':=?_) ?_ ?_
     rotate_left
     ·show Act.put _ (some 30) _ = _
      simp only [Act.put,List.setIfInBounds_toArray,List.set_cons_zero,List.set_cons_succ,bH,bI]
      rfl
     refine pu_ 23 31 #[I,I,I,I,I,I,I,I,I,I,I,I,I,I,I,I,I,I,I,I,I,I,I,I,O,O,I,I,I,I,O,I,I,I,O,O,O,O,O] HT_.out ?_
     refine pu_ 24 32 #[I,I,I,I,I,I,I,I,I,I,I,I,I,I,I,I,I,I,I,I,I,I,I,I,I,O,I,I,I,I,O,I,I,I,O,O,O,O,O] HT_.out ?_
     refine gG (i:=25) (N:=some 33) #[I,I,I,I,I,I,I,I,I,I,I,I,I,I,I,I,I,I,I,I,I,I,I,I,I,I,I,I,I,I,O,I,I,I,O,O,O,O,O] rfl rfl (dw HT_.out (by kernel_rfl)) (by decide) (fun K hK=>?_)
     refine eZ Tryd.func35 (by kernel_rfl) rfl #[.bool (!BH),.int .i64 7] (by rfl) rfl rfl (by (try simp only [List.map_toArray,List.map_cons,List.map_nil]);first|done|rfl|(simp only [List.length_drop,List.length_take];rfl)) ?_
     with_reducible refine (aD.calls (!BH) 7 Bt _ Ih.out).mono ?_
     rintro e w' ⟨rfl,⟨nd,rfl⟩⟩
     refine ⟨_,rfl,?_⟩
     refine hK.out _ _ ⟨(ah Ap.out 0).trans rfl,(ah Ap.out 1).trans rfl,(ah Ap.out 2).trans rfl,(ah Ap.out 3).trans rfl,(ah Ap.out 4).trans rfl,(ah Ap.out 5).trans rfl⟩ (fun hHeld=>?_)
     clear hK K
     refine dU (a':=?_) ?_ ?_
     rotate_left
     ·show Act.put _ (some 33) _ = _
      simp only [Act.put,List.setIfInBounds_toArray,List.set_cons_zero,List.set_cons_succ,bH,bI]
      rfl
     refine gG (i:=30) (N:=some 38) #[I,I,I,I,I,I,I,I,I,I,I,I,I,I,I,I,I,I,I,I,I,I,I,I,I,I,I,I,I,I,I,I,I,I,O,O,O,O,O] rfl rfl (dw HT_.out (by kernel_rfl)) (by decide) (fun K hK=>?_)
     refine eZ Tryd.func35 (by kernel_rfl) rfl #[.bool ((Am.length : Int) == 0),.int .i64 16] (by rfl) rfl rfl (by (try simp only [List.map_toArray,List.map_cons,List.map_nil]);first|done|rfl|(simp only [List.length_drop,List.length_take];rfl)) ?_
     with_reducible refine (aD.calls ((Am.length : Int) == 0) 16 Bq _ Ii.out).mono ?_
     rintro e w' ⟨rfl,⟨nd,rfl⟩⟩
     refine ⟨_,rfl,?_⟩
     refine hK.out _ _ ⟨(ah Ap.out 0).trans rfl,(ah Ap.out 1).trans rfl,(ah Ap.out 2).trans rfl,(ah Ap.out 3).trans rfl,(ah Ap.out 4).trans rfl,(ah Ap.out 5).trans rfl⟩ (fun hHeld=>?_)
     clear hK K
     refine dU (a':=?_) ?_ ?_
     rotate_left
     ·show Act.put _ (some 38) _ = _
      simp only [Act.put,List.setIfInBounds_toArray,List.set_cons_zero,List.set_cons_succ,bH,bI]
      rfl
     refine gG (i:=34) (N:=some 42) #[I,I,I,I,I,I,I,I,I,I,I,I,I,I,I,I,I,I,I,I,I,I,I,I,I,I,I,I,I,I,I,I,I,I,I,O,O,O,O] rfl rfl (dw HT_.out (by kernel_rfl)) (by decide) (fun K hK=>?_)
     refine eZ Tryd.func39 (by kernel_rfl) rfl #[.int .i64 (Am.length : Int)] (by rfl) rfl rfl (by (try simp only [List.map_toArray,List.map_cons,List.map_nil]);first|done|rfl|(simp only [List.length_drop,List.length_take];rfl)) ?_
     with_reducible refine (bK.calls (Am.length : Int) Bu _ Ij.out).mono ?_
     rintro e w' ⟨rfl,⟨nd,rfl⟩⟩
     refine ⟨_,rfl,?_⟩
     refine hK.out _ _ ⟨(ah Ap.out 0).trans rfl,(ah Ap.out 1).trans rfl,(ah Ap.out 2).trans rfl,(ah Ap.out 3).trans rfl,(ah Ap.out 4).trans rfl,(ah Ap.out 5).trans rfl⟩ (fun hHeld=>?_)
     clear hK K
     refine dU (a':=?_) ?_ ?_
     rotate_left
     ·show Act.put _ (some 42) _ = _
      simp only [Act.put,List.setIfInBounds_toArray,List.set_cons_zero,List.set_cons_succ,bH,bI]
      rfl
     refine gG (i:=35) (N:=some 43) #[I,I,I,I,I,I,I,I,I,I,I,I,I,I,I,I,I,I,I,I,I,I,I,I,I,I,I,I,I,I,I,I,I,I,I,I,O,O,O] rfl rfl (dw HT_.out (by kernel_rfl)) (by decide) (fun K hK=>?_)
     refine eZ Tryd.func35 (by kernel_rfl) rfl #[.bool Bu,.int .i64 18] (by rfl) rfl rfl (by (try simp only [List.map_toArray,List.map_cons,List.map_nil]);first|done|rfl|(simp only [List.length_drop,List.length_take];rfl)) ?_
     with_reducible refine (aD.calls Bu 18 Bh _ Ik.out).mono ?_
     rintro e w' ⟨rfl,⟨nd,rfl⟩⟩
     refine ⟨_,rfl,?_⟩
     refine hK.out _ _ ⟨(ah Ap.out 0).trans rfl,(ah Ap.out 1).trans rfl,(ah Ap.out 2).trans rfl,(ah Ap.out 3).trans rfl,(ah Ap.out 4).trans rfl,(ah Ap.out 5).trans rfl⟩ (fun hHeld=>?_)
     clear hK K
     refine dU (a':=?_) ?_ ?_
     rotate_left
     ·show Act.put _ (some 43) _ = _
      simp only [Act.put,List.setIfInBounds_toArray,List.set_cons_zero,List.set_cons_succ,bH,bI]
      rfl
     refine gG (i:=36) (N:=some 44) #[I,I,I,I,I,I,I,I,I,I,I,I,I,I,I,I,I,I,I,I,I,I,I,I,I,I,I,I,I,I,I,I,I,I,I,I,I,O,O] rfl rfl (dw HT_.out (by kernel_rfl)) (by decide) (fun K hK=>?_)
     refine Kd.lu (Kd.int .i64) _ 32 ?hg (N:=44) ?hd (xs:=([AV,Bt,Bq,Bh] : List Int)) (inner:=[.int .i64 AV,.int .i64 Bt,.int .i64 Bq,.int .i64 Bh]) (ok:=fun _=>True) (okp:=fun _=>True) ?hr ?hp (fun _ hk=>hk) trivial (Below.refl _ _) (Nat.le_refl _) (by simp) ?_;(case hd=>rfl);(case hg=>rfl);(case hr=>first|(go_simp;done)|(go_simp;rfl));(case hp=>exact (dX.one (show Kd.M (Kd.int .i64) _ _ _ AV [.int .i64 AV] from rfl) (dX.one (show Kd.M (Kd.int .i64) _ _ _ Bt [.int .i64 Bt] from rfl) (dX.one (show Kd.M (Kd.int .i64) _ _ _ Bq [.int .i64 Bq] from rfl) (dX.one (show Kd.M (Kd.int .i64) _ _ _ Bh [.int .i64 Bh] from rfl) (dX.none _ _))))))
     intro v138 IG Dp hb hg_ hnew_
     clear hg_ hnew_
     (first|rw [← Dn.out] at Dp|(simp only [Int.reduceToNat] at Dp;rw [← Dn.out] at Dp))
     have BI:=Aside0.mk (Kd.iI Dp (aY hb_))
     have BJ:=Aside0.mk (aM (g:=AJ) (o:=.cells #[.string AA,.string Ay,.int .i64 Au,.int .i64 Az,.bool AB,.slice Cj Am.length Bw] 25 (0,0)) (bk_ Ap.out) hb)
     have BQ:=Aside0.mk (aJ hb_ hb)
     clear Ap
     clear HB
     have Dq:=BI
     have Ap:=BJ
     have HB:=BQ
     clear BI BJ BQ
     clear hb Dp
     obtain ⟨Gm,Gn,EY⟩:=Kd.ig Dq.out
     (first|subst EY|(injection EY with EZ Gp E5;have Gq:=EZ.symm;have Gr:=E5.symm;clear EZ Gp E5;subst Gq;subst Gr))
     refine hK.out _ _ ⟨(ah Ap.out 0).trans rfl,(ah Ap.out 1).trans rfl,(ah Ap.out 2).trans rfl,(ah Ap.out 3).trans rfl,(ah Ap.out 4).trans rfl,(ah Ap.out 5).trans rfl⟩ (fun hHeld=>?_)
     clear hK K
     refine dU (a':=?_) ?_ ?_
     rotate_left
     ·show Act.put _ (some 44) _ = _
      simp only [Act.put,List.setIfInBounds_toArray,List.set_cons_zero,List.set_cons_succ,bH,bI]
      rfl
     refine gG (i:=37) (N:=some 45) #[I,I,I,I,I,I,I,I,I,I,I,I,I,I,I,I,I,I,I,I,I,I,I,I,I,I,I,I,I,I,I,I,I,I,I,I,I,I,O] rfl rfl (dw HT_.out (by kernel_rfl)) (by decide) (fun K hK=>?_)
     refine eZ Tryd.func34 (by kernel_rfl) rfl #[.slice Gm EH.length Gn] (by rfl) rfl rfl (by (try simp only [List.map_toArray,List.map_cons,List.map_nil]);first|done|rfl|(simp only [List.length_drop,List.length_take];rfl)) ?_
     with_reducible refine (aN.calls k _ _ EH Bj _ ?Ch ?Ci Hr.out).mono ?_
     (case Ch=>repeat (first|exact (Kd.gI Dq.out).2.2|(with_reducible refine Kd.bC ?_ _)|(with_reducible refine Kd.bO ?_ _)|(with_reducible refine Kd.bW ?_)))
     (case Ci=>exact (Kd.gI Dq.out).2.1)
     rintro e w' ⟨rfl,⟨nd,rfl⟩⟩
     refine ⟨_,rfl,?_⟩
     refine hK.out _ _ ⟨(ah Ap.out 0).trans rfl,(ah Ap.out 1).trans rfl,(ah Ap.out 2).trans rfl,(ah Ap.out 3).trans rfl,(ah Ap.out 4).trans rfl,(ah Ap.out 5).trans rfl⟩ (fun hHeld=>?_)
     clear hK K
     refine dU (a':=?_) ?_ ?_
     rotate_left
     ·show Act.put _ (some 45) _ = _
      simp only [Act.put,List.setIfInBounds_toArray,List.set_cons_zero,List.set_cons_succ,bH,bI]
      rfl
     refine pu_ 38 3 #[I,I,I,I,I,I,I,I,I,I,I,I,I,I,I,I,I,I,I,I,I,I,I,I,I,I,I,I,I,I,I,I,I,I,I,I,I,I,I] HT_.out ?_
     refine gJ (eH HT_.out (by kernel_rfl)) ?_
     try go_wp2
     go_meet
     case rel=>exact ⟨_,(Bj),(by first|rfl|(simp;done)|(simp [*];done)),H',⟨by first|omega|exact Nat.le_refl _⟩,⟨fun h0 => yJ (A6.out) (A7.out) (by rw [← h0, ← Dn.out]; exact Hr.out)⟩,⟨by (with_reducible repeat (first|apply aC|apply aG|apply aH));exact Ap.out⟩,⟨hb_⟩⟩
  ·exact absurd (Option.some.inj (A4.out.symm.trans HNm.out)) c5
 case rest =>
  clear Gl
  try clear p2
  try clear c3
  try clear c5
  try clear c34
  try clear Ht
  try clear Il
  try clear Hu
  try clear Hw
  try clear c53
  try clear c53b0
  obtain ⟨kq,Ck,rfl,HA,Gs,HLbx,Ap,HB⟩:=hcut
  cases kq with
  | zero=>exact absurd HA.out (by simp [av.j0])
  | succ Hy =>
   have H:=HA.out
   clear HA
   simp only [av.j0] at H
   by_cases c75 : Ck = 0
   ·rw [if_pos c75] at H
    have c75b0 : (Ck == 0) = true:=beq_iff_eq.mpr c75
    have c75b1 : (Ck != 0) = false:=bne_eq_false_iff_eq.mpr c75
    clear c75
    have H':=Aside0.mk H
    clear H
    have DN : wc.cell? ⟨AJ,0,none⟩ = some (.string AA):=(ah Ap.out 0).trans rfl
    have DR : wc.cell? ⟨AJ,1,none⟩ = some (.string Ay):=(ah Ap.out 1).trans rfl
    have DT : wc.cell? ⟨AJ,2,none⟩ = some (.int .i64 Au):=(ah Ap.out 2).trans rfl
    have DU : wc.cell? ⟨AJ,3,none⟩ = some (.int .i64 Az):=(ah Ap.out 3).trans rfl
    have DV : wc.cell? ⟨AJ,4,none⟩ = some (.bool AB):=(ah Ap.out 4).trans rfl
    have DW : wc.cell? ⟨AJ,5,none⟩ = some (.slice Cj Am.length Bw):=(ah Ap.out 5).trans rfl
    have DX:=au Ap.out 0
    have DY:=au Ap.out 1
    have DZ:=au Ap.out 2
    have D5:=au Ap.out 3
    have D6:=au Ap.out 4
    have D7:=au Ap.out 5
    have HLb := Aside0.mk (HLbx.out (beq_iff_eq.mp c75b0))
    have Es := Aside0.mk (Nat.ne_of_lt (dn Ap.out) : AJ ≠ wc.heap.size)
    have GM := Aside0.mk HB.out.size
    have hmm := @run_makeMap Tryd.prog
    have hcy : (wc.alloc (Obj.map #[] 0)).cell? ⟨AJ,5,none⟩ = some (.slice Cj Am.length Bw) := (ah (aH Ap.out (Obj.map #[] 0)) 5).trans rfl
    go_wp2
    clear hmm hcy
    obtain ⟨mb, hmb⟩ : ∃ m, wc.heap.size = m := ⟨_, rfl⟩
    have HMB := Aside0.mk hmb
    rw [hmb] at Es GM ⊢
    clear hmb
    go_loopg [53] Hy (fun kq v53 w'=>∃ (Al : Int),v53 = .int .i64 Al ∧ Aside0 (av.l0 kq Am (Am.length : Int) Al = some r) ∧ Aside0 (kq ≤ Hy) ∧ Aside0 (0 ≤ Al) ∧ Aside0 (Al = 0 → w'.ownsMap Tryd.prog 9 (plainElem (H := Unit) Tryd.prog 3) mb 0 (.map [])) ∧ Aside0 (w'.heap[AJ]? = some (.cells #[.string AA,.string Ay,.int .i64 Au,.int .i64 Az,.bool AB,(.slice Cj Am.length Bw)] 25 (0,0))) ∧ Aside0 (Below w.heap.size w w'))
    case atStart=>exact ⟨(0),(by first|rfl|(simp;done)|(simp [*];done)),H',⟨Nat.le_refl _⟩,⟨Int.le_refl _⟩,⟨fun _ => HMB.out ▸ World.ownsMap_made _ _ _ _⟩,⟨by (with_reducible repeat (first|apply aC|apply aG|apply aH));exact Ap.out⟩,⟨hb_⟩⟩
    case round =>
     clear H'
     try clear p2
     try clear c3
     try clear c5
     try clear c7
     try clear c34
     try clear Ht
     try clear Il
     try clear Hu
     try clear Hw
     try clear c53
     try clear c53b0
     try clear c75
     try clear c75b0
     try clear c75b1
     try clear DN
     try clear DR
     try clear DT
     try clear DU
     try clear DV
     try clear DW
     try clear DX
     try clear DY
     try clear DZ
     try clear D5
     try clear D6
     try clear D7
     try clear p2
     obtain ⟨Al,rfl,HA,Gt,Im,HMp,Ap,HB⟩:=hrel
     cases gk with
     | zero=>exact absurd HA.out (by simp [av.l0])
     | succ k2 =>
      have H:=HA.out
      clear HA
      simp only [av.l0] at H
      by_cases EO : Al < (Am.length : Int)
      ·rw [if_pos EO] at H
       have c77b0 : decide (Al < (Am.length : Int)) = true:=decide_eq_true EO
       clear EO
       by_cases Gg : 0 ≤ Al
       ·rw [if_pos Gg] at H
        have c78b0 : decide (0 ≤ Al) = true:=decide_eq_true Gg
        clear Gg
        by_cases Gh : Al < (Am.length : Int)
        ·rw [if_pos Gh] at H
         have c79b0 : decide (Al < (Am.length : Int)) = true:=decide_eq_true Gh
         clear Gh
         have EJ:=Aside0.mk H
         have HX0 := Aside0.mk (show Al = 0 from by have h1 := of_decide_eq_true c79b0; have := Ie.out; have := Im.out; omega)
         have HMM := Aside0.mk (HMp.out HX0.out)
         have HKey : Aside0 (keyOf Tryd.prog 9 (.string ((aj Am Al).f0)) = some (.string ((aj Am Al).f0).data.toList)) := ⟨keyOf_string_mk Tryd.underlying9 (by have := HSz.out; rw [HX0.out]; unfold maxLen; omega)⟩
         clear HMp
         clear H
         have EK : 0 ≤ (Al : Int):=of_decide_eq_true (by first|(with_reducible assumption)|assumption)
         have EL : Al < (Am.length : Int):=of_decide_eq_true (by first|(with_reducible assumption)|assumption)
         obtain ⟨BS,AL,AO,AQ,AU,AZ,Bf,e167,Cm,Cn,Co,Cq,Cr,Ct,Cu,CG,CJ,CK,CO,CP,CQ⟩:=lJ EP.out Al EK EL
         cases e167
         replace Cm:=(HB.out.cell (World.block_lt_of_cell? w _ Cm)).trans Cm
         replace Cn:=(HB.out.cell (World.block_lt_of_cell? w _ Cn)).trans Cn
         replace Co:=(HB.out.cell (World.block_lt_of_cell? w _ Co)).trans Co
         replace Cq:=(HB.out.cell (World.block_lt_of_cell? w _ Cq)).trans Cq
         replace Cr:=(HB.out.cell (World.block_lt_of_cell? w _ Cr)).trans Cr
         replace Ct:=(HB.out.cell (World.block_lt_of_cell? w _ Ct)).trans Ct
         replace Cu:=(HB.out.cell (World.block_lt_of_cell? w _ Cu)).trans Cu
         have CS:=Aside0.mk CJ
         have CU:=Aside0.mk CG
         clear CJ CG
         have CV:=Aside0.mk CO
         have CW:=Aside0.mk CK
         clear CO CK
         have CX:=Aside0.mk CQ
         have CY:=Aside0.mk CP
         clear CQ CP
         replace EK:=eq_true EK
         replace EL:=eq_true EL
         go_upto_region 8 with (first|((with_reducible refine dA (N:=6) rfl ?_);(try (refine gH (by rfl) ?_;dsimp only));refine dG ?hg (N:=6) ?hd (cs:=#[.string (⟨#[]⟩ : ByteArray),.string (⟨#[]⟩ : ByteArray),.slice none 0 0,.slice none 0 0,.int .i64 0,.int .i64 0,.slice none 0 0]) (t:=43) ?hr ?_;(case hd=>rfl);(case hg=>rfl);(case hr=>first|(go_simp;done)|(go_simp;rfl));intro Aq hg Da hbox hb;have hMb := HMM.out.lt;have Et:=Aside0.mk (by rw [hg];exact Nat.ne_of_lt hMb : mb ≠ Aq);have MM:=Aside0.mk (oW HMM.out hb);clear hMb HMM;have BI:=Aside0.mk (aM (g:=AJ) (o:=.cells #[.string AA,.string Ay,.int .i64 Au,.int .i64 Az,.bool AB,.slice (some BS) Am.length Bw] 25 (0,0)) (bk_ Ap.out) hb);have BJ:=Aside0.mk (aJ hb_ hb);have BQ:=Aside0.mk (hbox);have C9:=Aside0.mk ((by rw [hg];exact (aY hb_) : w.heap.size ≤ Aq));have Hz:=Aside0.mk ((by rw [hg];exact (aY hb_) : w.heap.size ≤ Aq));have H6:=Aside0.mk ((by rw [hg];exact Nat.ne_of_lt (dn (g:=AJ) (o:=.cells #[.string AA,.string Ay,.int .i64 Au,.int .i64 Az,.bool AB,.slice (some BS) Am.length Bw] 25 (0,0)) (bk_ Ap.out)) : AJ ≠ Aq));have H7:=Aside0.mk ((by rw [hg];exact Nat.ne_of_gt (dn (g:=AJ) (o:=.cells #[.string AA,.string Ay,.int .i64 Au,.int .i64 Az,.bool AB,.slice (some BS) Am.length Bw] 25 (0,0)) (bk_ Ap.out)) : Aq ≠ AJ));clear Ap;clear HB;have Ap:=BI;have HB:=BJ;have Ao:=BQ;have H8:=C9;have H9:=Hz;have AP:=H6;have BR:=H7;clear BI BJ BQ C9 Hz H6 H7;clear hb hbox hg;have E8:=BR.out;have E9:=AP.out;have D8 : Da.cell? ⟨Aq,0,none⟩ = some (.string (⟨#[]⟩ : ByteArray)):=(ah Ao.out 0).trans rfl;have D9 : Da.cell? ⟨Aq,1,none⟩ = some (.string (⟨#[]⟩ : ByteArray)):=(ah Ao.out 1).trans rfl;have Ea : Da.cell? ⟨Aq,2,none⟩ = some (.slice none 0 0):=(ah Ao.out 2).trans rfl;have Eb : Da.cell? ⟨Aq,3,none⟩ = some (.slice none 0 0):=(ah Ao.out 3).trans rfl;have Ec : Da.cell? ⟨Aq,4,none⟩ = some (.int .i64 0):=(ah Ao.out 4).trans rfl;have Ed : Da.cell? ⟨Aq,5,none⟩ = some (.int .i64 0):=(ah Ao.out 5).trans rfl;have Ee : Da.cell? ⟨Aq,6,none⟩ = some (.slice none 0 0):=(ah Ao.out 6).trans rfl;have Ef:=au Ao.out 0;have Eh:=au Ao.out 1;have Ei:=au Ao.out 2;have Ej:=au Ao.out 3;have El:=au Ao.out 4;have Em:=au Ao.out 5;have En:=au Ao.out 6))
         clear E8 E9 D8 Ef D9 Eh Ea Ei Eb Ej Ec El Ed Em Ee En
         have BI : Aside0 ((((((((Da.setCell ⟨Aq,0,none⟩ (.string ((aj Am Al).f0))).setCell ⟨Aq,1,none⟩ (.string ((aj Am Al).f1))).setCell ⟨Aq,2,none⟩ (.slice AL ((aj Am Al).f2).length AO)).setCell ⟨Aq,3,none⟩ (.slice AQ ((aj Am Al).f3).length AU)).setCell ⟨Aq,4,none⟩ (.int .i64 ((aj Am Al).f4))).setCell ⟨Aq,5,none⟩ (.int .i64 ((aj Am Al).f5))).setCell ⟨Aq,6,none⟩ (.slice AZ ((aj Am Al).f6).length Bf)).heap[AJ]? = some (.cells #[.string AA,.string Ay,.int .i64 Au,.int .i64 Az,.bool AB,.slice (some BS) Am.length Bw] 25 (0,0))):=⟨by (with_reducible repeat (first|apply aC|apply aG|apply aH));refine cB ?_ AP.out _;(with_reducible repeat (first|apply aC|apply aG|apply aH));refine cB ?_ AP.out _;(with_reducible repeat (first|apply aC|apply aG|apply aH));refine cB ?_ AP.out _;(with_reducible repeat (first|apply aC|apply aG|apply aH));refine cB ?_ AP.out _;(with_reducible repeat (first|apply aC|apply aG|apply aH));refine cB ?_ AP.out _;(with_reducible repeat (first|apply aC|apply aG|apply aH));refine cB ?_ AP.out _;(with_reducible repeat (first|apply aC|apply aG|apply aH));refine cB ?_ AP.out _;(with_reducible repeat (first|apply aC|apply aG|apply aH));exact Ap.out⟩
         have BJ : Aside0 ((((((((Da.setCell ⟨Aq,0,none⟩ (.string ((aj Am Al).f0))).setCell ⟨Aq,1,none⟩ (.string ((aj Am Al).f1))).setCell ⟨Aq,2,none⟩ (.slice AL ((aj Am Al).f2).length AO)).setCell ⟨Aq,3,none⟩ (.slice AQ ((aj Am Al).f3).length AU)).setCell ⟨Aq,4,none⟩ (.int .i64 ((aj Am Al).f4))).setCell ⟨Aq,5,none⟩ (.int .i64 ((aj Am Al).f5))).setCell ⟨Aq,6,none⟩ (.slice AZ ((aj Am Al).f6).length Bf)).heap[Aq]? = some (.cells #[.string ((aj Am Al).f0),.string ((aj Am Al).f1),.slice AL ((aj Am Al).f2).length AO,.slice AQ ((aj Am Al).f3).length AU,.int .i64 ((aj Am Al).f4),.int .i64 ((aj Am Al).f5),.slice AZ ((aj Am Al).f6).length Bf] 43 (0,0))):=⟨by (with_reducible repeat (first|apply aC|apply aG|apply aH));refine bR (cs:=#[.string ((aj Am Al).f0),.string ((aj Am Al).f1),.slice AL ((aj Am Al).f2).length AO,.slice AQ ((aj Am Al).f3).length AU,.int .i64 ((aj Am Al).f4),.int .i64 ((aj Am Al).f5),.slice none 0 0]) ?_ 6 _ rfl;(with_reducible repeat (first|apply aC|apply aG|apply aH));refine bR (cs:=#[.string ((aj Am Al).f0),.string ((aj Am Al).f1),.slice AL ((aj Am Al).f2).length AO,.slice AQ ((aj Am Al).f3).length AU,.int .i64 ((aj Am Al).f4),.int .i64 0,.slice none 0 0]) ?_ 5 _ rfl;(with_reducible repeat (first|apply aC|apply aG|apply aH));refine bR (cs:=#[.string ((aj Am Al).f0),.string ((aj Am Al).f1),.slice AL ((aj Am Al).f2).length AO,.slice AQ ((aj Am Al).f3).length AU,.int .i64 0,.int .i64 0,.slice none 0 0]) ?_ 4 _ rfl;(with_reducible repeat (first|apply aC|apply aG|apply aH));refine bR (cs:=#[.string ((aj Am Al).f0),.string ((aj Am Al).f1),.slice AL ((aj Am Al).f2).length AO,.slice none 0 0,.int .i64 0,.int .i64 0,.slice none 0 0]) ?_ 3 _ rfl;(with_reducible repeat (first|apply aC|apply aG|apply aH));refine bR (cs:=#[.string ((aj Am Al).f0),.string ((aj Am Al).f1),.slice none 0 0,.slice none 0 0,.int .i64 0,.int .i64 0,.slice none 0 0]) ?_ 2 _ rfl;(with_reducible repeat (first|apply aC|apply aG|apply aH));refine bR (cs:=#[.string ((aj Am Al).f0),.string (⟨#[]⟩ : ByteArray),.slice none 0 0,.slice none 0 0,.int .i64 0,.int .i64 0,.slice none 0 0]) ?_ 1 _ rfl;(with_reducible repeat (first|apply aC|apply aG|apply aH));refine bR (cs:=#[.string (⟨#[]⟩ : ByteArray),.string (⟨#[]⟩ : ByteArray),.slice none 0 0,.slice none 0 0,.int .i64 0,.int .i64 0,.slice none 0 0]) ?_ 0 _ rfl;(with_reducible repeat (first|apply aC|apply aG|apply aH));exact Ao.out⟩
         have BQ : Aside0 (Below w.heap.size w (((((((Da.setCell ⟨Aq,0,none⟩ (.string ((aj Am Al).f0))).setCell ⟨Aq,1,none⟩ (.string ((aj Am Al).f1))).setCell ⟨Aq,2,none⟩ (.slice AL ((aj Am Al).f2).length AO)).setCell ⟨Aq,3,none⟩ (.slice AQ ((aj Am Al).f3).length AU)).setCell ⟨Aq,4,none⟩ (.int .i64 ((aj Am Al).f4))).setCell ⟨Aq,5,none⟩ (.int .i64 ((aj Am Al).f5))).setCell ⟨Aq,6,none⟩ (.slice AZ ((aj Am Al).f6).length Bf))):=⟨hb_⟩
         (try clear Ap)
         (try clear Ao)
         (try clear HB)
         have C9 : Aside0 (World.ownsMap (((((((Da.setCell ⟨Aq,0,none⟩ (.string ((aj Am Al).f0))).setCell ⟨Aq,1,none⟩ (.string ((aj Am Al).f1))).setCell ⟨Aq,2,none⟩ (.slice AL ((aj Am Al).f2).length AO)).setCell ⟨Aq,3,none⟩ (.slice AQ ((aj Am Al).f3).length AU)).setCell ⟨Aq,4,none⟩ (.int .i64 ((aj Am Al).f4))).setCell ⟨Aq,5,none⟩ (.int .i64 ((aj Am Al).f5))).setCell ⟨Aq,6,none⟩ (.slice AZ ((aj Am Al).f6).length Bf)) Tryd.prog 9 (plainElem (H := Unit) Tryd.prog 3) mb 0 (.map [])):=⟨by (iterate 7 (refine qR ?_ Et.out _ _)); exact MM.out⟩
         generalize (((((((Da.setCell ⟨Aq,0,none⟩ (.string ((aj Am Al).f0))).setCell ⟨Aq,1,none⟩ (.string ((aj Am Al).f1))).setCell ⟨Aq,2,none⟩ (.slice AL ((aj Am Al).f2).length AO)).setCell ⟨Aq,3,none⟩ (.slice AQ ((aj Am Al).f3).length AU)).setCell ⟨Aq,4,none⟩ (.int .i64 ((aj Am Al).f4))).setCell ⟨Aq,5,none⟩ (.int .i64 ((aj Am Al).f5))).setCell ⟨Aq,6,none⟩ (.slice AZ ((aj Am Al).f6).length Bf)) = Gu at BI BJ BQ C9 ⊢
         have Ap:=BI
         have Ao:=BJ
         have HB:=BQ
         clear MM
         have MM:=C9
         clear BI BJ BQ C9
         have z0 : Gu.cell? ⟨Aq,0,none⟩ = some (.string ((aj Am Al).f0)):=(ah Ao.out 0).trans rfl
         go_upto_region 9 with (first|(at_lookup; refine wpList_lookup_own_int _ rfl _ _ 89 rfl 9 3 .i64 rV Tryd.underlying89 Tryd.underlying3 (xP _) mb 0 _ rfl MM.out _ _ rfl HKey.out ?_; intro c hat hwc; have hc : c = 0 := sO hat.symm; subst hc; clear hat hwc)|(at_mapUpdate; refine wpList_mapUpdate_own _ rfl _ _ _ 89 rfl 9 3 rV Tryd.underlying89 _ mb 0 _ rfl MM.out (by unfold maxLen; omega) _ (.int .i64 1) _ rfl (by first | rfl | exact congrArg (Value.int .i64) (by decide)) HKey.out _ [] (plainElem_int Tryd.underlying3 (by decide)) ?_; intro w3 hown3 hg3; have BI:=Aside0.mk (moved hg3 Ap.out Es.out); have BJ:=Aside0.mk (moved hg3 Ao.out (Ne.symm Et.out)); have BQ:=Aside0.mk (Below.grown HB.out hg3 (aY HB.out) (fun j hj => by cases hj; exact GM.out)); have ho_:=xk hown3 HKey.out (atKey_put_same isMap_empty (by simp [WideAt.IsKeyLit]) _ _); clear Ap Ao HB hown3 hg3 MM z0; have Ap:=BI; have Ao:=BJ; have HB:=BQ; clear BI BJ BQ))
         obtain ⟨om,hom,hlk⟩:=ho_
         have BM:=Aside0.mk hom
         have HLK:=Aside0.mk hlk
         clear hom hlk
         (try simp only [Act.put,List.setIfInBounds_toArray,List.set_cons_zero,List.set_cons_succ])
         go_cut [7] (fun v7 wc=>∃ (kq : Nat) (BU : Int),v7 = .int .i64 BU ∧ Aside0 (av.j2 kq BU Am (Am.length : Int) Al ((aj Am Al).f0) ((aj Am Al).f1) ((aj Am Al).f2) ((aj Am Al).f3) ((aj Am Al).f4) ((aj Am Al).f5) ((aj Am Al).f6) = some r) ∧ Aside0 (kq ≤ k2) ∧ Aside0 (wc.heap[AJ]? = some (.cells #[.string AA,.string Ay,.int .i64 Au,.int .i64 Az,.bool AB,(.slice (some BS) Am.length Bw)] 25 (0,0))) ∧ Aside0 (wc.heap[Aq]? = some (.cells #[.string ((aj Am Al).f0),.string ((aj Am Al).f1),(.slice AL ((aj Am Al).f2).length AO),(.slice AQ ((aj Am Al).f3).length AU),.int .i64 ((aj Am Al).f4),.int .i64 ((aj Am Al).f5),(.slice AZ ((aj Am Al).f6).length Bf)] 43 (0,0))) ∧ Aside0 (Below w.heap.size w wc))
         case first =>
          have H:=EJ.out
          clear EJ
          replace H:=Option.bind_eq_some_iff.mp H
          obtain ⟨CZ,Fa,H⟩:=H
          replace H : ((aD.f (!CZ) 13).bind fun Aw=>((aD.f (decide (1 > 1)) 8).bind fun t171=>((bD.f k2 ((aj Am Al).f1)).bind fun BX=>((aD.f (!BX) 6).bind fun t173=>((bK.f (((aj Am Al).f2).length : Int)).bind fun BK=>(if BK = true then ((aD.f true 18).bind fun t175=>((bE.f ((aj Am Al).f4) 64000).bind fun BL=>(if BL = true then ((bE.f ((aj Am Al).f5) 1048576).bind fun BN=>((aD.f (!BN) 7).bind fun BO=>((aN.f k2 (([Aw,t171,t173,t175,BO] : List Int))).bind fun t182=>(av.j2 k2 t182 Am (Am.length : Int) Al ((aj Am Al).f0) ((aj Am Al).f1) ((aj Am Al).f2) ((aj Am Al).f3) ((aj Am Al).f4) ((aj Am Al).f5) ((aj Am Al).f6))))) else ((aD.f true 7).bind fun t183=>((aN.f k2 (([Aw,t171,t173,t175,t183] : List Int))).bind fun BP=>(av.j2 k2 BP Am (Am.length : Int) Al ((aj Am Al).f0) ((aj Am Al).f1) ((aj Am Al).f2) ((aj Am Al).f3) ((aj Am Al).f4) ((aj Am Al).f5) ((aj Am Al).f6))))))) else ((bK.f (((aj Am Al).f3).length : Int)).bind fun Bv=>(if Bv = true then ((aD.f true 18).bind fun Bl=>((bE.f ((aj Am Al).f4) 64000).bind fun Bz=>(if Bz = true then ((bE.f ((aj Am Al).f5) 1048576).bind fun BD=>((aD.f (!BD) 7).bind fun BF=>((aN.f k2 (([Aw,t171,t173,Bl,BF] : List Int))).bind fun t196=>(av.j2 k2 t196 Am (Am.length : Int) Al ((aj Am Al).f0) ((aj Am Al).f1) ((aj Am Al).f2) ((aj Am Al).f3) ((aj Am Al).f4) ((aj Am Al).f5) ((aj Am Al).f6))))) else ((aD.f true 7).bind fun BG=>((aN.f k2 (([Aw,t171,t173,Bl,BG] : List Int))).bind fun t201=>(av.j2 k2 t201 Am (Am.length : Int) Al ((aj Am Al).f0) ((aj Am Al).f1) ((aj Am Al).f2) ((aj Am Al).f3) ((aj Am Al).f4) ((aj Am Al).f5) ((aj Am Al).f6))))))) else ((bK.f (((aj Am Al).f6).length : Int)).bind fun Br=>((aD.f Br 18).bind fun t203=>((bE.f ((aj Am Al).f4) 64000).bind fun Bn=>(if Bn = true then ((bE.f ((aj Am Al).f5) 1048576).bind fun AX=>((aD.f (!AX) 7).bind fun t206=>((aN.f k2 (([Aw,t171,t173,t203,t206] : List Int))).bind fun t210=>(av.j2 k2 t210 Am (Am.length : Int) Al ((aj Am Al).f0) ((aj Am Al).f1) ((aj Am Al).f2) ((aj Am Al).f3) ((aj Am Al).f4) ((aj Am Al).f5) ((aj Am Al).f6))))) else ((aD.f true 7).bind fun Bo=>((aN.f k2 (([Aw,t171,t173,t203,Bo] : List Int))).bind fun Bp=>(av.j2 k2 Bp Am (Am.length : Int) Al ((aj Am Al).f0) ((aj Am Al).f1) ((aj Am Al).f2) ((aj Am Al).f3) ((aj Am Al).f4) ((aj Am Al).f5) ((aj Am Al).f6)))))))))))))))) = some r:=H
          have Io:=Aside0.mk Fa
          clear Fa
          replace H:=Option.bind_eq_some_iff.mp H
          obtain ⟨Aw,Fb,H⟩:=H
          replace H : ((aD.f (decide (1 > 1)) 8).bind fun t171=>((bD.f k2 ((aj Am Al).f1)).bind fun BX=>((aD.f (!BX) 6).bind fun t173=>((bK.f (((aj Am Al).f2).length : Int)).bind fun BK=>(if BK = true then ((aD.f true 18).bind fun t175=>((bE.f ((aj Am Al).f4) 64000).bind fun BL=>(if BL = true then ((bE.f ((aj Am Al).f5) 1048576).bind fun BN=>((aD.f (!BN) 7).bind fun BO=>((aN.f k2 (([Aw,t171,t173,t175,BO] : List Int))).bind fun t182=>(av.j2 k2 t182 Am (Am.length : Int) Al ((aj Am Al).f0) ((aj Am Al).f1) ((aj Am Al).f2) ((aj Am Al).f3) ((aj Am Al).f4) ((aj Am Al).f5) ((aj Am Al).f6))))) else ((aD.f true 7).bind fun t183=>((aN.f k2 (([Aw,t171,t173,t175,t183] : List Int))).bind fun BP=>(av.j2 k2 BP Am (Am.length : Int) Al ((aj Am Al).f0) ((aj Am Al).f1) ((aj Am Al).f2) ((aj Am Al).f3) ((aj Am Al).f4) ((aj Am Al).f5) ((aj Am Al).f6))))))) else ((bK.f (((aj Am Al).f3).length : Int)).bind fun Bv=>(if Bv = true then ((aD.f true 18).bind fun Bl=>((bE.f ((aj Am Al).f4) 64000).bind fun Bz=>(if Bz = true then ((bE.f ((aj Am Al).f5) 1048576).bind fun BD=>((aD.f (!BD) 7).bind fun BF=>((aN.f k2 (([Aw,t171,t173,Bl,BF] : List Int))).bind fun t196=>(av.j2 k2 t196 Am (Am.length : Int) Al ((aj Am Al).f0) ((aj Am Al).f1) ((aj Am Al).f2) ((aj Am Al).f3) ((aj Am Al).f4) ((aj Am Al).f5) ((aj Am Al).f6))))) else ((aD.f true 7).bind fun BG=>((aN.f k2 (([Aw,t171,t173,Bl,BG] : List Int))).bind fun t201=>(av.j2 k2 t201 Am (Am.length : Int) Al ((aj Am Al).f0) ((aj Am Al).f1) ((aj Am Al).f2) ((aj Am Al).f3) ((aj Am Al).f4) ((aj Am Al).f5) ((aj Am Al).f6))))))) else ((bK.f (((aj Am Al).f6).length : Int)).bind fun Br=>((aD.f Br 18).bind fun t203=>((bE.f ((aj Am Al).f4) 64000).bind fun Bn=>(if Bn = true then ((bE.f ((aj Am Al).f5) 1048576).bind fun AX=>((aD.f (!AX) 7).bind fun t206=>((aN.f k2 (([Aw,t171,t173,t203,t206] : List Int))).bind fun t210=>(av.j2 k2 t210 Am (Am.length : Int) Al ((aj Am Al).f0) ((aj Am Al).f1) ((aj Am Al).f2) ((aj Am Al).f3) ((aj Am Al).f4) ((aj Am Al).f5) ((aj Am Al).f6))))) else ((aD.f true 7).bind fun Bo=>((aN.f k2 (([Aw,t171,t173,t203,Bo] : List Int))).bind fun Bp=>(av.j2 k2 Bp Am (Am.length : Int) Al ((aj Am Al).f0) ((aj Am Al).f1) ((aj Am Al).f2) ((aj Am Al).f3) ((aj Am Al).f4) ((aj Am Al).f5) ((aj Am Al).f6))))))))))))))) = some r:=H
          have Ip:=Aside0.mk Fb
          clear Fb
          replace H:=Option.bind_eq_some_iff.mp H
          obtain ⟨t171,Fe,H⟩:=H
          replace H : ((bD.f k2 ((aj Am Al).f1)).bind fun BX=>((aD.f (!BX) 6).bind fun t173=>((bK.f (((aj Am Al).f2).length : Int)).bind fun BK=>(if BK = true then ((aD.f true 18).bind fun t175=>((bE.f ((aj Am Al).f4) 64000).bind fun BL=>(if BL = true then ((bE.f ((aj Am Al).f5) 1048576).bind fun BN=>((aD.f (!BN) 7).bind fun BO=>((aN.f k2 (([Aw,t171,t173,t175,BO] : List Int))).bind fun t182=>(av.j2 k2 t182 Am (Am.length : Int) Al ((aj Am Al).f0) ((aj Am Al).f1) ((aj Am Al).f2) ((aj Am Al).f3) ((aj Am Al).f4) ((aj Am Al).f5) ((aj Am Al).f6))))) else ((aD.f true 7).bind fun t183=>((aN.f k2 (([Aw,t171,t173,t175,t183] : List Int))).bind fun BP=>(av.j2 k2 BP Am (Am.length : Int) Al ((aj Am Al).f0) ((aj Am Al).f1) ((aj Am Al).f2) ((aj Am Al).f3) ((aj Am Al).f4) ((aj Am Al).f5) ((aj Am Al).f6))))))) else ((bK.f (((aj Am Al).f3).length : Int)).bind fun Bv=>(if Bv = true then ((aD.f true 18).bind fun Bl=>((bE.f ((aj Am Al).f4) 64000).bind fun Bz=>(if Bz = true then ((bE.f ((aj Am Al).f5) 1048576).bind fun BD=>((aD.f (!BD) 7).bind fun BF=>((aN.f k2 (([Aw,t171,t173,Bl,BF] : List Int))).bind fun t196=>(av.j2 k2 t196 Am (Am.length : Int) Al ((aj Am Al).f0) ((aj Am Al).f1) ((aj Am Al).f2) ((aj Am Al).f3) ((aj Am Al).f4) ((aj Am Al).f5) ((aj Am Al).f6))))) else ((aD.f true 7).bind fun BG=>((aN.f k2 (([Aw,t171,t173,Bl,BG] : List Int))).bind fun t201=>(av.j2 k2 t201 Am (Am.length : Int) Al ((aj Am Al).f0) ((aj Am Al).f1) ((aj Am Al).f2) ((aj Am Al).f3) ((aj Am Al).f4) ((aj Am Al).f5) ((aj Am Al).f6))))))) else ((bK.f (((aj Am Al).f6).length : Int)).bind fun Br=>((aD.f Br 18).bind fun t203=>((bE.f ((aj Am Al).f4) 64000).bind fun Bn=>(if Bn = true then ((bE.f ((aj Am Al).f5) 1048576).bind fun AX=>((aD.f (!AX) 7).bind fun t206=>((aN.f k2 (([Aw,t171,t173,t203,t206] : List Int))).bind fun t210=>(av.j2 k2 t210 Am (Am.length : Int) Al ((aj Am Al).f0) ((aj Am Al).f1) ((aj Am Al).f2) ((aj Am Al).f3) ((aj Am Al).f4) ((aj Am Al).f5) ((aj Am Al).f6))))) else ((aD.f true 7).bind fun Bo=>((aN.f k2 (([Aw,t171,t173,t203,Bo] : List Int))).bind fun Bp=>(av.j2 k2 Bp Am (Am.length : Int) Al ((aj Am Al).f0) ((aj Am Al).f1) ((aj Am Al).f2) ((aj Am Al).f3) ((aj Am Al).f4) ((aj Am Al).f5) ((aj Am Al).f6)))))))))))))) = some r:=H
          have Iq:=Aside0.mk Fe
          clear Fe
          replace H:=Option.bind_eq_some_iff.mp H
          obtain ⟨BX,Fg,H⟩:=H
          replace H : ((aD.f (!BX) 6).bind fun t173=>((bK.f (((aj Am Al).f2).length : Int)).bind fun BK=>(if BK = true then ((aD.f true 18).bind fun t175=>((bE.f ((aj Am Al).f4) 64000).bind fun BL=>(if BL = true then ((bE.f ((aj Am Al).f5) 1048576).bind fun BN=>((aD.f (!BN) 7).bind fun BO=>((aN.f k2 (([Aw,t171,t173,t175,BO] : List Int))).bind fun t182=>(av.j2 k2 t182 Am (Am.length : Int) Al ((aj Am Al).f0) ((aj Am Al).f1) ((aj Am Al).f2) ((aj Am Al).f3) ((aj Am Al).f4) ((aj Am Al).f5) ((aj Am Al).f6))))) else ((aD.f true 7).bind fun t183=>((aN.f k2 (([Aw,t171,t173,t175,t183] : List Int))).bind fun BP=>(av.j2 k2 BP Am (Am.length : Int) Al ((aj Am Al).f0) ((aj Am Al).f1) ((aj Am Al).f2) ((aj Am Al).f3) ((aj Am Al).f4) ((aj Am Al).f5) ((aj Am Al).f6))))))) else ((bK.f (((aj Am Al).f3).length : Int)).bind fun Bv=>(if Bv = true then ((aD.f true 18).bind fun Bl=>((bE.f ((aj Am Al).f4) 64000).bind fun Bz=>(if Bz = true then ((bE.f ((aj Am Al).f5) 1048576).bind fun BD=>((aD.f (!BD) 7).bind fun BF=>((aN.f k2 (([Aw,t171,t173,Bl,BF] : List Int))).bind fun t196=>(av.j2 k2 t196 Am (Am.length : Int) Al ((aj Am Al).f0) ((aj Am Al).f1) ((aj Am Al).f2) ((aj Am Al).f3) ((aj Am Al).f4) ((aj Am Al).f5) ((aj Am Al).f6))))) else ((aD.f true 7).bind fun BG=>((aN.f k2 (([Aw,t171,t173,Bl,BG] : List Int))).bind fun t201=>(av.j2 k2 t201 Am (Am.length : Int) Al ((aj Am Al).f0) ((aj Am Al).f1) ((aj Am Al).f2) ((aj Am Al).f3) ((aj Am Al).f4) ((aj Am Al).f5) ((aj Am Al).f6))))))) else ((bK.f (((aj Am Al).f6).length : Int)).bind fun Br=>((aD.f Br 18).bind fun t203=>((bE.f ((aj Am Al).f4) 64000).bind fun Bn=>(if Bn = true then ((bE.f ((aj Am Al).f5) 1048576).bind fun AX=>((aD.f (!AX) 7).bind fun t206=>((aN.f k2 (([Aw,t171,t173,t203,t206] : List Int))).bind fun t210=>(av.j2 k2 t210 Am (Am.length : Int) Al ((aj Am Al).f0) ((aj Am Al).f1) ((aj Am Al).f2) ((aj Am Al).f3) ((aj Am Al).f4) ((aj Am Al).f5) ((aj Am Al).f6))))) else ((aD.f true 7).bind fun Bo=>((aN.f k2 (([Aw,t171,t173,t203,Bo] : List Int))).bind fun Bp=>(av.j2 k2 Bp Am (Am.length : Int) Al ((aj Am Al).f0) ((aj Am Al).f1) ((aj Am Al).f2) ((aj Am Al).f3) ((aj Am Al).f4) ((aj Am Al).f5) ((aj Am Al).f6))))))))))))) = some r:=H
          have Ir:=Aside0.mk Fg
          clear Fg
          replace H:=Option.bind_eq_some_iff.mp H
          obtain ⟨t173,Fh,H⟩:=H
          replace H : ((bK.f (((aj Am Al).f2).length : Int)).bind fun BK=>(if BK = true then ((aD.f true 18).bind fun t175=>((bE.f ((aj Am Al).f4) 64000).bind fun BL=>(if BL = true then ((bE.f ((aj Am Al).f5) 1048576).bind fun BN=>((aD.f (!BN) 7).bind fun BO=>((aN.f k2 (([Aw,t171,t173,t175,BO] : List Int))).bind fun t182=>(av.j2 k2 t182 Am (Am.length : Int) Al ((aj Am Al).f0) ((aj Am Al).f1) ((aj Am Al).f2) ((aj Am Al).f3) ((aj Am Al).f4) ((aj Am Al).f5) ((aj Am Al).f6))))) else ((aD.f true 7).bind fun t183=>((aN.f k2 (([Aw,t171,t173,t175,t183] : List Int))).bind fun BP=>(av.j2 k2 BP Am (Am.length : Int) Al ((aj Am Al).f0) ((aj Am Al).f1) ((aj Am Al).f2) ((aj Am Al).f3) ((aj Am Al).f4) ((aj Am Al).f5) ((aj Am Al).f6))))))) else ((bK.f (((aj Am Al).f3).length : Int)).bind fun Bv=>(if Bv = true then ((aD.f true 18).bind fun Bl=>((bE.f ((aj Am Al).f4) 64000).bind fun Bz=>(if Bz = true then ((bE.f ((aj Am Al).f5) 1048576).bind fun BD=>((aD.f (!BD) 7).bind fun BF=>((aN.f k2 (([Aw,t171,t173,Bl,BF] : List Int))).bind fun t196=>(av.j2 k2 t196 Am (Am.length : Int) Al ((aj Am Al).f0) ((aj Am Al).f1) ((aj Am Al).f2) ((aj Am Al).f3) ((aj Am Al).f4) ((aj Am Al).f5) ((aj Am Al).f6))))) else ((aD.f true 7).bind fun BG=>((aN.f k2 (([Aw,t171,t173,Bl,BG] : List Int))).bind fun t201=>(av.j2 k2 t201 Am (Am.length : Int) Al ((aj Am Al).f0) ((aj Am Al).f1) ((aj Am Al).f2) ((aj Am Al).f3) ((aj Am Al).f4) ((aj Am Al).f5) ((aj Am Al).f6))))))) else ((bK.f (((aj Am Al).f6).length : Int)).bind fun Br=>((aD.f Br 18).bind fun t203=>((bE.f ((aj Am Al).f4) 64000).bind fun Bn=>(if Bn = true then ((bE.f ((aj Am Al).f5) 1048576).bind fun AX=>((aD.f (!AX) 7).bind fun t206=>((aN.f k2 (([Aw,t171,t173,t203,t206] : List Int))).bind fun t210=>(av.j2 k2 t210 Am (Am.length : Int) Al ((aj Am Al).f0) ((aj Am Al).f1) ((aj Am Al).f2) ((aj Am Al).f3) ((aj Am Al).f4) ((aj Am Al).f5) ((aj Am Al).f6))))) else ((aD.f true 7).bind fun Bo=>((aN.f k2 (([Aw,t171,t173,t203,Bo] : List Int))).bind fun Bp=>(av.j2 k2 Bp Am (Am.length : Int) Al ((aj Am Al).f0) ((aj Am Al).f1) ((aj Am Al).f2) ((aj Am Al).f3) ((aj Am Al).f4) ((aj Am Al).f5) ((aj Am Al).f6)))))))))))) = some r:=H
          have Iu:=Aside0.mk Fh
          clear Fh
          replace H:=Option.bind_eq_some_iff.mp H
          obtain ⟨BK,Fj,H⟩:=H
          replace H : (if BK = true then ((aD.f true 18).bind fun t175=>((bE.f ((aj Am Al).f4) 64000).bind fun BL=>(if BL = true then ((bE.f ((aj Am Al).f5) 1048576).bind fun BN=>((aD.f (!BN) 7).bind fun BO=>((aN.f k2 (([Aw,t171,t173,t175,BO] : List Int))).bind fun t182=>(av.j2 k2 t182 Am (Am.length : Int) Al ((aj Am Al).f0) ((aj Am Al).f1) ((aj Am Al).f2) ((aj Am Al).f3) ((aj Am Al).f4) ((aj Am Al).f5) ((aj Am Al).f6))))) else ((aD.f true 7).bind fun t183=>((aN.f k2 (([Aw,t171,t173,t175,t183] : List Int))).bind fun BP=>(av.j2 k2 BP Am (Am.length : Int) Al ((aj Am Al).f0) ((aj Am Al).f1) ((aj Am Al).f2) ((aj Am Al).f3) ((aj Am Al).f4) ((aj Am Al).f5) ((aj Am Al).f6))))))) else ((bK.f (((aj Am Al).f3).length : Int)).bind fun Bv=>(if Bv = true then ((aD.f true 18).bind fun Bl=>((bE.f ((aj Am Al).f4) 64000).bind fun Bz=>(if Bz = true then ((bE.f ((aj Am Al).f5) 1048576).bind fun BD=>((aD.f (!BD) 7).bind fun BF=>((aN.f k2 (([Aw,t171,t173,Bl,BF] : List Int))).bind fun t196=>(av.j2 k2 t196 Am (Am.length : Int) Al ((aj Am Al).f0) ((aj Am Al).f1) ((aj Am Al).f2) ((aj Am Al).f3) ((aj Am Al).f4) ((aj Am Al).f5) ((aj Am Al).f6))))) else ((aD.f true 7).bind fun BG=>((aN.f k2 (([Aw,t171,t173,Bl,BG] : List Int))).bind fun t201=>(av.j2 k2 t201 Am (Am.length : Int) Al ((aj Am Al).f0) ((aj Am Al).f1) ((aj Am Al).f2) ((aj Am Al).f3) ((aj Am Al).f4) ((aj Am Al).f5) ((aj Am Al).f6))))))) else ((bK.f (((aj Am Al).f6).length : Int)).bind fun Br=>((aD.f Br 18).bind fun t203=>((bE.f ((aj Am Al).f4) 64000).bind fun Bn=>(if Bn = true then ((bE.f ((aj Am Al).f5) 1048576).bind fun AX=>((aD.f (!AX) 7).bind fun t206=>((aN.f k2 (([Aw,t171,t173,t203,t206] : List Int))).bind fun t210=>(av.j2 k2 t210 Am (Am.length : Int) Al ((aj Am Al).f0) ((aj Am Al).f1) ((aj Am Al).f2) ((aj Am Al).f3) ((aj Am Al).f4) ((aj Am Al).f5) ((aj Am Al).f6))))) else ((aD.f true 7).bind fun Bo=>((aN.f k2 (([Aw,t171,t173,t203,Bo] : List Int))).bind fun Bp=>(av.j2 k2 Bp Am (Am.length : Int) Al ((aj Am Al).f0) ((aj Am Al).f1) ((aj Am Al).f2) ((aj Am Al).f3) ((aj Am Al).f4) ((aj Am Al).f5) ((aj Am Al).f6))))))))))) = some r:=H
          have Ia:=Aside0.mk Fj
          clear Fj
          by_cases Gi : BK = true
          ·exact absurd (Option.some.inj (Ia.out.symm.trans (show bK.f _ = some false by rw [(HE.out Al).1]; rfl))) (by rw [Gi]; decide)
          ·replace Gi:=Bool.eq_false_iff.mpr Gi
           subst Gi
           have H1 : ((bK.f (((aj Am Al).f3).length : Int)).bind fun Bv=>(if Bv = true then ((aD.f true 18).bind fun Bl=>((bE.f ((aj Am Al).f4) 64000).bind fun Bz=>(if Bz = true then ((bE.f ((aj Am Al).f5) 1048576).bind fun BD=>((aD.f (!BD) 7).bind fun BF=>((aN.f k2 (([Aw,t171,t173,Bl,BF] : List Int))).bind fun t196=>(av.j2 k2 t196 Am (Am.length : Int) Al ((aj Am Al).f0) ((aj Am Al).f1) ((aj Am Al).f2) ((aj Am Al).f3) ((aj Am Al).f4) ((aj Am Al).f5) ((aj Am Al).f6))))) else ((aD.f true 7).bind fun BG=>((aN.f k2 (([Aw,t171,t173,Bl,BG] : List Int))).bind fun t201=>(av.j2 k2 t201 Am (Am.length : Int) Al ((aj Am Al).f0) ((aj Am Al).f1) ((aj Am Al).f2) ((aj Am Al).f3) ((aj Am Al).f4) ((aj Am Al).f5) ((aj Am Al).f6))))))) else ((bK.f (((aj Am Al).f6).length : Int)).bind fun Br=>((aD.f Br 18).bind fun t203=>((bE.f ((aj Am Al).f4) 64000).bind fun Bn=>(if Bn = true then ((bE.f ((aj Am Al).f5) 1048576).bind fun AX=>((aD.f (!AX) 7).bind fun t206=>((aN.f k2 (([Aw,t171,t173,t203,t206] : List Int))).bind fun t210=>(av.j2 k2 t210 Am (Am.length : Int) Al ((aj Am Al).f0) ((aj Am Al).f1) ((aj Am Al).f2) ((aj Am Al).f3) ((aj Am Al).f4) ((aj Am Al).f5) ((aj Am Al).f6))))) else ((aD.f true 7).bind fun Bo=>((aN.f k2 (([Aw,t171,t173,t203,Bo] : List Int))).bind fun Bp=>(av.j2 k2 Bp Am (Am.length : Int) Al ((aj Am Al).f0) ((aj Am Al).f1) ((aj Am Al).f2) ((aj Am Al).f3) ((aj Am Al).f4) ((aj Am Al).f5) ((aj Am Al).f6)))))))))) = some r:=by rw [if_neg (show ¬ (false = true) by decide)] at H;exact H
           clear H
           have H:=H1
           clear H1
           replace H:=Option.bind_eq_some_iff.mp H
           obtain ⟨Bv,Eu,H⟩:=H
           replace H : (if Bv = true then ((aD.f true 18).bind fun Bl=>((bE.f ((aj Am Al).f4) 64000).bind fun Bz=>(if Bz = true then ((bE.f ((aj Am Al).f5) 1048576).bind fun BD=>((aD.f (!BD) 7).bind fun BF=>((aN.f k2 (([Aw,t171,t173,Bl,BF] : List Int))).bind fun t196=>(av.j2 k2 t196 Am (Am.length : Int) Al ((aj Am Al).f0) ((aj Am Al).f1) ((aj Am Al).f2) ((aj Am Al).f3) ((aj Am Al).f4) ((aj Am Al).f5) ((aj Am Al).f6))))) else ((aD.f true 7).bind fun BG=>((aN.f k2 (([Aw,t171,t173,Bl,BG] : List Int))).bind fun t201=>(av.j2 k2 t201 Am (Am.length : Int) Al ((aj Am Al).f0) ((aj Am Al).f1) ((aj Am Al).f2) ((aj Am Al).f3) ((aj Am Al).f4) ((aj Am Al).f5) ((aj Am Al).f6))))))) else ((bK.f (((aj Am Al).f6).length : Int)).bind fun Br=>((aD.f Br 18).bind fun t203=>((bE.f ((aj Am Al).f4) 64000).bind fun Bn=>(if Bn = true then ((bE.f ((aj Am Al).f5) 1048576).bind fun AX=>((aD.f (!AX) 7).bind fun t206=>((aN.f k2 (([Aw,t171,t173,t203,t206] : List Int))).bind fun t210=>(av.j2 k2 t210 Am (Am.length : Int) Al ((aj Am Al).f0) ((aj Am Al).f1) ((aj Am Al).f2) ((aj Am Al).f3) ((aj Am Al).f4) ((aj Am Al).f5) ((aj Am Al).f6))))) else ((aD.f true 7).bind fun Bo=>((aN.f k2 (([Aw,t171,t173,t203,Bo] : List Int))).bind fun Bp=>(av.j2 k2 Bp Am (Am.length : Int) Al ((aj Am Al).f0) ((aj Am Al).f1) ((aj Am Al).f2) ((aj Am Al).f3) ((aj Am Al).f4) ((aj Am Al).f5) ((aj Am Al).f6))))))))) = some r:=H
           have Fp:=Aside0.mk Eu
           clear Eu
           by_cases Eo : Bv = true
           ·exact absurd (Option.some.inj (Fp.out.symm.trans (show bK.f _ = some false by rw [(HE.out Al).2.1]; rfl))) (by rw [Eo]; decide)
           ·replace Eo:=Bool.eq_false_iff.mpr Eo
            subst Eo
            have H1 : ((bK.f (((aj Am Al).f6).length : Int)).bind fun Br=>((aD.f Br 18).bind fun t203=>((bE.f ((aj Am Al).f4) 64000).bind fun Bn=>(if Bn = true then ((bE.f ((aj Am Al).f5) 1048576).bind fun AX=>((aD.f (!AX) 7).bind fun t206=>((aN.f k2 (([Aw,t171,t173,t203,t206] : List Int))).bind fun t210=>(av.j2 k2 t210 Am (Am.length : Int) Al ((aj Am Al).f0) ((aj Am Al).f1) ((aj Am Al).f2) ((aj Am Al).f3) ((aj Am Al).f4) ((aj Am Al).f5) ((aj Am Al).f6))))) else ((aD.f true 7).bind fun Bo=>((aN.f k2 (([Aw,t171,t173,t203,Bo] : List Int))).bind fun Bp=>(av.j2 k2 Bp Am (Am.length : Int) Al ((aj Am Al).f0) ((aj Am Al).f1) ((aj Am Al).f2) ((aj Am Al).f3) ((aj Am Al).f4) ((aj Am Al).f5) ((aj Am Al).f6)))))))) = some r:=by rw [if_neg (show ¬ (false = true) by decide)] at H;exact H
            clear H
            have H:=H1
            clear H1
            replace H:=Option.bind_eq_some_iff.mp H
            obtain ⟨Br,Ew,H⟩:=H
            replace H : ((aD.f Br 18).bind fun t203=>((bE.f ((aj Am Al).f4) 64000).bind fun Bn=>(if Bn = true then ((bE.f ((aj Am Al).f5) 1048576).bind fun AX=>((aD.f (!AX) 7).bind fun t206=>((aN.f k2 (([Aw,t171,t173,t203,t206] : List Int))).bind fun t210=>(av.j2 k2 t210 Am (Am.length : Int) Al ((aj Am Al).f0) ((aj Am Al).f1) ((aj Am Al).f2) ((aj Am Al).f3) ((aj Am Al).f4) ((aj Am Al).f5) ((aj Am Al).f6))))) else ((aD.f true 7).bind fun Bo=>((aN.f k2 (([Aw,t171,t173,t203,Bo] : List Int))).bind fun Bp=>(av.j2 k2 Bp Am (Am.length : Int) Al ((aj Am Al).f0) ((aj Am Al).f1) ((aj Am Al).f2) ((aj Am Al).f3) ((aj Am Al).f4) ((aj Am Al).f5) ((aj Am Al).f6))))))) = some r:=H
            have Gv:=Aside0.mk Ew
            clear Ew
            replace H:=Option.bind_eq_some_iff.mp H
            obtain ⟨t203,Ey,H⟩:=H
            replace H : ((bE.f ((aj Am Al).f4) 64000).bind fun Bn=>(if Bn = true then ((bE.f ((aj Am Al).f5) 1048576).bind fun AX=>((aD.f (!AX) 7).bind fun t206=>((aN.f k2 (([Aw,t171,t173,t203,t206] : List Int))).bind fun t210=>(av.j2 k2 t210 Am (Am.length : Int) Al ((aj Am Al).f0) ((aj Am Al).f1) ((aj Am Al).f2) ((aj Am Al).f3) ((aj Am Al).f4) ((aj Am Al).f5) ((aj Am Al).f6))))) else ((aD.f true 7).bind fun Bo=>((aN.f k2 (([Aw,t171,t173,t203,Bo] : List Int))).bind fun Bp=>(av.j2 k2 Bp Am (Am.length : Int) Al ((aj Am Al).f0) ((aj Am Al).f1) ((aj Am Al).f2) ((aj Am Al).f3) ((aj Am Al).f4) ((aj Am Al).f5) ((aj Am Al).f6)))))) = some r:=H
            have Gw:=Aside0.mk Ey
            clear Ey
            replace H:=Option.bind_eq_some_iff.mp H
            obtain ⟨Bn,Ez,H⟩:=H
            replace H : (if Bn = true then ((bE.f ((aj Am Al).f5) 1048576).bind fun AX=>((aD.f (!AX) 7).bind fun t206=>((aN.f k2 (([Aw,t171,t173,t203,t206] : List Int))).bind fun t210=>(av.j2 k2 t210 Am (Am.length : Int) Al ((aj Am Al).f0) ((aj Am Al).f1) ((aj Am Al).f2) ((aj Am Al).f3) ((aj Am Al).f4) ((aj Am Al).f5) ((aj Am Al).f6))))) else ((aD.f true 7).bind fun Bo=>((aN.f k2 (([Aw,t171,t173,t203,Bo] : List Int))).bind fun Bp=>(av.j2 k2 Bp Am (Am.length : Int) Al ((aj Am Al).f0) ((aj Am Al).f1) ((aj Am Al).f2) ((aj Am Al).f3) ((aj Am Al).f4) ((aj Am Al).f5) ((aj Am Al).f6))))) = some r:=H
            have Fq:=Aside0.mk Ez
            clear Ez
            by_cases EM : Bn = true
            ·subst EM
             have H1 : ((bE.f ((aj Am Al).f5) 1048576).bind fun AX=>((aD.f (!AX) 7).bind fun t206=>((aN.f k2 (([Aw,t171,t173,t203,t206] : List Int))).bind fun t210=>(av.j2 k2 t210 Am (Am.length : Int) Al ((aj Am Al).f0) ((aj Am Al).f1) ((aj Am Al).f2) ((aj Am Al).f3) ((aj Am Al).f4) ((aj Am Al).f5) ((aj Am Al).f6))))) = some r:=by rw [if_pos rfl] at H;exact H
             clear H
             have H:=H1
             clear H1
             replace H:=Option.bind_eq_some_iff.mp H
             obtain ⟨AX,EA,H⟩:=H
             replace H : ((aD.f (!AX) 7).bind fun t206=>((aN.f k2 (([Aw,t171,t173,t203,t206] : List Int))).bind fun t210=>(av.j2 k2 t210 Am (Am.length : Int) Al ((aj Am Al).f0) ((aj Am Al).f1) ((aj Am Al).f2) ((aj Am Al).f3) ((aj Am Al).f4) ((aj Am Al).f5) ((aj Am Al).f6)))) = some r:=H
             have Gx:=Aside0.mk EA
             clear EA
             replace H:=Option.bind_eq_some_iff.mp H
             obtain ⟨t206,EB,H⟩:=H
             replace H : ((aN.f k2 (([Aw,t171,t173,t203,t206] : List Int))).bind fun t210=>(av.j2 k2 t210 Am (Am.length : Int) Al ((aj Am Al).f0) ((aj Am Al).f1) ((aj Am Al).f2) ((aj Am Al).f3) ((aj Am Al).f4) ((aj Am Al).f5) ((aj Am Al).f6))) = some r:=H
             have Gy:=Aside0.mk EB
             clear EB
             obtain ⟨EN,Cw⟩ : ∃ y_ : List Int,y_ = (([Aw,t171,t173,t203,t206] : List Int)):=⟨_,rfl⟩
             replace H : ((aN.f k2 EN).bind fun t210=>(av.j2 k2 t210 Am (Am.length : Int) Al ((aj Am Al).f0) ((aj Am Al).f1) ((aj Am Al).f2) ((aj Am Al).f3) ((aj Am Al).f4) ((aj Am Al).f5) ((aj Am Al).f6))) = some r:=by first|(rw [Cw];with_reducible exact H)|(have EI:=(Option.bind_some _ _).symm.trans H;rw [Cw];with_reducible exact EI)|(have EI:=(Option.bind_some _ _).symm.trans H;with_reducible exact EI)|with_reducible exact H|(rw [Cw];exact H)|exact H
             have EC:=Aside0.mk Cw
             clear Cw
             replace H:=Option.bind_eq_some_iff.mp H
             obtain ⟨t210,ED,H⟩:=H
             replace H : (av.j2 k2 t210 Am (Am.length : Int) Al ((aj Am Al).f0) ((aj Am Al).f1) ((aj Am Al).f2) ((aj Am Al).f3) ((aj Am Al).f4) ((aj Am Al).f5) ((aj Am Al).f6)) = some r:=H
             have Gz:=Aside0.mk ED
             clear ED
             have H':=Aside0.mk H
             clear H
             try go_wp2
             have BI:=Aside0.mk (aG Ap.out)
             have BJ:=Aside0.mk (aG Ao.out)
             have BQ:=Aside0.mk (aZ HB.out)
             clear Ap
             clear Ao
             clear HB
             have Ap:=BI
             have Ao:=BJ
             have HB:=BQ
             clear BI BJ BQ
             refine fu (n:=47) (S:=fun w'=>w'.cell? ⟨Aq,0,none⟩ = some (.string ((aj Am Al).f0)) ∧ w'.cell? ⟨Aq,1,none⟩ = some (.string ((aj Am Al).f1)) ∧ w'.cell? ⟨Aq,2,none⟩ = some (.slice AL ((aj Am Al).f2).length AO) ∧ w'.cell? ⟨Aq,3,none⟩ = some (.slice AQ ((aj Am Al).f3).length AU) ∧ w'.cell? ⟨Aq,4,none⟩ = some (.int .i64 ((aj Am Al).f4)) ∧ w'.cell? ⟨Aq,5,none⟩ = some (.int .i64 ((aj Am Al).f5)) ∧ w'.cell? ⟨Aq,6,none⟩ = some (.slice AZ ((aj Am Al).f6).length Bf) ∧ w'.heap[mb]? = some om) (ds:=[]) #[O,O,O,O,O,O,O,O,O,O,O,O,O,O,O,O,O,O,O,O,O,O,O,O,O,O,O,O,O,O,O,O,O,O,O,O,O,O,O,O,O,O,O,O,O,O,O] (by kernel_rfl) rfl rfl ⟨(ah Ao.out 0).trans rfl,(ah Ao.out 1).trans rfl,(ah Ao.out 2).trans rfl,(ah Ao.out 3).trans rfl,(ah Ao.out 4).trans rfl,(ah Ao.out 5).trans rfl,(ah Ao.out 6).trans rfl,BM.out⟩ (fun hHeld=>?_);refine dR av.rM av.oz (fun HT_ HW_=>?_)
             replace BM : Aside0 (w3.drew.heap[mb]? = some om) := ⟨BM.out⟩
             generalize w3.drew = GA at Ap Ao HB BM hHeld ⊢
             refine pu_ 0 62 #[I,O,O,O,O,O,O,O,O,O,O,O,O,O,O,O,O,O,O,O,O,O,O,O,O,O,O,O,O,O,O,O,O,O,O,O,O,O,O,O,O,O,O,O,O,O,O] HT_.out ?_
             refine pu_ 5 67 #[I,O,O,O,O,I,O,O,O,O,O,O,O,O,O,O,O,O,O,O,O,O,O,O,O,O,O,O,O,O,O,O,O,O,O,O,O,O,O,O,O,O,O,O,O,O,O] HT_.out ?_
             refine pu_ 6 68 #[I,O,O,O,O,I,I,O,O,O,O,O,O,O,O,O,O,O,O,O,O,O,O,O,O,O,O,O,O,O,O,O,O,O,O,O,O,O,O,O,O,O,O,O,O,O,O] HT_.out ?_
             refine pu_ 11 73 #[I,O,O,O,O,I,I,O,O,O,O,I,O,O,O,O,O,O,O,O,O,O,O,O,O,O,O,O,O,O,O,O,O,O,O,O,O,O,O,O,O,O,O,O,O,O,O] HT_.out ?_
             refine pu_ 16 78 #[I,O,O,O,O,I,I,O,O,O,O,I,O,O,O,O,I,O,O,O,O,O,O,O,O,O,O,O,O,O,O,O,O,O,O,O,O,O,O,O,O,O,O,O,O,O,O] HT_.out ?_
             refine pu_ 33 95 #[I,O,O,O,O,I,I,O,O,O,O,I,O,O,O,O,I,O,O,O,O,O,O,O,O,O,O,O,O,O,O,O,O,I,O,O,O,O,O,O,O,O,O,O,O,O,O] HT_.out ?_
             refine ta_ 1 63 #[I,I,O,O,O,I,I,O,O,O,O,I,O,O,O,O,I,O,O,O,O,O,O,O,O,O,O,O,O,O,O,O,O,I,O,O,O,O,O,O,O,O,O,O,O,O,O] HT_.out HW_.out hHeld ?_
             refine ta_ 7 69 #[I,I,O,O,O,I,I,I,O,O,O,I,O,O,O,O,I,O,O,O,O,O,O,O,O,O,O,O,O,O,O,O,O,I,O,O,O,O,O,O,O,O,O,O,O,O,O] HT_.out HW_.out hHeld ?_
             refine iy (i:=8) (N:=some 70) (v:=.int .i64 1) (a':=?_) #[I,I,O,O,O,I,I,I,I,O,O,I,O,O,O,O,I,O,O,O,O,O,O,O,O,O,O,O,O,O,O,O,O,I,O,O,O,O,O,O,O,O,O,O,O,O,O] rfl rfl (fq HT_.out HW_.out (by kernel_rfl)) (fun _ _ _ h=>h) (Or.inl ⟨by rfl,?_⟩) hHeld ?_ ?_
             ·rintro w' ⟨s0,s1,s2,s3,s4,s5,s6,s7⟩
              have hl := HLK.out w' s7
              go_simp
              try rfl
             rotate_left
             ·simp only [Act.put,List.setIfInBounds_toArray,List.set_cons_zero,List.set_cons_succ,bH,bI]
              rfl
             refine pu_ 9 71 #[I,I,O,O,O,I,I,I,I,I,O,I,O,O,O,O,I,O,O,O,O,O,O,O,O,O,O,O,O,O,O,O,O,I,O,O,O,O,O,O,O,O,O,O,O,O,O] HT_.out ?_
             refine ta_ 12 74 #[I,I,O,O,O,I,I,I,I,I,O,I,I,O,O,O,I,O,O,O,O,O,O,O,O,O,O,O,O,O,O,O,O,I,O,O,O,O,O,O,O,O,O,O,O,O,O] HT_.out HW_.out hHeld ?_
             refine ta_ 17 79 #[I,I,O,O,O,I,I,I,I,I,O,I,I,O,O,O,I,I,O,O,O,O,O,O,O,O,O,O,O,O,O,O,O,I,O,O,O,O,O,O,O,O,O,O,O,O,O] HT_.out HW_.out hHeld ?_
             refine pu_ 18 80 #[I,I,O,O,O,I,I,I,I,I,O,I,I,O,O,O,I,I,I,O,O,O,O,O,O,O,O,O,O,O,O,O,O,I,O,O,O,O,O,O,O,O,O,O,O,O,O] HT_.out ?_
             refine ta_ 34 96 #[I,I,O,O,O,I,I,I,I,I,O,I,I,O,O,O,I,I,I,O,O,O,O,O,O,O,O,O,O,O,O,O,O,I,I,O,O,O,O,O,O,O,O,O,O,O,O] HT_.out HW_.out hHeld ?_
             refine gG (i:=2) (N:=some 64) #[I,I,I,O,O,I,I,I,I,I,O,I,I,O,O,O,I,I,I,O,O,O,O,O,O,O,O,O,O,O,O,O,O,I,I,O,O,O,O,O,O,O,O,O,O,O,O] rfl rfl (dw HT_.out (by kernel_rfl)) (by decide) (fun K hK=>?_)
             refine eZ Tryd.func37 (by kernel_rfl) rfl #[.string ((aj Am Al).f0)] (by rfl) rfl rfl (by (try simp only [List.map_toArray,List.map_cons,List.map_nil]);first|done|rfl|(simp only [List.length_drop,List.length_take];rfl)) ?_
             with_reducible refine (bg.calls k2 ((aj Am Al).f0) CZ _ Io.out).mono ?_
             rintro e w' ⟨rfl,⟨nd,rfl⟩⟩
             refine ⟨_,rfl,?_⟩
             replace Ap:=Aside0.mk (aC Ap.out nd)
             replace Ao:=Aside0.mk (aC Ao.out nd)
             replace HB:=Aside0.mk (aT HB.out nd)
             replace BM:=Aside0.mk (aC BM.out nd)
             clear hHeld
             generalize World.drewN GA nd = GD at Ap Ao HB BM hK ⊢
             refine hK.out _ _ ⟨(ah Ao.out 0).trans rfl,(ah Ao.out 1).trans rfl,(ah Ao.out 2).trans rfl,(ah Ao.out 3).trans rfl,(ah Ao.out 4).trans rfl,(ah Ao.out 5).trans rfl,(ah Ao.out 6).trans rfl,BM.out⟩ (fun hHeld=>?_)
             clear hK K
             refine dU (a':=?_) ?_ ?_
             rotate_left
             ·show Act.put _ (some 64) _ = _
              simp only [Act.put,List.setIfInBounds_toArray,List.set_cons_zero,List.set_cons_succ,bH,bI]
              rfl
             refine pu_ 3 65 #[I,I,I,I,O,I,I,I,I,I,O,I,I,O,O,O,I,I,I,O,O,O,O,O,O,O,O,O,O,O,O,O,O,I,I,O,O,O,O,O,O,O,O,O,O,O,O] HT_.out ?_
             refine gG (i:=4) (N:=some 66) #[I,I,I,I,I,I,I,I,I,I,O,I,I,O,O,O,I,I,I,O,O,O,O,O,O,O,O,O,O,O,O,O,O,I,I,O,O,O,O,O,O,O,O,O,O,O,O] rfl rfl (dw HT_.out (by kernel_rfl)) (by decide) (fun K hK=>?_)
             refine eZ Tryd.func35 (by kernel_rfl) rfl #[.bool (!CZ),.int .i64 13] (by rfl) rfl rfl (by (try simp only [List.map_toArray,List.map_cons,List.map_nil]);first|done|rfl|(simp only [List.length_drop,List.length_take];rfl)) ?_
             with_reducible refine (aD.calls (!CZ) 13 Aw _ Ip.out).mono ?_
             rintro e w' ⟨rfl,⟨nd,rfl⟩⟩
             refine ⟨_,rfl,?_⟩
             replace Ap:=Aside0.mk (aC Ap.out nd)
             replace Ao:=Aside0.mk (aC Ao.out nd)
             replace HB:=Aside0.mk (aT HB.out nd)
             replace BM:=Aside0.mk (aC BM.out nd)
             clear hHeld
             generalize World.drewN GD nd = GI at Ap Ao HB BM hK ⊢
             refine hK.out _ _ ⟨(ah Ao.out 0).trans rfl,(ah Ao.out 1).trans rfl,(ah Ao.out 2).trans rfl,(ah Ao.out 3).trans rfl,(ah Ao.out 4).trans rfl,(ah Ao.out 5).trans rfl,(ah Ao.out 6).trans rfl,BM.out⟩ (fun hHeld=>?_)
             clear hK K
             refine dU (a':=?_) ?_ ?_
             rotate_left
             ·show Act.put _ (some 66) _ = _
              simp only [Act.put,List.setIfInBounds_toArray,List.set_cons_zero,List.set_cons_succ,bH,bI]
              rfl
             refine gG (i:=10) (N:=some 72) #[I,I,I,I,I,I,I,I,I,I,I,I,I,O,O,O,I,I,I,O,O,O,O,O,O,O,O,O,O,O,O,O,O,I,I,O,O,O,O,O,O,O,O,O,O,O,O] rfl rfl (dw HT_.out (by kernel_rfl)) (by decide) (fun K hK=>?_)
             refine eZ Tryd.func35 (by kernel_rfl) rfl #[.bool (decide (1 > 1)),.int .i64 8] (by rfl) rfl rfl (by (try simp only [List.map_toArray,List.map_cons,List.map_nil]);first|done|rfl|(simp only [List.length_drop,List.length_take];rfl)) ?_
             with_reducible refine (aD.calls (decide (1 > 1)) 8 t171 _ Iq.out).mono ?_
             rintro e w' ⟨rfl,⟨nd,rfl⟩⟩
             refine ⟨_,rfl,?_⟩
             replace Ap:=Aside0.mk (aC Ap.out nd)
             replace Ao:=Aside0.mk (aC Ao.out nd)
             replace HB:=Aside0.mk (aT HB.out nd)
             replace BM:=Aside0.mk (aC BM.out nd)
             clear hHeld
             generalize World.drewN GI nd = GJ at Ap Ao HB BM hK ⊢
             refine hK.out _ _ ⟨(ah Ao.out 0).trans rfl,(ah Ao.out 1).trans rfl,(ah Ao.out 2).trans rfl,(ah Ao.out 3).trans rfl,(ah Ao.out 4).trans rfl,(ah Ao.out 5).trans rfl,(ah Ao.out 6).trans rfl,BM.out⟩ (fun hHeld=>?_)
             clear hK K
             refine dU (a':=?_) ?_ ?_
             rotate_left
             ·show Act.put _ (some 72) _ = _
              simp only [Act.put,List.setIfInBounds_toArray,List.set_cons_zero,List.set_cons_succ,bH,bI]
              rfl
             refine gG (i:=13) (N:=some 75) #[I,I,I,I,I,I,I,I,I,I,I,I,I,I,O,O,I,I,I,O,O,O,O,O,O,O,O,O,O,O,O,O,O,I,I,O,O,O,O,O,O,O,O,O,O,O,O] rfl rfl (dw HT_.out (by kernel_rfl)) (by decide) (fun K hK=>?_)
             refine eZ Tryd.func40 (by kernel_rfl) rfl #[.string ((aj Am Al).f1)] (by rfl) rfl rfl (by (try simp only [List.map_toArray,List.map_cons,List.map_nil]);first|done|rfl|(simp only [List.length_drop,List.length_take];rfl)) ?_
             with_reducible refine (bD.calls k2 ((aj Am Al).f1) BX _ Ir.out).mono ?_
             rintro e w' ⟨rfl,⟨nd,rfl⟩⟩
             refine ⟨_,rfl,?_⟩
             replace Ap:=Aside0.mk (aC Ap.out nd)
             replace Ao:=Aside0.mk (aC Ao.out nd)
             replace HB:=Aside0.mk (aT HB.out nd)
             replace BM:=Aside0.mk (aC BM.out nd)
             clear hHeld
             generalize World.drewN GJ nd = GK at Ap Ao HB BM hK ⊢
             refine hK.out _ _ ⟨(ah Ao.out 0).trans rfl,(ah Ao.out 1).trans rfl,(ah Ao.out 2).trans rfl,(ah Ao.out 3).trans rfl,(ah Ao.out 4).trans rfl,(ah Ao.out 5).trans rfl,(ah Ao.out 6).trans rfl,BM.out⟩ (fun hHeld=>?_)
             clear hK K
             refine dU (a':=?_) ?_ ?_
             rotate_left
             ·show Act.put _ (some 75) _ = _
              simp only [Act.put,List.setIfInBounds_toArray,List.set_cons_zero,List.set_cons_succ,bH,bI]
              rfl
             refine pu_ 14 76 #[I,I,I,I,I,I,I,I,I,I,I,I,I,I,I,O,I,I,I,O,O,O,O,O,O,O,O,O,O,O,O,O,O,I,I,O,O,O,O,O,O,O,O,O,O,O,O] HT_.out ?_
             refine gG (i:=15) (N:=some 77) #[I,I,I,I,I,I,I,I,I,I,I,I,I,I,I,I,I,I,I,O,O,O,O,O,O,O,O,O,O,O,O,O,O,I,I,O,O,O,O,O,O,O,O,O,O,O,O] rfl rfl (dw HT_.out (by kernel_rfl)) (by decide) (fun K hK=>?_)
             refine eZ Tryd.func35 (by kernel_rfl) rfl #[.bool (!BX),.int .i64 6] (by rfl) rfl rfl (by (try simp only [List.map_toArray,List.map_cons,List.map_nil]);first|done|rfl|(simp only [List.length_drop,List.length_take];rfl)) ?_
             with_reducible refine (aD.calls (!BX) 6 t173 _ Iu.out).mono ?_
             rintro e w' ⟨rfl,⟨nd,rfl⟩⟩
             refine ⟨_,rfl,?_⟩
             replace Ap:=Aside0.mk (aC Ap.out nd)
             replace Ao:=Aside0.mk (aC Ao.out nd)
             replace HB:=Aside0.mk (aT HB.out nd)
             replace BM:=Aside0.mk (aC BM.out nd)
             clear hHeld
             generalize World.drewN GK nd = GL at Ap Ao HB BM hK ⊢
             refine hK.out _ _ ⟨(ah Ao.out 0).trans rfl,(ah Ao.out 1).trans rfl,(ah Ao.out 2).trans rfl,(ah Ao.out 3).trans rfl,(ah Ao.out 4).trans rfl,(ah Ao.out 5).trans rfl,(ah Ao.out 6).trans rfl,BM.out⟩ (fun hHeld=>?_)
             clear hK K
             refine dU (a':=?_) ?_ ?_
             rotate_left
             ·show Act.put _ (some 77) _ = _
              simp only [Act.put,List.setIfInBounds_toArray,List.set_cons_zero,List.set_cons_succ,bH,bI]
              rfl
             refine gG (i:=19) (N:=some 81) #[I,I,I,I,I,I,I,I,I,I,I,I,I,I,I,I,I,I,I,I,O,O,O,O,O,O,O,O,O,O,O,O,O,I,I,O,O,O,O,O,O,O,O,O,O,O,O] rfl rfl (dw HT_.out (by kernel_rfl)) (by decide) (fun K hK=>?_)
             refine eZ Tryd.func39 (by kernel_rfl) rfl #[.int .i64 (((aj Am Al).f2).length : Int)] (by rfl) rfl rfl (by (try simp only [List.map_toArray,List.map_cons,List.map_nil]);first|done|rfl|(simp only [List.length_drop,List.length_take];rfl)) ?_
             with_reducible refine (bK.calls (((aj Am Al).f2).length : Int) false _ Ia.out).mono ?_
             rintro e w' ⟨rfl,⟨nd,rfl⟩⟩
             refine ⟨_,rfl,?_⟩
             replace Ap:=Aside0.mk (aC Ap.out nd)
             replace Ao:=Aside0.mk (aC Ao.out nd)
             replace HB:=Aside0.mk (aT HB.out nd)
             replace BM:=Aside0.mk (aC BM.out nd)
             clear hHeld
             generalize World.drewN GL nd = GN at Ap Ao HB BM hK ⊢
             refine hK.out _ _ ⟨(ah Ao.out 0).trans rfl,(ah Ao.out 1).trans rfl,(ah Ao.out 2).trans rfl,(ah Ao.out 3).trans rfl,(ah Ao.out 4).trans rfl,(ah Ao.out 5).trans rfl,(ah Ao.out 6).trans rfl,BM.out⟩ (fun hHeld=>?_)
             clear hK K
             refine dU (a':=?_) ?_ ?_
             rotate_left
             ·show Act.put _ (some 81) _ = _
              simp only [Act.put,List.setIfInBounds_toArray,List.set_cons_zero,List.set_cons_succ,bH,bI]
              rfl
             refine pu_ 20 82 #[I,I,I,I,I,I,I,I,I,I,I,I,I,I,I,I,I,I,I,I,I,O,O,O,O,O,O,O,O,O,O,O,O,I,I,O,O,O,O,O,O,O,O,O,O,O,O] HT_.out ?_
             refine pu_ 21 83 #[I,I,I,I,I,I,I,I,I,I,I,I,I,I,I,I,I,I,I,I,I,I,O,O,O,O,O,O,O,O,O,O,O,I,I,O,O,O,O,O,O,O,O,O,O,O,O] HT_.out ?_
             refine ta_ 22 84 #[I,I,I,I,I,I,I,I,I,I,I,I,I,I,I,I,I,I,I,I,I,I,I,O,O,O,O,O,O,O,O,O,O,I,I,O,O,O,O,O,O,O,O,O,O,O,O] HT_.out HW_.out hHeld ?_
             refine pu_ 23 85 #[I,I,I,I,I,I,I,I,I,I,I,I,I,I,I,I,I,I,I,I,I,I,I,I,O,O,O,O,O,O,O,O,O,I,I,O,O,O,O,O,O,O,O,O,O,O,O] HT_.out ?_
             refine gG (i:=24) (N:=some 86) #[I,I,I,I,I,I,I,I,I,I,I,I,I,I,I,I,I,I,I,I,I,I,I,I,I,O,O,O,O,O,O,O,O,I,I,O,O,O,O,O,O,O,O,O,O,O,O] rfl rfl (dw HT_.out (by kernel_rfl)) (by decide) (fun K hK=>?_)
             refine eZ Tryd.func39 (by kernel_rfl) rfl #[.int .i64 (((aj Am Al).f3).length : Int)] (by rfl) rfl rfl (by (try simp only [List.map_toArray,List.map_cons,List.map_nil]);first|done|rfl|(simp only [List.length_drop,List.length_take];rfl)) ?_
             with_reducible refine (bK.calls (((aj Am Al).f3).length : Int) false _ Fp.out).mono ?_
             rintro e w' ⟨rfl,⟨nd,rfl⟩⟩
             refine ⟨_,rfl,?_⟩
             replace Ap:=Aside0.mk (aC Ap.out nd)
             replace Ao:=Aside0.mk (aC Ao.out nd)
             replace HB:=Aside0.mk (aT HB.out nd)
             replace BM:=Aside0.mk (aC BM.out nd)
             clear hHeld
             generalize World.drewN GN nd = GQ at Ap Ao HB BM hK ⊢
             refine hK.out _ _ ⟨(ah Ao.out 0).trans rfl,(ah Ao.out 1).trans rfl,(ah Ao.out 2).trans rfl,(ah Ao.out 3).trans rfl,(ah Ao.out 4).trans rfl,(ah Ao.out 5).trans rfl,(ah Ao.out 6).trans rfl,BM.out⟩ (fun hHeld=>?_)
             clear hK K
             refine dU (a':=?_) ?_ ?_
             rotate_left
             ·show Act.put _ (some 86) _ = _
              simp only [Act.put,List.setIfInBounds_toArray,List.set_cons_zero,List.set_cons_succ,bH,bI]
              rfl
             refine pu_ 25 87 #[I,I,I,I,I,I,I,I,I,I,I,I,I,I,I,I,I,I,I,I,I,I,I,I,I,I,O,O,O,O,O,O,O,I,I,O,O,O,O,O,O,O,O,O,O,O,O] HT_.out ?_
             refine pu_ 26 88 #[I,I,I,I,I,I,I,I,I,I,I,I,I,I,I,I,I,I,I,I,I,I,I,I,I,I,I,O,O,O,O,O,O,I,I,O,O,O,O,O,O,O,O,O,O,O,O] HT_.out ?_
             refine pu_ 27 89 #[I,I,I,I,I,I,I,I,I,I,I,I,I,I,I,I,I,I,I,I,I,I,I,I,I,I,I,I,O,O,O,O,O,I,I,O,O,O,O,O,O,O,O,O,O,O,O] HT_.out ?_
             refine ta_ 28 90 #[I,I,I,I,I,I,I,I,I,I,I,I,I,I,I,I,I,I,I,I,I,I,I,I,I,I,I,I,I,O,O,O,O,I,I,O,O,O,O,O,O,O,O,O,O,O,O] HT_.out HW_.out hHeld ?_
             refine pu_ 29 91 #[I,I,I,I,I,I,I,I,I,I,I,I,I,I,I,I,I,I,I,I,I,I,I,I,I,I,I,I,I,I,O,O,O,I,I,O,O,O,O,O,O,O,O,O,O,O,O] HT_.out ?_
             refine gG (i:=30) (N:=some 92) #[I,I,I,I,I,I,I,I,I,I,I,I,I,I,I,I,I,I,I,I,I,I,I,I,I,I,I,I,I,I,I,O,O,I,I,O,O,O,O,O,O,O,O,O,O,O,O] rfl rfl (dw HT_.out (by kernel_rfl)) (by decide) (fun K hK=>?_)
             refine eZ Tryd.func39 (by kernel_rfl) rfl #[.int .i64 (((aj Am Al).f6).length : Int)] (by rfl) rfl rfl (by (try simp only [List.map_toArray,List.map_cons,List.map_nil]);first|done|rfl|(simp only [List.length_drop,List.length_take];rfl)) ?_
             with_reducible refine (bK.calls (((aj Am Al).f6).length : Int) Br _ Gv.out).mono ?_
             rintro e w' ⟨rfl,⟨nd,rfl⟩⟩
             refine ⟨_,rfl,?_⟩
             replace Ap:=Aside0.mk (aC Ap.out nd)
             replace Ao:=Aside0.mk (aC Ao.out nd)
             replace HB:=Aside0.mk (aT HB.out nd)
             replace BM:=Aside0.mk (aC BM.out nd)
             clear hHeld
             generalize World.drewN GQ nd = GR at Ap Ao HB BM hK ⊢
             refine hK.out _ _ ⟨(ah Ao.out 0).trans rfl,(ah Ao.out 1).trans rfl,(ah Ao.out 2).trans rfl,(ah Ao.out 3).trans rfl,(ah Ao.out 4).trans rfl,(ah Ao.out 5).trans rfl,(ah Ao.out 6).trans rfl,BM.out⟩ (fun hHeld=>?_)
             clear hK K
             refine dU (a':=?_) ?_ ?_
             rotate_left
             ·show Act.put _ (some 92) _ = _
              simp only [Act.put,List.setIfInBounds_toArray,List.set_cons_zero,List.set_cons_succ,bH,bI]
              rfl
             refine pu_ 31 93 #[I,I,I,I,I,I,I,I,I,I,I,I,I,I,I,I,I,I,I,I,I,I,I,I,I,I,I,I,I,I,I,I,O,I,I,O,O,O,O,O,O,O,O,O,O,O,O] HT_.out ?_
             refine gG (i:=32) (N:=some 94) #[I,I,I,I,I,I,I,I,I,I,I,I,I,I,I,I,I,I,I,I,I,I,I,I,I,I,I,I,I,I,I,I,I,I,I,O,O,O,O,O,O,O,O,O,O,O,O] rfl rfl (dw HT_.out (by kernel_rfl)) (by decide) (fun K hK=>?_)
             refine eZ Tryd.func35 (by kernel_rfl) rfl #[.bool Br,.int .i64 18] (by rfl) rfl rfl (by (try simp only [List.map_toArray,List.map_cons,List.map_nil]);first|done|rfl|(simp only [List.length_drop,List.length_take];rfl)) ?_
             with_reducible refine (aD.calls Br 18 t203 _ Gw.out).mono ?_
             rintro e w' ⟨rfl,⟨nd,rfl⟩⟩
             refine ⟨_,rfl,?_⟩
             replace Ap:=Aside0.mk (aC Ap.out nd)
             replace Ao:=Aside0.mk (aC Ao.out nd)
             replace HB:=Aside0.mk (aT HB.out nd)
             replace BM:=Aside0.mk (aC BM.out nd)
             clear hHeld
             generalize World.drewN GR nd = GU at Ap Ao HB BM hK ⊢
             refine hK.out _ _ ⟨(ah Ao.out 0).trans rfl,(ah Ao.out 1).trans rfl,(ah Ao.out 2).trans rfl,(ah Ao.out 3).trans rfl,(ah Ao.out 4).trans rfl,(ah Ao.out 5).trans rfl,(ah Ao.out 6).trans rfl,BM.out⟩ (fun hHeld=>?_)
             clear hK K
             refine dU (a':=?_) ?_ ?_
             rotate_left
             ·show Act.put _ (some 94) _ = _
              simp only [Act.put,List.setIfInBounds_toArray,List.set_cons_zero,List.set_cons_succ,bH,bI]
              rfl
             refine gG (i:=35) (N:=some 97) #[I,I,I,I,I,I,I,I,I,I,I,I,I,I,I,I,I,I,I,I,I,I,I,I,I,I,I,I,I,I,I,I,I,I,I,I,O,O,O,O,O,O,O,O,O,O,O] rfl rfl (dw HT_.out (by kernel_rfl)) (by decide) (fun K hK=>?_)
             refine eZ Tryd.func38 (by kernel_rfl) rfl #[.int .i64 ((aj Am Al).f4),.int .i64 64000] (by rfl) rfl rfl (by (try simp only [List.map_toArray,List.map_cons,List.map_nil]);first|done|rfl|(simp only [List.length_drop,List.length_take];rfl)) ?_
             with_reducible refine (bE.calls ((aj Am Al).f4) 64000 true _ Fq.out).mono ?_
             rintro e w' ⟨rfl,⟨nd,rfl⟩⟩
             refine ⟨_,rfl,?_⟩
             replace Ap:=Aside0.mk (aC Ap.out nd)
             replace Ao:=Aside0.mk (aC Ao.out nd)
             replace HB:=Aside0.mk (aT HB.out nd)
             replace BM:=Aside0.mk (aC BM.out nd)
             clear hHeld
             generalize World.drewN GU nd = GV at Ap Ao HB BM hK ⊢
             refine hK.out _ _ ⟨(ah Ao.out 0).trans rfl,(ah Ao.out 1).trans rfl,(ah Ao.out 2).trans rfl,(ah Ao.out 3).trans rfl,(ah Ao.out 4).trans rfl,(ah Ao.out 5).trans rfl,(ah Ao.out 6).trans rfl,BM.out⟩ (fun hHeld=>?_)
             clear hK K
             refine dU (a':=?_) ?_ ?_
             rotate_left
             ·show Act.put _ (some 97) _ = _
              simp only [Act.put,List.setIfInBounds_toArray,List.set_cons_zero,List.set_cons_succ,bH,bI]
              rfl
             refine pu_ 36 98 #[I,I,I,I,I,I,I,I,I,I,I,I,I,I,I,I,I,I,I,I,I,I,I,I,I,I,I,I,I,I,I,I,I,I,I,I,I,O,O,O,O,O,O,O,O,O,O] HT_.out ?_
             refine pu_ 37 99 #[I,I,I,I,I,I,I,I,I,I,I,I,I,I,I,I,I,I,I,I,I,I,I,I,I,I,I,I,I,I,I,I,I,I,I,I,I,I,O,O,O,O,O,O,O,O,O] HT_.out ?_
             refine pu_ 38 100 #[I,I,I,I,I,I,I,I,I,I,I,I,I,I,I,I,I,I,I,I,I,I,I,I,I,I,I,I,I,I,I,I,I,I,I,I,I,I,I,O,O,O,O,O,O,O,O] HT_.out ?_
             refine ta_ 39 101 #[I,I,I,I,I,I,I,I,I,I,I,I,I,I,I,I,I,I,I,I,I,I,I,I,I,I,I,I,I,I,I,I,I,I,I,I,I,I,I,I,O,O,O,O,O,O,O] HT_.out HW_.out hHeld ?_
             refine gG (i:=40) (N:=some 102) #[I,I,I,I,I,I,I,I,I,I,I,I,I,I,I,I,I,I,I,I,I,I,I,I,I,I,I,I,I,I,I,I,I,I,I,I,I,I,I,I,I,O,O,O,O,O,O] rfl rfl (dw HT_.out (by kernel_rfl)) (by decide) (fun K hK=>?_)
             refine eZ Tryd.func38 (by kernel_rfl) rfl #[.int .i64 ((aj Am Al).f5),.int .i64 1048576] (by rfl) rfl rfl (by (try simp only [List.map_toArray,List.map_cons,List.map_nil]);first|done|rfl|(simp only [List.length_drop,List.length_take];rfl)) ?_
             with_reducible refine (bE.calls ((aj Am Al).f5) 1048576 AX _ Gx.out).mono ?_
             rintro e w' ⟨rfl,⟨nd,rfl⟩⟩
             refine ⟨_,rfl,?_⟩
             replace Ap:=Aside0.mk (aC Ap.out nd)
             replace Ao:=Aside0.mk (aC Ao.out nd)
             replace HB:=Aside0.mk (aT HB.out nd)
             replace BM:=Aside0.mk (aC BM.out nd)
             clear hHeld
             generalize World.drewN GV nd = GX at Ap Ao HB BM hK ⊢
             refine hK.out _ _ ⟨(ah Ao.out 0).trans rfl,(ah Ao.out 1).trans rfl,(ah Ao.out 2).trans rfl,(ah Ao.out 3).trans rfl,(ah Ao.out 4).trans rfl,(ah Ao.out 5).trans rfl,(ah Ao.out 6).trans rfl,BM.out⟩ (fun hHeld=>?_)
             clear hK K
             refine dU (a':=?_) ?_ ?_
             rotate_left
             ·show Act.put _ (some 102) _ = _
              simp only [Act.put,List.setIfInBounds_toArray,List.set_cons_zero,List.set_cons_succ,bH,bI]
              rfl
             refine pu_ 41 103 #[I,I,I,I,I,I,I,I,I,I,I,I,I,I,I,I,I,I,I,I,I,I,I,I,I,I,I,I,I,I,I,I,I,I,I,I,I,I,I,I,I,I,O,O,O,O,O] HT_.out ?_
             refine pu_ 42 104 #[I,I,I,I,I,I,I,I,I,I,I,I,I,I,I,I,I,I,I,I,I,I,I,I,I,I,I,I,I,I,I,I,I,I,I,I,I,I,I,I,I,I,I,O,O,O,O] HT_.out ?_
             refine gG (i:=43) (N:=some 105) #[I,I,I,I,I,I,I,I,I,I,I,I,I,I,I,I,I,I,I,I,I,I,I,I,I,I,I,I,I,I,I,I,I,I,I,I,I,I,I,I,I,I,I,I,O,O,O] rfl rfl (dw HT_.out (by kernel_rfl)) (by decide) (fun K hK=>?_)
             refine eZ Tryd.func35 (by kernel_rfl) rfl #[.bool (!AX),.int .i64 7] (by rfl) rfl rfl (by (try simp only [List.map_toArray,List.map_cons,List.map_nil]);first|done|rfl|(simp only [List.length_drop,List.length_take];rfl)) ?_
             with_reducible refine (aD.calls (!AX) 7 t206 _ Gy.out).mono ?_
             rintro e w' ⟨rfl,⟨nd,rfl⟩⟩
             refine ⟨_,rfl,?_⟩
             replace Ap:=Aside0.mk (aC Ap.out nd)
             replace Ao:=Aside0.mk (aC Ao.out nd)
             replace HB:=Aside0.mk (aT HB.out nd)
             replace BM:=Aside0.mk (aC BM.out nd)
             clear hHeld
             generalize World.drewN GX nd = Iw at Ap Ao HB BM hK ⊢
             refine hK.out _ _ ⟨(ah Ao.out 0).trans rfl,(ah Ao.out 1).trans rfl,(ah Ao.out 2).trans rfl,(ah Ao.out 3).trans rfl,(ah Ao.out 4).trans rfl,(ah Ao.out 5).trans rfl,(ah Ao.out 6).trans rfl,BM.out⟩ (fun hHeld=>?_)
             clear hK K
             refine dU (a':=?_) ?_ ?_
             rotate_left
             ·show Act.put _ (some 105) _ = _
              simp only [Act.put,List.setIfInBounds_toArray,List.set_cons_zero,List.set_cons_succ,bH,bI]
              rfl
             refine gG (i:=44) (N:=some 106) #[I,I,I,I,I,I,I,I,I,I,I,I,I,I,I,I,I,I,I,I,I,I,I,I,I,I,I,I,I,I,I,I,I,I,I,I,I,I,I,I,I,I,I,I,I,O,O] rfl rfl (dw HT_.out (by kernel_rfl)) (by decide) (fun K hK=>?_)
             refine Kd.lu (Kd.int .i64) _ 32 ?hg (N:=106) ?hd (xs:=([Aw,t171,t173,t203,t206] : List Int)) (inner:=[.int .i64 Aw,.int .i64 t171,.int .i64 t173,.int .i64 t203,.int .i64 t206]) (ok:=fun _=>True) (okp:=fun _=>True) ?hr ?hp (fun _ hk=>hk) trivial (Below.refl _ _) (Nat.le_refl _) (by simp) ?_;(case hd=>rfl);(case hg=>rfl);(case hr=>first|(go_simp;done)|(go_simp;rfl));(case hp=>exact (dX.one (show Kd.M (Kd.int .i64) _ _ _ Aw [.int .i64 Aw] from rfl) (dX.one (show Kd.M (Kd.int .i64) _ _ _ t171 [.int .i64 t171] from rfl) (dX.one (show Kd.M (Kd.int .i64) _ _ _ t173 [.int .i64 t173] from rfl) (dX.one (show Kd.M (Kd.int .i64) _ _ _ t203 [.int .i64 t203] from rfl) (dX.one (show Kd.M (Kd.int .i64) _ _ _ t206 [.int .i64 t206] from rfl) (dX.none _ _)))))))
             intro v208 Iy Cz hb hg_ hnew_
             clear hg_ hnew_
             (first|rw [← EC.out] at Cz|(simp only [Int.reduceToNat] at Cz;rw [← EC.out] at Cz))
             have BI:=Aside0.mk (Kd.iI Cz (aY hb_))
             have BJ:=Aside0.mk (aM (g:=AJ) (o:=.cells #[.string AA,.string Ay,.int .i64 Au,.int .i64 Az,.bool AB,.slice (some BS) Am.length Bw] 25 (0,0)) (bk_ Ap.out) hb)
             replace BM:=Aside0.mk (aM (g:=mb) (o:=om) (bk_ BM.out) hb)
             have BQ:=Aside0.mk (aM (g:=Aq) (o:=.cells #[.string ((aj Am Al).f0),.string ((aj Am Al).f1),.slice AL ((aj Am Al).f2).length AO,.slice AQ ((aj Am Al).f3).length AU,.int .i64 ((aj Am Al).f4),.int .i64 ((aj Am Al).f5),.slice AZ ((aj Am Al).f6).length Bf] 43 (0,0)) (bk_ Ao.out) hb)
             have C9:=Aside0.mk (aJ hb_ hb)
             clear Ap
             clear Ao
             clear HB
             have Dr:=BI
             have Ap:=BJ
             have Ao:=BQ
             have HB:=C9
             clear BI BJ BQ C9
             clear hb Cz
             obtain ⟨Fu,Fv,EF⟩:=Kd.ig Dr.out
             (first|subst EF|(injection EF with EZ Gp E5;have Gq:=EZ.symm;have Gr:=E5.symm;clear EZ Gp E5;subst Gq;subst Gr))
             refine hK.out _ _ ⟨(ah Ao.out 0).trans rfl,(ah Ao.out 1).trans rfl,(ah Ao.out 2).trans rfl,(ah Ao.out 3).trans rfl,(ah Ao.out 4).trans rfl,(ah Ao.out 5).trans rfl,(ah Ao.out 6).trans rfl,BM.out⟩ (fun hHeld=>?_)
             clear hK K
             refine dU (a':=?_) ?_ ?_
             rotate_left
             ·show Act.put _ (some 106) _ = _
              simp only [Act.put,List.setIfInBounds_toArray,List.set_cons_zero,List.set_cons_succ,bH,bI]
              rfl
             refine gG (i:=45) (N:=some 107) #[I,I,I,I,I,I,I,I,I,I,I,I,I,I,I,I,I,I,I,I,I,I,I,I,I,I,I,I,I,I,I,I,I,I,I,I,I,I,I,I,I,I,I,I,I,I,O] rfl rfl (dw HT_.out (by kernel_rfl)) (by decide) (fun K hK=>?_)
             refine eZ Tryd.func34 (by kernel_rfl) rfl #[.slice Fu EN.length Fv] (by rfl) rfl rfl (by (try simp only [List.map_toArray,List.map_cons,List.map_nil]);first|done|rfl|(simp only [List.length_drop,List.length_take];rfl)) ?_
             with_reducible refine (aN.calls k2 _ _ EN t210 _ ?Ch ?Ci Gz.out).mono ?_
             (case Ch=>repeat (first|exact (Kd.gI Dr.out).2.2|(with_reducible refine Kd.bC ?_ _)|(with_reducible refine Kd.bO ?_ _)|(with_reducible refine Kd.bW ?_)))
             (case Ci=>exact (Kd.gI Dr.out).2.1)
             rintro e w' ⟨rfl,⟨nd,rfl⟩⟩
             refine ⟨_,rfl,?_⟩
             refine hK.out _ _ ⟨(ah Ao.out 0).trans rfl,(ah Ao.out 1).trans rfl,(ah Ao.out 2).trans rfl,(ah Ao.out 3).trans rfl,(ah Ao.out 4).trans rfl,(ah Ao.out 5).trans rfl,(ah Ao.out 6).trans rfl,BM.out⟩ (fun hHeld=>?_)
             clear hK K
             refine dU (a':=?_) ?_ ?_
             rotate_left
             ·show Act.put _ (some 107) _ = _
              simp only [Act.put,List.setIfInBounds_toArray,List.set_cons_zero,List.set_cons_succ,bH,bI]
              rfl
             refine pu_ 46 7 #[I,I,I,I,I,I,I,I,I,I,I,I,I,I,I,I,I,I,I,I,I,I,I,I,I,I,I,I,I,I,I,I,I,I,I,I,I,I,I,I,I,I,I,I,I,I,I] HT_.out ?_
             refine gJ (eH HT_.out (by kernel_rfl)) ?_
             try go_wp2
             go_meet
             case rel=>exact ⟨_,(t210),(by first|rfl|(simp;done)|(simp [*];done)),H',⟨by have:=Gs.out;have:=Gt.out;first|omega|exact Nat.le_refl _⟩,⟨by (with_reducible repeat (first|apply aC|apply aG|apply aH));exact Ap.out⟩,⟨by (with_reducible repeat (first|apply aC|apply aG|apply aH));exact Ao.out⟩,⟨hb_⟩⟩
            ·exact absurd (Option.some.inj (Fq.out.symm.trans (by rw [HX0.out]; exact HFr.out HLb.out))) EM
         case rest =>
          clear EJ
          try clear c1
          try clear p2
          try clear c3
          try clear c4
          try clear c13
          try clear c16
          try clear c34
          try clear Ht
          try clear c37
          try clear Hu
          try clear Hw
          try clear c40
          try clear EM
          obtain ⟨kq,BU,rfl,HA,Fw,Ap,Ao,HB⟩:=hcut
          cases kq with
          | zero=>exact absurd HA.out (by simp [av.j2])
          | succ Fx =>
           have H:=HA.out
           clear HA
           simp only [av.j2] at H
           by_cases c148 : BU = 0
           ·rw [if_pos c148] at H
            have c148b0 : (BU == 0) = true:=beq_iff_eq.mpr c148
            have c148b1 : (BU != 0) = false:=bne_eq_false_iff_eq.mpr c148
            clear c148
            replace H:=Option.bind_eq_some_iff.mp H
            obtain ⟨BZ,EG,H⟩:=H
            replace H : (if BZ = 0 then (av.l0 Fx Am (Am.length : Int) (wrap64 (Al + 1))) else (some BZ)) = some r:=H
            have Fy:=Aside0.mk EG
            clear EG
            by_cases CB : BZ = 0
            ·rw [if_pos CB] at H
             have c150b0 : (BZ == 0) = true:=beq_iff_eq.mpr CB
             have c150b1 : (BZ != 0) = false:=bne_eq_false_iff_eq.mpr CB
             clear CB
             have H':=Aside0.mk H
             clear H
             have GY:=BR.out
             have GZ:=AP.out
             have Fz : wc.cell? ⟨Aq,0,none⟩ = some (.string ((aj Am Al).f0)):=(ah Ao.out 0).trans rfl
             have FB : wc.cell? ⟨Aq,1,none⟩ = some (.string ((aj Am Al).f1)):=(ah Ao.out 1).trans rfl
             have FC : wc.cell? ⟨Aq,2,none⟩ = some (.slice AL ((aj Am Al).f2).length AO):=(ah Ao.out 2).trans rfl
             have FD : wc.cell? ⟨Aq,3,none⟩ = some (.slice AQ ((aj Am Al).f3).length AU):=(ah Ao.out 3).trans rfl
             have FE : wc.cell? ⟨Aq,4,none⟩ = some (.int .i64 ((aj Am Al).f4)):=(ah Ao.out 4).trans rfl
             have FH : wc.cell? ⟨Aq,5,none⟩ = some (.int .i64 ((aj Am Al).f5)):=(ah Ao.out 5).trans rfl
             have FI : wc.cell? ⟨Aq,6,none⟩ = some (.slice AZ ((aj Am Al).f6).length Bf):=(ah Ao.out 6).trans rfl
             have FJ:=au Ao.out 0
             have FL:=au Ao.out 1
             have FM:=au Ao.out 2
             have FN:=au Ao.out 3
             have FP:=au Ao.out 4
             have FQ:=au Ao.out 5
             have FR:=au Ao.out 6
             go_wp2_with (first|((with_reducible refine bq (f:=41) rfl ?_);refine cO (some 111) rfl rfl Tryd.func41 (by kernel_rfl) rfl #[.agg #[.string ((aj Am Al).f0),.string ((aj Am Al).f1),.slice AL ((aj Am Al).f2).length AO,.slice AQ ((aj Am Al).f3).length AU,.int .i64 ((aj Am Al).f4),.int .i64 ((aj Am Al).f5),.slice AZ ((aj Am Al).f6).length Bf]] rfl (by (try simp only [List.map_toArray,List.map_cons,List.map_nil]);first|done|rfl|(simp only [List.length_drop,List.length_take];rfl)|(simp (disch:=first|omega|(simp at *;omega)) only [cZ,bS,dQ];rfl)) ?_;(with_reducible refine (fM.calls ((aj Am Al).f0) ((aj Am Al).f1) _ _ ((aj Am Al).f2) _ _ ((aj Am Al).f3) ((aj Am Al).f4) ((aj Am Al).f5) _ _ ((aj Am Al).f6) BZ _ ?Ch ?Ci ?Dt ?Du ?Dv ?Dw Fy.out).mono ?_);(case Ch=>repeat (first|exact (Kd.bN CS.out HB.out)|(with_reducible refine Kd.bC ?_ _)|(with_reducible refine Kd.bO ?_ _)|(with_reducible refine Kd.bW ?_)));(case Ci=>exact CU.out);(case Dt=>repeat (first|exact (Kd.bN CV.out HB.out)|(with_reducible refine Kd.bC ?_ _)|(with_reducible refine Kd.bO ?_ _)|(with_reducible refine Kd.bW ?_)));(case Du=>exact CW.out);(case Dv=>repeat (first|exact (Kd.bN CX.out HB.out)|(with_reducible refine Kd.bC ?_ _)|(with_reducible refine Kd.bO ?_ _)|(with_reducible refine Kd.bW ?_)));(case Dw=>exact CY.out);rintro e Iz ⟨rfl,hb⟩;refine ⟨_,rfl,?_⟩;have BI:=Aside0.mk (aM (g:=AJ) (o:=.cells #[.string AA,.string Ay,.int .i64 Au,.int .i64 Az,.bool AB,.slice (some BS) Am.length Bw] 25 (0,0)) (bk_ Ap.out) hb);have BJ:=Aside0.mk (aM (g:=Aq) (o:=.cells #[.string ((aj Am Al).f0),.string ((aj Am Al).f1),.slice AL ((aj Am Al).f2).length AO,.slice AQ ((aj Am Al).f3).length AU,.int .i64 ((aj Am Al).f4),.int .i64 ((aj Am Al).f5),.slice AZ ((aj Am Al).f6).length Bf] 43 (0,0)) (bk_ Ao.out) hb);have BQ:=Aside0.mk (aJ hb_ hb);clear Ap;clear Ao;clear HB;have Ap:=BI;have Ao:=BJ;have HB:=BQ;clear BI BJ BQ;(try clear hb);(try clear hb2);(try clear hk);(try clear hi)))
             go_roundg Fx
             case measure=>have:=Gs.out;have:=Gt.out;have:=Fw.out;omega
             case rel=>exact ⟨(wrap64 (Al + 1)),(by first|rfl|(simp;done)|(simp [*];done)),H',⟨by have:=Gs.out;have:=Gt.out;have:=Fw.out;omega⟩,⟨by rw [HX0.out, w01]; decide⟩,⟨fun h => absurd h (by rw [HX0.out, w01]; decide)⟩,⟨by (with_reducible repeat (first|apply aC|apply aG|apply aH));exact Ap.out⟩,⟨hb_⟩⟩
            ·rw [if_neg CB] at H
             have c150b0 : (BZ == 0) = false:=beq_eq_false_iff_ne.mpr CB
             have c150b1 : (BZ != 0) = true:=bne_iff_ne.mpr CB
             obtain rfl:=Option.some.inj H
             have G6:=BR.out
             have G7:=AP.out
             have FT : wc.cell? ⟨Aq,0,none⟩ = some (.string ((aj Am Al).f0)):=(ah Ao.out 0).trans rfl
             have FU : wc.cell? ⟨Aq,1,none⟩ = some (.string ((aj Am Al).f1)):=(ah Ao.out 1).trans rfl
             have FV : wc.cell? ⟨Aq,2,none⟩ = some (.slice AL ((aj Am Al).f2).length AO):=(ah Ao.out 2).trans rfl
             have FW : wc.cell? ⟨Aq,3,none⟩ = some (.slice AQ ((aj Am Al).f3).length AU):=(ah Ao.out 3).trans rfl
             have FX : wc.cell? ⟨Aq,4,none⟩ = some (.int .i64 ((aj Am Al).f4)):=(ah Ao.out 4).trans rfl
             have FY : wc.cell? ⟨Aq,5,none⟩ = some (.int .i64 ((aj Am Al).f5)):=(ah Ao.out 5).trans rfl
             have FZ : wc.cell? ⟨Aq,6,none⟩ = some (.slice AZ ((aj Am Al).f6).length Bf):=(ah Ao.out 6).trans rfl
             have F3:=au Ao.out 0
             have F4:=au Ao.out 1
             have F5:=au Ao.out 2
             have F6:=au Ao.out 3
             have F7:=au Ao.out 4
             have F8:=au Ao.out 5
             have F9:=au Ao.out 6
             go_wp2_with (first|((with_reducible refine bq (f:=41) rfl ?_);refine cO (some 111) rfl rfl Tryd.func41 (by kernel_rfl) rfl #[.agg #[.string ((aj Am Al).f0),.string ((aj Am Al).f1),.slice AL ((aj Am Al).f2).length AO,.slice AQ ((aj Am Al).f3).length AU,.int .i64 ((aj Am Al).f4),.int .i64 ((aj Am Al).f5),.slice AZ ((aj Am Al).f6).length Bf]] rfl (by (try simp only [List.map_toArray,List.map_cons,List.map_nil]);first|done|rfl|(simp only [List.length_drop,List.length_take];rfl)|(simp (disch:=first|omega|(simp at *;omega)) only [cZ,bS,dQ];rfl)) ?_;(with_reducible refine (fM.calls ((aj Am Al).f0) ((aj Am Al).f1) _ _ ((aj Am Al).f2) _ _ ((aj Am Al).f3) ((aj Am Al).f4) ((aj Am Al).f5) _ _ ((aj Am Al).f6) BZ _ ?Ch ?Ci ?Dt ?Du ?Dv ?Dw Fy.out).mono ?_);(case Ch=>repeat (first|exact (Kd.bN CS.out HB.out)|(with_reducible refine Kd.bC ?_ _)|(with_reducible refine Kd.bO ?_ _)|(with_reducible refine Kd.bW ?_)));(case Ci=>exact CU.out);(case Dt=>repeat (first|exact (Kd.bN CV.out HB.out)|(with_reducible refine Kd.bC ?_ _)|(with_reducible refine Kd.bO ?_ _)|(with_reducible refine Kd.bW ?_)));(case Du=>exact CW.out);(case Dv=>repeat (first|exact (Kd.bN CX.out HB.out)|(with_reducible refine Kd.bC ?_ _)|(with_reducible refine Kd.bO ?_ _)|(with_reducible refine Kd.bW ?_)));(case Dw=>exact CY.out);rintro e IB ⟨rfl,hb⟩;refine ⟨_,rfl,?_⟩;have BI:=Aside0.mk (aM (g:=AJ) (o:=.cells #[.string AA,.string Ay,.int .i64 Au,.int .i64 Az,.bool AB,.slice (some BS) Am.length Bw] 25 (0,0)) (bk_ Ap.out) hb);have BJ:=Aside0.mk (aM (g:=Aq) (o:=.cells #[.string ((aj Am Al).f0),.string ((aj Am Al).f1),.slice AL ((aj Am Al).f2).length AO,.slice AQ ((aj Am Al).f3).length AU,.int .i64 ((aj Am Al).f4),.int .i64 ((aj Am Al).f5),.slice AZ ((aj Am Al).f6).length Bf] 43 (0,0)) (bk_ Ao.out) hb);have BQ:=Aside0.mk (aJ hb_ hb);clear Ap;clear Ao;clear HB;have Ap:=BI;have Ao:=BJ;have HB:=BQ;clear BI BJ BQ;(try clear hb);(try clear hb2);(try clear hk);(try clear hi)))
             go_ret
             exact ⟨by first|rfl|(simp [aV,aW] <;> rfl)|(simp [*,aV,aW] <;> rfl),hb_⟩
           ·rw [if_neg c148] at H
            have c148b0 : (BU == 0) = false:=beq_eq_false_iff_ne.mpr c148
            have c148b1 : (BU != 0) = true:=bne_iff_ne.mpr c148
            obtain rfl:=Option.some.inj H
            go_wp2
            go_ret
            exact ⟨by first|rfl|(simp [aV,aW] <;> rfl)|(simp [*,aV,aW] <;> rfl),hb_⟩
        ·rw [if_neg Gh] at H
         exact absurd H (by simp)
       ·rw [if_neg Gg] at H
        exact absurd H (by simp)
      ·rw [if_neg EO] at H
       have c77b0 : decide (Al < (Am.length : Int)) = false:=decide_eq_false EO
       clear EO
       obtain rfl:=Option.some.inj H
       go_wp2
       go_ret
       exact ⟨by first|rfl|(simp [aV,aW] <;> rfl)|(simp [*,aV,aW] <;> rfl),hb_⟩
   ·rw [if_neg c75] at H
    have c75b0 : (Ck == 0) = false:=beq_eq_false_iff_ne.mpr c75
    have c75b1 : (Ck != 0) = true:=bne_iff_ne.mpr c75
    obtain rfl:=Option.some.inj H
    go_wp2
    go_ret
    exact ⟨by first|rfl|(simp [aV,aW] <;> rfl)|(simp [*,aV,aW] <;> rfl),hb_⟩
end Go.Proofs.YtpflenjhmeaeoaaDoor.GUt
