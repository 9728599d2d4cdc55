/- cktwo.Encode: its contract. No conditions beside those stated. -/
import Derived.Test.YtpmbdcljphpcnaaDoorGC2Text
namespace Go.Proofs.YtpmbdcljphpcnaaDoor.GC2
open Go.RowKit Go.Shelf Go.Proofs.YtpmbdcljphpcnaaDoorW.PrintWords Go.Proofs.YtpmbdcljphpcnaaDoorW.PrintLast Go.Proofs.YtpmbdcljphpcnaaDoorW.PrintMore
set_option linter.unusedVariables false
set_option linter.unusedSimpArgs false
def bS.T6 : Bool × List (List Nat × List Nat):=(true,[([],[]),([0],[0]),([1],[1]),([],[]),([3],[3]),([4],[4]),([5],[5]),([6,2],[6]),([2,7],[2,7]),([8,7],[8])])
def bS.B6 : List Nat:=[0,1,3,0,8,24,56,127,255,511]
theorem bS.uM : gM .any (opsOf Tryd.f26 6) = bS.T6:=by kernel_rfl
theorem bS.rJ : gJ bS.T6.2 bS.B6 = true:=by kernel_rfl
def bS.T11 : Bool × List (List Nat × List Nat):=(true,[([],[]),([0],[0]),([1],[1]),([2],[2]),([],[]),([4],[4]),([5],[5]),([6,3],[6]),([3,7],[3,7]),([],[]),([9],[9]),([10],[10]),([11],[11]),([12,7],[12]),([8,13],[8,13]),([14,13],[14])])
def bS.B11 : List Nat:=[0,1,3,7,0,16,48,127,255,0,512,1536,3584,7935,16383,32767]
theorem bS.vQ : gM .any (opsOf Tryd.f26 11) = bS.T11:=by kernel_rfl
theorem bS.uN : gJ bS.T11.2 bS.B11 = true:=by kernel_rfl
set_option maxHeartbeats 16000000 in
set_option maxRecDepth 100000 in
theorem bS.calls (k : Nat) (xJ : Int) (xL : Option Addr) (xK : Nat) (xI : List S98) (r1 : ByteArray) (r2 : Int) (w : World) (xO : Kd.C k98 w xL xI.length xI) (xP : xI.length ≤ xK) (h : bS.f k xJ xI = some (r1,r2)) :
  Calls Tryd.prog 26 #[.agg #[.int .u64 xJ,.slice xL xI.length xK]] w fun e w'=>e = .returned (.tuple #[.string r1,.int .i64 r2]) ∧ Below w.heap.size w w':=by
 obtain ⟨ec,hchk,h⟩:=Option.bind_eq_some_iff.1 h
 have hmf : ∀ (fn : Fn) (first cap : Array Value) (w : World),(Instr.makeFunc fn first cap).run Tryd.prog w = .ok (.func fn first cap) w:=fun _ _ _ _=>rfl
 go_enter Tryd.func26,Tryd.ntmps26
 by_cases he : ec = 0
 ·subst he
  rw [if_pos rfl] at h
  obtain ⟨p8,yx,h⟩:=Option.bind_eq_some_iff.1 h
  obtain ⟨p2,hp2,h⟩:=Option.bind_eq_some_iff.1 h
  have hsz : p8.size + p2.size ≤ 140737488355328:=Decidable.by_contra fun hn=>by rw [if_neg hn] at h;cases h
  rw [if_pos hsz] at h
  obtain ⟨rr,yc,hrr⟩:=Option.bind_eq_some_iff.1 h
  clear h
  have hrr:=Option.some.inj hrr
  injection hrr with e1 e2
  subst e1 e2
  have hc0 : ((0 : Int) != 0) = false:=rfl
  have hov : (9223372036854775807 < p8.size + p2.size) = False:=eq_false (by omega)
  go_wp2_with (go_at_call 27;refine (aM.calls k xJ xL xK xI 0 _ (Kd.dw xO _) xP hchk).mono ?_;rintro e w1 ⟨rfl,hb1⟩)
  have bx1 : w1.heap[w.heap.size]? = some (.cells #[.int .u64 xJ,.slice xL xI.length xK] 49 (0,0)):=(hb1.block _ (by simp)).trans (World.alloc_heap_new w _)
  have hle : w.heap.size + 1 ≤ w1.heap.size:=by have:=hb1.size;simpa using this
  have B1 : Below w.heap.size w w1:=((Below.refl _ w).alloc (Nat.le_refl _) _).trans (hb1.mono (by simp))
  have bxa:=(Below.heap_alloc w1 (.cells #[.pointer none,.slice none 0 0] 71) w.heap.size (by omega)).trans bx1
  have bda:=sW w1 w.heap.size (by omega)
  have Ba : Below w.heap.size w (w1.alloc (.cells #[.pointer none,.slice none 0 0] 71)):=B1.alloc (by omega) _
  have hgb : w.heap.size ≠ w1.heap.size:=by omega
  refine iM (n:=10) (S:=fun w'=>w'.cell? ⟨w.heap.size,0,none⟩ = some (.int .u64 xJ) ∧ w'.cell? ⟨w.heap.size,1,none⟩ = some (.slice xL xI.length xK)) (ds:=[]) #[false,false,false,false,false,false,false,false,false,false] (by kernel_rfl) rfl rfl ⟨cell_of bxa 0,cell_of bxa 1⟩ (fun hHeld=>?_);refine fP bS.uM bS.rJ (fun HT_ HW_=>?_)
  obtain ⟨wb,hwb⟩ : ∃ wb,(w1.alloc (.cells #[.pointer none,.slice none 0 0] 71)).drew = wb:=⟨_,rfl⟩
  have bxb : wb.heap[w.heap.size]? = some (.cells #[.int .u64 xJ,.slice xL xI.length xK] 49 (0,0)):=by rw [← hwb];exact bxa
  have bdb : Lib.IsBuilderF 71 5 w.heap.size w1.heap.size (Lib.strCells ⟨#[]⟩) wb:=by rw [← hwb];exact bda
  have Bb : Below w.heap.size w wb:=by rw [← hwb];exact av Ba
  rw [hwb] at hHeld ⊢
  clear hwb
  generalize w1.heap.size = gB at bdb hgb ⊢
  refine cZ (i:=0) (N:=some 17) (v:=?_) (a':=?_) #[true,false,false,false,false,false,false,false,false,false] rfl rfl (cB HT_.out (by kernel_rfl)) (fun _ _ _ h=>h) (Or.inl ⟨by rfl,?_⟩) ?_ ?_
  rotate_left
  ·intro w'
   go_simp
   with_reducible rfl
  rotate_left
  ·simp only [Act.put,List.setIfInBounds_toArray,List.set_cons_zero,List.set_cons_succ,bD,bG]
   rfl
  refine cZ (i:=3) (N:=some 20) (v:=?_) (a':=?_) #[true,false,false,true,false,false,false,false,false,false] rfl rfl (cB HT_.out (by kernel_rfl)) (fun _ _ _ h=>h) (Or.inl ⟨by rfl,?_⟩) ?_ ?_
  rotate_left
  ·intro w'
   go_simp
   with_reducible rfl
  rotate_left
  ·simp only [Act.put,List.setIfInBounds_toArray,List.set_cons_zero,List.set_cons_succ,bD,bG]
   rfl
  refine eX (i:=1) (N:=some 18) (v:=?_) (a':=?_) #[true,true,false,true,false,false,false,false,false,false] rfl rfl (dR HT_.out HW_.out (by kernel_rfl)) (fun _ _ _ h=>h) (Or.inl ⟨by rfl,?_⟩) hHeld ?_ ?_
  rotate_left
  ·rintro w' ⟨s0,s1⟩
   go_simp
   with_reducible rfl
  rotate_left
  ·simp only [Act.put,List.setIfInBounds_toArray,List.set_cons_zero,List.set_cons_succ,bD,bG]
   rfl
  refine eX (i:=4) (N:=some 21) (v:=?_) (a':=?_) #[true,true,false,true,true,false,false,false,false,false] rfl rfl (dR HT_.out HW_.out (by kernel_rfl)) (fun _ _ _ h=>h) (Or.inl ⟨by rfl,?_⟩) hHeld ?_ ?_
  rotate_left
  ·rintro w' ⟨s0,s1⟩
   go_simp
   with_reducible rfl
  rotate_left
  ·simp only [Act.put,List.setIfInBounds_toArray,List.set_cons_zero,List.set_cons_succ,bD,bG]
   rfl
  refine cZ (i:=5) (N:=some 22) (v:=?_) (a':=?_) #[true,true,false,true,true,true,false,false,false,false] rfl rfl (cB HT_.out (by kernel_rfl)) (fun _ _ _ h=>h) (Or.inl ⟨by rfl,?_⟩) ?_ ?_
  rotate_left
  ·intro w'
   go_simp
   with_reducible rfl
  rotate_left
  ·simp only [Act.put,List.setIfInBounds_toArray,List.set_cons_zero,List.set_cons_succ,bD,bG]
   rfl
  refine cZ (i:=6) (N:=some 23) (v:=?_) (a':=?_) #[true,true,false,true,true,true,true,false,false,false] rfl rfl (cB HT_.out (by kernel_rfl)) (fun _ _ _ h=>h) (Or.inl ⟨by rfl,?_⟩) ?_ ?_
  rotate_left
  ·intro w'
   go_simp
   with_reducible rfl
  rotate_left
  ·simp only [Act.put,List.setIfInBounds_toArray,List.set_cons_zero,List.set_cons_succ,bD,bG]
   rfl
  refine fV (i:=2) (N:=some 19) #[true,true,true,true,true,true,true,false,false,false] rfl rfl (eB HT_.out (by kernel_rfl)) (by decide) (fun K hK=>?_)
  refine eD Tryd.func38 (by kernel_rfl) rfl #[.int .i64 8,.int .u64 xJ] (by rfl) rfl rfl (by (try simp only [List.map_toArray,List.map_cons,List.map_nil]);first | done | rfl) ?_
  refine (bT.calls k 8 xJ p8 _ yx).mono ?_
  rintro e wc ⟨rfl,hb⟩
  refine ⟨_,rfl,?_⟩
  have bxc:=(hb.block _ (Array.getElem?_eq_some_iff.1 bxb).1).trans bxb
  have bdc:=iB bdb hb
  have Bc:=Bb.trans (hb.mono Bb.size)
  clear hb
  refine hK.out _ _ ⟨cell_of bxc 0,cell_of bxc 1⟩ (fun hHeld=>?_)
  clear hK K
  refine bV (a':=?_) ?_ ?_
  rotate_left
  ·show Act.put _ (some 19) _ = _
   simp only [Act.put,List.setIfInBounds_toArray,List.set_cons_zero,List.set_cons_succ,bD,bG]
   rfl
  refine fV (i:=7) (N:=some 24) #[true,true,true,true,true,true,true,true,false,false] rfl rfl (eB HT_.out (by kernel_rfl)) (by decide) (fun K hK=>?_)
  refine eD Tryd.func38 (by kernel_rfl) rfl #[.int .i64 2,.int .u64 (IntKind.u64.wrap (xI.length : Int))] (by rfl) rfl rfl (by (try simp only [List.map_toArray,List.map_cons,List.map_nil]);first | done | rfl) ?_
  refine (bT.calls k 2 (IntKind.u64.wrap (xI.length : Int)) p2 _ hp2).mono ?_
  rintro e wd ⟨rfl,hb⟩
  refine ⟨_,rfl,?_⟩
  have bxd:=(hb.block _ (Array.getElem?_eq_some_iff.1 bxc).1).trans bxc
  have bdd:=iB bdc hb
  have Bd:=Bc.trans (hb.mono Bc.size)
  clear hb
  refine hK.out _ _ ⟨cell_of bxd 0,cell_of bxd 1⟩ (fun hHeld=>?_)
  clear hK K
  refine bV (a':=?_) ?_ ?_
  rotate_left
  ·show Act.put _ (some 24) _ = _
   simp only [Act.put,List.setIfInBounds_toArray,List.set_cons_zero,List.set_cons_succ,bD,bG]
   rfl
  refine cZ (i:=8) (N:=some 25) (v:=?_) (a':=?_) #[true,true,true,true,true,true,true,true,true,false] rfl rfl (cB HT_.out (by kernel_rfl)) (fun _ _ _ h=>h) (Or.inl ⟨by rfl,?_⟩) ?_ ?_
  rotate_left
  ·intro w'
   go_simp
   with_reducible rfl
  rotate_left
  ·simp only [Act.put,List.setIfInBounds_toArray,List.set_cons_zero,List.set_cons_succ,bD,bG]
   rfl
  refine fV (i:=9) (N:=some 26) #[true,true,true,true,true,true,true,true,true,true] rfl rfl (eB HT_.out (by kernel_rfl)) (by decide) (fun K hK=>?_)
  refine eD Tryd.func37 (by kernel_rfl) rfl #[.pointer (some ⟨gB,0,none⟩),.string (p8 ++ p2)] (by rfl) rfl rfl (by (try simp only [List.map_toArray,List.map_cons,List.map_nil]);first | done | rfl) ?_
  refine (Bld.writeString w.heap.size gB (Lib.strCells ⟨#[]⟩) (p8 ++ p2) _ bdd (by rw [ByteArray.size_append];simpa [Lib.strCells] using hsz) Bd.size).mono ?_
  rintro e we ⟨rfl,hat,hbB,hk⟩
  refine ⟨_,rfl,?_⟩
  have bxe:=hk _ _ bxd (fun e=>hgb (Option.some.inj e)) (fun c fz e=>by injection e with _ e2 _;cases e2)
  have bde : Lib.IsBuilderF 71 5 w.heap.size gB (Lib.strCells (p8 ++ p2)) we:=.inr hat
  have Be:=Bd.trans hbB
  clear hat hbB hk
  refine hK.out _ _ ⟨cell_of bxe 0,cell_of bxe 1⟩ (fun hHeld=>?_)
  clear hK K
  refine bV (a':=?_) ?_ ?_
  rotate_left
  ·show Act.put _ (some 26) _ = _
   simp only [Act.put,List.setIfInBounds_toArray,List.set_cons_zero,List.set_cons_succ,bD,bG]
   rfl
  refine jv (gX HT_.out (by kernel_rfl)) ?_
  have yA:=cell_of bxe 0
  have yB:=cell_of bxe 1
  try go_wp2
  generalize p8 ++ p2 = acc0 at yc bde ⊢
  go_loopg [30] xI.length (fun kq v30 w'=>∃ (i : Nat) (acc : ByteArray),v30 = .int .i64 (i : Int) ∧ Aside0 (i + kq = xI.length) ∧ Aside0 (gQ k acc (xI.drop i) = some rr) ∧ Aside0 (w'.heap[w.heap.size]? = some (.cells #[.int .u64 xJ,.slice xL xI.length xK] 49 (0,0))) ∧ Aside0 (Lib.IsBuilderF 71 5 w.heap.size gB (Lib.strCells acc) w') ∧ Aside0 (Below w.heap.size w w'))
  case atStart=>exact ⟨0,acc0,rfl,⟨by omega⟩,⟨yc⟩,⟨bxe⟩,⟨bde⟩,⟨Be⟩⟩
  case round =>
   clear yc bxe bde Be bx1 bxa bda Ba bxb bdb Bb bxc bdc Bc bxd bdd Bd yA yB hHeld
   obtain ⟨i,acc,rfl,hi,hE,bx,bd,B⟩:=hrel
   cases gk with
   | zero =>
    have hend : decide ((i : Int) < (xI.length : Int)) = false:=decide_eq_false (by have:=hi.out;omega)
    have xS : decide (i < xI.length) = false:=decide_eq_false (by have:=hi.out;omega)
    have xU : (i < xI.length) = False:=eq_false (by have:=hi.out;omega)
    have hE':=hE.out
    rw [List.drop_eq_nil_of_le (by have:=hi.out;omega)] at hE'
    have hr:=Option.some.inj hE'
    subst hr
    have hS:=Tryd.Builder_String_any_k w.heap.size gB acc.data.toList _ (by rw [← lN];exact bd.out) B.out.size
    go_wp2_with (go_at_call 40;refine hS.mono ?_;rintro e w2 ⟨rfl,_,hb2,_⟩)
    go_ret2
    exact ⟨rfl,B.out.trans hb2⟩
   | succ k1 =>
    have hlt : i < xI.length:=by have:=hi.out;omega
    have c1 : decide ((i : Int) < (xI.length : Int)) = true:=decide_eq_true (by omega)
    have p1 : 0 ≤ (i : Int):=by omega
    have q1 : (i : Int) < (xI.length : Int):=by omega
    obtain ⟨ad,A5,c5,e,hx0,hx1,hx2,hx3,hx4,hx5,_,k5⟩:=jD xO (i : Int) p1 q1
    cases e
    replace hx0:=(B.out.cell (World.block_lt_of_cell? w _ hx0)).trans hx0
    replace hx1:=(B.out.cell (World.block_lt_of_cell? w _ hx1)).trans hx1
    replace hx2:=(B.out.cell (World.block_lt_of_cell? w _ hx2)).trans hx2
    replace hx3:=(B.out.cell (World.block_lt_of_cell? w _ hx3)).trans hx3
    replace hx4:=(B.out.cell (World.block_lt_of_cell? w _ hx4)).trans hx4
    replace hx5:=(B.out.cell (World.block_lt_of_cell? w _ hx5)).trans hx5
    simp only [Int.toNat_natCast] at hx0 hx1 hx2 hx3 hx4 hx5
    replace p1:=eq_true p1
    replace q1:=eq_true q1
    have hE1:=hE.out
    rw [List.drop_eq_getElem_cons hlt,show xI[i] = aD xI (i : Int) by simp [aD,List.getElem?_eq_getElem hlt],gQ] at hE1
    have gBl:=rH bd.out
    have n0l : w.heap.size < wr.heap.size:=(Array.getElem?_eq_some_iff.1 bx.out).1
    generalize hp : aD xI (i : Int) = p at hE1 hx0 hx1 hx2 hx3 hx4 hx5 k5
    clear hp
    obtain ⟨xM,ht1,hE1⟩:=Option.bind_eq_some_iff.1 hE1
    obtain ⟨b1,hb1,hE1⟩:=Option.bind_eq_some_iff.1 hE1
    obtain ⟨b2,hb2,hE1⟩:=Option.bind_eq_some_iff.1 hE1
    obtain ⟨b3,hb3,hE1⟩:=Option.bind_eq_some_iff.1 hE1
    have xQ : xM.size + (b1.size + b2.size + b3.size) ≤ 140737488355328:=Decidable.by_contra fun hn=>by rw [if_neg hn] at hE1;cases hE1
    rw [if_pos xQ] at hE1
    obtain ⟨yg,hcons,hE1⟩:=Option.bind_eq_some_iff.1 hE1
    have HE:=Aside0.mk hE1
    have HC:=Aside0.mk hcons
    have LW : Aside0 ((Lib.strCells xM).length + (b1 ++ b2 ++ b3).size ≤ 140737488355328):=⟨by rw [Lib.strCells_length,ByteArray.size_append,ByteArray.size_append];exact xQ⟩
    have yC : (9223372036854775807 < b1.size + b2.size) = False:=eq_false (by omega)
    have yD : (9223372036854775807 < (b1 ++ b2).size + b3.size) = False:=eq_false (by rw [ByteArray.size_append];omega)
    have yE : (9223372036854775807 < b1.size + b2.size + b3.size) = False:=eq_false (by omega)
    have K5:=Aside0.mk k5
    have hwv : Value.int .i64 (wrap64 ((i : Int) + 1)) = Value.int .i64 ((i + 1 : Nat) : Int):=by have:=Kd.mo xO;rw [bY (by omega) (by omega)];rfl
    have hnx : Aside0 (i + 1 + k1 = xI.length):=⟨by have:=hi.out;omega⟩
    clear hE1 hE hcons xQ k5
    have xW:=Aside0.mk ((Below.heap_alloc (wr.alloc (.cells #[.string p.f0,.string p.f1,.string p.f2,.int .u8 p.f3,.int .u16 p.f4,.slice A5 p.f5.length c5] 98)) (.cells #[.string p.f0,.string p.f1,.string p.f2] 9) w.heap.size (by simp;omega)).trans ((Below.heap_alloc wr (.cells #[.string p.f0,.string p.f1,.string p.f2,.int .u8 p.f3,.int .u16 p.f4,.slice A5 p.f5.length c5] 98) w.heap.size n0l).trans bx.out))
    have yt:=Aside0.mk ((Below.heap_alloc (wr.alloc (.cells #[.string p.f0,.string p.f1,.string p.f2,.int .u8 p.f3,.int .u16 p.f4,.slice A5 p.f5.length c5] 98)) (.cells #[.string p.f0,.string p.f1,.string p.f2] 9) wr.heap.size (by simp)).trans (World.alloc_heap_new wr _))
    have xR:=World.alloc_heap_new (wr.alloc (.cells #[.string p.f0,.string p.f1,.string p.f2,.int .u8 p.f3,.int .u16 p.f4,.slice A5 p.f5.length c5] 98)) (.cells #[.string p.f0,.string p.f1,.string p.f2] 9)
    rw [World.size_alloc] at xR
    have xX:=Aside0.mk xR
    have xY:=Aside0.mk (Lib.IsBuilderF.alloc (Lib.IsBuilderF.alloc bd.out (.cells #[.string p.f0,.string p.f1,.string p.f2,.int .u8 p.f3,.int .u16 p.f4,.slice A5 p.f5.length c5] 98)) (.cells #[.string p.f0,.string p.f1,.string p.f2] 9))
    have B3:=Aside0.mk ((B.out.alloc (by omega) (.cells #[.string p.f0,.string p.f1,.string p.f2,.int .u8 p.f3,.int .u16 p.f4,.slice A5 p.f5.length c5] 98)).alloc (by simp;omega) (.cells #[.string p.f0,.string p.f1,.string p.f2] 9))
    clear bx bd B xR
    have h7B : wr.heap.size ≠ gB:=by omega
    have h8B:=h7B
    have hsB : wr.heap.size + 1 ≠ gB:=by omega
    go_wp2_with (first | (go_at_call 55;refine (tV.calls k w.heap.size (wr.heap.size + 1) gB [p.f0,p.f1,p.f2] acc xM _ xX.out (by simp) hsB xY.out B3.out.size ht1).mono ?_;rintro e w4 ⟨rfl,xZ,hb4,xV⟩))
    have bx:=Aside0.mk (xV _ _ xW.out hgb (fun c fz e=>by injection e with _ e2 _;cases e2))
    have bp:=Aside0.mk (xV _ _ yt.out h7B (fun c fz e=>by injection e with _ e2 _;cases e2))
    have bd:=Aside0.mk xZ
    have B:=Aside0.mk (B3.out.trans hb4)
    clear xW yt xX xY B3 xZ hb4 xV hx0 hx1 hx2 hx3 hx4 hx5
    generalize wr.heap.size = g7 at bp h7B h8B ⊢
    refine iM (n:=16) (S:=fun w'=>w'.cell? ⟨g7,3,none⟩ = some (.int .u8 p.f3) ∧ w'.cell? ⟨g7,4,none⟩ = some (.int .u16 p.f4) ∧ w'.cell? ⟨g7,5,none⟩ = some (.slice A5 p.f5.length c5)) (ds:=[]) #[false,false,false,false,false,false,false,false,false,false,false,false,false,false,false,false] (by kernel_rfl) rfl rfl ⟨cell_of bp.out 3,cell_of bp.out 4,cell_of bp.out 5⟩ (fun hHeld=>?_);refine fP bS.vQ bS.uN (fun HT_ HW_=>?_)
    obtain ⟨wz,hwz⟩ : ∃ wz,w4.drew = wz:=⟨_,rfl⟩
    replace bx : Aside0 (wz.heap[w.heap.size]? = some (.cells #[.int .u64 xJ,.slice (some ad) xI.length xK] 49 (0,0))):=⟨by rw [← hwz];exact bx.out⟩
    replace bp : Aside0 (wz.heap[g7]? = some (.cells #[.string p.f0,.string p.f1,.string p.f2,.int .u8 p.f3,.int .u16 p.f4,.slice A5 p.f5.length c5] 98 (0,0))):=⟨by rw [← hwz];exact bp.out⟩
    replace bd : Aside0 (Lib.IsBuilderF 71 5 w.heap.size gB (Lib.strCells xM) wz):=⟨by rw [← hwz];exact bd.out⟩
    replace B : Aside0 (Below w.heap.size w wz):=⟨by rw [← hwz];exact av B.out⟩
    rw [hwz] at hHeld ⊢
    clear hwz
    refine cZ (i:=0) (N:=some 43) (v:=?_) (a':=?_) #[true,false,false,false,false,false,false,false,false,false,false,false,false,false,false,false] rfl rfl (cB HT_.out (by kernel_rfl)) (fun _ _ _ h=>h) (Or.inl ⟨by rfl,?_⟩) ?_ ?_
    rotate_left
    ·intro w'
     go_simp
     with_reducible rfl
    rotate_left
    ·simp only [Act.put,List.setIfInBounds_toArray,List.set_cons_zero,List.set_cons_succ,bD,bG]
     rfl
    refine cZ (i:=4) (N:=some 47) (v:=?_) (a':=?_) #[true,false,false,false,true,false,false,false,false,false,false,false,false,false,false,false] rfl rfl (cB HT_.out (by kernel_rfl)) (fun _ _ _ h=>h) (Or.inl ⟨by rfl,?_⟩) ?_ ?_
    rotate_left
    ·intro w'
     go_simp
     with_reducible rfl
    rotate_left
    ·simp only [Act.put,List.setIfInBounds_toArray,List.set_cons_zero,List.set_cons_succ,bD,bG]
     rfl
    refine cZ (i:=9) (N:=some 52) (v:=?_) (a':=?_) #[true,false,false,false,true,false,false,false,false,true,false,false,false,false,false,false] rfl rfl (cB HT_.out (by kernel_rfl)) (fun _ _ _ h=>h) (Or.inl ⟨by rfl,?_⟩) ?_ ?_
    rotate_left
    ·intro w'
     go_simp
     with_reducible rfl
    rotate_left
    ·simp only [Act.put,List.setIfInBounds_toArray,List.set_cons_zero,List.set_cons_succ,bD,bG]
     rfl
    refine eX (i:=1) (N:=some 44) (v:=?_) (a':=?_) #[true,true,false,false,true,false,false,false,false,true,false,false,false,false,false,false] rfl rfl (dR HT_.out HW_.out (by kernel_rfl)) (fun _ _ _ h=>h) (Or.inl ⟨by rfl,?_⟩) hHeld ?_ ?_
    rotate_left
    ·rintro w' ⟨s0,s1,s2⟩
     go_simp
     with_reducible rfl
    rotate_left
    ·simp only [Act.put,List.setIfInBounds_toArray,List.set_cons_zero,List.set_cons_succ,bD,bG]
     rfl
    refine eX (i:=5) (N:=some 48) (v:=?_) (a':=?_) #[true,true,false,false,true,true,false,false,false,true,false,false,false,false,false,false] rfl rfl (dR HT_.out HW_.out (by kernel_rfl)) (fun _ _ _ h=>h) (Or.inl ⟨by rfl,?_⟩) hHeld ?_ ?_
    rotate_left
    ·rintro w' ⟨s0,s1,s2⟩
     go_simp
     with_reducible rfl
    rotate_left
    ·simp only [Act.put,List.setIfInBounds_toArray,List.set_cons_zero,List.set_cons_succ,bD,bG]
     rfl
    refine eX (i:=10) (N:=some 53) (v:=?_) (a':=?_) #[true,true,false,false,true,true,false,false,false,true,true,false,false,false,false,false] rfl rfl (dR HT_.out HW_.out (by kernel_rfl)) (fun _ _ _ h=>h) (Or.inl ⟨by rfl,?_⟩) hHeld ?_ ?_
    rotate_left
    ·rintro w' ⟨s0,s1,s2⟩
     go_simp
     with_reducible rfl
    rotate_left
    ·simp only [Act.put,List.setIfInBounds_toArray,List.set_cons_zero,List.set_cons_succ,bD,bG]
     rfl
    refine cZ (i:=2) (N:=some 45) (v:=?_) (a':=?_) #[true,true,true,false,true,true,false,false,false,true,true,false,false,false,false,false] rfl rfl (cB HT_.out (by kernel_rfl)) (fun _ _ _ h=>h) (Or.inl ⟨by rfl,?_⟩) ?_ ?_
    rotate_left
    ·intro w'
     go_simp
     with_reducible rfl
    rotate_left
    ·simp only [Act.put,List.setIfInBounds_toArray,List.set_cons_zero,List.set_cons_succ,bD,bG]
     rfl
    refine cZ (i:=6) (N:=some 49) (v:=?_) (a':=?_) #[true,true,true,false,true,true,true,false,false,true,true,false,false,false,false,false] rfl rfl (cB HT_.out (by kernel_rfl)) (fun _ _ _ h=>h) (Or.inl ⟨by rfl,?_⟩) ?_ ?_
    rotate_left
    ·intro w'
     go_simp
     with_reducible rfl
    rotate_left
    ·simp only [Act.put,List.setIfInBounds_toArray,List.set_cons_zero,List.set_cons_succ,bD,bG]
     rfl
    refine cZ (i:=11) (N:=some 54) (v:=?_) (a':=?_) #[true,true,true,false,true,true,true,false,false,true,true,true,false,false,false,false] rfl rfl (cB HT_.out (by kernel_rfl)) (fun _ _ _ h=>h) (Or.inl ⟨by rfl,?_⟩) ?_ ?_
    rotate_left
    ·intro w'
     go_simp
     with_reducible rfl
    rotate_left
    ·simp only [Act.put,List.setIfInBounds_toArray,List.set_cons_zero,List.set_cons_succ,bD,bG]
     rfl
    refine cZ (i:=12) (N:=some 55) (v:=?_) (a':=?_) #[true,true,true,false,true,true,true,false,false,true,true,true,true,false,false,false] rfl rfl (cB HT_.out (by kernel_rfl)) (fun _ _ _ h=>h) (Or.inl ⟨by rfl,?_⟩) ?_ ?_
    rotate_left
    ·intro w'
     go_simp
     with_reducible rfl
    rotate_left
    ·simp only [Act.put,List.setIfInBounds_toArray,List.set_cons_zero,List.set_cons_succ,bD,bG]
     rfl
    refine fV (i:=3) (N:=some 46) #[true,true,true,true,true,true,true,false,false,true,true,true,true,false,false,false] rfl rfl (eB HT_.out (by kernel_rfl)) (by decide) (fun K hK=>?_)
    refine eD Tryd.func38 (by kernel_rfl) rfl #[.int .i64 1,.int .u64 (IntKind.u64.wrap p.f3)] (by rfl) rfl rfl (by (try simp only [List.map_toArray,List.map_cons,List.map_nil]);first | done | rfl) ?_
    refine (bT.calls k 1 (IntKind.u64.wrap p.f3) b1 _ hb1).mono ?_
    rintro e wc ⟨rfl,hb⟩
    refine ⟨_,rfl,?_⟩
    have bx:=Aside0.mk ((hb.block _ (Array.getElem?_eq_some_iff.1 bx.out).1).trans bx.out)
    have bp:=Aside0.mk ((hb.block _ (Array.getElem?_eq_some_iff.1 bp.out).1).trans bp.out)
    have bd:=Aside0.mk (iB bd.out hb)
    have B:=Aside0.mk (B.out.trans (hb.mono B.out.size))
    clear hb
    refine hK.out _ _ ⟨cell_of bp.out 3,cell_of bp.out 4,cell_of bp.out 5⟩ (fun hHeld=>?_)
    clear hK K
    refine bV (a':=?_) ?_ ?_
    rotate_left
    ·show Act.put _ (some 46) _ = _
     simp only [Act.put,List.setIfInBounds_toArray,List.set_cons_zero,List.set_cons_succ,bD,bG]
     rfl
    refine fV (i:=7) (N:=some 50) #[true,true,true,true,true,true,true,true,false,true,true,true,true,false,false,false] rfl rfl (eB HT_.out (by kernel_rfl)) (by decide) (fun K hK=>?_)
    refine eD Tryd.func38 (by kernel_rfl) rfl #[.int .i64 2,.int .u64 (IntKind.u64.wrap p.f4)] (by rfl) rfl rfl (by (try simp only [List.map_toArray,List.map_cons,List.map_nil]);first | done | rfl) ?_
    refine (bT.calls k 2 (IntKind.u64.wrap p.f4) b2 _ hb2).mono ?_
    rintro e wd ⟨rfl,hb⟩
    refine ⟨_,rfl,?_⟩
    have bx:=Aside0.mk ((hb.block _ (Array.getElem?_eq_some_iff.1 bx.out).1).trans bx.out)
    have bp:=Aside0.mk ((hb.block _ (Array.getElem?_eq_some_iff.1 bp.out).1).trans bp.out)
    have bd:=Aside0.mk (iB bd.out hb)
    have B:=Aside0.mk (B.out.trans (hb.mono B.out.size))
    clear hb
    refine hK.out _ _ ⟨cell_of bp.out 3,cell_of bp.out 4,cell_of bp.out 5⟩ (fun hHeld=>?_)
    clear hK K
    refine bV (a':=?_) ?_ ?_
    rotate_left
    ·show Act.put _ (some 50) _ = _
     simp only [Act.put,List.setIfInBounds_toArray,List.set_cons_zero,List.set_cons_succ,bD,bG]
     rfl
    refine cZ (i:=8) (N:=some 51) (v:=?_) (a':=?_) #[true,true,true,true,true,true,true,true,true,true,true,true,true,false,false,false] rfl rfl (cB HT_.out (by kernel_rfl)) (fun _ _ _ h=>h) (Or.inl ⟨by rfl,?_⟩) ?_ ?_
    rotate_left
    ·intro w'
     go_simp
     with_reducible rfl
    rotate_left
    ·simp only [Act.put,List.setIfInBounds_toArray,List.set_cons_zero,List.set_cons_succ,bD,bG]
     rfl
    refine fV (i:=13) (N:=some 56) #[true,true,true,true,true,true,true,true,true,true,true,true,true,true,false,false] rfl rfl (eB HT_.out (by kernel_rfl)) (by decide) (fun K hK=>?_)
    refine eD Tryd.func38 (by kernel_rfl) rfl #[.int .i64 1,.int .u64 (IntKind.u64.wrap (p.f5.length : Int))] (by rfl) rfl rfl (by (try simp only [List.map_toArray,List.map_cons,List.map_nil]);first | done | rfl) ?_
    refine (bT.calls k 1 (IntKind.u64.wrap (p.f5.length : Int)) b3 _ hb3).mono ?_
    rintro e we ⟨rfl,hb⟩
    refine ⟨_,rfl,?_⟩
    have bx:=Aside0.mk ((hb.block _ (Array.getElem?_eq_some_iff.1 bx.out).1).trans bx.out)
    have bp:=Aside0.mk ((hb.block _ (Array.getElem?_eq_some_iff.1 bp.out).1).trans bp.out)
    have bd:=Aside0.mk (iB bd.out hb)
    have B:=Aside0.mk (B.out.trans (hb.mono B.out.size))
    clear hb
    refine hK.out _ _ ⟨cell_of bp.out 3,cell_of bp.out 4,cell_of bp.out 5⟩ (fun hHeld=>?_)
    clear hK K
    refine bV (a':=?_) ?_ ?_
    rotate_left
    ·show Act.put _ (some 56) _ = _
     simp only [Act.put,List.setIfInBounds_toArray,List.set_cons_zero,List.set_cons_succ,bD,bG]
     rfl
    refine cZ (i:=14) (N:=some 57) (v:=?_) (a':=?_) #[true,true,true,true,true,true,true,true,true,true,true,true,true,true,true,false] rfl rfl (cB HT_.out (by kernel_rfl)) (fun _ _ _ h=>h) (Or.inl ⟨by rfl,?_⟩) ?_ ?_
    rotate_left
    ·intro w'
     go_simp
     with_reducible rfl
    rotate_left
    ·simp only [Act.put,List.setIfInBounds_toArray,List.set_cons_zero,List.set_cons_succ,bD,bG]
     rfl
    refine fV (i:=15) (N:=some 58) #[true,true,true,true,true,true,true,true,true,true,true,true,true,true,true,true] rfl rfl (eB HT_.out (by kernel_rfl)) (by decide) (fun K hK=>?_)
    refine eD Tryd.func37 (by kernel_rfl) rfl #[.pointer (some ⟨gB,0,none⟩),.string (b1 ++ b2 ++ b3)] (by rfl) rfl rfl (by (try simp only [List.map_toArray,List.map_cons,List.map_nil]);first | done | rfl) ?_
    refine (Bld.writeString w.heap.size gB (Lib.strCells xM) (b1 ++ b2 ++ b3) _ bd.out LW.out B.out.size).mono ?_
    rintro e wf ⟨rfl,hat,hbB,hk⟩
    refine ⟨_,rfl,?_⟩
    rw [iU] at hat
    have bx:=Aside0.mk (hk _ _ bx.out (fun e=>hgb (Option.some.inj e)) (fun c fz e=>by injection e with _ e2 _;cases e2))
    have bp:=Aside0.mk (hk _ _ bp.out (fun e=>h8B (Option.some.inj e)) (fun c fz e=>by injection e with _ e2 _;cases e2))
    have bd : Aside0 (Lib.IsBuilderF 71 5 w.heap.size gB (Lib.strCells (xM ++ (b1 ++ b2 ++ b3))) wf):=⟨.inr hat⟩
    have B:=Aside0.mk (B.out.trans hbB)
    clear hat hbB hk
    refine hK.out _ _ ⟨cell_of bp.out 3,cell_of bp.out 4,cell_of bp.out 5⟩ (fun hHeld=>?_)
    clear hK K
    refine bV (a':=?_) ?_ ?_
    rotate_left
    ·show Act.put _ (some 58) _ = _
     simp only [Act.put,List.setIfInBounds_toArray,List.set_cons_zero,List.set_cons_succ,bD,bG]
     rfl
    refine jv (gX HT_.out (by kernel_rfl)) ?_
    have z5:=cell_of bp.out 5
    clear LW
    generalize b1 ++ b2 ++ b3 = bb at HC bd ⊢
    try go_wp2
    clear z5 hHeld
    generalize xM ++ bb = yh at HC bd ⊢
    go_loopg [62] p.f5.length (fun kq v62 w'=>∃ (j : Nat) (ac : ByteArray),v62 = .int .i64 (j : Int) ∧ Aside0 (j + kq = p.f5.length) ∧ Aside0 (iA k ac (p.f5.drop j) = some yg) ∧ Aside0 (w'.heap[w.heap.size]? = some (.cells #[.int .u64 xJ,.slice (some ad) xI.length xK] 49 (0,0))) ∧ Aside0 (Lib.IsBuilderF 71 5 w.heap.size gB (Lib.strCells ac) w') ∧ Aside0 (Below w.heap.size w w'))
    case atStart=>exact ⟨0,yh,rfl,⟨by omega⟩,HC,bx,bd,B⟩
    case round =>
     clear HC bx bp bd B
     obtain ⟨j,ac,rfl,hj,hT,bx,bd,B⟩:=hrel
     cases gk with
     | zero =>
      have hend : decide ((j : Int) < (p.f5.length : Int)) = false:=decide_eq_false (by have:=hj.out;omega)
      have xS : decide (j < p.f5.length) = false:=decide_eq_false (by have:=hj.out;omega)
      have xU : (j < p.f5.length) = False:=eq_false (by have:=hj.out;omega)
      have hT':=hT.out
      rw [List.drop_eq_nil_of_le (by have:=hj.out;omega)] at hT'
      have ht:=Option.some.inj hT'
      subst ht
      go_wp2
      go_roundg k1
      case measure=>exact Nat.lt_succ_self k1
      case rel=>exact ⟨i + 1,ac,by first | exact hwv | rfl,hnx,HE,bx,bd,B⟩
     | succ k2 =>
      have hlt : j < p.f5.length:=by have:=hj.out;omega
      have c1 : decide ((j : Int) < (p.f5.length : Int)) = true:=decide_eq_true (by omega)
      have p1 : 0 ≤ (j : Int):=by omega
      have q1 : (j : Int) < (p.f5.length : Int):=by omega
      obtain ⟨yF,e,hy0,hy1⟩:=jl K5.out (j : Int) p1 q1
      cases e
      replace hy0:=(B.out.cell (World.block_lt_of_cell? w _ hy0)).trans hy0
      replace hy1:=(B.out.cell (World.block_lt_of_cell? w _ hy1)).trans hy1
      simp only [Int.toNat_natCast] at hy0 hy1
      replace p1:=eq_true p1
      replace q1:=eq_true q1
      have q3 : (j < p.f5.length) = True:=eq_true hlt
      have hT1:=hT.out
      rw [List.drop_eq_getElem_cons hlt,show p.f5[j] = dS p.f5 (j : Int) by simp [dS,List.getElem?_eq_getElem hlt],iA] at hT1
      generalize dS p.f5 (j : Int) = c at hy0 hy1 hT1
      obtain ⟨yu,ht2,yw⟩:=Option.bind_eq_some_iff.1 hT1
      have HT2:=Aside0.mk yw
      have gBl:=rH bd.out
      have n0l : w.heap.size < wr.heap.size:=(Array.getElem?_eq_some_iff.1 bx.out).1
      have yj : Value.int .i64 (wrap64 ((j : Int) + 1)) = Value.int .i64 ((j + 1 : Nat) : Int):=by have:=Kd.mo K5.out;rw [bY (by omega) (by omega)];rfl
      have hnx2 : Aside0 (j + 1 + k2 = p.f5.length):=⟨by have:=hj.out;omega⟩
      have xW:=Aside0.mk ((Below.heap_alloc (wr.alloc (.cells #[.string c.f0,.string c.f1] 100)) (.cells #[.string c.f0,.string c.f1] 9) w.heap.size (by simp;omega)).trans ((Below.heap_alloc wr (.cells #[.string c.f0,.string c.f1] 100) w.heap.size n0l).trans bx.out))
      have xR:=World.alloc_heap_new (wr.alloc (.cells #[.string c.f0,.string c.f1] 100)) (.cells #[.string c.f0,.string c.f1] 9)
      rw [World.size_alloc] at xR
      have xX:=Aside0.mk xR
      have xY:=Aside0.mk (Lib.IsBuilderF.alloc (Lib.IsBuilderF.alloc bd.out (.cells #[.string c.f0,.string c.f1] 100)) (.cells #[.string c.f0,.string c.f1] 9))
      have B3:=Aside0.mk ((B.out.alloc (by omega) (.cells #[.string c.f0,.string c.f1] 100)).alloc (by simp;omega) (.cells #[.string c.f0,.string c.f1] 9))
      have hsB : wr.heap.size + 1 ≠ gB:=by omega
      clear bx bd B xR hT1 yw hT
      go_wp2_with (first | (go_at_call 55;refine (tV.calls k w.heap.size (wr.heap.size + 1) gB [c.f0,c.f1] ac yu _ xX.out (by simp) hsB xY.out B3.out.size ht2).mono ?_;rintro e w4 ⟨rfl,xZ,hb4,xV⟩))
      have bx:=Aside0.mk (xV _ _ xW.out hgb (fun c fz e=>by injection e with _ e2 _;cases e2))
      go_wp2
      go_roundg k2
      case measure=>exact Nat.lt_succ_self k2
      case rel=>exact ⟨j + 1,yu,by first | exact yj | rfl,hnx2,HT2,bx,⟨xZ⟩,⟨B3.out.trans hb4⟩⟩
 ·rw [if_neg he] at h
  have hc0 : (ec != 0) = true:=bne_iff_ne.2 he
  have hr:=Option.some.inj h
  injection hr with h1 h2
  subst h1 h2
  go_wp2_with (go_at_call 27;refine (aM.calls k xJ xL xK xI ec _ (Kd.dw xO _) xP hchk).mono ?_;rintro e w1 ⟨rfl,hb1⟩)
  go_ret2
  exact ⟨rfl,((Below.refl _ w).alloc (Nat.le_refl _) _).trans (hb1.mono (by simp))⟩
end Go.Proofs.YtpmbdcljphpcnaaDoor.GC2
