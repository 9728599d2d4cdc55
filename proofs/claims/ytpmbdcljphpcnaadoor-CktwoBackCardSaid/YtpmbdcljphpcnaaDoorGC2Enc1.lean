/- ckone.Encode: its contract, in terms of plain functions. No conditions beside those stated. -/
import Derived.Test.YtpmbdcljphpcnaaDoorBuilder
import Derived.Test.YtpmbdcljphpcnaaDoorGC2x5
import Derived.Test.YtpmbdcljphpcnaaDoorGC2x6
namespace Go.Proofs.YtpmbdcljphpcnaaDoor.GC2
open Go.RowKit Go.Shelf Go.Proofs.YtpmbdcljphpcnaaDoorW.PrintWords Go.Proofs.YtpmbdcljphpcnaaDoorW.PrintLast Go.Proofs.YtpmbdcljphpcnaaDoorW.PrintMore
set_option linter.unusedVariables false

/-- Three texts, put behind what is there: what is there then, or what is wrong. -/
def encTexts (k : Nat) (acc : ByteArray) : List ByteArray → Option (ByteArray × Int)
 | []=>some (acc,0)
 | x :: xs=>(pack_Text.f k x).bind fun t=>if t.2 = 0 then (if acc.size + t.1.size ≤ 140737488355328 then encTexts k (acc ++ t.1) xs else none) else some (⟨#[]⟩,t.2)
def encPods (k : Nat) (acc : ByteArray) : List S66 → Option (ByteArray × Int)
 | []=>some (acc,0)
 | p :: ps=>(encTexts k acc [p.f0,p.f1,p.f2]).bind fun t=>if t.2 = 0 then ((pack_Put.f k 1 (IntKind.u64.wrap p.f3)).bind fun b=>if t.1.size + b.size ≤ 140737488355328 then encPods k (t.1 ++ b) ps else none) else some (⟨#[]⟩,t.2)
def ckone_Encode.f (k : Nat) (a0_0 : Int) (a0_1 : List S66) : Option (ByteArray × Int):=(ckone_State_Check.f k a0_0 a0_1).bind fun e=>if e = 0 then ((pack_Put.f k 4 (IntKind.u64.wrap a0_0)).bind fun p=>(pack_Put.f k 2 (IntKind.u64.wrap (a0_1.length : Int))).bind fun q=>if p.size + q.size ≤ 140737488355328 then encPods k (p ++ q) a0_1 else none) else some (⟨#[]⟩,e)
theorem encTexts_mono (k : Nat) : ∀ (l : List ByteArray) (acc : ByteArray),LeO (encTexts k acc l) (encTexts (k + 1) acc l)
 | [],_=>LeO.refl _
 | x :: xs,acc=>LeO.bind (pack_Text.mono x k) fun t=>LeO.ite (LeO.ite (encTexts_mono k xs _) (LeO.refl _)) (LeO.refl _)
theorem encPods_mono (k : Nat) : ∀ (l : List S66) (acc : ByteArray),LeO (encPods k acc l) (encPods (k + 1) acc l)
 | [],_=>LeO.refl _
 | p :: ps,acc=>LeO.bind (encTexts_mono k _ _) fun t=>LeO.ite (LeO.bind (pack_Put.mono _ _ k) fun b=>LeO.ite (encPods_mono k ps _) (LeO.refl _)) (LeO.refl _)
theorem ckone_Encode.mono : ∀ a0_0 a0_1 k,LeO (ckone_Encode.f k a0_0 a0_1) (ckone_Encode.f (k + 1) a0_0 a0_1):=fun a0_0 a0_1 k =>
 LeO.bind (ckone_State_Check.mono a0_0 a0_1 k) fun e=>LeO.ite (LeO.bind (pack_Put.mono _ _ k) fun p=>LeO.bind (pack_Put.mono _ _ k) fun q=>LeO.ite (encPods_mono k _ _) (LeO.refl _)) (LeO.refl _)

/-- A builder stays where old blocks stay. -/
theorem bld_below1 {T e : TypeId} {B b : Nat} {bs : List Value} {w w' : World} (h : Lib.IsBuilderF T e B b bs w) (hb : Below w.heap.size w w') : Lib.IsBuilderF T e B b bs w':=by
 have one : ∀ p,Lib.BuilderAtF T e B b p bs w → Lib.BuilderAtF T e B b p bs w':=by
  rintro p ⟨hB,v,hh,⟨hl,hv⟩,hne⟩
  refine ⟨hB,v,(hb.block b (Array.getElem?_eq_some_iff.1 hh).1).trans hh,⟨hl,?_⟩,hne⟩
  rcases hv with hv | ⟨g,cap,cur,fz,h1,h2,h3,h4⟩
  ·exact .inl hv
  ·exact .inr ⟨g,cap,cur,fz,h1,h2,(hb.block g (Array.getElem?_eq_some_iff.1 h3).1).trans h3,h4⟩
 exact h.elim (fun x=>.inl (one _ x)) (fun x=>.inr (one _ x))
theorem bld_lt1 {T e : TypeId} {B b : Nat} {bs : List Value} {w : World} (h : Lib.IsBuilderF T e B b bs w) : b < w.heap.size:=by
 rcases h with ⟨_,v,hh,_⟩ | ⟨_,v,hh,_⟩
 ·exact (Array.getElem?_eq_some_iff.1 hh).1
 ·exact (Array.getElem?_eq_some_iff.1 hh).1
theorem strCells_append1 (a b : ByteArray) : Lib.strCells a ++ Lib.strCells b = Lib.strCells (a ++ b):=by
 simp [Lib.strCells]
theorem strCells_bytes1 (a : ByteArray) : Lib.strCells a = Lib.byteCells a.data.toList:=by
 first | rfl | simp [Lib.strCells,Lib.byteCells]
/-- A builder that has just been laid. -/
theorem bld_new1 (w : World) (B : Nat) (hB : B ≤ w.heap.size) : Lib.IsBuilderF 71 5 B w.heap.size (Lib.strCells ⟨#[]⟩) (w.alloc (.cells #[.pointer none,.slice none 0 0] 71)) :=
 .inl ⟨hB,.slice none 0 0,World.alloc_heap_new w _,⟨rfl,.inl ⟨rfl,rfl⟩⟩,by simp [Value.ownBlock]⟩

def ckone_Encode.T5 : Bool × List (List Nat × List Nat):=(true,[([],[]),([0],[0]),([1],[1]),([2],[2]),([],[]),([4],[4]),([5],[5]),([6],[6]),([7,3],[7]),([3,8],[3,8]),([9,8],[9])])
def ckone_Encode.B5 : List Nat:=[0,1,3,7,0,16,48,112,255,511,1023]
theorem ckone_Encode.tab5 : rtab .any (opsOf Tryd.f13 5) = ckone_Encode.T5:=by kernel_rfl
theorem ckone_Encode.bits5 : waitsOk ckone_Encode.T5.2 ckone_Encode.B5 = true:=by kernel_rfl
theorem cell_of1 {w : World} {b : Nat} {cs : Array Value} {t : TypeId} (h : w.heap[b]? = some (.cells cs t (0,0))) (j : Nat) : w.cell? ⟨b,j,none⟩ = cs[j]?:=by simp [World.cell?,h]
set_option maxHeartbeats 4000000 in
set_option maxRecDepth 100000 in
theorem ckone_Encode.calls (k : Nat) (a0_0 : Int) (A0_1 : Option Addr) (c0_1 : Nat) (l0_1 : List S66) (r1 : ByteArray) (r2 : Int) (w : World) (hr0_1 : Kd.C k66 w A0_1 l0_1.length l0_1) (hc0_1 : l0_1.length ≤ c0_1) (h : ckone_Encode.f k a0_0 l0_1 = some (r1,r2)) :
  Calls Tryd.prog 13 #[.agg #[.int .u32 a0_0,.slice A0_1 l0_1.length c0_1]] w fun e w'=>e = .returned (.tuple #[.string r1,.int .i64 r2]) ∧ Below w.heap.size w w':=by
 obtain ⟨ec,hchk,h⟩:=Option.bind_eq_some_iff.1 h
 go_enter Tryd.func13,Tryd.ntmps13
 by_cases he : ec = 0
 ·subst he
  rw [if_pos rfl] at h
  obtain ⟨p4,hp4,h⟩:=Option.bind_eq_some_iff.1 h
  obtain ⟨p2,hp2,h⟩:=Option.bind_eq_some_iff.1 h
  have hsz : p4.size + p2.size ≤ 140737488355328:=Decidable.by_contra fun hn=>by rw [if_neg hn] at h;cases h
  rw [if_pos hsz] at h
  have hc0 : ((0 : Int) != 0) = false:=rfl
  have hov : (9223372036854775807 < p4.size + p2.size) = False:=eq_false (by omega)
  go_wp2_with (go_at_call 14;refine (ckone_State_Check.calls k a0_0 A0_1 c0_1 l0_1 0 _ (Kd.C_alloc hr0_1 _) hc0_1 hchk).mono ?_;rintro e w1 ⟨rfl,hb1⟩)
  have bx1 : w1.heap[w.heap.size]? = some (.cells #[.int .u32 a0_0,.slice A0_1 l0_1.length c0_1] 25 (0,0)):=(hb1.block _ (by simp)).trans (World.alloc_heap_new w _)
  have hle : w.heap.size + 1 ≤ w1.heap.size:=by have:=hb1.size;simpa using this
  have B1 : Below w.heap.size w w1:=((Below.refl _ w).alloc (Nat.le_refl _) _).trans (hb1.mono (by simp))
  have bxa:=(Below.heap_alloc w1 (.cells #[.pointer none,.slice none 0 0] 71) w.heap.size (by omega)).trans bx1
  have bda:=bld_new1 w1 w.heap.size (by omega)
  have Ba : Below w.heap.size w (w1.alloc (.cells #[.pointer none,.slice none 0 0] 71)):=B1.alloc (by omega) _
  have hgb : w.heap.size ≠ w1.heap.size:=by omega
  refine start_ (n:=11) (S:=fun w'=>w'.cell? ⟨w.heap.size,0,none⟩ = some (.int .u32 a0_0) ∧ w'.cell? ⟨w.heap.size,1,none⟩ = some (.slice A0_1 l0_1.length c0_1)) (ds:=[]) #[false,false,false,false,false,false,false,false,false,false,false] (by kernel_rfl) rfl rfl ⟨cell_of1 bxa 0,cell_of1 bxa 1⟩ (fun hHeld=>?_);refine with_tabW ckone_Encode.tab5 ckone_Encode.bits5 (fun HT_ HW_=>?_)
  obtain ⟨wb,hwb⟩ : ∃ wb,(w1.alloc (.cells #[.pointer none,.slice none 0 0] 71)).drew = wb:=⟨_,rfl⟩
  have bxb : wb.heap[w.heap.size]? = some (.cells #[.int .u32 a0_0,.slice A0_1 l0_1.length c0_1] 25 (0,0)):=by rw [← hwb];exact bxa
  have bdb : Lib.IsBuilderF 71 5 w.heap.size w1.heap.size (Lib.strCells ⟨#[]⟩) wb:=by rw [← hwb];exact bda
  have Bb : Below w.heap.size w wb:=by rw [← hwb];exact below_drew1 Ba
  rw [hwb] at hHeld ⊢
  clear hwb
  generalize w1.heap.size = gB at bdb hgb ⊢
  refine pure_ (i:=0) (N:=some 17) (v:=?_) (a':=?_) #[true,false,false,false,false,false,false,false,false,false,false] rfl rfl (any_of HT_.out (by kernel_rfl)) (fun _ _ _ h=>h) (Or.inl ⟨by rfl,?_⟩) ?_ ?_
  rotate_left
  ·intro w'
   go_simp
   with_reducible rfl
  rotate_left
  ·simp only [Act.put,List.setIfInBounds_toArray,List.set_cons_zero,List.set_cons_succ,i64_w,i32_w]
   rfl
  refine pure_ (i:=4) (N:=some 21) (v:=?_) (a':=?_) #[true,false,false,false,true,false,false,false,false,false,false] rfl rfl (any_of HT_.out (by kernel_rfl)) (fun _ _ _ h=>h) (Or.inl ⟨by rfl,?_⟩) ?_ ?_
  rotate_left
  ·intro w'
   go_simp
   with_reducible rfl
  rotate_left
  ·simp only [Act.put,List.setIfInBounds_toArray,List.set_cons_zero,List.set_cons_succ,i64_w,i32_w]
   rfl
  refine take_ (i:=1) (N:=some 18) (v:=?_) (a':=?_) #[true,true,false,false,true,false,false,false,false,false,false] rfl rfl (take_ofW HT_.out HW_.out (by kernel_rfl)) (fun _ _ _ h=>h) (Or.inl ⟨by rfl,?_⟩) hHeld ?_ ?_
  rotate_left
  ·rintro w' ⟨s0,s1⟩
   go_simp
   with_reducible rfl
  rotate_left
  ·simp only [Act.put,List.setIfInBounds_toArray,List.set_cons_zero,List.set_cons_succ,i64_w,i32_w]
   rfl
  refine pure_ (i:=2) (N:=some 19) (v:=?_) (a':=?_) #[true,true,true,false,true,false,false,false,false,false,false] rfl rfl (any_of HT_.out (by kernel_rfl)) (fun _ _ _ h=>h) (Or.inl ⟨by rfl,?_⟩) ?_ ?_
  rotate_left
  ·intro w'
   go_simp
   with_reducible rfl
  rotate_left
  ·simp only [Act.put,List.setIfInBounds_toArray,List.set_cons_zero,List.set_cons_succ,i64_w,i32_w]
   rfl
  refine take_ (i:=5) (N:=some 22) (v:=?_) (a':=?_) #[true,true,true,false,true,true,false,false,false,false,false] rfl rfl (take_ofW HT_.out HW_.out (by kernel_rfl)) (fun _ _ _ h=>h) (Or.inl ⟨by rfl,?_⟩) hHeld ?_ ?_
  rotate_left
  ·rintro w' ⟨s0,s1⟩
   go_simp
   with_reducible rfl
  rotate_left
  ·simp only [Act.put,List.setIfInBounds_toArray,List.set_cons_zero,List.set_cons_succ,i64_w,i32_w]
   rfl
  refine pure_ (i:=6) (N:=some 23) (v:=?_) (a':=?_) #[true,true,true,false,true,true,true,false,false,false,false] rfl rfl (any_of HT_.out (by kernel_rfl)) (fun _ _ _ h=>h) (Or.inl ⟨by rfl,?_⟩) ?_ ?_
  rotate_left
  ·intro w'
   go_simp
   with_reducible rfl
  rotate_left
  ·simp only [Act.put,List.setIfInBounds_toArray,List.set_cons_zero,List.set_cons_succ,i64_w,i32_w]
   rfl
  refine pure_ (i:=7) (N:=some 24) (v:=?_) (a':=?_) #[true,true,true,false,true,true,true,true,false,false,false] rfl rfl (any_of HT_.out (by kernel_rfl)) (fun _ _ _ h=>h) (Or.inl ⟨by rfl,?_⟩) ?_ ?_
  rotate_left
  ·intro w'
   go_simp
   with_reducible rfl
  rotate_left
  ·simp only [Act.put,List.setIfInBounds_toArray,List.set_cons_zero,List.set_cons_succ,i64_w,i32_w]
   rfl
  refine one_ (i:=3) (N:=some 20) #[true,true,true,true,true,true,true,true,false,false,false] rfl rfl (one_of HT_.out (by kernel_rfl)) (by decide) (fun K hK=>?_)
  refine goes_ Tryd.func38 (by kernel_rfl) rfl #[.int .i64 4,.int .u64 (IntKind.u64.wrap a0_0)] (by rfl) rfl rfl (by (try simp only [List.map_toArray,List.map_cons,List.map_nil]);first | done | rfl) ?_
  refine (pack_Put.calls k 4 (IntKind.u64.wrap a0_0) p4 _ hp4).mono ?_
  rintro e wc ⟨rfl,hb⟩
  refine ⟨_,rfl,?_⟩
  have bxc:=(hb.block _ (Array.getElem?_eq_some_iff.1 bxb).1).trans bxb
  have bdc:=bld_below1 bdb hb
  have Bc:=Bb.trans (hb.mono Bb.size)
  clear hb
  refine hK.out _ _ ⟨cell_of1 bxc 0,cell_of1 bxc 1⟩ (fun hHeld=>?_)
  clear hK K
  refine norm_ (a':=?_) ?_ ?_
  rotate_left
  ·show Act.put _ (some 20) _ = _
   simp only [Act.put,List.setIfInBounds_toArray,List.set_cons_zero,List.set_cons_succ,i64_w,i32_w]
   rfl
  refine one_ (i:=8) (N:=some 25) #[true,true,true,true,true,true,true,true,true,false,false] rfl rfl (one_of HT_.out (by kernel_rfl)) (by decide) (fun K hK=>?_)
  refine goes_ Tryd.func38 (by kernel_rfl) rfl #[.int .i64 2,.int .u64 (IntKind.u64.wrap (l0_1.length : Int))] (by rfl) rfl rfl (by (try simp only [List.map_toArray,List.map_cons,List.map_nil]);first | done | rfl) ?_
  refine (pack_Put.calls k 2 (IntKind.u64.wrap (l0_1.length : Int)) p2 _ hp2).mono ?_
  rintro e wd ⟨rfl,hb⟩
  refine ⟨_,rfl,?_⟩
  have bxd:=(hb.block _ (Array.getElem?_eq_some_iff.1 bxc).1).trans bxc
  have bdd:=bld_below1 bdc hb
  have Bd:=Bc.trans (hb.mono Bc.size)
  clear hb
  refine hK.out _ _ ⟨cell_of1 bxd 0,cell_of1 bxd 1⟩ (fun hHeld=>?_)
  clear hK K
  refine norm_ (a':=?_) ?_ ?_
  rotate_left
  ·show Act.put _ (some 25) _ = _
   simp only [Act.put,List.setIfInBounds_toArray,List.set_cons_zero,List.set_cons_succ,i64_w,i32_w]
   rfl
  refine pure_ (i:=9) (N:=some 26) (v:=?_) (a':=?_) #[true,true,true,true,true,true,true,true,true,true,false] rfl rfl (any_of HT_.out (by kernel_rfl)) (fun _ _ _ h=>h) (Or.inl ⟨by rfl,?_⟩) ?_ ?_
  rotate_left
  ·intro w'
   go_simp
   with_reducible rfl
  rotate_left
  ·simp only [Act.put,List.setIfInBounds_toArray,List.set_cons_zero,List.set_cons_succ,i64_w,i32_w]
   rfl
  refine one_ (i:=10) (N:=some 27) #[true,true,true,true,true,true,true,true,true,true,true] rfl rfl (one_of HT_.out (by kernel_rfl)) (by decide) (fun K hK=>?_)
  refine goes_ Tryd.func37 (by kernel_rfl) rfl #[.pointer (some ⟨gB,0,none⟩),.string (p4 ++ p2)] (by rfl) rfl rfl (by (try simp only [List.map_toArray,List.map_cons,List.map_nil]);first | done | rfl) ?_
  refine (Bld.writeString w.heap.size gB (Lib.strCells ⟨#[]⟩) (p4 ++ p2) _ bdd (by rw [ByteArray.size_append];simpa [Lib.strCells] using hsz) Bd.size).mono ?_
  rintro e we ⟨rfl,hat,hbB,hk⟩
  refine ⟨_,rfl,?_⟩
  have bxe:=hk _ _ bxd (fun e=>hgb (Option.some.inj e)) (fun c fz e=>by injection e with _ e2 _;cases e2)
  have bde : Lib.IsBuilderF 71 5 w.heap.size gB (Lib.strCells (p4 ++ p2)) we:=.inr hat
  have Be:=Bd.trans hbB
  clear hat hbB hk
  refine hK.out _ _ ⟨cell_of1 bxe 0,cell_of1 bxe 1⟩ (fun hHeld=>?_)
  clear hK K
  refine norm_ (a':=?_) ?_ ?_
  rotate_left
  ·show Act.put _ (some 27) _ = _
   simp only [Act.put,List.setIfInBounds_toArray,List.set_cons_zero,List.set_cons_succ,i64_w,i32_w]
   rfl
  refine done_ (done_of HT_.out (by kernel_rfl)) ?_
  have cx0:=cell_of1 bxe 0
  have cx1:=cell_of1 bxe 1
  try go_wp2
  generalize p4 ++ p2 = acc0 at h bde ⊢
  go_loopg [31] l0_1.length (fun kq v31 w'=>∃ (i : Nat) (acc : ByteArray),v31 = .int .i64 (i : Int) ∧ Aside0 (i + kq = l0_1.length) ∧ Aside0 (encPods k acc (l0_1.drop i) = some (r1,r2)) ∧ Aside0 (w'.heap[w.heap.size]? = some (.cells #[.int .u32 a0_0,.slice A0_1 l0_1.length c0_1] 25 (0,0))) ∧ Aside0 (Lib.IsBuilderF 71 5 w.heap.size gB (Lib.strCells acc) w') ∧ Aside0 (Below w.heap.size w w'))
  case atStart=>exact ⟨0,acc0,rfl,⟨by omega⟩,⟨h⟩,⟨bxe⟩,⟨bde⟩,⟨Be⟩⟩
  case round =>
   clear h bxe bde Be bx1 bxa bda Ba bxb bdb Bb bxc bdc Bc bxd bdd Bd cx0 cx1 hHeld
   obtain ⟨i,acc,rfl,hi,hE,bx,bd,B⟩:=hrel
   cases gk with
   | zero =>
    have hend : decide ((i : Int) < (l0_1.length : Int)) = false:=decide_eq_false (by have:=hi.out;omega)
    have hend2 : decide (i < l0_1.length) = false:=decide_eq_false (by have:=hi.out;omega)
    have hend3 : (i < l0_1.length) = False:=eq_false (by have:=hi.out;omega)
    have hE':=hE.out
    rw [List.drop_eq_nil_of_le (by have:=hi.out;omega)] at hE'
    have hr:=Option.some.inj hE'
    injection hr with h1 h2
    subst h1 h2
    have hS:=Tryd.Builder_String_any_k w.heap.size gB acc.data.toList _ (by rw [← strCells_bytes1];exact bd.out) B.out.size
    go_wp2_with (go_at_call 40;refine hS.mono ?_;rintro e w2 ⟨rfl,_,hb2,_⟩)
    go_ret2
    exact ⟨rfl,B.out.trans hb2⟩
   | succ k1 =>
    have hlt : i < l0_1.length:=by have:=hi.out;omega
    have c1 : decide ((i : Int) < (l0_1.length : Int)) = true:=decide_eq_true (by omega)
    have p1 : 0 ≤ (i : Int):=by omega
    have q1 : (i : Int) < (l0_1.length : Int):=by omega
    obtain ⟨ad,e,hx0,hx1,hx2,hx3⟩:=at_T66 hr0_1 (i : Int) p1 q1
    cases e
    replace hx0:=(B.out.cell (World.block_lt_of_cell? w _ hx0)).trans hx0
    replace hx1:=(B.out.cell (World.block_lt_of_cell? w _ hx1)).trans hx1
    replace hx2:=(B.out.cell (World.block_lt_of_cell? w _ hx2)).trans hx2
    replace hx3:=(B.out.cell (World.block_lt_of_cell? w _ hx3)).trans hx3
    simp only [Int.toNat_natCast] at hx0 hx1 hx2 hx3
    replace p1:=eq_true p1
    replace q1:=eq_true q1
    go_wp2
    have hE1:=hE.out
    rw [List.drop_eq_getElem_cons hlt,show l0_1[i] = rd_T66 l0_1 (i : Int) by simp [rd_T66,List.getElem?_eq_getElem hlt]] at hE1
    have gBl:=bld_lt1 bd.out
    have n0l : w.heap.size < wr.heap.size:=(Array.getElem?_eq_some_iff.1 bx.out).1
    generalize hp : rd_T66 l0_1 (i : Int) = p at hE1 ⊢
    clear hx0 hx1 hx2 hx3 hp
    have bx3:=(Below.heap_alloc (wr.alloc (.cells #[.string p.f0,.string p.f1,.string p.f2,.int .u8 p.f3] 66)) (.cells #[.string p.f0,.string p.f1,.string p.f2] 9) w.heap.size (by simp;omega)).trans ((Below.heap_alloc wr (.cells #[.string p.f0,.string p.f1,.string p.f2,.int .u8 p.f3] 66) w.heap.size n0l).trans bx.out)
    have bp3:=(Below.heap_alloc (wr.alloc (.cells #[.string p.f0,.string p.f1,.string p.f2,.int .u8 p.f3] 66)) (.cells #[.string p.f0,.string p.f1,.string p.f2] 9) wr.heap.size (by simp)).trans (World.alloc_heap_new wr _)
    have bs3:=World.alloc_heap_new (wr.alloc (.cells #[.string p.f0,.string p.f1,.string p.f2,.int .u8 p.f3] 66)) (.cells #[.string p.f0,.string p.f1,.string p.f2] 9)
    rw [World.size_alloc] at bs3
    have bd3:=Lib.IsBuilderF.alloc (Lib.IsBuilderF.alloc bd.out (.cells #[.string p.f0,.string p.f1,.string p.f2,.int .u8 p.f3] 66)) (.cells #[.string p.f0,.string p.f1,.string p.f2] 9)
    have B3:=(B.out.alloc (by omega) (.cells #[.string p.f0,.string p.f1,.string p.f2,.int .u8 p.f3] 66)).alloc (by simp;omega) (.cells #[.string p.f0,.string p.f1,.string p.f2] 9)
    clear bx bd B
    have h7B : wr.heap.size ≠ gB:=by omega
    have hsB : wr.heap.size + 1 ≠ gB:=by omega
    generalize wr.heap.size = g7 at h7B hsB bp3 bs3 ⊢
    obtain ⟨t,ht,hE2⟩:=Option.bind_eq_some_iff.1 hE1
    have HE2:=Aside0.mk hE2
    clear hE hE1 hE2
    go_loopg [43] 3 (fun kq v43 w'=>∃ (j : Nat) (ac : ByteArray),v43 = .int .i64 (j : Int) ∧ Aside0 (j + kq = 3) ∧ Aside0 (encTexts k ac ([p.f0,p.f1,p.f2].drop j) = some t) ∧ Aside0 (w'.heap[w.heap.size]? = some (.cells #[.int .u32 a0_0,.slice (some ad) l0_1.length c0_1] 25 (0,0))) ∧ Aside0 (w'.heap[g7]? = some (.cells #[.string p.f0,.string p.f1,.string p.f2,.int .u8 p.f3] 66 (0,0))) ∧ Aside0 (w'.heap[g7 + 1]? = some (.cells #[.string p.f0,.string p.f1,.string p.f2] 9 (0,0))) ∧ Aside0 (Lib.IsBuilderF 71 5 w.heap.size gB (Lib.strCells ac) w') ∧ Aside0 (Below w.heap.size w w'))
    case atStart=>exact ⟨0,acc,rfl,⟨rfl⟩,⟨ht⟩,⟨bx3⟩,⟨bp3⟩,⟨bs3⟩,⟨bd3⟩,⟨B3⟩⟩
    case round =>
     clear ht bx3 bp3 bs3 bd3 B3
     obtain ⟨j,ac,rfl,hj,hT,bx,bp,bs,bd,B⟩:=hrel
     cases gk with
     | zero =>
      have hj3 : j = 3:=hj.out
      subst hj3
      have ht:=Option.some.inj hT.out
      subst ht
      have hE2:=HE2.out
      rw [if_pos rfl] at hE2
      obtain ⟨b,hb,hE3⟩:=Option.bind_eq_some_iff.1 hE2
      have hsz : ac.size + b.size ≤ 140737488355328:=Decidable.by_contra fun hn=>by rw [if_neg hn] at hE3;cases hE3
      rw [if_pos hsz] at hE3
      have HE3:=Aside0.mk hE3
      clear hE2 hE3 HE2
      have cp:=cell_of1 bp.out 3
      have hend : decide (((3 : Nat) : Int) < 3) = false:=rfl
      go_wp2_with (first | (go_at_call 38;refine (pack_Put.calls k 1 (IntKind.u64.wrap p.f3) b _ hb).mono ?_;rintro e w4 ⟨rfl,hb4⟩))
      have bx4:=(hb4.block _ (Array.getElem?_eq_some_iff.1 bx.out).1).trans bx.out
      have bd4:=bld_below1 bd.out hb4
      have B4:=B.out.trans (hb4.mono B.out.size)
      refine (Bld.writeString w.heap.size gB (Lib.strCells ac) b _ bd4 (by rw [Lib.strCells_length];exact hsz) B4.size).mono ?_
      rintro e w5 ⟨rfl,hat,hbB,hk⟩
      rw [strCells_append1] at hat
      have bx5:=hk _ _ bx4 (fun e=>hgb (Option.some.inj e)) (fun c fz e=>by injection e with _ e2 _;cases e2)
      have hmx : l0_1.length ≤ 9223372036854775807:=Kd.C_max hr0_1
      have hw : wrap64 ((i : Int) + 1) = ((i + 1 : Nat) : Int):=by rw [i64_id (by omega) (by omega)];omega
      have hnx : Aside0 (i + 1 + k1 = l0_1.length):=⟨by have:=hi.out;clear hw hsz hmx hj hat;omega⟩
      have hwv:=congrArg (Value.int .i64) hw
      clear hw hmx hsz
      go_wp2
      go_roundg k1
      case measure=>exact Nat.lt_succ_self k1
      case rel=>exact ⟨i + 1,ac ++ b,hwv,hnx,HE3,⟨bx5⟩,⟨.inr hat⟩,⟨B4.trans hbB⟩⟩
     | succ k2 =>
      have hj3 : j < 3:=by have:=hj.out;omega
      obtain ⟨x,hx,hdr⟩ : ∃ x,wr.cell? ⟨g7 + 1,j,none⟩ = some (.string x) ∧ [p.f0,p.f1,p.f2].drop j = x :: [p.f0,p.f1,p.f2].drop (j + 1):=by
       have hj' : j = 0 ∨ j = 1 ∨ j = 2:=by omega
       rcases hj' with rfl | rfl | rfl
       ·exact ⟨_,cell_of1 bs.out 0,rfl⟩
       ·exact ⟨_,cell_of1 bs.out 1,rfl⟩
       ·exact ⟨_,cell_of1 bs.out 2,rfl⟩
      have hT1:=hT.out
      rw [hdr] at hT1
      obtain ⟨tt,htt,hT2⟩:=Option.bind_eq_some_iff.1 hT1
      clear hT1 hT hdr
      have c1 : decide ((j : Int) < 3) = true:=decide_eq_true (by omega)
      have c2 : decide (j < 3) = true:=decide_eq_true hj3
      have p1 : (0 ≤ (j : Int)) = True:=eq_true (by omega)
      have q1 : ((j : Int) < 3) = True:=eq_true (by omega)
      have q2 : (j < 3) = True:=eq_true hj3
      by_cases h0 : tt.2 = 0
      ·rw [if_pos h0] at hT2
       have hsz : ac.size + tt.1.size ≤ 140737488355328:=Decidable.by_contra fun hn=>by rw [if_neg hn] at hT2;cases hT2
       rw [if_pos hsz] at hT2
       have HT2:=Aside0.mk hT2
       clear hT2
       have cne : (tt.2 != 0) = false:=by rw [h0];rfl
       go_wp2_with (first | (go_at_call 39;refine (pack_Text.calls k x tt.1 tt.2 _ htt).mono ?_;rintro e w4 ⟨rfl,hb4⟩))
       have bx4:=(hb4.block _ (Array.getElem?_eq_some_iff.1 bx.out).1).trans bx.out
       have bp4:=(hb4.block _ (Array.getElem?_eq_some_iff.1 bp.out).1).trans bp.out
       have bs4:=(hb4.block _ (Array.getElem?_eq_some_iff.1 bs.out).1).trans bs.out
       have bd4:=bld_below1 bd.out hb4
       have B4:=B.out.trans (hb4.mono B.out.size)
       refine (Bld.writeString w.heap.size gB (Lib.strCells ac) tt.1 _ bd4 (by rw [Lib.strCells_length];exact hsz) B4.size).mono ?_
       rintro e w5 ⟨rfl,hat,hbB,hk⟩
       rw [strCells_append1] at hat
       have bx5:=hk _ _ bx4 (fun e=>hgb (Option.some.inj e)) (fun c fz e=>by injection e with _ e2 _;cases e2)
       have bp5:=hk _ _ bp4 (fun e=>h7B (Option.some.inj e)) (fun c fz e=>by injection e with _ e2 _;cases e2)
       have bs5:=hk _ _ bs4 (fun e=>hsB (Option.some.inj e)) (fun c fz e=>by injection e with _ e2 _;cases e2)
       have hnx : Aside0 (j + 1 + k2 = 3):=⟨by have:=hj.out;clear hsz hat;omega⟩
       clear hsz
       go_wp2
       go_roundg k2
       case measure=>exact Nat.lt_succ_self k2
       case rel=>exact ⟨j + 1,ac ++ tt.1,congrArg (Value.int .i64) (Int.natCast_add j 1).symm,hnx,HT2,⟨bx5⟩,⟨bp5⟩,⟨bs5⟩,⟨.inr hat⟩,⟨B4.trans hbB⟩⟩
      ·rw [if_neg h0] at hT2
       have cne : (tt.2 != 0) = true:=bne_iff_ne.2 h0
       go_wp2_with (first | (go_at_call 39;refine (pack_Text.calls k x tt.1 tt.2 _ htt).mono ?_;rintro e w4 ⟨rfl,hb4⟩))
       have ht:=Option.some.inj hT2
       subst ht
       have hE2:=HE2.out
       rw [if_neg h0] at hE2
       have hr:=Option.some.inj hE2
       injection hr with h1 h2
       subst h1 h2
       go_ret2
       exact ⟨rfl,B.out.trans (hb4.mono B.out.size)⟩
 ·rw [if_neg he] at h
  have hc0 : (ec != 0) = true:=bne_iff_ne.2 he
  have hr:=Option.some.inj h
  injection hr with h1 h2
  subst h1 h2
  go_wp2_with (go_at_call 14;refine (ckone_State_Check.calls k a0_0 A0_1 c0_1 l0_1 ec _ (Kd.C_alloc hr0_1 _) hc0_1 hchk).mono ?_;rintro e w1 ⟨rfl,hb1⟩)
  go_ret2
  exact ⟨rfl,((Below.refl _ w).alloc (Nat.le_refl _) _).trans (hb1.mono (by simp))⟩
end Go.Proofs.YtpmbdcljphpcnaaDoor.GC2
