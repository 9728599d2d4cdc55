/- cktwo.Encode: its contract, in terms of plain functions. No conditions beside those stated. -/
import Derived.Test.YtpmbdcljphpcnaaDoorBuilder
import Derived.Test.YtpmbdcljphpcnaaDoorGC2x6
import Derived.Test.YtpmbdcljphpcnaaDoorGC2x1
namespace Go.Proofs.YtpmbdcljphpcnaaDoor.GC2
open Go.RowKit Go.Shelf Go.Proofs.YtpmbdcljphpcnaaDoorW.PrintWords Go.Proofs.YtpmbdcljphpcnaaDoorW.PrintLast Go.Proofs.YtpmbdcljphpcnaaDoorW.PrintMore
set_option linter.unusedVariables false
def kN (k : Nat) (acc : ByteArray) : List ByteArray → Option ByteArray
 | []=>some acc
 | x :: xs=>(d9.f k x).bind fun t=>if acc.size + t.1.size ≤ 140737488355328 then kN k (acc ++ t.1) xs else none
def iA (k : Nat) (acc : ByteArray) : List S100 → Option ByteArray
 | []=>some acc
 | c :: cs=>(kN k acc [c.f0,c.f1]).bind fun a=>iA k a cs
def gQ (k : Nat) (acc : ByteArray) : List S98 → Option ByteArray
 | []=>some acc
 | p :: ps=>(kN k acc [p.f0,p.f1,p.f2]).bind fun a=>(bT.f k 1 (IntKind.u64.wrap p.f3)).bind fun b1=>(bT.f k 2 (IntKind.u64.wrap p.f4)).bind fun b2=>(bT.f k 1 (IntKind.u64.wrap (p.f5.length : Int))).bind fun b3=>if a.size + (b1.size + b2.size + b3.size) ≤ 140737488355328 then (iA k (a ++ (b1 ++ b2 ++ b3)) p.f5).bind fun a2=>gQ k a2 ps else none
def bS.f (k : Nat) (xJ : Int) (xI : List S98) : Option (ByteArray × Int):=(aM.f k xJ xI).bind fun e=>if e = 0 then ((bT.f k 8 xJ).bind fun p=>(bT.f k 2 (IntKind.u64.wrap (xI.length : Int))).bind fun q=>if p.size + q.size ≤ 140737488355328 then (gQ k (p ++ q) xI).bind fun r=>some (r,0) else none) else some (⟨#[]⟩,e)
theorem jW (k : Nat) : ∀ (l : List ByteArray) (acc : ByteArray),LeO (kN k acc l) (kN (k + 1) acc l)
 | [],_=>LeO.refl _
 | x :: xs,acc=>LeO.bind (d9.mono x k) fun t=>LeO.ite (jW k xs _) (LeO.refl _)
theorem jP (k : Nat) : ∀ (l : List S100) (acc : ByteArray),LeO (iA k acc l) (iA (k + 1) acc l)
 | [],_=>LeO.refl _
 | c :: cs,acc=>LeO.bind (jW k _ _) fun a=>jP k cs a
theorem jy (k : Nat) : ∀ (l : List S98) (acc : ByteArray),LeO (gQ k acc l) (gQ (k + 1) acc l)
 | [],_=>LeO.refl _
 | p :: ps,acc=>LeO.bind (jW k _ _) fun a=>LeO.bind (bT.mono _ _ k) fun b1=>LeO.bind (bT.mono _ _ k) fun b2=>LeO.bind (bT.mono _ _ k) fun b3=>LeO.ite (LeO.bind (jP k _ _) fun a2=>jy k ps a2) (LeO.refl _)
theorem bS.mono : ∀ xJ xI k,LeO (bS.f k xJ xI) (bS.f (k + 1) xJ xI):=fun xJ xI k =>
 LeO.bind (aM.mono xJ xI k) fun e=>LeO.ite (LeO.bind (bT.mono _ _ k) fun p=>LeO.bind (bT.mono _ _ k) fun q=>LeO.ite (LeO.bind (jy k _ _) fun r=>LeO.refl _) (LeO.refl _)) (LeO.refl _)
theorem iB {T e : TypeId} {B b : Nat} {bs : List Value} {w w' : World} (h : Lib.IsBuilderF T e B b bs w) (hb : Below w.heap.size w w') : Lib.IsBuilderF T e B b bs w':=by
 have one : ∀ p,Lib.BuilderAtF T e B b p bs w → Lib.BuilderAtF T e B b p bs w':=by
  rintro p ⟨hB,v,hh,⟨hl,hv⟩,hne⟩
  refine ⟨hB,v,(hb.block b (Array.getElem?_eq_some_iff.1 hh).1).trans hh,⟨hl,?_⟩,hne⟩
  rcases hv with hv | ⟨g,cap,cur,fz,h1,h2,h3,h4⟩
  ·exact .inl hv
  ·exact .inr ⟨g,cap,cur,fz,h1,h2,(hb.block g (Array.getElem?_eq_some_iff.1 h3).1).trans h3,h4⟩
 exact h.elim (fun x=>.inl (one _ x)) (fun x=>.inr (one _ x))
theorem rH {T e : TypeId} {B b : Nat} {bs : List Value} {w : World} (h : Lib.IsBuilderF T e B b bs w) : b < w.heap.size:=by
 rcases h with ⟨_,v,hh,_⟩ | ⟨_,v,hh,_⟩
 ·exact (Array.getElem?_eq_some_iff.1 hh).1
 ·exact (Array.getElem?_eq_some_iff.1 hh).1
theorem iU (a b : ByteArray) : Lib.strCells a ++ Lib.strCells b = Lib.strCells (a ++ b):=by
 simp [Lib.strCells]
theorem lN (a : ByteArray) : Lib.strCells a = Lib.byteCells a.data.toList:=by
 first | rfl | simp [Lib.strCells,Lib.byteCells]
theorem sW (w : World) (B : Nat) (hB : B ≤ w.heap.size) : Lib.IsBuilderF 71 5 B w.heap.size (Lib.strCells ⟨#[]⟩) (w.alloc (.cells #[.pointer none,.slice none 0 0] 71)) :=
 .inl ⟨hB,.slice none 0 0,World.alloc_heap_new w _,⟨rfl,.inl ⟨rfl,rfl⟩⟩,by simp [Value.ownBlock]⟩
theorem cell_of {w : World} {b : Nat} {cs : Array Value} {t : TypeId} (h : w.heap[b]? = some (.cells cs t (0,0))) (j : Nat) : w.cell? ⟨b,j,none⟩ = cs[j]?:=by simp [World.cell?,h]
def gV (gB : Nat) (w w' : World) : Prop:=∀ (i : Nat) (o : Obj),w.heap[i]? = some o → i ≠ gB → (∀ c fz,o ≠ .cells c 5 fz) → w'.heap[i]? = some o
theorem gV.refl (gB : Nat) (w : World) : gV gB w w:=fun _ _ h _ _=>h
theorem gV.trans {gB : Nat} {w w1 w2 : World} (h : gV gB w w1) (k : gV gB w1 w2) : gV gB w w2:=fun i o ho hi hc=>k i o (h i o ho hi hc) hi hc
theorem gV.below {gB : Nat} {w w1 : World} (hb : Below w.heap.size w w1) : gV gB w w1:=fun i o ho _ _=>(hb.block i (Array.getElem?_eq_some_iff.1 ho).1).trans ho
set_option maxHeartbeats 4000000 in
set_option maxRecDepth 100000 in
theorem tV.calls (k : Nat) (B g gB : Nat) (xs : List ByteArray) (acc r : ByteArray) (w : World) (hg : w.heap[g]? = some (.cells (xs.map Value.string).toArray 9 (0,0))) (hn : xs.length ≤ 10) (hne : g ≠ gB) (xK : Lib.IsBuilderF 71 5 B gB (Lib.strCells acc) w) (hB : B ≤ w.heap.size) (h : kN k acc xs = some r) :
  Calls Tryd.prog 55 #[.slice (some ⟨g,0,none⟩) xs.length xs.length,.pointer (some ⟨gB,0,none⟩)] w fun e w'=>e = .returned (.tuple #[]) ∧ Lib.IsBuilderF 71 5 B gB (Lib.strCells r) w' ∧ Below B w w' ∧ gV gB w w':=by
 have HG:=Aside0.mk hg
 have BD:=Aside0.mk xK
 have HBS:=Aside0.mk hB
 have HN:=Aside0.mk hn
 clear hg xK hB hn
 go_enter Tryd.func55,Tryd.ntmps55
 go_wp2
 go_loopg [9] xs.length (fun kq v9 w'=>∃ (i : Nat) (a : ByteArray),v9 = .int .i64 (i : Int) ∧ Aside0 (i + kq = xs.length) ∧ Aside0 (kN k a (xs.drop i) = some r) ∧ Aside0 (w'.heap[g]? = some (.cells (xs.map Value.string).toArray 9 (0,0))) ∧ Aside0 (Lib.IsBuilderF 71 5 B gB (Lib.strCells a) w') ∧ Aside0 (Below B w w') ∧ Aside0 (gV gB w w'))
 case atStart=>exact ⟨0,acc,rfl,⟨by omega⟩,⟨h⟩,HG,BD,⟨Below.refl _ _⟩,⟨gV.refl _ _⟩⟩
 case round =>
  clear h HG BD
  obtain ⟨i,a,rfl,hi,hE,bg,bd,HB,HO⟩:=hrel
  cases gk with
  | zero =>
   have hend : decide ((i : Int) < (xs.length : Int)) = false:=decide_eq_false (by have:=hi.out;omega)
   have xL : decide (i < xs.length) = false:=decide_eq_false (by have:=hi.out;omega)
   have xM : (i < xs.length) = False:=eq_false (by have:=hi.out;omega)
   have hE':=hE.out
   rw [List.drop_eq_nil_of_le (by have:=hi.out;omega)] at hE'
   have hr:=Option.some.inj hE'
   subst hr
   go_wp2
   go_end0
   exact ⟨rfl,bd.out,HB.out,HO.out⟩
  | succ k1 =>
   have hlt : i < xs.length:=by have:=hi.out;omega
   have c1 : decide ((i : Int) < (xs.length : Int)) = true:=decide_eq_true (by omega)
   have c2 : decide (i < xs.length) = true:=decide_eq_true hlt
   have p1 : (0 ≤ (i : Int)) = True:=eq_true (by omega)
   have q1 : ((i : Int) < (xs.length : Int)) = True:=eq_true (by omega)
   have q2 : (i < xs.length) = True:=eq_true hlt
   have hx : wr.cell? ⟨g,i,none⟩ = some (.string xs[i]):=(cell_of bg.out i).trans (by simp [List.getElem?_eq_getElem hlt])
   have hE1:=hE.out
   rw [List.drop_eq_getElem_cons hlt,kN] at hE1
   generalize xs[i] = x at hx hE1
   obtain ⟨t,ht,hE1⟩:=Option.bind_eq_some_iff.1 hE1
   have hsz : a.size + t.1.size ≤ 140737488355328:=Decidable.by_contra fun hn=>by rw [if_neg hn] at hE1;cases hE1
   rw [if_pos hsz] at hE1
   have HE:=Aside0.mk hE1
   have LW : Aside0 ((Lib.strCells a).length + t.1.size ≤ 140737488355328):=⟨by rw [Lib.strCells_length];exact hsz⟩
   have hwv : Value.int .i64 (wrap64 ((i : Int) + 1)) = Value.int .i64 ((i + 1 : Nat) : Int):=by have:=HN.out;rw [bY (by omega) (by omega)];rfl
   have hnx : Aside0 (i + 1 + k1 = xs.length):=⟨by have:=hi.out;omega⟩
   clear hE1 hE hsz
   go_wp2_with (first | (go_at_call 39;refine (d9.calls k x t.1 t.2 _ ht).mono ?_;rintro e w4 ⟨rfl,hb4⟩))
   have xP:=(hb4.block _ (Array.getElem?_eq_some_iff.1 bg.out).1).trans bg.out
   have xQ:=iB bd.out hb4
   have xO : B ≤ wr.heap.size:=Nat.le_trans HBS.out HB.out.size
   have xR:=HB.out.trans (hb4.mono xO)
   refine (Bld.writeString B gB (Lib.strCells a) t.1 _ xQ LW.out (Nat.le_trans xO hb4.size)).mono ?_
   rintro e w5 ⟨rfl,hat,hbB,hk⟩
   rw [iU] at hat
   have xS:=hk _ _ xP (fun e=>hne (Option.some.inj e)) (fun c fz e=>by injection e with _ e2 _;cases e2)
   have xU : gV gB w w5:=(HO.out.trans (gV.below hb4)).trans (fun i o ho hi hc=>hk i o ho (fun e=>hi (Option.some.inj e)) hc)
   go_wp2
   go_roundg k1
   case measure=>exact Nat.lt_succ_self k1
   case rel=>exact ⟨i + 1,a ++ t.1,by first | exact hwv | rfl,hnx,HE,⟨xS⟩,⟨.inr hat⟩,⟨xR.trans hbB⟩,⟨xU⟩⟩
end Go.Proofs.YtpmbdcljphpcnaaDoor.GC2
