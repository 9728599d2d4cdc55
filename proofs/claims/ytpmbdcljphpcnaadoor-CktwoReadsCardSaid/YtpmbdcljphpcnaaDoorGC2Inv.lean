/- cktwo.Decode: what its closures keep, and the plain functions. No conditions beside those stated. -/
import Derived.Test.YtpmbdcljphpcnaaDoorGC2Many
import Derived.Test.YtpmbdcljphpcnaaDoorGC2x9
import Derived.Test.YtpmbdcljphpcnaaDoorGC2x6
namespace Go.Proofs.YtpmbdcljphpcnaaDoor.GC2
open Go.RowKit Go.Proofs.YtpmbdcljphpcnaaDoorW.PrintWords Go.Proofs.YtpmbdcljphpcnaaDoorW.PrintLast Go.Proofs.YtpmbdcljphpcnaaDoorW.PrintMore
set_option linter.unusedVariables false
abbrev Con2:=S100
abbrev Pod2:=S98
theorem vF : (Tryd.prog.info? 98).map (fun i=>(i.zero,i.size,i.bytes)) = some (some (.agg #[.string ⟨#[]⟩,.string ⟨#[]⟩,.string ⟨#[]⟩,.int .u8 0,.int .u16 0,.slice none 0 0]),6,80):=by kernel_rfl
theorem vG : (Tryd.prog.info? 100).map (fun i=>(i.zero,i.size,i.bytes)) = some (some (.agg #[.string ⟨#[]⟩,.string ⟨#[]⟩]),2,32):=by kernel_rfl
def jo (k : Nat) (a : ByteArray × Int × List Con2) : Option (ByteArray × Int × List Con2) :=
 (bL.f k a.1 a.2.1).bind fun x=>(bL.f k x.2.1 x.2.2).bind fun y =>
  if a.2.2.length < 4398046511104 then some (y.2.1,y.2.2,a.2.2 ++ [⟨x.1,y.1⟩]) else none
abbrev DS:=ByteArray × Int × Bool × List Pod2
def jS {α : Type} (step : α → Option α) (err : α → Int) (most v : Int) (a : α) : Option (Bool × α) :=
 if wrap64 v > most then some (false,a) else (runN step err (wrap64 v).toNat a).bind fun b=>some (true,b)
def iy (k : Nat) (a : DS) : Option DS :=
 if a.2.2.1 = true then some a else
 (bL.f k a.1 a.2.1).bind fun x=>(bL.f k x.2.1 x.2.2).bind fun y=>(bL.f k y.2.1 y.2.2).bind fun z =>
 (aR.f k z.2.1 z.2.2 1).bind fun v=>(aR.f k v.2.1 v.2.2 2).bind fun g=>(aR.f k g.2.1 g.2.2 1).bind fun m =>
 (jS (jo k) (fun c=>c.2.1) 16 m.1 (m.2.1,m.2.2,[])).bind fun r =>
  if a.2.2.2.length < 1759218604441 then some (r.2.1,r.2.2.1,!r.1,a.2.2.2 ++ [⟨x.1,y.1,z.1,IntKind.u8.wrap v.1,IntKind.u16.wrap g.1,r.2.2.2⟩]) else none
def dx.f (k : Nat) (b : ByteArray) : Option (Int × List Pod2 × Int) :=
 (aR.f k b 0 8).bind fun s=>(aR.f k s.2.1 s.2.2 2).bind fun m =>
 (jS (iy k) (fun c=>c.2.1) 1024 m.1 ((m.2.1,m.2.2,false,[]) : DS)).bind fun r =>
  if r.1 = false ∨ r.2.2.2.1 = true then some (0,[],18) else
  (dB.f r.2.1 r.2.2.1).bind fun e =>
   if e.1 = 0 then (aM.f k s.1 r.2.2.2.2).bind fun c=>if c = 0 then some (s.1,r.2.2.2.2,0) else some (0,[],c)
   else some (0,[],e.1)
theorem lJ {α : Type} {f g : α → Option α} (err : α → Int) (h : ∀ a,LeO (f a) (g a)) : ∀ n a,LeO (runN f err n a) (runN g err n a)
 | 0,a=>LeO.refl _
 | n + 1,a=>LeO.ite (LeO.bind (h a) (fun b=>lJ err h n b)) (lJ err h n a)
theorem nD {α : Type} {f g : α → Option α} (err : α → Int) (h : ∀ a,LeO (f a) (g a)) (most v : Int) (a : α) : LeO (jS f err most v a) (jS g err most v a) :=
 LeO.ite (LeO.refl _) (LeO.bind (lJ err h _ a) (fun _=>LeO.refl _))
theorem sw (k : Nat) (a) : LeO (jo k a) (jo (k + 1) a) :=
 LeO.bind (bL.mono _ _ k) fun _=>LeO.bind (bL.mono _ _ k) fun _=>LeO.refl _
theorem sD (k : Nat) (a : DS) : LeO (iy k a) (iy (k + 1) a) :=
 LeO.ite (LeO.refl _) (LeO.bind (bL.mono _ _ k) fun _=>LeO.bind (bL.mono _ _ k) fun _=>LeO.bind (bL.mono _ _ k) fun _ =>
  LeO.bind (aR.mono _ _ _ k) fun _=>LeO.bind (aR.mono _ _ _ k) fun _=>LeO.bind (aR.mono _ _ _ k) fun _ =>
  LeO.bind (nD _ (sw k) _ _ _) fun _=>LeO.refl _)
theorem dx.mono : ∀ a0 k,LeO (dx.f k a0) (dx.f (k + 1) a0):=fun a0 k =>
 LeO.bind (aR.mono _ _ _ k) fun _=>LeO.bind (aR.mono _ _ _ k) fun _=>LeO.bind (nD _ (sD k) _ _ _) fun _ =>
  LeO.ite (LeO.refl _) (LeO.bind (LeO.refl _) fun _=>LeO.ite (LeO.bind (aM.mono _ _ k) fun _=>LeO.refl _) (LeO.refl _))
structure OutI (w0 w : World) (gT gt gs gf gr : Nat) (rest : ByteArray) (err seq : Int) (full : Bool) (ok : Nat → Prop) (us : Value) (ps : List Pod2) : Prop where
 T : bC w0 w gT rest err
 t : w.heap[gt]? = some (.cells #[.pointer (some ⟨gT,0,none⟩)] 84 (0,0))
 s : w.heap[gs]? = some (.cells #[.int .u64 seq,us] 49 (0,0))
 f : w.heap[gf]? = some (.cells #[.bool full] 4 (0,0))
 r : w.heap[gr]? = some (.cells #[.int .u64 0,.slice none 0 0] 49 (0,0))
 S : Kd.S k98 98 w w0.heap.size ok us ps
 B : Below w0.heap.size w0 w
variable {w0 w w' : World} {gT gt gs gf gr gp : Nat} {rest rest' : ByteArray} {err err' seq : Int} {full : Bool} {ok ok' : Nat → Prop} {us u : Value} {ps : List Pod2}
theorem OutI.mono (h : OutI w0 w gT gt gs gf gr rest err seq full ok us ps) (hok : ∀ k,ok k → ok' k) : OutI w0 w gT gt gs gf gr rest err seq full ok' us ps :=
 ⟨h.T,h.t,h.s,h.f,h.r,Kd.dO h.S hok,h.B⟩
theorem OutI.drewN (h : OutI w0 w gT gt gs gf gr rest err seq full ok us ps) (m : Nat) : OutI w0 (w.drewN m) gT gt gs gf gr rest err seq full ok us ps :=
 ⟨h.T.drewN m,aj h.t m,aj h.s m,aj h.f m,aj h.r m,Kd.dh h.S m,ak h.B m⟩
theorem OutI.drew (h : OutI w0 w gT gt gs gf gr rest err seq full ok us ps) : OutI w0 w.drew gT gt gs gf gr rest err seq full ok us ps :=
 ⟨h.T.drew,au h.t,au h.s,au h.f,au h.r,Kd.dA h.S,aC h.B⟩
theorem OutI.alloc (h : OutI w0 w gT gt gs gf gr rest err seq full ok us ps) (o : Obj) : OutI w0 (w.alloc o) gT gt gs gf gr rest err seq full ok us ps :=
 ⟨h.T.alloc o,ah h.t o,ah h.s o,ah h.f o,ah h.r o,Kd.cZ h.S o,aD h.B o⟩
theorem OutI.below (h : OutI w0 w gT gt gs gf gr rest err seq full ok us ps) (hb : Below w.heap.size w w') : OutI w0 w' gT gt gs gf gr rest err seq full ok us ps :=
 ⟨h.T.below hb,aQ h.t hb,aQ h.s hb,aQ h.f hb,aQ h.r hb,Kd.dJ h.S hb,aU h.B hb⟩
theorem OutI.taker (h : OutI w0 w gT gt gs gf gr rest err seq full ok us ps) (hi : bC w0 w' gT rest' err') (hb : Below w0.heap.size w0 w') (hk : bO w w' gT none) :
  OutI w0 w' gT gt gs gf gr rest' err' seq full ok us ps :=
 ⟨hi,bO.blk hk h.t (Ne.symm (h.T.fK h.t (by decide))) (by simp),bO.blk hk h.s (Ne.symm (h.T.fK h.s (by decide))) (by simp),bO.blk hk h.f (Ne.symm (h.T.fK h.f (by decide))) (by simp),
  bO.blk hk h.r (Ne.symm (h.T.fK h.r (by decide))) (by simp),Kd.dO (Kd.wN (h.T.wW h.S (by decide)) hk (fun _ h=>h.2)) (fun _ h=>h.1),hb⟩
theorem OutI.far (h : OutI w0 w gT gt gs gf gr rest err seq full ok us ps) {g j : Nat} {cs : Array Value} {ty : TypeId} (hg : w.heap[g]? = some (.cells cs ty (0,0))) (h1 : ty ≠ 86) (h2 : gt ≠ g) (h3 : gs ≠ g) (h4 : gf ≠ g) (h5 : gr ≠ g)
  (hok : ∀ k,ok k → k ≠ g) (hge : w0.heap.size ≤ g) (x : Value) : OutI w0 (w.setCell ⟨g,j,none⟩ x) gT gt gs gf gr rest err seq full ok us ps :=
 ⟨h.T.far (h.T.fK hg h1) x,aJ h.t h2 x,aJ h.s h3 x,aJ h.f h4 x,aJ h.r h5 x,Kd.dQ h.S hok x,aA h.B hge⟩
structure InI (w0 w : World) (gT gt gs gf gr gp : Nat) (rest : ByteArray) (err seq : Int) (full : Bool) (us : Value) (ps : List Pod2) (p : Pod2) (u : Value) (cs : List Con2) : Prop where
 o : OutI w0 w gT gt gs gf gr rest err seq full (fun k=>k ≠ gp ∧ some k ≠ u.ownBlock) us ps
 p : w.heap[gp]? = some (.cells #[.string p.f0,.string p.f1,.string p.f2,.int .u8 p.f3,.int .u16 p.f4,u] 98 (0,0))
 R : Kd.R jJ 100 w w0.heap.size (fun _=>True) u cs
 ge : w0.heap.size ≤ gp
variable {p : Pod2} {cs : List Con2}
theorem InI.drewN (h : InI w0 w gT gt gs gf gr gp rest err seq full us ps p u cs) (m : Nat) : InI w0 (w.drewN m) gT gt gs gf gr gp rest err seq full us ps p u cs :=
 ⟨h.o.drewN m,aj h.p m,Kd.fI h.R m,h.ge⟩
theorem InI.drew (h : InI w0 w gT gt gs gf gr gp rest err seq full us ps p u cs) : InI w0 w.drew gT gt gs gf gr gp rest err seq full us ps p u cs :=
 ⟨h.o.drew,au h.p,Kd.gy h.R,h.ge⟩
theorem InI.alloc (h : InI w0 w gT gt gs gf gr gp rest err seq full us ps p u cs) (o : Obj) : InI w0 (w.alloc o) gT gt gs gf gr gp rest err seq full us ps p u cs :=
 ⟨h.o.alloc o,ah h.p o,Kd.fH h.R o,h.ge⟩
theorem InI.taker (h : InI w0 w gT gt gs gf gr gp rest err seq full us ps p u cs) (hi : bC w0 w' gT rest' err') (hb : Below w0.heap.size w0 w') (hk : bO w w' gT none) :
  InI w0 w' gT gt gs gf gr gp rest' err' seq full us ps p u cs :=
 ⟨h.o.taker hi hb hk,bO.blk hk h.p (Ne.symm (h.o.T.fK h.p (by decide))) (by simp),Kd.fE (Kd.wC (h.o.T.apart h.R (by decide)) hk (fun _ h=>h.2)) (fun _ h=>h.1),h.ge⟩
theorem InI.grown {v1 : Value} {cs' : List Con2} (h : InI w0 w gT gt gs gf gr gp rest err seq full us ps p u cs) (ho : Kd.R jJ 100 w' w0.heap.size (fun _=>True) v1 cs') (hb : Below w0.heap.size w0 w') (hg : w.grownBy w' u.ownBlock)
  (hat : v1.ownBlock = u.ownBlock ∨ ∃ b,v1.ownBlock = some b ∧ w.heap.size ≤ b) :
  OutI w0 w' gT gt gs gf gr rest err seq full (fun k=>k ≠ gp ∧ some k ≠ v1.ownBlock) us ps ∧ w'.heap[gp]? = some (.cells #[.string p.f0,.string p.f1,.string p.f2,.int .u8 p.f3,.int .u16 p.f4,u] 98 (0,0)) :=
 ⟨⟨h.o.T.grown hg (h.o.T.own_ne h.R (by decide)),dS h.o.t hg (Kd.jI h.R h.o.t (by decide)),dS h.o.s hg (Kd.jI h.R h.o.s (by decide)),dS h.o.f hg (Kd.jI h.R h.o.f (by decide)),dS h.o.r hg (Kd.jI h.R h.o.r (by decide)),
  Kd.oO h.o.S hg hat,hb⟩,dS h.p hg (Kd.jI h.R h.p (by decide))⟩
theorem gK {w : World} {g g' : Nat} {cs cs' : Array Value} {t t' : TypeId} (h : w.heap[g]? = some (.cells cs t (0,0))) (h' : w.heap[g']? = some (.cells cs' t' (0,0))) (ht : t ≠ t') : g ≠ g':=by
 rintro rfl
 rw [h] at h'
 injection h' with h'
 injection h' with _ h2 _
 exact ht h2
theorem InI.put {v1 : Value} {cs' : List Con2} (h : OutI w0 w gT gt gs gf gr rest err seq full (fun k=>k ≠ gp ∧ some k ≠ v1.ownBlock) us ps)
  (hp : w.heap[gp]? = some (.cells #[.string p.f0,.string p.f1,.string p.f2,.int .u8 p.f3,.int .u16 p.f4,u] 98 (0,0))) (hR : Kd.R jJ 100 w w0.heap.size (fun _=>True) v1 cs') (hge : w0.heap.size ≤ gp) :
  InI w0 (w.setCell ⟨gp,5,none⟩ v1) gT gt gs gf gr gp rest err seq full us ps p v1 cs' :=
 ⟨h.far hp (by decide) (gK h.t hp (by decide)) (gK h.s hp (by decide)) (gK h.f hp (by decide)) (gK h.r hp (by decide)) (fun k hk=>hk.1) hge v1,
  aX hp 5 v1 rfl,Kd.fE (Kd.jG (p:=⟨gp,5,none⟩) (Kd.gP hR hp (by decide)) (fun _ hk=>hk.2) v1) (fun _ hk=>trivial),hge⟩
end Go.Proofs.YtpmbdcljphpcnaaDoor.GC2
