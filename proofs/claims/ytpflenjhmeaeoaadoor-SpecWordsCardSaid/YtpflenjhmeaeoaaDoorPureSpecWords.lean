/- SpecWords, the pure statement: the words of any numbers, and the numbers of any word, are the document's; for every input. -/
import Derived.Test.YtpflenjhmeaeoaaDoorGUtSpecWordsS
namespace Go.Proofs.YtpflenjhmeaeoaaDoor.Pure
open Go.RowKit Go.Proofs.YtpflenjhmeaeoaaDoor.GUt Go.Proofs.YtpflenjhmeaeoaaDoorW.PrintWords Go.Proofs.YtpflenjhmeaeoaaDoorW.PrintLast Go.Proofs.YtpflenjhmeaeoaaDoorW.PrintMore
theorem mM : Ev (fun k => bC.f k) true := by
  have h : bC.f 60 = some true := by decide +kernel
  exact Ev.of (fun k => bC.mono k) h
theorem lD (l : List ByteArray) (s : ByteArray) : ∀ (k : Nat) (j : Int), aG.l0 k l s (l.length : Int) j = aL.l0 k l s j
  | 0, j => by rw [aG.l0, aL.l0]
  | k + 1, j => by
    rw [aG.l0, aL.l0]
    by_cases h1 : j < (l.length : Int)
    · by_cases h2 : 0 ≤ j
      · simp only [if_pos h1, if_pos h2]
        by_cases h3 : s.toList = (gL ByteArray.empty l j).toList
        · rw [if_pos h3, if_pos h3.symm]
        · rw [if_neg h3, if_neg (fun e => h3 e.symm), lD l s k]
      · simp only [if_pos h1, if_neg h2]
    · simp only [if_neg h1]
theorem jP (l : List ByteArray) (s : ByteArray) (hl : l.length ≤ 1000) : ∀ (n j : Nat), j + n = l.length → ∃ v, aL.l0 (n + 1) l s (j : Int) = some v
  | 0, j, h => ⟨-1, by rw [aL.l0, if_neg (by omega)]⟩
  | n + 1, j, h => by
    have h1 : (j : Int) < (l.length : Int) := by omega
    have h2 : 0 ≤ (j : Int) := by omega
    rw [aL.l0]
    simp only [if_pos h1, if_pos h2]
    by_cases h3 : (gL ByteArray.empty l (j : Int)).toList = s.toList
    · rw [if_pos h3]; exact ⟨_, rfl⟩
    · rw [if_neg h3]
      have e : wrap64 ((j : Int) + 1) = ((j + 1 : Nat) : Int) := by rw [bg (by omega) (by omega)]; omega
      rw [e]
      exact jP l s hl n (j + 1) (by omega)
theorem lF (l : List ByteArray) (s : ByteArray) (hl : l.length ≤ 1000) : ∃ v, Ev (fun k => aL.f k l s) v ∧ Ev (fun k => aG.f k l s) v := by
  obtain ⟨v, hv⟩ := jP l s hl l.length 0 (by omega)
  have h1 : Ev (fun k => aL.f k l s) v := Ev.of (fun k => aL.mono l s k) (k := l.length + 1) hv
  exact ⟨v, h1, Ev.congr (fun k => lD l s k 0) h1⟩
theorem mO (l : List ByteArray) (n : Int) : ∃ t, eF.f l n = some t ∧ bD.f l n = some t := by
  rw [eF.f, bD.f]
  by_cases h1 : n < 0
  · rw [if_pos h1]; exact ⟨_, rfl, rfl⟩
  · rw [if_neg h1]
    by_cases h2 : n ≥ (l.length : Int)
    · rw [if_pos h2]; exact ⟨_, rfl, rfl⟩
    · rw [if_neg h2, if_pos (by omega), if_pos (by omega)]; exact ⟨_, rfl, rfl⟩
theorem SpecWords : aC.Pure := by
  intro x0 x1 _ _
  refine Ev.rounds (r := true) ?_
  by_cases h : (x1.size : Int) > 100
  · exact Ev.congr (fun k => by rw [aC.f, if_pos h]) (Ev.bind mM (Ev.now _))
  obtain ⟨v, hv1, hv2⟩ := lF [⟨#[97, 108, 119, 97, 121, 115]⟩, ⟨#[111, 110, 45, 102, 97, 105, 108, 117, 114, 101]⟩, ⟨#[110, 101, 118, 101, 114]⟩] x1 (by decide)
  obtain ⟨u, hu1, hu2⟩ := lF [⟨#[116, 99, 112]⟩, ⟨#[117, 100, 112]⟩] x1 (by decide)
  obtain ⟨t, ht1, ht2⟩ := mO [⟨#[97, 108, 119, 97, 121, 115]⟩, ⟨#[111, 110, 45, 102, 97, 105, 108, 117, 114, 101]⟩, ⟨#[110, 101, 118, 101, 114]⟩] x0
  obtain ⟨z, hz1, hz2⟩ := mO [⟨#[116, 99, 112]⟩, ⟨#[117, 100, 112]⟩] x0
  have hR : Ev (fun k => dn.f k x1) (mx v 0, decide (v ≥ 0)) := Ev.congr (fun k => by rw [dn.f, dL.f, Option.bind_some]) (Ev.bind hv2 (Ev.now _))
  have hP : Ev (fun k => dB.f k x1) (mx u 0, decide (u ≥ 0)) := Ev.congr (fun k => by rw [dB.f, dY.f, Option.bind_some]) (Ev.bind hu2 (Ev.now _))
  have hJ : Ev (fun k => aC.j0 k x0 false) true := by
    refine Ev.step (f := fun k => _) (fun k => by rw [aC.j0, if_neg (by decide)]) (Ev.bind mM ?_)
    refine Ev.congr (fun k => ?_) (Ev.now true)
    rw [if_pos rfl, dw.f, dL.f, Option.bind_some, ht1, Option.bind_some, Option.bind_some, bG.f, Option.bind_some, ht2, Option.bind_some, if_pos rfl, cZ.f, dY.f, Option.bind_some, hz1, Option.bind_some, Option.bind_some, bA.f, Option.bind_some, hz2, Option.bind_some, beq_self_eq_true]
  refine Ev.congr (fun k => by rw [aC.f, if_neg h]) (Ev.bind hR (Ev.bind hP ?_))
  refine Ev.congr (fun k => by rw [bG.f, Option.bind_some]) (Ev.bind hv1 ?_)
  refine Ev.congr (fun k => by rw [bA.f, Option.bind_some]) (Ev.bind hu1 ?_)
  refine Ev.congr (fun k => ?_) hJ
  rw [if_neg (by simp), if_neg (by simp), if_pos rfl, bne_self_eq_false]
end Go.Proofs.YtpflenjhmeaeoaaDoor.Pure
