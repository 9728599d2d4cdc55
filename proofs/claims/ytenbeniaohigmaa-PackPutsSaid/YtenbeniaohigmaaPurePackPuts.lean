/- PackPuts, the pure statement: the bytes of any number, whole number, yes or no and text are the document's; for every input. -/
import Derived.Test.YtenbeniaohigmaaPackMath
namespace Go.Proofs.Ytenbeniaohigmaa.Pure
open Go.RowKit Go.Proofs.Ytenbeniaohigmaa.GPack Go.Proofs.YtenbeniaohigmaaW.PrintWords Go.Proofs.YtenbeniaohigmaaW.PrintLast Go.Proofs.YtenbeniaohigmaaW.PrintMore
theorem PackPuts : bosunlaw02_PackPuts.Pure := by
  intro n v b s hn hv hs
  obtain ⟨h0, h1⟩ := u64_wf hv
  refine ⟨20, ?_⟩
  unfold bosunlaw02_PackPuts.f
  rw [awake 10]
  by_cases hl : (s.size : Int) > 6000
  · rw [if_pos hl]; rfl
  rw [if_neg hl]
  by_cases hm : (s.size : Int) > 4096
  · rw [text_long 20 s (by omega)]
    simp only [Option.bind_some]
    rw [if_pos hm]
    simp
  · obtain ⟨x, e1, e2⟩ := both n v h0 h1
    obtain ⟨y, f1, f2⟩ := flags b
    rw [text 10 s (by omega), rtext 10 s (by omega), e1, e2, int8 v h0 h1, f1, f2]
    have h8 : bosunref02_Put.f 20 8 v = some (strOfNums (beL 8 v)) := rput 10 8 v h0 h1 (by simp)
    simp only [Option.bind_some]
    rw [if_neg hm]
    simp [h8]
end Go.Proofs.Ytenbeniaohigmaa.Pure
