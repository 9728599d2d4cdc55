/- JlexWhole, the pure statement: the whole number of any text, or what is wrong, is the document's; for every input. -/
import Derived.Test.YtnkkbiabloodaaaDoorJlWhole
import Derived.Test.YtnkkbiabloodaaaDoorGUtJlexWholeS
namespace Go.Proofs.YtnkkbiabloodaaaDoor.Pure
open Go.RowKit Go.Proofs.YtnkkbiabloodaaaDoor.GUt Go.Proofs.YtnkkbiabloodaaaDoorW.PrintWords Go.Proofs.YtnkkbiabloodaaaDoorW.PrintLast Go.Proofs.YtnkkbiabloodaaaDoorW.PrintMore

theorem awake07w : Ev (fun k => bosunlaw07_Awake.f k) true := by
  have h : bosunlaw07_Awake.f 40 = some true := by decide +kernel
  exact Ev.of (fun k => bosunlaw07_Awake.mono k) h
theorem JlexWhole : bosunlaw07_JlexWhole.Pure := by
  intro s hs
  apply Ev.rounds
  by_cases h : (s.size : Int) > 300
  · exact Ev.congr (fun k => by rw [bosunlaw07_JlexWhole.f, if_pos h]) (Ev.bind awake07w (Ev.now _))
  · refine Ev.congr (fun k => by rw [bosunlaw07_JlexWhole.f, if_neg h]) (Ev.bind (whole_ev s (by omega)) (Ev.bind (ref_whole s (by omega)) (Ev.bind awake07w ?_)))
    refine Ev.congr (f := fun _ => some true) (fun k => ?_) (Ev.now _)
    rw [if_pos rfl, if_pos rfl, beq_self_eq_true]
end Go.Proofs.YtnkkbiabloodaaaDoor.Pure
