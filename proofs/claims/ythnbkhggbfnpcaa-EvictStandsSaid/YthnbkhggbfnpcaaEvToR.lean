/- A load as the document has it. No conditions. -/
import Derived.Test.YthnbkhggbfnpcaaGEvx0
namespace Go.Proofs.Ythnbkhggbfnpcaa.GEv
open Go.RowKit
def toR (x : S27) : S39 := ⟨x.f0, x.f1, x.f2⟩
theorem rd_map (l : List S27) (i : Int) (h0 : 0 ≤ i) (h1 : i < l.length) : rd_T39 (l.map toR) i = ⟨(rd_T27 l i).f0, (rd_T27 l i).f1, (rd_T27 l i).f2⟩ := by
  have h : i.toNat < l.length := by omega
  simp [rd_T39, rd_T27, List.getD, h, toR]
end Go.Proofs.Ythnbkhggbfnpcaa.GEv
