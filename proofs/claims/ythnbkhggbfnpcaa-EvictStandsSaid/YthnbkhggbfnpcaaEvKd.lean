/- Floats as a kind of cells. No conditions. -/
import Derived.Test.YthnbkhggbfnpcaaWMore
namespace Go.Proofs.Ythnbkhggbfnpcaa.Ev
open Go.RowKit Go.Proofs.YthnbkhggbfnpcaaW.PrintWords
set_option linter.unusedVariables false
set_option linter.unusedSimpArgs false
def kF : Kd Nat := Kd.scalar (Value.float .f64) (fun _ => rfl)
@[go_sem] theorem store_float (P : Program) (A : Addr) (b : Nat) (W : World) : (store A (.float .f64 b)).run P W = stored P W A (.float .f64 b) .plain := run_store P W A _ _ rfl
end Go.Proofs.Ythnbkhggbfnpcaa.Ev
