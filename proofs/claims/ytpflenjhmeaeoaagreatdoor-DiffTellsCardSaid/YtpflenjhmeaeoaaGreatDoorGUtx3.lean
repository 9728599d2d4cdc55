/- Written by this session's own program (wip/gen.py) out of the translation: plain Lean functions of the Go functions, and proofs that the calls come to their answers. No conditions beside those in the statements. -/
import Derived.Test.YtpflenjhmeaeoaaGreatDoorGUtx0
namespace Go.Proofs.YtpflenjhmeaeoaaGreatDoor.GUt
open Go.RowKit Go.Proofs.YtpflenjhmeaeoaaGreatDoorW.PrintWords Go.Proofs.YtpflenjhmeaeoaaGreatDoorW.PrintLast Go.Proofs.YtpflenjhmeaeoaaGreatDoorW.PrintMore
attribute [local go_sem] fJ fK gH gI eO eP fM fO
set_option linter.unusedVariables false
set_option linter.unusedSimpArgs false
theorem Ac (d : Nat) (w : World) (x0 y0 : Int) (x1 y1 : Int) :
  (Op.equalIn (d + 2) 88 (.agg #[.int .i64 x0,.int .i64 x1]) (.agg #[.int .i64 y0,.int .i64 y1])).run Tryz.prog w = .ok (x0 == y0 && (x1 == y1)) w:=by
 refine oq Tryz.underlying88 (by kernel_rfl) ?_
 refine ku (by rfl) (by go_simp;rfl) (by go_simp;rfl) (by go_simp) ?_
 exact kM (by rfl) (by go_simp;rfl) (by go_simp;rfl) (by go_simp)
end Go.Proofs.YtpflenjhmeaeoaaGreatDoor.GUt
