/- unicode/utf8.ValidString: the library's contract in the printed texts' shape. No conditions beside those stated. -/
import Derived.Test.YtpflenjhmeaeoaaDoorShelf
import Derived.Test.YtpflenjhmeaeoaaDoorGW
import Derived.Test.YtpflenjhmeaeoaaDoorGUtx0
namespace Go.Proofs.YtpflenjhmeaeoaaDoor.GUt
open Go.RowKit Go.Shelf Go.Proofs.YtpflenjhmeaeoaaDoorW.PrintWords Go.Proofs.YtpflenjhmeaeoaaDoorW.PrintLast Go.Proofs.YtpflenjhmeaeoaaDoorW.PrintMore
def utf8_ValidString.f (a0 : ByteArray) : Option Bool := if a0.size ≤ 9223372036854775807 then some (Lib.validD a0.data.toList) else none
theorem utf8_ValidString.calls (a0 : ByteArray) (r : Bool) (w : World) (h : utf8_ValidString.f a0 = some r) (hG : GW.GW w) :
    Calls Tryd.prog 106 #[.string a0] w fun e w' => e = .returned (.bool r) ∧ Below w.heap.size w w' := by
  have hc : a0.size ≤ 9223372036854775807 := Decidable.by_contra fun hn => by rw [utf8_ValidString.f, if_neg hn] at h; cases h
  rw [utf8_ValidString.f, if_pos hc] at h
  obtain rfl := Option.some.inj h
  exact Tryd.utf8_ValidString a0 w hc hG.2
end Go.Proofs.YtpflenjhmeaeoaaDoor.GUt
