/- What holds of the world at every call: the tables of unicode/utf8 stand in their blocks. It stays where old blocks stay. No conditions. -/
import Derived.Test.YtpncpefppifgdaaGreatDoorProg
import Derived.Test.YtpncpefppifgdaaGreatDoorWd
import Derived.Test.YtpncpefppifgdaaGreatDoorShelf
import Derived.Shelf.Unicode.DecodeSlow
import Derived.Lib.LaidU8
namespace Go.Proofs.YtpncpefppifgdaaGreatDoor.GW
open Go.RowKit Go.Shelf Go.Proofs.YtpncpefppifgdaaGreatDoorW.PrintWords
def GW (w : World) : Prop := True ∧ Lib.Utf8Tabs 0 1 w
theorem below {w w' : World} (h : GW w) (hb : Below w.heap.size w w') : GW w' :=
  ⟨trivial, Utf8Tabs_below h.2 hb⟩
theorem drawn {w w' : World} (h : GW w) (hd : Drawn0 w w') : GW w' := below h hd.below
theorem Ap {laid : List (String × DataW Unit)} {W : World} (hL : laidMet Tryz.prog laid W) (_hS : W.ShapedOpen Tryz.prog) (h1 : ("unicode/utf8.first", Lib.firstData) ∈ laid) (h2 : ("unicode/utf8.acceptRanges", Lib.acceptData) ∈ laid) : GW W :=
  ⟨trivial, utf8Tabs_of_reads Tryz.lays260 ⟨by kernel_rfl, by kernel_rfl, by kernel_rfl, by kernel_rfl, by kernel_rfl, by kernel_rfl, by kernel_rfl⟩ (Lib.laidMet.reads hL h1) (Lib.laidMet.reads hL h2)⟩
end Go.Proofs.YtpncpefppifgdaaGreatDoor.GW
