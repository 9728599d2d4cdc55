/-
  No cell of these rows narrows 'for every input' (looked for: loops, veiled, ifaces, maps, wideKeys, modest, calm, conditions, laid).
  DERIVED. THE GIVEN ROWS OF THIS SEAT. 2 by the template 'for every input the law returns true; each argument reads behind the call as it read before'; 0 by the template 'total and deterministic' (their statements: YthnbkhggbfnpcaaTotals.lean).
  GIVEN WITH THE SEED: the statements are not yours to turn. If you find one false, say at which input.
  Laid BY PROGRAM, IN A SANDBOX (cutbox-rows.mjs): the forced cells as the released guide's own fill.sh prints them over the translation 05a42e41062438a7… (all of the seat's roots in one cut). By AI agents, Wed Nov 11 2026. No macro, syntax, notation, axiom, sorry.
-/
import Derived.Test.YthnbkhggbfnpcaaChecked
import GoSem.Claim
import GoSem.ClaimJoined
import GoSem.ClaimMapViews
import Derived.JoinedTies
import Derived.KernelRfl
namespace Go.Proofs.Ythnbkhggbfnpcaa
/- THE CELL 'sum', in the pinned program and in every row, IS THE sha256 OF THE DUMP (.gsa) THAT YthnbkhggbfnpcaaProg.lean LOADS. Nothing in Lean hashes anything: it is a label: what it is worth is what the hold of that sum in a sandbox is worth. -/
noncomputable def Try.pinned : Pinned := { name := "ythnbkhggbfnpcaa", sum := "05a42e41062438a75ebf98af5f78b6e2212f3c6dc6d22e7396c8d48082210321", checked := Try.checked }
namespace Rows
def none {H : Type} : Left H := { results := [], args := [] }

/-- 'bosunlaw24.EvictStands': WHATEVER THE INPUT: true; the input reads as it did. -/
def evictStandsSpec : ChangeSpec := { name := "evictStands", fn := fun _ => fun
  | [d1, d2] => { results := [.lit (.bool true)], args := [d1, d2] }
  | _ => none }
def evictStandsRow : OpenClaim := { program := "ythnbkhggbfnpcaa", sum := "05a42e41062438a75ebf98af5f78b6e2212f3c6dc6d22e7396c8d48082210321", func := "bosun/bosunlaw24.EvictStands", spec := "evictStands", inPlace := ["math.Float64bits"], unfollowed := true, recurses := true, apart := false }
def EvictStandsSaid : Prop := evictStandsRow.holds Try.pinned (OpenSpec.ofChange evictStandsSpec)

/-- ITS FALSE NEIGHBOUR: 'it returns false'. Refute it at one input. -/
def evictStandsWrong : ChangeSpec := { name := "evictStands", fn := fun _ => fun
  | [d1, d2] => { results := [.lit (.bool false)], args := [d1, d2] }
  | _ => none }
def EvictStandsWrongFalsely : Prop := evictStandsRow.holds Try.pinned (OpenSpec.ofChange evictStandsWrong)

/-- 'bosunlaw24.EvictOrders': WHATEVER THE INPUT: true; the input reads as it did. -/
def evictOrdersSpec : ChangeSpec := { name := "evictOrders", fn := fun _ => fun
  | [d1, d2, d3] => { results := [.lit (.bool true)], args := [d1, d2, d3] }
  | _ => none }
def evictOrdersRow : OpenClaim := { program := "ythnbkhggbfnpcaa", sum := "05a42e41062438a75ebf98af5f78b6e2212f3c6dc6d22e7396c8d48082210321", func := "bosun/bosunlaw24.EvictOrders", spec := "evictOrders", inPlace := ["math.Float64bits"], unfollowed := true, recurses := true, apart := false }
def EvictOrdersSaid : Prop := evictOrdersRow.holds Try.pinned (OpenSpec.ofChange evictOrdersSpec)

/-- ITS FALSE NEIGHBOUR: 'it returns false'. Refute it at one input. -/
def evictOrdersWrong : ChangeSpec := { name := "evictOrders", fn := fun _ => fun
  | [d1, d2, d3] => { results := [.lit (.bool false)], args := [d1, d2, d3] }
  | _ => none }
def EvictOrdersWrongFalsely : Prop := evictOrdersRow.holds Try.pinned (OpenSpec.ofChange evictOrdersWrong)

/- THE SECOND FORM. 'bulk': how many values and letters a reading holds, each counted each time it is reached (what is shared counts as often as it is met; a slice's spare places count too). A statement '..UptoSaid' is the law's where the arguments, and the package variables that the reading takes, are together of bulk at most 1048576: NARROWER than '..Said'. Prove '..Said' where nothing that the law and all that it calls make is longer than what came in: it says more and counts as full. Else prove '..UptoSaid'. A law counts once. -/
mutual
def uptoBulk {H : Type} : DataW H → Nat
  | .lit (.string bytes) => bytes.length + 1
  | .lit _ => 1
  | .nil => 1
  | .ptr d => uptoBulk d + 1
  | .slice elems spare => uptoBulkAll elems + uptoBulkAll spare + 1
  | .agg parts => uptoBulkAll parts + 1
  | .iface _ d => uptoBulk d + 1
  | .map entries => uptoBulkEntries entries + 1
  | .held _ => 1
def uptoBulkAll {H : Type} : List (DataW H) → Nat
  | [] => 0
  | d :: r => uptoBulk d + uptoBulkAll r
def uptoBulkEntries {H : Type} : List (Lit × DataW H) → Nat
  | [] => 0
  | x :: r => uptoBulkEntry x + uptoBulkEntries r
def uptoBulkEntry {H : Type} : Lit × DataW H → Nat
  | (.string bytes, d) => bytes.length + uptoBulk d + 1
  | (_, d) => uptoBulk d + 1
 end
def uptoSmall : (H : Type) → List (DataW H) → Bool := fun _ ds => decide (uptoBulkAll ds ≤ 1048576)
def OpenSpec.upto (s : _root_.Go.ChangeSpec) : _root_.Go.OpenSpec := { _root_.Go.OpenSpec.ofChange s with cond := some uptoSmall }

/-- 'bosunlaw24.EvictStands', WHERE WHAT IT READS IS OF BULK AT MOST 1048576: true; the input reads as it did. -/
def evictStandsUptoRow : OpenClaim := { program := "ythnbkhggbfnpcaa", sum := "05a42e41062438a75ebf98af5f78b6e2212f3c6dc6d22e7396c8d48082210321", func := "bosun/bosunlaw24.EvictStands", spec := "evictStands", inPlace := ["math.Float64bits"], unfollowed := true, recurses := true, apart := false, narrowed := true }
def EvictStandsUptoSaid : Prop := evictStandsUptoRow.holds Try.pinned (OpenSpec.upto evictStandsSpec)

/-- 'bosunlaw24.EvictOrders', WHERE WHAT IT READS IS OF BULK AT MOST 1048576: true; the input reads as it did. -/
def evictOrdersUptoRow : OpenClaim := { program := "ythnbkhggbfnpcaa", sum := "05a42e41062438a75ebf98af5f78b6e2212f3c6dc6d22e7396c8d48082210321", func := "bosun/bosunlaw24.EvictOrders", spec := "evictOrders", inPlace := ["math.Float64bits"], unfollowed := true, recurses := true, apart := false, narrowed := true }
def EvictOrdersUptoSaid : Prop := evictOrdersUptoRow.holds Try.pinned (OpenSpec.upto evictOrdersSpec)

end Rows
end Go.Proofs.Ythnbkhggbfnpcaa
