/-
  NARROWER THAN 'FOR EVERY INPUT', by the rows' own cells (each row's printed sentence says how): ValueGets: laid · ValueChecks: laid · ValueAlike: laid · JlexWhole: laid · JlexAgain: laid.
  DERIVED. THE GIVEN ROWS OF THIS SEAT. 5 by the template 'for every input the law returns true; each argument reads behind the call as it read before'; 0 by the template 'total and deterministic' (their statements: YtnkkbiabloodaaaDoorTotals.lean).
  GIVEN WITH THE SEED: the statements are not yours to turn. If you find one false, say at which input.
  Laid BY PROGRAM, IN A SANDBOX (cutbox-rows.mjs): the forced cells as the released guide's own fill.sh prints them over the translation ac8657f65f452dfb… (all of the seat's roots in one cut). By AI agents, Wed Nov 11 2026. No macro, syntax, notation, axiom, sorry.
-/
import Derived.Test.YtnkkbiabloodaaaDoorChecked
import GoSem.PinnedTables
import GoSem.Claim
import GoSem.ClaimJoined
import GoSem.ClaimMapViews
import Derived.JoinedTies
import Derived.KernelRfl
namespace Go.Proofs.YtnkkbiabloodaaaDoor
/- THE CELL 'sum', in the pinned program and in every row, IS THE sha256 OF THE DUMP (.gsa) THAT YtnkkbiabloodaaaDoorProg.lean LOADS. Nothing in Lean hashes anything: it is a label: what it is worth is what the hold of that sum in a sandbox is worth. -/
noncomputable def Tryd.pinned : Pinned := { name := "ytnkkbiabloodaaadoor", sum := "ac8657f65f452dfbfb391112415ccd7c2fd42607d1612235422c7572caa55618", checked := Tryd.checked }
namespace Rows
def none {H : Type} : Left H := { results := [], args := [] }

/- WHAT THE LISTED PACKAGE-LEVEL VARIABLES READ AS WHEN THE CALL BEGINS. Each datum BY PROGRAM (the guide's laid-datum.mjs) off the statement by which the dump's own 'gosem.cut.vars' lays the variable. In a bare row this is a premise. The card (YtnkkbiabloodaaaDoorCards.lean) ties it to the program's text. -/
def laid_unicode_utf8_acceptRanges {H : Type} : DataW H := .agg [.agg [.lit (.int .u8 128), .lit (.int .u8 191)], .agg [.lit (.int .u8 160), .lit (.int .u8 191)], .agg [.lit (.int .u8 128), .lit (.int .u8 159)], .agg [.lit (.int .u8 144), .lit (.int .u8 191)], .agg [.lit (.int .u8 128), .lit (.int .u8 143)], .agg [.lit (.int .u8 0), .lit (.int .u8 0)], .agg [.lit (.int .u8 0), .lit (.int .u8 0)], .agg [.lit (.int .u8 0), .lit (.int .u8 0)], .agg [.lit (.int .u8 0), .lit (.int .u8 0)], .agg [.lit (.int .u8 0), .lit (.int .u8 0)], .agg [.lit (.int .u8 0), .lit (.int .u8 0)], .agg [.lit (.int .u8 0), .lit (.int .u8 0)], .agg [.lit (.int .u8 0), .lit (.int .u8 0)], .agg [.lit (.int .u8 0), .lit (.int .u8 0)], .agg [.lit (.int .u8 0), .lit (.int .u8 0)], .agg [.lit (.int .u8 0), .lit (.int .u8 0)]]
/-- One of Go's own tables, pinned by name: the form's constant. -/
def laid_unicode_utf8_first : DataW Unit := Go.Pinned.utf8First

/-- 'bosunlaw05.ValueGets': WHATEVER THE INPUT: true; the input reads as it did. -/
def valueGetsSpec : ChangeSpec := { name := "valueGets", fn := fun _ => fun
  | [d1, d2, d3, d4] => { results := [.lit (.bool true)], args := [d1, d2, d3, d4] }
  | _ => none }
def valueGetsRow : OpenClaim := { program := "ytnkkbiabloodaaadoor", sum := "ac8657f65f452dfbfb391112415ccd7c2fd42607d1612235422c7572caa55618", func := "bosun/bosunlaw05.ValueGets", spec := "valueGets", recurses := true, named := ["unicode/utf8.first", "unicode/utf8.acceptRanges"], apart := false, laid := [("unicode/utf8.acceptRanges", laid_unicode_utf8_acceptRanges), ("unicode/utf8.first", laid_unicode_utf8_first)] }
def ValueGetsSaid : Prop := valueGetsRow.holds Tryd.pinned (OpenSpec.ofChange valueGetsSpec)

/-- ITS FALSE NEIGHBOUR: 'it returns false'. Refute it at one input. -/
def valueGetsWrong : ChangeSpec := { name := "valueGets", fn := fun _ => fun
  | [d1, d2, d3, d4] => { results := [.lit (.bool false)], args := [d1, d2, d3, d4] }
  | _ => none }
def ValueGetsWrongFalsely : Prop := valueGetsRow.holds Tryd.pinned (OpenSpec.ofChange valueGetsWrong)

/-- 'bosunlaw05.ValueChecks': WHATEVER THE INPUT: true; the input reads as it did. -/
def valueChecksSpec : ChangeSpec := { name := "valueChecks", fn := fun _ => fun
  | [d1, d2] => { results := [.lit (.bool true)], args := [d1, d2] }
  | _ => none }
def valueChecksRow : OpenClaim := { program := "ytnkkbiabloodaaadoor", sum := "ac8657f65f452dfbfb391112415ccd7c2fd42607d1612235422c7572caa55618", func := "bosun/bosunlaw05.ValueChecks", spec := "valueChecks", unfollowed := true, recurses := true, named := ["unicode/utf8.first", "unicode/utf8.acceptRanges"], apart := false, laid := [("unicode/utf8.acceptRanges", laid_unicode_utf8_acceptRanges), ("unicode/utf8.first", laid_unicode_utf8_first)] }
def ValueChecksSaid : Prop := valueChecksRow.holds Tryd.pinned (OpenSpec.ofChange valueChecksSpec)

/-- ITS FALSE NEIGHBOUR: 'it returns false'. Refute it at one input. -/
def valueChecksWrong : ChangeSpec := { name := "valueChecks", fn := fun _ => fun
  | [d1, d2] => { results := [.lit (.bool false)], args := [d1, d2] }
  | _ => none }
def ValueChecksWrongFalsely : Prop := valueChecksRow.holds Tryd.pinned (OpenSpec.ofChange valueChecksWrong)

/-- 'bosunlaw05.ValueAlike': WHATEVER THE INPUT: true; the input reads as it did. -/
def valueAlikeSpec : ChangeSpec := { name := "valueAlike", fn := fun _ => fun
  | [d1, d2, d3] => { results := [.lit (.bool true)], args := [d1, d2, d3] }
  | _ => none }
def valueAlikeRow : OpenClaim := { program := "ytnkkbiabloodaaadoor", sum := "ac8657f65f452dfbfb391112415ccd7c2fd42607d1612235422c7572caa55618", func := "bosun/bosunlaw05.ValueAlike", spec := "valueAlike", unfollowed := true, recurses := true, named := ["unicode/utf8.first", "unicode/utf8.acceptRanges"], apart := false, laid := [("unicode/utf8.acceptRanges", laid_unicode_utf8_acceptRanges), ("unicode/utf8.first", laid_unicode_utf8_first)] }
def ValueAlikeSaid : Prop := valueAlikeRow.holds Tryd.pinned (OpenSpec.ofChange valueAlikeSpec)

/-- ITS FALSE NEIGHBOUR: 'it returns false'. Refute it at one input. -/
def valueAlikeWrong : ChangeSpec := { name := "valueAlike", fn := fun _ => fun
  | [d1, d2, d3] => { results := [.lit (.bool false)], args := [d1, d2, d3] }
  | _ => none }
def ValueAlikeWrongFalsely : Prop := valueAlikeRow.holds Tryd.pinned (OpenSpec.ofChange valueAlikeWrong)

/-- 'bosunlaw07.JlexWhole': WHATEVER THE INPUT: true; the input reads as it did. -/
def jlexWholeSpec : ChangeSpec := { name := "jlexWhole", fn := fun _ => fun
  | [d] => { results := [.lit (.bool true)], args := [d] }
  | _ => none }
def jlexWholeRow : OpenClaim := { program := "ytnkkbiabloodaaadoor", sum := "ac8657f65f452dfbfb391112415ccd7c2fd42607d1612235422c7572caa55618", func := "bosun/bosunlaw07.JlexWhole", spec := "jlexWhole", inPlace := ["internal/bytealg.IndexByteString", "internal/abi.NoEscape"], named := ["unicode/utf8.first", "unicode/utf8.acceptRanges"], apart := false, laid := [("unicode/utf8.acceptRanges", laid_unicode_utf8_acceptRanges), ("unicode/utf8.first", laid_unicode_utf8_first)] }
def JlexWholeSaid : Prop := jlexWholeRow.holds Tryd.pinned (OpenSpec.ofChange jlexWholeSpec)

/-- ITS FALSE NEIGHBOUR: 'it returns false'. Refute it at one input. -/
def jlexWholeWrong : ChangeSpec := { name := "jlexWhole", fn := fun _ => fun
  | [d] => { results := [.lit (.bool false)], args := [d] }
  | _ => none }
def JlexWholeWrongFalsely : Prop := jlexWholeRow.holds Tryd.pinned (OpenSpec.ofChange jlexWholeWrong)

/-- 'bosunlaw07.JlexAgain': WHATEVER THE INPUT: true; the input reads as it did. -/
def jlexAgainSpec : ChangeSpec := { name := "jlexAgain", fn := fun _ => fun
  | [d] => { results := [.lit (.bool true)], args := [d] }
  | _ => none }
def jlexAgainRow : OpenClaim := { program := "ytnkkbiabloodaaadoor", sum := "ac8657f65f452dfbfb391112415ccd7c2fd42607d1612235422c7572caa55618", func := "bosun/bosunlaw07.JlexAgain", spec := "jlexAgain", inPlace := ["internal/bytealg.IndexByteString", "internal/abi.NoEscape"], named := ["unicode/utf8.first", "unicode/utf8.acceptRanges"], apart := false, laid := [("unicode/utf8.acceptRanges", laid_unicode_utf8_acceptRanges), ("unicode/utf8.first", laid_unicode_utf8_first)] }
def JlexAgainSaid : Prop := jlexAgainRow.holds Tryd.pinned (OpenSpec.ofChange jlexAgainSpec)

/-- ITS FALSE NEIGHBOUR: 'it returns false'. Refute it at one input. -/
def jlexAgainWrong : ChangeSpec := { name := "jlexAgain", fn := fun _ => fun
  | [d] => { results := [.lit (.bool false)], args := [d] }
  | _ => none }
def JlexAgainWrongFalsely : Prop := jlexAgainRow.holds Tryd.pinned (OpenSpec.ofChange jlexAgainWrong)

/- THE SECOND FORM. 'bulk': how many values and letters a reading holds, each counted each time it is reached (what is shared counts as often as it is met; a slice's spare places count too). A statement '..UptoSaid' is the law's where the arguments, and the package variables that the reading takes, are together of bulk at most 1048576: NARROWER than '..Said'. Prove '..Said' where nothing that the law and all that it calls make is longer than what came in: it says more and counts as full. Else prove '..UptoSaid'. A law counts once. -/
mutual
def uptoBulk {H : Type} : DataW H → Nat
  | .lit (.string bytes) => bytes.length + 1
  | .lit _ => 1
  | .nil => 1
  | .ptr d => uptoBulk d + 1
  | .slice elems spare => uptoBulkAll elems + uptoBulkAll spare + 1
  | .agg parts => uptoBulkAll parts + 1
  | .iface _ d => uptoBulk d + 1
  | .map entries => uptoBulkEntries entries + 1
  | .held _ => 1
def uptoBulkAll {H : Type} : List (DataW H) → Nat
  | [] => 0
  | d :: r => uptoBulk d + uptoBulkAll r
def uptoBulkEntries {H : Type} : List (Lit × DataW H) → Nat
  | [] => 0
  | x :: r => uptoBulkEntry x + uptoBulkEntries r
def uptoBulkEntry {H : Type} : Lit × DataW H → Nat
  | (.string bytes, d) => bytes.length + uptoBulk d + 1
  | (_, d) => uptoBulk d + 1
 end
def uptoSmall : (H : Type) → List (DataW H) → Bool := fun _ ds => decide (uptoBulkAll ds ≤ 1048576)
def OpenSpec.upto (s : _root_.Go.ChangeSpec) : _root_.Go.OpenSpec := { _root_.Go.OpenSpec.ofChange s with cond := some uptoSmall }

/-- 'bosunlaw05.ValueGets', WHERE WHAT IT READS IS OF BULK AT MOST 1048576: true; the input reads as it did. -/
def valueGetsUptoRow : OpenClaim := { program := "ytnkkbiabloodaaadoor", sum := "ac8657f65f452dfbfb391112415ccd7c2fd42607d1612235422c7572caa55618", func := "bosun/bosunlaw05.ValueGets", spec := "valueGets", recurses := true, named := ["unicode/utf8.first", "unicode/utf8.acceptRanges"], apart := false, laid := [("unicode/utf8.acceptRanges", laid_unicode_utf8_acceptRanges), ("unicode/utf8.first", laid_unicode_utf8_first)], narrowed := true }
def ValueGetsUptoSaid : Prop := valueGetsUptoRow.holds Tryd.pinned (OpenSpec.upto valueGetsSpec)

/-- 'bosunlaw05.ValueChecks', WHERE WHAT IT READS IS OF BULK AT MOST 1048576: true; the input reads as it did. -/
def valueChecksUptoRow : OpenClaim := { program := "ytnkkbiabloodaaadoor", sum := "ac8657f65f452dfbfb391112415ccd7c2fd42607d1612235422c7572caa55618", func := "bosun/bosunlaw05.ValueChecks", spec := "valueChecks", unfollowed := true, recurses := true, named := ["unicode/utf8.first", "unicode/utf8.acceptRanges"], apart := false, laid := [("unicode/utf8.acceptRanges", laid_unicode_utf8_acceptRanges), ("unicode/utf8.first", laid_unicode_utf8_first)], narrowed := true }
def ValueChecksUptoSaid : Prop := valueChecksUptoRow.holds Tryd.pinned (OpenSpec.upto valueChecksSpec)

/-- 'bosunlaw05.ValueAlike', WHERE WHAT IT READS IS OF BULK AT MOST 1048576: true; the input reads as it did. -/
def valueAlikeUptoRow : OpenClaim := { program := "ytnkkbiabloodaaadoor", sum := "ac8657f65f452dfbfb391112415ccd7c2fd42607d1612235422c7572caa55618", func := "bosun/bosunlaw05.ValueAlike", spec := "valueAlike", unfollowed := true, recurses := true, named := ["unicode/utf8.first", "unicode/utf8.acceptRanges"], apart := false, laid := [("unicode/utf8.acceptRanges", laid_unicode_utf8_acceptRanges), ("unicode/utf8.first", laid_unicode_utf8_first)], narrowed := true }
def ValueAlikeUptoSaid : Prop := valueAlikeUptoRow.holds Tryd.pinned (OpenSpec.upto valueAlikeSpec)

/-- 'bosunlaw07.JlexWhole', WHERE WHAT IT READS IS OF BULK AT MOST 1048576: true; the input reads as it did. -/
def jlexWholeUptoRow : OpenClaim := { program := "ytnkkbiabloodaaadoor", sum := "ac8657f65f452dfbfb391112415ccd7c2fd42607d1612235422c7572caa55618", func := "bosun/bosunlaw07.JlexWhole", spec := "jlexWhole", inPlace := ["internal/bytealg.IndexByteString", "internal/abi.NoEscape"], named := ["unicode/utf8.first", "unicode/utf8.acceptRanges"], apart := false, laid := [("unicode/utf8.acceptRanges", laid_unicode_utf8_acceptRanges), ("unicode/utf8.first", laid_unicode_utf8_first)], narrowed := true }
def JlexWholeUptoSaid : Prop := jlexWholeUptoRow.holds Tryd.pinned (OpenSpec.upto jlexWholeSpec)

/-- 'bosunlaw07.JlexAgain', WHERE WHAT IT READS IS OF BULK AT MOST 1048576: true; the input reads as it did. -/
def jlexAgainUptoRow : OpenClaim := { program := "ytnkkbiabloodaaadoor", sum := "ac8657f65f452dfbfb391112415ccd7c2fd42607d1612235422c7572caa55618", func := "bosun/bosunlaw07.JlexAgain", spec := "jlexAgain", inPlace := ["internal/bytealg.IndexByteString", "internal/abi.NoEscape"], named := ["unicode/utf8.first", "unicode/utf8.acceptRanges"], apart := false, laid := [("unicode/utf8.acceptRanges", laid_unicode_utf8_acceptRanges), ("unicode/utf8.first", laid_unicode_utf8_first)], narrowed := true }
def JlexAgainUptoSaid : Prop := jlexAgainUptoRow.holds Tryd.pinned (OpenSpec.upto jlexAgainSpec)

end Rows
end Go.Proofs.YtnkkbiabloodaaaDoor
