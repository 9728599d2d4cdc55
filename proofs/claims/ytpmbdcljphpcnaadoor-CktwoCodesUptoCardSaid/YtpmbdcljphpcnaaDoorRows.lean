/-
  NARROWER THAN 'FOR EVERY INPUT', by the rows' own cells (each row's printed sentence says how): CkoneCodes: laid · CkoneReads: laid · CkoneBack: laid · CktwoCodes: laid · CktwoReads: laid · CktwoBack: laid.
  DERIVED. THE GIVEN ROWS OF THIS SEAT. 6 by the template 'for every input the law returns true; each argument reads behind the call as it read before'; 0 by the template 'total and deterministic' (their statements: YtpmbdcljphpcnaaDoorTotals.lean).
  GIVEN WITH THE SEED: the statements are not yours to turn. If you find one false, say at which input.
  Laid BY PROGRAM, IN A SANDBOX (cutbox-rows.mjs): the forced cells as the released guide's own fill.sh prints them over the translation 106fea8a22b76e06… (all of the seat's roots in one cut). By AI agents, Wed Nov 11 2026. No macro, syntax, notation, axiom, sorry.
-/
import Derived.Test.YtpmbdcljphpcnaaDoorChecked
import GoSem.PinnedTables
import GoSem.Claim
import GoSem.ClaimJoined
import GoSem.ClaimMapViews
import Derived.JoinedTies
import Derived.KernelRfl
namespace Go.Proofs.YtpmbdcljphpcnaaDoor
/- THE CELL 'sum', in the pinned program and in every row, IS THE sha256 OF THE DUMP (.gsa) THAT YtpmbdcljphpcnaaDoorProg.lean LOADS. Nothing in Lean hashes anything: it is a label: what it is worth is what the hold of that sum in a sandbox is worth. -/
noncomputable def Tryd.pinned : Pinned := { name := "ytpmbdcljphpcnaadoor", sum := "106fea8a22b76e062252af1d8706cd91805679998f3a42c0785cd89d7b400664", checked := Tryd.checked }
namespace Rows
def none {H : Type} : Left H := { results := [], args := [] }

/- WHAT THE LISTED PACKAGE-LEVEL VARIABLES READ AS WHEN THE CALL BEGINS. Each datum BY PROGRAM (the guide's laid-datum.mjs) off the statement by which the dump's own 'gosem.cut.vars' lays the variable. In a bare row this is a premise. The card (YtpmbdcljphpcnaaDoorCards.lean) ties it to the program's text. -/
def laid_unicode_utf8_acceptRanges {H : Type} : DataW H := .agg [.agg [.lit (.int .u8 128), .lit (.int .u8 191)], .agg [.lit (.int .u8 160), .lit (.int .u8 191)], .agg [.lit (.int .u8 128), .lit (.int .u8 159)], .agg [.lit (.int .u8 144), .lit (.int .u8 191)], .agg [.lit (.int .u8 128), .lit (.int .u8 143)], .agg [.lit (.int .u8 0), .lit (.int .u8 0)], .agg [.lit (.int .u8 0), .lit (.int .u8 0)], .agg [.lit (.int .u8 0), .lit (.int .u8 0)], .agg [.lit (.int .u8 0), .lit (.int .u8 0)], .agg [.lit (.int .u8 0), .lit (.int .u8 0)], .agg [.lit (.int .u8 0), .lit (.int .u8 0)], .agg [.lit (.int .u8 0), .lit (.int .u8 0)], .agg [.lit (.int .u8 0), .lit (.int .u8 0)], .agg [.lit (.int .u8 0), .lit (.int .u8 0)], .agg [.lit (.int .u8 0), .lit (.int .u8 0)], .agg [.lit (.int .u8 0), .lit (.int .u8 0)]]
/-- One of Go's own tables, pinned by name: the form's constant. -/
def laid_unicode_utf8_first : DataW Unit := Go.Pinned.utf8First

/-- 'bosunlaw17.CkoneCodes': WHATEVER THE INPUT: true; the input reads as it did. -/
def ckoneCodesSpec : ChangeSpec := { name := "ckoneCodes", fn := fun _ => fun
  | [d1, d2, d3] => { results := [.lit (.bool true)], args := [d1, d2, d3] }
  | _ => none }
def ckoneCodesRow : OpenClaim := { program := "ytpmbdcljphpcnaadoor", sum := "106fea8a22b76e062252af1d8706cd91805679998f3a42c0785cd89d7b400664", func := "bosun/bosunlaw17.CkoneCodes", spec := "ckoneCodes", inPlace := ["internal/bytealg.IndexByteString", "internal/bytealg.IndexString", "internal/abi.NoEscape"], unfollowed := true, recurses := true, named := ["unicode/utf8.first", "unicode/utf8.acceptRanges", "internal/bytealg.MaxLen"], apart := false, laid := [("unicode/utf8.acceptRanges", laid_unicode_utf8_acceptRanges), ("unicode/utf8.first", laid_unicode_utf8_first)] }
def CkoneCodesSaid : Prop := ckoneCodesRow.holds Tryd.pinned (OpenSpec.ofChange ckoneCodesSpec)

/-- ITS FALSE NEIGHBOUR: 'it returns false'. Refute it at one input. -/
def ckoneCodesWrong : ChangeSpec := { name := "ckoneCodes", fn := fun _ => fun
  | [d1, d2, d3] => { results := [.lit (.bool false)], args := [d1, d2, d3] }
  | _ => none }
def CkoneCodesWrongFalsely : Prop := ckoneCodesRow.holds Tryd.pinned (OpenSpec.ofChange ckoneCodesWrong)

/-- 'bosunlaw17.CkoneReads': WHATEVER THE INPUT: true; the input reads as it did. -/
def ckoneReadsSpec : ChangeSpec := { name := "ckoneReads", fn := fun _ => fun
  | [d] => { results := [.lit (.bool true)], args := [d] }
  | _ => none }
def ckoneReadsRow : OpenClaim := { program := "ytpmbdcljphpcnaadoor", sum := "106fea8a22b76e062252af1d8706cd91805679998f3a42c0785cd89d7b400664", func := "bosun/bosunlaw17.CkoneReads", spec := "ckoneReads", inPlace := ["internal/bytealg.IndexByteString", "internal/bytealg.IndexString", "internal/abi.NoEscape"], unfollowed := true, recurses := true, named := ["unicode/utf8.first", "unicode/utf8.acceptRanges", "internal/bytealg.MaxLen"], apart := false, laid := [("unicode/utf8.acceptRanges", laid_unicode_utf8_acceptRanges), ("unicode/utf8.first", laid_unicode_utf8_first)] }
def CkoneReadsSaid : Prop := ckoneReadsRow.holds Tryd.pinned (OpenSpec.ofChange ckoneReadsSpec)

/-- ITS FALSE NEIGHBOUR: 'it returns false'. Refute it at one input. -/
def ckoneReadsWrong : ChangeSpec := { name := "ckoneReads", fn := fun _ => fun
  | [d] => { results := [.lit (.bool false)], args := [d] }
  | _ => none }
def CkoneReadsWrongFalsely : Prop := ckoneReadsRow.holds Tryd.pinned (OpenSpec.ofChange ckoneReadsWrong)

/-- 'bosunlaw17.CkoneBack': WHATEVER THE INPUT: true; the input reads as it did. -/
def ckoneBackSpec : ChangeSpec := { name := "ckoneBack", fn := fun _ => fun
  | [d1, d2] => { results := [.lit (.bool true)], args := [d1, d2] }
  | _ => none }
def ckoneBackRow : OpenClaim := { program := "ytpmbdcljphpcnaadoor", sum := "106fea8a22b76e062252af1d8706cd91805679998f3a42c0785cd89d7b400664", func := "bosun/bosunlaw17.CkoneBack", spec := "ckoneBack", inPlace := ["internal/bytealg.IndexByteString", "internal/bytealg.IndexString", "internal/abi.NoEscape"], unfollowed := true, recurses := true, named := ["unicode/utf8.first", "unicode/utf8.acceptRanges", "internal/bytealg.MaxLen"], apart := false, laid := [("unicode/utf8.acceptRanges", laid_unicode_utf8_acceptRanges), ("unicode/utf8.first", laid_unicode_utf8_first)] }
def CkoneBackSaid : Prop := ckoneBackRow.holds Tryd.pinned (OpenSpec.ofChange ckoneBackSpec)

/-- ITS FALSE NEIGHBOUR: 'it returns false'. Refute it at one input. -/
def ckoneBackWrong : ChangeSpec := { name := "ckoneBack", fn := fun _ => fun
  | [d1, d2] => { results := [.lit (.bool false)], args := [d1, d2] }
  | _ => none }
def CkoneBackWrongFalsely : Prop := ckoneBackRow.holds Tryd.pinned (OpenSpec.ofChange ckoneBackWrong)

/-- 'bosunlaw18.CktwoCodes': WHATEVER THE INPUT: true; the input reads as it did. -/
def cktwoCodesSpec : ChangeSpec := { name := "cktwoCodes", fn := fun _ => fun
  | [d1, d2] => { results := [.lit (.bool true)], args := [d1, d2] }
  | _ => none }
def cktwoCodesRow : OpenClaim := { program := "ytpmbdcljphpcnaadoor", sum := "106fea8a22b76e062252af1d8706cd91805679998f3a42c0785cd89d7b400664", func := "bosun/bosunlaw18.CktwoCodes", spec := "cktwoCodes", inPlace := ["internal/bytealg.IndexByteString", "internal/bytealg.IndexString", "internal/abi.NoEscape"], unfollowed := true, recurses := true, named := ["unicode/utf8.first", "unicode/utf8.acceptRanges", "internal/bytealg.MaxLen"], apart := false, laid := [("unicode/utf8.acceptRanges", laid_unicode_utf8_acceptRanges), ("unicode/utf8.first", laid_unicode_utf8_first)] }
def CktwoCodesSaid : Prop := cktwoCodesRow.holds Tryd.pinned (OpenSpec.ofChange cktwoCodesSpec)

/-- ITS FALSE NEIGHBOUR: 'it returns false'. Refute it at one input. -/
def cktwoCodesWrong : ChangeSpec := { name := "cktwoCodes", fn := fun _ => fun
  | [d1, d2] => { results := [.lit (.bool false)], args := [d1, d2] }
  | _ => none }
def CktwoCodesWrongFalsely : Prop := cktwoCodesRow.holds Tryd.pinned (OpenSpec.ofChange cktwoCodesWrong)

/-- 'bosunlaw18.CktwoReads': WHATEVER THE INPUT: true; the input reads as it did. -/
def cktwoReadsSpec : ChangeSpec := { name := "cktwoReads", fn := fun _ => fun
  | [d] => { results := [.lit (.bool true)], args := [d] }
  | _ => none }
def cktwoReadsRow : OpenClaim := { program := "ytpmbdcljphpcnaadoor", sum := "106fea8a22b76e062252af1d8706cd91805679998f3a42c0785cd89d7b400664", func := "bosun/bosunlaw18.CktwoReads", spec := "cktwoReads", inPlace := ["internal/bytealg.IndexByteString", "internal/bytealg.IndexString", "internal/abi.NoEscape"], unfollowed := true, recurses := true, named := ["unicode/utf8.first", "unicode/utf8.acceptRanges", "internal/bytealg.MaxLen"], apart := false, laid := [("unicode/utf8.acceptRanges", laid_unicode_utf8_acceptRanges), ("unicode/utf8.first", laid_unicode_utf8_first)] }
def CktwoReadsSaid : Prop := cktwoReadsRow.holds Tryd.pinned (OpenSpec.ofChange cktwoReadsSpec)

/-- ITS FALSE NEIGHBOUR: 'it returns false'. Refute it at one input. -/
def cktwoReadsWrong : ChangeSpec := { name := "cktwoReads", fn := fun _ => fun
  | [d] => { results := [.lit (.bool false)], args := [d] }
  | _ => none }
def CktwoReadsWrongFalsely : Prop := cktwoReadsRow.holds Tryd.pinned (OpenSpec.ofChange cktwoReadsWrong)

/-- 'bosunlaw18.CktwoBack': WHATEVER THE INPUT: true; the input reads as it did. -/
def cktwoBackSpec : ChangeSpec := { name := "cktwoBack", fn := fun _ => fun
  | [d1, d2] => { results := [.lit (.bool true)], args := [d1, d2] }
  | _ => none }
def cktwoBackRow : OpenClaim := { program := "ytpmbdcljphpcnaadoor", sum := "106fea8a22b76e062252af1d8706cd91805679998f3a42c0785cd89d7b400664", func := "bosun/bosunlaw18.CktwoBack", spec := "cktwoBack", inPlace := ["internal/bytealg.IndexByteString", "internal/bytealg.IndexString", "internal/abi.NoEscape"], unfollowed := true, recurses := true, named := ["unicode/utf8.first", "unicode/utf8.acceptRanges", "internal/bytealg.MaxLen"], apart := false, laid := [("unicode/utf8.acceptRanges", laid_unicode_utf8_acceptRanges), ("unicode/utf8.first", laid_unicode_utf8_first)] }
def CktwoBackSaid : Prop := cktwoBackRow.holds Tryd.pinned (OpenSpec.ofChange cktwoBackSpec)

/-- ITS FALSE NEIGHBOUR: 'it returns false'. Refute it at one input. -/
def cktwoBackWrong : ChangeSpec := { name := "cktwoBack", fn := fun _ => fun
  | [d1, d2] => { results := [.lit (.bool false)], args := [d1, d2] }
  | _ => none }
def CktwoBackWrongFalsely : Prop := cktwoBackRow.holds Tryd.pinned (OpenSpec.ofChange cktwoBackWrong)

/- THE SECOND FORM. 'bulk': how many values and letters a reading holds, each counted each time it is reached (what is shared counts as often as it is met; a slice's spare places count too). A statement '..UptoSaid' is the law's where the arguments, and the package variables that the reading takes, are together of bulk at most 1048576: NARROWER than '..Said'. Prove '..Said' where nothing that the law and all that it calls make is longer than what came in: it says more and counts as full. Else prove '..UptoSaid'. A law counts once. -/
mutual
def uptoBulk {H : Type} : DataW H → Nat
  | .lit (.string bytes) => bytes.length + 1
  | .lit _ => 1
  | .nil => 1
  | .ptr d => uptoBulk d + 1
  | .slice elems spare => uptoBulkAll elems + uptoBulkAll spare + 1
  | .agg parts => uptoBulkAll parts + 1
  | .iface _ d => uptoBulk d + 1
  | .map entries => uptoBulkEntries entries + 1
  | .held _ => 1
def uptoBulkAll {H : Type} : List (DataW H) → Nat
  | [] => 0
  | d :: r => uptoBulk d + uptoBulkAll r
def uptoBulkEntries {H : Type} : List (Lit × DataW H) → Nat
  | [] => 0
  | x :: r => uptoBulkEntry x + uptoBulkEntries r
def uptoBulkEntry {H : Type} : Lit × DataW H → Nat
  | (.string bytes, d) => bytes.length + uptoBulk d + 1
  | (_, d) => uptoBulk d + 1
 end
def uptoSmall : (H : Type) → List (DataW H) → Bool := fun _ ds => decide (uptoBulkAll ds ≤ 1048576)
def OpenSpec.upto (s : _root_.Go.ChangeSpec) : _root_.Go.OpenSpec := { _root_.Go.OpenSpec.ofChange s with cond := some uptoSmall }

/-- 'bosunlaw17.CkoneCodes', WHERE WHAT IT READS IS OF BULK AT MOST 1048576: true; the input reads as it did. -/
def ckoneCodesUptoRow : OpenClaim := { program := "ytpmbdcljphpcnaadoor", sum := "106fea8a22b76e062252af1d8706cd91805679998f3a42c0785cd89d7b400664", func := "bosun/bosunlaw17.CkoneCodes", spec := "ckoneCodes", inPlace := ["internal/bytealg.IndexByteString", "internal/bytealg.IndexString", "internal/abi.NoEscape"], unfollowed := true, recurses := true, named := ["unicode/utf8.first", "unicode/utf8.acceptRanges", "internal/bytealg.MaxLen"], apart := false, laid := [("unicode/utf8.acceptRanges", laid_unicode_utf8_acceptRanges), ("unicode/utf8.first", laid_unicode_utf8_first)], narrowed := true }
def CkoneCodesUptoSaid : Prop := ckoneCodesUptoRow.holds Tryd.pinned (OpenSpec.upto ckoneCodesSpec)

/-- 'bosunlaw17.CkoneReads', WHERE WHAT IT READS IS OF BULK AT MOST 1048576: true; the input reads as it did. -/
def ckoneReadsUptoRow : OpenClaim := { program := "ytpmbdcljphpcnaadoor", sum := "106fea8a22b76e062252af1d8706cd91805679998f3a42c0785cd89d7b400664", func := "bosun/bosunlaw17.CkoneReads", spec := "ckoneReads", inPlace := ["internal/bytealg.IndexByteString", "internal/bytealg.IndexString", "internal/abi.NoEscape"], unfollowed := true, recurses := true, named := ["unicode/utf8.first", "unicode/utf8.acceptRanges", "internal/bytealg.MaxLen"], apart := false, laid := [("unicode/utf8.acceptRanges", laid_unicode_utf8_acceptRanges), ("unicode/utf8.first", laid_unicode_utf8_first)], narrowed := true }
def CkoneReadsUptoSaid : Prop := ckoneReadsUptoRow.holds Tryd.pinned (OpenSpec.upto ckoneReadsSpec)

/-- 'bosunlaw17.CkoneBack', WHERE WHAT IT READS IS OF BULK AT MOST 1048576: true; the input reads as it did. -/
def ckoneBackUptoRow : OpenClaim := { program := "ytpmbdcljphpcnaadoor", sum := "106fea8a22b76e062252af1d8706cd91805679998f3a42c0785cd89d7b400664", func := "bosun/bosunlaw17.CkoneBack", spec := "ckoneBack", inPlace := ["internal/bytealg.IndexByteString", "internal/bytealg.IndexString", "internal/abi.NoEscape"], unfollowed := true, recurses := true, named := ["unicode/utf8.first", "unicode/utf8.acceptRanges", "internal/bytealg.MaxLen"], apart := false, laid := [("unicode/utf8.acceptRanges", laid_unicode_utf8_acceptRanges), ("unicode/utf8.first", laid_unicode_utf8_first)], narrowed := true }
def CkoneBackUptoSaid : Prop := ckoneBackUptoRow.holds Tryd.pinned (OpenSpec.upto ckoneBackSpec)

/-- 'bosunlaw18.CktwoCodes', WHERE WHAT IT READS IS OF BULK AT MOST 1048576: true; the input reads as it did. -/
def cktwoCodesUptoRow : OpenClaim := { program := "ytpmbdcljphpcnaadoor", sum := "106fea8a22b76e062252af1d8706cd91805679998f3a42c0785cd89d7b400664", func := "bosun/bosunlaw18.CktwoCodes", spec := "cktwoCodes", inPlace := ["internal/bytealg.IndexByteString", "internal/bytealg.IndexString", "internal/abi.NoEscape"], unfollowed := true, recurses := true, named := ["unicode/utf8.first", "unicode/utf8.acceptRanges", "internal/bytealg.MaxLen"], apart := false, laid := [("unicode/utf8.acceptRanges", laid_unicode_utf8_acceptRanges), ("unicode/utf8.first", laid_unicode_utf8_first)], narrowed := true }
def CktwoCodesUptoSaid : Prop := cktwoCodesUptoRow.holds Tryd.pinned (OpenSpec.upto cktwoCodesSpec)

/-- 'bosunlaw18.CktwoReads', WHERE WHAT IT READS IS OF BULK AT MOST 1048576: true; the input reads as it did. -/
def cktwoReadsUptoRow : OpenClaim := { program := "ytpmbdcljphpcnaadoor", sum := "106fea8a22b76e062252af1d8706cd91805679998f3a42c0785cd89d7b400664", func := "bosun/bosunlaw18.CktwoReads", spec := "cktwoReads", inPlace := ["internal/bytealg.IndexByteString", "internal/bytealg.IndexString", "internal/abi.NoEscape"], unfollowed := true, recurses := true, named := ["unicode/utf8.first", "unicode/utf8.acceptRanges", "internal/bytealg.MaxLen"], apart := false, laid := [("unicode/utf8.acceptRanges", laid_unicode_utf8_acceptRanges), ("unicode/utf8.first", laid_unicode_utf8_first)], narrowed := true }
def CktwoReadsUptoSaid : Prop := cktwoReadsUptoRow.holds Tryd.pinned (OpenSpec.upto cktwoReadsSpec)

/-- 'bosunlaw18.CktwoBack', WHERE WHAT IT READS IS OF BULK AT MOST 1048576: true; the input reads as it did. -/
def cktwoBackUptoRow : OpenClaim := { program := "ytpmbdcljphpcnaadoor", sum := "106fea8a22b76e062252af1d8706cd91805679998f3a42c0785cd89d7b400664", func := "bosun/bosunlaw18.CktwoBack", spec := "cktwoBack", inPlace := ["internal/bytealg.IndexByteString", "internal/bytealg.IndexString", "internal/abi.NoEscape"], unfollowed := true, recurses := true, named := ["unicode/utf8.first", "unicode/utf8.acceptRanges", "internal/bytealg.MaxLen"], apart := false, laid := [("unicode/utf8.acceptRanges", laid_unicode_utf8_acceptRanges), ("unicode/utf8.first", laid_unicode_utf8_first)], narrowed := true }
def CktwoBackUptoSaid : Prop := cktwoBackUptoRow.holds Tryd.pinned (OpenSpec.upto cktwoBackSpec)

end Rows
end Go.Proofs.YtpmbdcljphpcnaaDoor
