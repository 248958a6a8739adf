/-
  NARROWER THAN 'FOR EVERY INPUT', by the rows' own cells (each row's printed sentence says how): TopicStars: laid · TopicParts: laid · TopicMatches: laid · TopicCovers: laid · TopicWhole: laid · TopicWrites: laid · TopicBack: laid.
  DERIVED. THE GIVEN ROWS OF THIS SEAT. 7 by the template 'for every input the law returns true; each argument reads behind the call as it read before'; 0 by the template 'total and deterministic' (their statements: YtednegmjjjdinaaDoorTotals.lean).
  GIVEN WITH THE SEED: the statements are not yours to turn. If you find one false, say at which input.
  Laid BY PROGRAM, IN A SANDBOX (cutbox-rows.mjs): the forced cells as the released guide's own fill.sh prints them over the translation 649bf16144a239e0… (all of the seat's roots in one cut). By AI agents, Wed Nov 11 2026. No macro, syntax, notation, axiom, sorry.
-/
import Derived.Test.YtednegmjjjdinaaDoorChecked
import GoSem.PinnedTables
import GoSem.Claim
import GoSem.ClaimJoined
import GoSem.ClaimMapViews
import Derived.JoinedTies
import Derived.KernelRfl
namespace Go.Proofs.YtednegmjjjdinaaDoor
/- THE CELL 'sum', in the pinned program and in every row, IS THE sha256 OF THE DUMP (.gsa) THAT YtednegmjjjdinaaDoorProg.lean LOADS. Nothing in Lean hashes anything: it is a label: what it is worth is what the hold of that sum in a sandbox is worth. -/
noncomputable def Tryd.pinned : Pinned := { name := "ytednegmjjjdinaadoor", sum := "649bf16144a239e04b4472609e34b426f41767572d00fe2b1ab3977c0d4e74e9", checked := Tryd.checked }
namespace Rows
def none {H : Type} : Left H := { results := [], args := [] }

/- WHAT THE LISTED PACKAGE-LEVEL VARIABLES READ AS WHEN THE CALL BEGINS. Each datum BY PROGRAM (the guide's laid-datum.mjs) off the statement by which the dump's own 'gosem.cut.vars' lays the variable. In a bare row this is a premise. The card (YtednegmjjjdinaaDoorCards.lean) ties it to the program's text. -/
def laid_unicode_utf8_acceptRanges {H : Type} : DataW H := .agg [.agg [.lit (.int .u8 128), .lit (.int .u8 191)], .agg [.lit (.int .u8 160), .lit (.int .u8 191)], .agg [.lit (.int .u8 128), .lit (.int .u8 159)], .agg [.lit (.int .u8 144), .lit (.int .u8 191)], .agg [.lit (.int .u8 128), .lit (.int .u8 143)], .agg [.lit (.int .u8 0), .lit (.int .u8 0)], .agg [.lit (.int .u8 0), .lit (.int .u8 0)], .agg [.lit (.int .u8 0), .lit (.int .u8 0)], .agg [.lit (.int .u8 0), .lit (.int .u8 0)], .agg [.lit (.int .u8 0), .lit (.int .u8 0)], .agg [.lit (.int .u8 0), .lit (.int .u8 0)], .agg [.lit (.int .u8 0), .lit (.int .u8 0)], .agg [.lit (.int .u8 0), .lit (.int .u8 0)], .agg [.lit (.int .u8 0), .lit (.int .u8 0)], .agg [.lit (.int .u8 0), .lit (.int .u8 0)], .agg [.lit (.int .u8 0), .lit (.int .u8 0)]]
/-- One of Go's own tables, pinned by name: the form's constant. -/
def laid_unicode_utf8_first : DataW Unit := Go.Pinned.utf8First

/-- 'trivetlaw08.TopicStars': WHATEVER THE INPUT: true; the input reads as it did. -/
def topicStarsSpec : ChangeSpec := { name := "topicStars", fn := fun _ => fun
  | [d1, d2] => { results := [.lit (.bool true)], args := [d1, d2] }
  | _ => none }
def topicStarsRow : OpenClaim := { program := "ytednegmjjjdinaadoor", sum := "649bf16144a239e04b4472609e34b426f41767572d00fe2b1ab3977c0d4e74e9", func := "trivet/trivetlaw08.TopicStars", spec := "topicStars", inPlace := ["internal/bytealg.CountString", "internal/bytealg.IndexByteString", "internal/bytealg.IndexString", "internal/abi.NoEscape", "internal/bytealg.MakeNoZero"], unfollowed := true, recurses := true, named := ["unicode/utf8.first", "unicode/utf8.acceptRanges", "internal/bytealg.MaxLen"], apart := false, laid := [("unicode/utf8.acceptRanges", laid_unicode_utf8_acceptRanges), ("unicode/utf8.first", laid_unicode_utf8_first)] }
def TopicStarsSaid : Prop := topicStarsRow.holds Tryd.pinned (OpenSpec.ofChange topicStarsSpec)

/-- ITS FALSE NEIGHBOUR: 'it returns false'. Refute it at one input. -/
def topicStarsWrong : ChangeSpec := { name := "topicStars", fn := fun _ => fun
  | [d1, d2] => { results := [.lit (.bool false)], args := [d1, d2] }
  | _ => none }
def TopicStarsWrongFalsely : Prop := topicStarsRow.holds Tryd.pinned (OpenSpec.ofChange topicStarsWrong)

/-- 'trivetlaw08.TopicParts': WHATEVER THE INPUT: true; the input reads as it did. -/
def topicPartsSpec : ChangeSpec := { name := "topicParts", fn := fun _ => fun
  | [d1, d2] => { results := [.lit (.bool true)], args := [d1, d2] }
  | _ => none }
def topicPartsRow : OpenClaim := { program := "ytednegmjjjdinaadoor", sum := "649bf16144a239e04b4472609e34b426f41767572d00fe2b1ab3977c0d4e74e9", func := "trivet/trivetlaw08.TopicParts", spec := "topicParts", inPlace := ["internal/bytealg.CountString", "internal/bytealg.IndexByteString", "internal/bytealg.IndexString", "internal/abi.NoEscape", "internal/bytealg.MakeNoZero"], unfollowed := true, recurses := true, named := ["unicode/utf8.first", "unicode/utf8.acceptRanges", "internal/bytealg.MaxLen"], apart := false, laid := [("unicode/utf8.acceptRanges", laid_unicode_utf8_acceptRanges), ("unicode/utf8.first", laid_unicode_utf8_first)] }
def TopicPartsSaid : Prop := topicPartsRow.holds Tryd.pinned (OpenSpec.ofChange topicPartsSpec)

/-- ITS FALSE NEIGHBOUR: 'it returns false'. Refute it at one input. -/
def topicPartsWrong : ChangeSpec := { name := "topicParts", fn := fun _ => fun
  | [d1, d2] => { results := [.lit (.bool false)], args := [d1, d2] }
  | _ => none }
def TopicPartsWrongFalsely : Prop := topicPartsRow.holds Tryd.pinned (OpenSpec.ofChange topicPartsWrong)

/-- 'trivetlaw08.TopicMatches': WHATEVER THE INPUT: true; the input reads as it did. -/
def topicMatchesSpec : ChangeSpec := { name := "topicMatches", fn := fun _ => fun
  | [d1, d2] => { results := [.lit (.bool true)], args := [d1, d2] }
  | _ => none }
def topicMatchesRow : OpenClaim := { program := "ytednegmjjjdinaadoor", sum := "649bf16144a239e04b4472609e34b426f41767572d00fe2b1ab3977c0d4e74e9", func := "trivet/trivetlaw08.TopicMatches", spec := "topicMatches", inPlace := ["internal/bytealg.CountString", "internal/bytealg.IndexByteString", "internal/bytealg.IndexString", "internal/abi.NoEscape", "internal/bytealg.MakeNoZero"], unfollowed := true, recurses := true, named := ["unicode/utf8.first", "unicode/utf8.acceptRanges", "internal/bytealg.MaxLen"], apart := false, laid := [("unicode/utf8.acceptRanges", laid_unicode_utf8_acceptRanges), ("unicode/utf8.first", laid_unicode_utf8_first)] }
def TopicMatchesSaid : Prop := topicMatchesRow.holds Tryd.pinned (OpenSpec.ofChange topicMatchesSpec)

/-- ITS FALSE NEIGHBOUR: 'it returns false'. Refute it at one input. -/
def topicMatchesWrong : ChangeSpec := { name := "topicMatches", fn := fun _ => fun
  | [d1, d2] => { results := [.lit (.bool false)], args := [d1, d2] }
  | _ => none }
def TopicMatchesWrongFalsely : Prop := topicMatchesRow.holds Tryd.pinned (OpenSpec.ofChange topicMatchesWrong)

/-- 'trivetlaw08.TopicCovers': WHATEVER THE INPUT: true; the input reads as it did. -/
def topicCoversSpec : ChangeSpec := { name := "topicCovers", fn := fun _ => fun
  | [d1, d2, d3] => { results := [.lit (.bool true)], args := [d1, d2, d3] }
  | _ => none }
def topicCoversRow : OpenClaim := { program := "ytednegmjjjdinaadoor", sum := "649bf16144a239e04b4472609e34b426f41767572d00fe2b1ab3977c0d4e74e9", func := "trivet/trivetlaw08.TopicCovers", spec := "topicCovers", inPlace := ["internal/bytealg.CountString", "internal/bytealg.IndexByteString", "internal/bytealg.IndexString", "internal/abi.NoEscape", "internal/bytealg.MakeNoZero"], unfollowed := true, recurses := true, named := ["unicode/utf8.first", "unicode/utf8.acceptRanges", "internal/bytealg.MaxLen"], apart := false, laid := [("unicode/utf8.acceptRanges", laid_unicode_utf8_acceptRanges), ("unicode/utf8.first", laid_unicode_utf8_first)] }
def TopicCoversSaid : Prop := topicCoversRow.holds Tryd.pinned (OpenSpec.ofChange topicCoversSpec)

/-- ITS FALSE NEIGHBOUR: 'it returns false'. Refute it at one input. -/
def topicCoversWrong : ChangeSpec := { name := "topicCovers", fn := fun _ => fun
  | [d1, d2, d3] => { results := [.lit (.bool false)], args := [d1, d2, d3] }
  | _ => none }
def TopicCoversWrongFalsely : Prop := topicCoversRow.holds Tryd.pinned (OpenSpec.ofChange topicCoversWrong)

/-- 'trivetlaw08.TopicWhole': WHATEVER THE INPUT: true; the input reads as it did. -/
def topicWholeSpec : ChangeSpec := { name := "topicWhole", fn := fun _ => fun
  | [d1, d2] => { results := [.lit (.bool true)], args := [d1, d2] }
  | _ => none }
def topicWholeRow : OpenClaim := { program := "ytednegmjjjdinaadoor", sum := "649bf16144a239e04b4472609e34b426f41767572d00fe2b1ab3977c0d4e74e9", func := "trivet/trivetlaw08.TopicWhole", spec := "topicWhole", inPlace := ["internal/bytealg.CountString", "internal/bytealg.IndexByteString", "internal/bytealg.IndexString", "internal/abi.NoEscape", "internal/bytealg.MakeNoZero"], unfollowed := true, recurses := true, named := ["unicode/utf8.first", "unicode/utf8.acceptRanges", "internal/bytealg.MaxLen"], apart := false, laid := [("unicode/utf8.acceptRanges", laid_unicode_utf8_acceptRanges), ("unicode/utf8.first", laid_unicode_utf8_first)] }
def TopicWholeSaid : Prop := topicWholeRow.holds Tryd.pinned (OpenSpec.ofChange topicWholeSpec)

/-- ITS FALSE NEIGHBOUR: 'it returns false'. Refute it at one input. -/
def topicWholeWrong : ChangeSpec := { name := "topicWhole", fn := fun _ => fun
  | [d1, d2] => { results := [.lit (.bool false)], args := [d1, d2] }
  | _ => none }
def TopicWholeWrongFalsely : Prop := topicWholeRow.holds Tryd.pinned (OpenSpec.ofChange topicWholeWrong)

/-- 'trivetlaw08.TopicWrites': WHATEVER THE INPUT: true; the input reads as it did. -/
def topicWritesSpec : ChangeSpec := { name := "topicWrites", fn := fun _ => fun
  | [d1, d2] => { results := [.lit (.bool true)], args := [d1, d2] }
  | _ => none }
def topicWritesRow : OpenClaim := { program := "ytednegmjjjdinaadoor", sum := "649bf16144a239e04b4472609e34b426f41767572d00fe2b1ab3977c0d4e74e9", func := "trivet/trivetlaw08.TopicWrites", spec := "topicWrites", inPlace := ["internal/bytealg.CountString", "internal/bytealg.IndexByteString", "internal/bytealg.IndexString", "internal/abi.NoEscape", "internal/bytealg.MakeNoZero"], unfollowed := true, recurses := true, named := ["unicode/utf8.first", "unicode/utf8.acceptRanges", "internal/bytealg.MaxLen"], apart := false, laid := [("unicode/utf8.acceptRanges", laid_unicode_utf8_acceptRanges), ("unicode/utf8.first", laid_unicode_utf8_first)] }
def TopicWritesSaid : Prop := topicWritesRow.holds Tryd.pinned (OpenSpec.ofChange topicWritesSpec)

/-- ITS FALSE NEIGHBOUR: 'it returns false'. Refute it at one input. -/
def topicWritesWrong : ChangeSpec := { name := "topicWrites", fn := fun _ => fun
  | [d1, d2] => { results := [.lit (.bool false)], args := [d1, d2] }
  | _ => none }
def TopicWritesWrongFalsely : Prop := topicWritesRow.holds Tryd.pinned (OpenSpec.ofChange topicWritesWrong)

/-- 'trivetlaw08.TopicBack': WHATEVER THE INPUT: true; the input reads as it did. -/
def topicBackSpec : ChangeSpec := { name := "topicBack", fn := fun _ => fun
  | [d] => { results := [.lit (.bool true)], args := [d] }
  | _ => none }
def topicBackRow : OpenClaim := { program := "ytednegmjjjdinaadoor", sum := "649bf16144a239e04b4472609e34b426f41767572d00fe2b1ab3977c0d4e74e9", func := "trivet/trivetlaw08.TopicBack", spec := "topicBack", inPlace := ["internal/bytealg.CountString", "internal/bytealg.IndexByteString", "internal/bytealg.IndexString", "internal/abi.NoEscape", "internal/bytealg.MakeNoZero"], unfollowed := true, recurses := true, named := ["unicode/utf8.first", "unicode/utf8.acceptRanges", "internal/bytealg.MaxLen"], apart := false, laid := [("unicode/utf8.acceptRanges", laid_unicode_utf8_acceptRanges), ("unicode/utf8.first", laid_unicode_utf8_first)] }
def TopicBackSaid : Prop := topicBackRow.holds Tryd.pinned (OpenSpec.ofChange topicBackSpec)

/-- ITS FALSE NEIGHBOUR: 'it returns false'. Refute it at one input. -/
def topicBackWrong : ChangeSpec := { name := "topicBack", fn := fun _ => fun
  | [d] => { results := [.lit (.bool false)], args := [d] }
  | _ => none }
def TopicBackWrongFalsely : Prop := topicBackRow.holds Tryd.pinned (OpenSpec.ofChange topicBackWrong)

/- THE SECOND FORM. 'bulk': how many values and letters a reading holds, each counted each time it is reached (what is shared counts as often as it is met; a slice's spare places count too). A statement '..UptoSaid' is the law's where the arguments, and the package variables that the reading takes, are together of bulk at most 1048576: NARROWER than '..Said'. Prove '..Said' where nothing that the law and all that it calls make is longer than what came in: it says more and counts as full. Else prove '..UptoSaid'. A law counts once. -/
mutual
def uptoBulk {H : Type} : DataW H → Nat
  | .lit (.string bytes) => bytes.length + 1
  | .lit _ => 1
  | .nil => 1
  | .ptr d => uptoBulk d + 1
  | .slice elems spare => uptoBulkAll elems + uptoBulkAll spare + 1
  | .agg parts => uptoBulkAll parts + 1
  | .iface _ d => uptoBulk d + 1
  | .map entries => uptoBulkEntries entries + 1
  | .held _ => 1
def uptoBulkAll {H : Type} : List (DataW H) → Nat
  | [] => 0
  | d :: r => uptoBulk d + uptoBulkAll r
def uptoBulkEntries {H : Type} : List (Lit × DataW H) → Nat
  | [] => 0
  | x :: r => uptoBulkEntry x + uptoBulkEntries r
def uptoBulkEntry {H : Type} : Lit × DataW H → Nat
  | (.string bytes, d) => bytes.length + uptoBulk d + 1
  | (_, d) => uptoBulk d + 1
 end
def uptoSmall : (H : Type) → List (DataW H) → Bool := fun _ ds => decide (uptoBulkAll ds ≤ 1048576)
def OpenSpec.upto (s : _root_.Go.ChangeSpec) : _root_.Go.OpenSpec := { _root_.Go.OpenSpec.ofChange s with cond := some uptoSmall }

/-- 'trivetlaw08.TopicStars', WHERE WHAT IT READS IS OF BULK AT MOST 1048576: true; the input reads as it did. -/
def topicStarsUptoRow : OpenClaim := { program := "ytednegmjjjdinaadoor", sum := "649bf16144a239e04b4472609e34b426f41767572d00fe2b1ab3977c0d4e74e9", func := "trivet/trivetlaw08.TopicStars", spec := "topicStars", inPlace := ["internal/bytealg.CountString", "internal/bytealg.IndexByteString", "internal/bytealg.IndexString", "internal/abi.NoEscape", "internal/bytealg.MakeNoZero"], unfollowed := true, recurses := true, named := ["unicode/utf8.first", "unicode/utf8.acceptRanges", "internal/bytealg.MaxLen"], apart := false, laid := [("unicode/utf8.acceptRanges", laid_unicode_utf8_acceptRanges), ("unicode/utf8.first", laid_unicode_utf8_first)], narrowed := true }
def TopicStarsUptoSaid : Prop := topicStarsUptoRow.holds Tryd.pinned (OpenSpec.upto topicStarsSpec)

/-- 'trivetlaw08.TopicParts', WHERE WHAT IT READS IS OF BULK AT MOST 1048576: true; the input reads as it did. -/
def topicPartsUptoRow : OpenClaim := { program := "ytednegmjjjdinaadoor", sum := "649bf16144a239e04b4472609e34b426f41767572d00fe2b1ab3977c0d4e74e9", func := "trivet/trivetlaw08.TopicParts", spec := "topicParts", inPlace := ["internal/bytealg.CountString", "internal/bytealg.IndexByteString", "internal/bytealg.IndexString", "internal/abi.NoEscape", "internal/bytealg.MakeNoZero"], unfollowed := true, recurses := true, named := ["unicode/utf8.first", "unicode/utf8.acceptRanges", "internal/bytealg.MaxLen"], apart := false, laid := [("unicode/utf8.acceptRanges", laid_unicode_utf8_acceptRanges), ("unicode/utf8.first", laid_unicode_utf8_first)], narrowed := true }
def TopicPartsUptoSaid : Prop := topicPartsUptoRow.holds Tryd.pinned (OpenSpec.upto topicPartsSpec)

/-- 'trivetlaw08.TopicMatches', WHERE WHAT IT READS IS OF BULK AT MOST 1048576: true; the input reads as it did. -/
def topicMatchesUptoRow : OpenClaim := { program := "ytednegmjjjdinaadoor", sum := "649bf16144a239e04b4472609e34b426f41767572d00fe2b1ab3977c0d4e74e9", func := "trivet/trivetlaw08.TopicMatches", spec := "topicMatches", inPlace := ["internal/bytealg.CountString", "internal/bytealg.IndexByteString", "internal/bytealg.IndexString", "internal/abi.NoEscape", "internal/bytealg.MakeNoZero"], unfollowed := true, recurses := true, named := ["unicode/utf8.first", "unicode/utf8.acceptRanges", "internal/bytealg.MaxLen"], apart := false, laid := [("unicode/utf8.acceptRanges", laid_unicode_utf8_acceptRanges), ("unicode/utf8.first", laid_unicode_utf8_first)], narrowed := true }
def TopicMatchesUptoSaid : Prop := topicMatchesUptoRow.holds Tryd.pinned (OpenSpec.upto topicMatchesSpec)

/-- 'trivetlaw08.TopicCovers', WHERE WHAT IT READS IS OF BULK AT MOST 1048576: true; the input reads as it did. -/
def topicCoversUptoRow : OpenClaim := { program := "ytednegmjjjdinaadoor", sum := "649bf16144a239e04b4472609e34b426f41767572d00fe2b1ab3977c0d4e74e9", func := "trivet/trivetlaw08.TopicCovers", spec := "topicCovers", inPlace := ["internal/bytealg.CountString", "internal/bytealg.IndexByteString", "internal/bytealg.IndexString", "internal/abi.NoEscape", "internal/bytealg.MakeNoZero"], unfollowed := true, recurses := true, named := ["unicode/utf8.first", "unicode/utf8.acceptRanges", "internal/bytealg.MaxLen"], apart := false, laid := [("unicode/utf8.acceptRanges", laid_unicode_utf8_acceptRanges), ("unicode/utf8.first", laid_unicode_utf8_first)], narrowed := true }
def TopicCoversUptoSaid : Prop := topicCoversUptoRow.holds Tryd.pinned (OpenSpec.upto topicCoversSpec)

/-- 'trivetlaw08.TopicWhole', WHERE WHAT IT READS IS OF BULK AT MOST 1048576: true; the input reads as it did. -/
def topicWholeUptoRow : OpenClaim := { program := "ytednegmjjjdinaadoor", sum := "649bf16144a239e04b4472609e34b426f41767572d00fe2b1ab3977c0d4e74e9", func := "trivet/trivetlaw08.TopicWhole", spec := "topicWhole", inPlace := ["internal/bytealg.CountString", "internal/bytealg.IndexByteString", "internal/bytealg.IndexString", "internal/abi.NoEscape", "internal/bytealg.MakeNoZero"], unfollowed := true, recurses := true, named := ["unicode/utf8.first", "unicode/utf8.acceptRanges", "internal/bytealg.MaxLen"], apart := false, laid := [("unicode/utf8.acceptRanges", laid_unicode_utf8_acceptRanges), ("unicode/utf8.first", laid_unicode_utf8_first)], narrowed := true }
def TopicWholeUptoSaid : Prop := topicWholeUptoRow.holds Tryd.pinned (OpenSpec.upto topicWholeSpec)

/-- 'trivetlaw08.TopicWrites', WHERE WHAT IT READS IS OF BULK AT MOST 1048576: true; the input reads as it did. -/
def topicWritesUptoRow : OpenClaim := { program := "ytednegmjjjdinaadoor", sum := "649bf16144a239e04b4472609e34b426f41767572d00fe2b1ab3977c0d4e74e9", func := "trivet/trivetlaw08.TopicWrites", spec := "topicWrites", inPlace := ["internal/bytealg.CountString", "internal/bytealg.IndexByteString", "internal/bytealg.IndexString", "internal/abi.NoEscape", "internal/bytealg.MakeNoZero"], unfollowed := true, recurses := true, named := ["unicode/utf8.first", "unicode/utf8.acceptRanges", "internal/bytealg.MaxLen"], apart := false, laid := [("unicode/utf8.acceptRanges", laid_unicode_utf8_acceptRanges), ("unicode/utf8.first", laid_unicode_utf8_first)], narrowed := true }
def TopicWritesUptoSaid : Prop := topicWritesUptoRow.holds Tryd.pinned (OpenSpec.upto topicWritesSpec)

/-- 'trivetlaw08.TopicBack', WHERE WHAT IT READS IS OF BULK AT MOST 1048576: true; the input reads as it did. -/
def topicBackUptoRow : OpenClaim := { program := "ytednegmjjjdinaadoor", sum := "649bf16144a239e04b4472609e34b426f41767572d00fe2b1ab3977c0d4e74e9", func := "trivet/trivetlaw08.TopicBack", spec := "topicBack", inPlace := ["internal/bytealg.CountString", "internal/bytealg.IndexByteString", "internal/bytealg.IndexString", "internal/abi.NoEscape", "internal/bytealg.MakeNoZero"], unfollowed := true, recurses := true, named := ["unicode/utf8.first", "unicode/utf8.acceptRanges", "internal/bytealg.MaxLen"], apart := false, laid := [("unicode/utf8.acceptRanges", laid_unicode_utf8_acceptRanges), ("unicode/utf8.first", laid_unicode_utf8_first)], narrowed := true }
def TopicBackUptoSaid : Prop := topicBackUptoRow.holds Tryd.pinned (OpenSpec.upto topicBackSpec)

end Rows
end Go.Proofs.YtednegmjjjdinaaDoor
