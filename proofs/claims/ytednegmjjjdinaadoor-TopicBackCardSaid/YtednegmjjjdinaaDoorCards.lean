/-
  DERIVED. GIVEN WITH THE SEED: THE CARDS: each row of YtednegmjjjdinaaDoorRows.lean that lists a variable, with what it lists TIED to the program's text (the seventh form; the later family's looks); each row that meets fmt, with fmt's text TOLD by the authors' own Lean function (tested against real Go, not proved from fmt's source: count such statements apart). THE CARD IS WHAT COUNTS. Prove the row's statement (the work); the ties are given (YtednegmjjjdinaaDoorTie.lean); close each card by the builder's one call (the guide's Derived/Test/ToyasCard.lean, 'card_holds'). Laid BY PROGRAM, IN A SANDBOX (cutbox-door.mjs). By AI agents, Wed Nov 11 2026. No macro, syntax, notation, axiom, sorry.
-/
import Derived.Test.YtednegmjjjdinaaDoorRows
import GoSem.ClaimSeven
namespace Go.Proofs.YtednegmjjjdinaaDoor
namespace Rows

/-- THE TIED CARD OF 'trivetlaw08.TopicStars'. -/
def topicStarsCard : Claim7 := { stood := { row := topicStarsRow, standIns := [], harness := (true, "053070c0f803a9dfe54fcaaacdd80547dc90b6827fce94499b02ac088d3817e4"), looks := false }, kinds := [], alts := [], laidByText := true, laidKinds := [.data, .pinned], laidTests := true, laidLooks := .later }
def TopicStarsCardSaid : Prop := Claim7.holds Tryd.pinned (.plain (OpenSpec.ofChange topicStarsSpec)) topicStarsCard

/-- THE TIED CARD OF 'trivetlaw08.TopicParts'. -/
def topicPartsCard : Claim7 := { stood := { row := topicPartsRow, standIns := [], harness := (true, "053070c0f803a9dfe54fcaaacdd80547dc90b6827fce94499b02ac088d3817e4"), looks := false }, kinds := [], alts := [], laidByText := true, laidKinds := [.data, .pinned], laidTests := true, laidLooks := .later }
def TopicPartsCardSaid : Prop := Claim7.holds Tryd.pinned (.plain (OpenSpec.ofChange topicPartsSpec)) topicPartsCard

/-- THE TIED CARD OF 'trivetlaw08.TopicMatches'. -/
def topicMatchesCard : Claim7 := { stood := { row := topicMatchesRow, standIns := [], harness := (true, "053070c0f803a9dfe54fcaaacdd80547dc90b6827fce94499b02ac088d3817e4"), looks := false }, kinds := [], alts := [], laidByText := true, laidKinds := [.data, .pinned], laidTests := true, laidLooks := .later }
def TopicMatchesCardSaid : Prop := Claim7.holds Tryd.pinned (.plain (OpenSpec.ofChange topicMatchesSpec)) topicMatchesCard

/-- THE TIED CARD OF 'trivetlaw08.TopicCovers'. -/
def topicCoversCard : Claim7 := { stood := { row := topicCoversRow, standIns := [], harness := (true, "053070c0f803a9dfe54fcaaacdd80547dc90b6827fce94499b02ac088d3817e4"), looks := false }, kinds := [], alts := [], laidByText := true, laidKinds := [.data, .pinned], laidTests := true, laidLooks := .later }
def TopicCoversCardSaid : Prop := Claim7.holds Tryd.pinned (.plain (OpenSpec.ofChange topicCoversSpec)) topicCoversCard

/-- THE TIED CARD OF 'trivetlaw08.TopicWhole'. -/
def topicWholeCard : Claim7 := { stood := { row := topicWholeRow, standIns := [], harness := (true, "053070c0f803a9dfe54fcaaacdd80547dc90b6827fce94499b02ac088d3817e4"), looks := false }, kinds := [], alts := [], laidByText := true, laidKinds := [.data, .pinned], laidTests := true, laidLooks := .later }
def TopicWholeCardSaid : Prop := Claim7.holds Tryd.pinned (.plain (OpenSpec.ofChange topicWholeSpec)) topicWholeCard

/-- THE TIED CARD OF 'trivetlaw08.TopicWrites'. -/
def topicWritesCard : Claim7 := { stood := { row := topicWritesRow, standIns := [], harness := (true, "053070c0f803a9dfe54fcaaacdd80547dc90b6827fce94499b02ac088d3817e4"), looks := false }, kinds := [], alts := [], laidByText := true, laidKinds := [.data, .pinned], laidTests := true, laidLooks := .later }
def TopicWritesCardSaid : Prop := Claim7.holds Tryd.pinned (.plain (OpenSpec.ofChange topicWritesSpec)) topicWritesCard

/-- THE TIED CARD OF 'trivetlaw08.TopicBack'. -/
def topicBackCard : Claim7 := { stood := { row := topicBackRow, standIns := [], harness := (true, "053070c0f803a9dfe54fcaaacdd80547dc90b6827fce94499b02ac088d3817e4"), looks := false }, kinds := [], alts := [], laidByText := true, laidKinds := [.data, .pinned], laidTests := true, laidLooks := .later }
def TopicBackCardSaid : Prop := Claim7.holds Tryd.pinned (.plain (OpenSpec.ofChange topicBackSpec)) topicBackCard

/-- THE SECOND FORM's CARD OF 'trivetlaw08.TopicStars'. -/
def topicStarsUptoCard : Claim7 := { stood := { row := topicStarsUptoRow, standIns := [], harness := (true, "053070c0f803a9dfe54fcaaacdd80547dc90b6827fce94499b02ac088d3817e4"), looks := false }, kinds := [], alts := [], laidByText := true, laidKinds := [.data, .pinned], laidTests := true, laidLooks := .later }
def TopicStarsUptoCardSaid : Prop := Claim7.holds Tryd.pinned (.plain (OpenSpec.upto topicStarsSpec)) topicStarsUptoCard

/-- THE SECOND FORM's CARD OF 'trivetlaw08.TopicParts'. -/
def topicPartsUptoCard : Claim7 := { stood := { row := topicPartsUptoRow, standIns := [], harness := (true, "053070c0f803a9dfe54fcaaacdd80547dc90b6827fce94499b02ac088d3817e4"), looks := false }, kinds := [], alts := [], laidByText := true, laidKinds := [.data, .pinned], laidTests := true, laidLooks := .later }
def TopicPartsUptoCardSaid : Prop := Claim7.holds Tryd.pinned (.plain (OpenSpec.upto topicPartsSpec)) topicPartsUptoCard

/-- THE SECOND FORM's CARD OF 'trivetlaw08.TopicMatches'. -/
def topicMatchesUptoCard : Claim7 := { stood := { row := topicMatchesUptoRow, standIns := [], harness := (true, "053070c0f803a9dfe54fcaaacdd80547dc90b6827fce94499b02ac088d3817e4"), looks := false }, kinds := [], alts := [], laidByText := true, laidKinds := [.data, .pinned], laidTests := true, laidLooks := .later }
def TopicMatchesUptoCardSaid : Prop := Claim7.holds Tryd.pinned (.plain (OpenSpec.upto topicMatchesSpec)) topicMatchesUptoCard

/-- THE SECOND FORM's CARD OF 'trivetlaw08.TopicCovers'. -/
def topicCoversUptoCard : Claim7 := { stood := { row := topicCoversUptoRow, standIns := [], harness := (true, "053070c0f803a9dfe54fcaaacdd80547dc90b6827fce94499b02ac088d3817e4"), looks := false }, kinds := [], alts := [], laidByText := true, laidKinds := [.data, .pinned], laidTests := true, laidLooks := .later }
def TopicCoversUptoCardSaid : Prop := Claim7.holds Tryd.pinned (.plain (OpenSpec.upto topicCoversSpec)) topicCoversUptoCard

/-- THE SECOND FORM's CARD OF 'trivetlaw08.TopicWhole'. -/
def topicWholeUptoCard : Claim7 := { stood := { row := topicWholeUptoRow, standIns := [], harness := (true, "053070c0f803a9dfe54fcaaacdd80547dc90b6827fce94499b02ac088d3817e4"), looks := false }, kinds := [], alts := [], laidByText := true, laidKinds := [.data, .pinned], laidTests := true, laidLooks := .later }
def TopicWholeUptoCardSaid : Prop := Claim7.holds Tryd.pinned (.plain (OpenSpec.upto topicWholeSpec)) topicWholeUptoCard

/-- THE SECOND FORM's CARD OF 'trivetlaw08.TopicWrites'. -/
def topicWritesUptoCard : Claim7 := { stood := { row := topicWritesUptoRow, standIns := [], harness := (true, "053070c0f803a9dfe54fcaaacdd80547dc90b6827fce94499b02ac088d3817e4"), looks := false }, kinds := [], alts := [], laidByText := true, laidKinds := [.data, .pinned], laidTests := true, laidLooks := .later }
def TopicWritesUptoCardSaid : Prop := Claim7.holds Tryd.pinned (.plain (OpenSpec.upto topicWritesSpec)) topicWritesUptoCard

/-- THE SECOND FORM's CARD OF 'trivetlaw08.TopicBack'. -/
def topicBackUptoCard : Claim7 := { stood := { row := topicBackUptoRow, standIns := [], harness := (true, "053070c0f803a9dfe54fcaaacdd80547dc90b6827fce94499b02ac088d3817e4"), looks := false }, kinds := [], alts := [], laidByText := true, laidKinds := [.data, .pinned], laidTests := true, laidLooks := .later }
def TopicBackUptoCardSaid : Prop := Claim7.holds Tryd.pinned (.plain (OpenSpec.upto topicBackSpec)) topicBackUptoCard
end Rows
end Go.Proofs.YtednegmjjjdinaaDoor
