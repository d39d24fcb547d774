/-
  DERIVED. GIVEN WITH THE SEED: THE CARDS: each row of YtdnneofebehpaaaDoorRows.lean that lists a variable, with what it lists TIED to the program's text (the seventh form; the later family's looks); each row that meets fmt, with fmt's text TOLD by the authors' own Lean function (tested against real Go, not proved from fmt's source: count such statements apart). THE CARD IS WHAT COUNTS. Prove the row's statement (the work); the ties are given (YtdnneofebehpaaaDoorTie.lean); close each card by the builder's one call (the guide's Derived/Test/ToyasCard.lean, 'card_holds'). Laid BY PROGRAM, IN A SANDBOX (cutbox-door.mjs). By AI agents, Wed Nov 11 2026. No macro, syntax, notation, axiom, sorry.
-/
import Derived.Test.YtdnneofebehpaaaDoorRows
import GoSem.ClaimSeven
namespace Go.Proofs.YtdnneofebehpaaaDoor
namespace Rows

/-- THE TIED CARD OF 'dragomanlaw14.LexLines'. -/
def lexLinesCard : Claim7 := { stood := { row := lexLinesRow, standIns := [], harness := (true, "4865ee397029e8d555eb9802c706a4aa250556dc311fe4418c7747ac9bc8d152"), looks := true }, kinds := [], alts := [], laidByText := true, laidKinds := [.data, .data, .data, .data, .sentinel, .sentinel, .listed, .data, .pinned], laidTests := true, laidLooks := .later }
def LexLinesCardSaid : Prop := Claim7.holds Tryd.pinned (.plain (OpenSpec.ofChange lexLinesSpec)) lexLinesCard

/-- THE TIED CARD OF 'dragomanlaw14.LexTokens'. -/
def lexTokensCard : Claim7 := { stood := { row := lexTokensRow, standIns := [], harness := (true, "4865ee397029e8d555eb9802c706a4aa250556dc311fe4418c7747ac9bc8d152"), looks := true }, kinds := [], alts := [], laidByText := true, laidKinds := [.data, .data, .data, .data, .sentinel, .sentinel, .listed, .data, .pinned], laidTests := true, laidLooks := .later }
def LexTokensCardSaid : Prop := Claim7.holds Tryd.pinned (.plain (OpenSpec.ofChange lexTokensSpec)) lexTokensCard

/-- THE TIED CARD OF 'dragomanlaw14.LexJoined'. -/
def lexJoinedCard : Claim7 := { stood := { row := lexJoinedRow, standIns := [], harness := (true, "4865ee397029e8d555eb9802c706a4aa250556dc311fe4418c7747ac9bc8d152"), looks := true }, kinds := [], alts := [], laidByText := true, laidKinds := [.data, .data, .data, .data, .sentinel, .sentinel, .listed, .data, .pinned], laidTests := true, laidLooks := .later }
def LexJoinedCardSaid : Prop := Claim7.holds Tryd.pinned (.plain (OpenSpec.ofChange lexJoinedSpec)) lexJoinedCard

/-- THE TIED CARD OF 'dragomanlaw14.LexBetween'. -/
def lexBetweenCard : Claim7 := { stood := { row := lexBetweenRow, standIns := [], harness := (true, "4865ee397029e8d555eb9802c706a4aa250556dc311fe4418c7747ac9bc8d152"), looks := true }, kinds := [], alts := [], laidByText := true, laidKinds := [.data, .data, .data, .data, .sentinel, .sentinel, .listed, .data, .pinned], laidTests := true, laidLooks := .later }
def LexBetweenCardSaid : Prop := Claim7.holds Tryd.pinned (.plain (OpenSpec.ofChange lexBetweenSpec)) lexBetweenCard

/-- THE TIED CARD OF 'dragomanlaw14.LexWords'. -/
def lexWordsCard : Claim7 := { stood := { row := lexWordsRow, standIns := [], harness := (true, "4865ee397029e8d555eb9802c706a4aa250556dc311fe4418c7747ac9bc8d152"), looks := true }, kinds := [], alts := [], laidByText := true, laidKinds := [.data, .data, .data, .data, .sentinel, .sentinel, .listed, .data, .pinned], laidTests := true, laidLooks := .later }
def LexWordsCardSaid : Prop := Claim7.holds Tryd.pinned (.plain (OpenSpec.ofChange lexWordsSpec)) lexWordsCard

/-- THE SECOND FORM's CARD OF 'dragomanlaw14.LexLines'. -/
def lexLinesUptoCard : Claim7 := { stood := { row := lexLinesUptoRow, standIns := [], harness := (true, "4865ee397029e8d555eb9802c706a4aa250556dc311fe4418c7747ac9bc8d152"), looks := true }, kinds := [], alts := [], laidByText := true, laidKinds := [.data, .data, .data, .data, .sentinel, .sentinel, .listed, .data, .pinned], laidTests := true, laidLooks := .later }
def LexLinesUptoCardSaid : Prop := Claim7.holds Tryd.pinned (.plain (OpenSpec.upto lexLinesSpec)) lexLinesUptoCard

/-- THE SECOND FORM's CARD OF 'dragomanlaw14.LexTokens'. -/
def lexTokensUptoCard : Claim7 := { stood := { row := lexTokensUptoRow, standIns := [], harness := (true, "4865ee397029e8d555eb9802c706a4aa250556dc311fe4418c7747ac9bc8d152"), looks := true }, kinds := [], alts := [], laidByText := true, laidKinds := [.data, .data, .data, .data, .sentinel, .sentinel, .listed, .data, .pinned], laidTests := true, laidLooks := .later }
def LexTokensUptoCardSaid : Prop := Claim7.holds Tryd.pinned (.plain (OpenSpec.upto lexTokensSpec)) lexTokensUptoCard

/-- THE SECOND FORM's CARD OF 'dragomanlaw14.LexJoined'. -/
def lexJoinedUptoCard : Claim7 := { stood := { row := lexJoinedUptoRow, standIns := [], harness := (true, "4865ee397029e8d555eb9802c706a4aa250556dc311fe4418c7747ac9bc8d152"), looks := true }, kinds := [], alts := [], laidByText := true, laidKinds := [.data, .data, .data, .data, .sentinel, .sentinel, .listed, .data, .pinned], laidTests := true, laidLooks := .later }
def LexJoinedUptoCardSaid : Prop := Claim7.holds Tryd.pinned (.plain (OpenSpec.upto lexJoinedSpec)) lexJoinedUptoCard

/-- THE SECOND FORM's CARD OF 'dragomanlaw14.LexBetween'. -/
def lexBetweenUptoCard : Claim7 := { stood := { row := lexBetweenUptoRow, standIns := [], harness := (true, "4865ee397029e8d555eb9802c706a4aa250556dc311fe4418c7747ac9bc8d152"), looks := true }, kinds := [], alts := [], laidByText := true, laidKinds := [.data, .data, .data, .data, .sentinel, .sentinel, .listed, .data, .pinned], laidTests := true, laidLooks := .later }
def LexBetweenUptoCardSaid : Prop := Claim7.holds Tryd.pinned (.plain (OpenSpec.upto lexBetweenSpec)) lexBetweenUptoCard

/-- THE SECOND FORM's CARD OF 'dragomanlaw14.LexWords'. -/
def lexWordsUptoCard : Claim7 := { stood := { row := lexWordsUptoRow, standIns := [], harness := (true, "4865ee397029e8d555eb9802c706a4aa250556dc311fe4418c7747ac9bc8d152"), looks := true }, kinds := [], alts := [], laidByText := true, laidKinds := [.data, .data, .data, .data, .sentinel, .sentinel, .listed, .data, .pinned], laidTests := true, laidLooks := .later }
def LexWordsUptoCardSaid : Prop := Claim7.holds Tryd.pinned (.plain (OpenSpec.upto lexWordsSpec)) lexWordsUptoCard
end Rows
end Go.Proofs.YtdnneofebehpaaaDoor
