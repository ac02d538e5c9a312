/-
  DERIVED. GIVEN WITH THE SEED: THE CARDS: each row of YtgmacggbhcodjaaDoorRows.lean that lists a variable, with what it lists TIED to the program's text (the seventh form; the later family's looks); each row that meets fmt, with fmt's text TOLD by the authors' own Lean function (tested against real Go, not proved from fmt's source: count such statements apart). THE CARD IS WHAT COUNTS. Prove the row's statement (the work); the ties are given (YtgmacggbhcodjaaDoorTie.lean); close each card by the builder's one call (the guide's Derived/Test/ToyasCard.lean, 'card_holds'). Laid BY PROGRAM, IN A SANDBOX (cutbox-door.mjs). By AI agents, Wed Nov 11 2026. No macro, syntax, notation, axiom, sorry.
-/
import Derived.Test.YtgmacggbhcodjaaDoorRows
import GoSem.ClaimSeven
namespace Go.Proofs.YtgmacggbhcodjaaDoor
namespace Rows

/-- THE TIED CARD OF 'glacislaw17.GroupsOrigins'. -/
def groupsOriginsCard : Claim7 := { stood := { row := groupsOriginsRow, standIns := [], harness := (true, "199045f12d70a05658ec7369cd0cd6c6b46a629122dd849e25f2e590fc2c031f"), looks := false }, kinds := [], alts := [], laidByText := true, laidKinds := [.data, .data, .data, .data, .pinned], laidTests := true, laidLooks := .later }
def GroupsOriginsCardSaid : Prop := Claim7.holds Tryd.pinned (.plain (OpenSpec.ofChange groupsOriginsSpec)) groupsOriginsCard

/-- THE TIED CARD OF 'glacislaw11.CspmatchMore'. -/
def cspmatchMoreCard : Claim7 := { stood := { row := cspmatchMoreRow, standIns := [], harness := (true, "199045f12d70a05658ec7369cd0cd6c6b46a629122dd849e25f2e590fc2c031f"), looks := false }, kinds := [], alts := [], laidByText := true, laidKinds := [.data, .data, .data, .data, .pinned], laidTests := true, laidLooks := .later }
def CspmatchMoreCardSaid : Prop := Claim7.holds Tryd.pinned (.plain (OpenSpec.ofChange cspmatchMoreSpec)) cspmatchMoreCard

/-- THE TIED CARD OF 'glacislaw18.EmbedNames'. -/
def embedNamesCard : Claim7 := { stood := { row := embedNamesRow, standIns := [], harness := (true, "199045f12d70a05658ec7369cd0cd6c6b46a629122dd849e25f2e590fc2c031f"), looks := false }, kinds := [], alts := [], laidByText := true, laidKinds := [.data, .data, .data, .data, .pinned], laidTests := true, laidLooks := .later }
def EmbedNamesCardSaid : Prop := Claim7.holds Tryd.pinned (.plain (OpenSpec.ofChange embedNamesSpec)) embedNamesCard

/-- THE TIED CARD OF 'glacislaw18.EmbedChain'. -/
def embedChainCard : Claim7 := { stood := { row := embedChainRow, standIns := [], harness := (true, "199045f12d70a05658ec7369cd0cd6c6b46a629122dd849e25f2e590fc2c031f"), looks := false }, kinds := [], alts := [], laidByText := true, laidKinds := [.data, .data, .data, .data, .pinned], laidTests := true, laidLooks := .later }
def EmbedChainCardSaid : Prop := Claim7.holds Tryd.pinned (.plain (OpenSpec.ofChange embedChainSpec)) embedChainCard

/-- THE TIED CARD OF 'glacislaw18.EmbedOwn'. -/
def embedOwnCard : Claim7 := { stood := { row := embedOwnRow, standIns := [], harness := (true, "199045f12d70a05658ec7369cd0cd6c6b46a629122dd849e25f2e590fc2c031f"), looks := false }, kinds := [], alts := [], laidByText := true, laidKinds := [.data, .data, .data, .data, .pinned], laidTests := true, laidLooks := .later }
def EmbedOwnCardSaid : Prop := Claim7.holds Tryd.pinned (.plain (OpenSpec.ofChange embedOwnSpec)) embedOwnCard

/-- THE SECOND FORM's CARD OF 'glacislaw17.GroupsOrigins'. -/
def groupsOriginsUptoCard : Claim7 := { stood := { row := groupsOriginsUptoRow, standIns := [], harness := (true, "199045f12d70a05658ec7369cd0cd6c6b46a629122dd849e25f2e590fc2c031f"), looks := false }, kinds := [], alts := [], laidByText := true, laidKinds := [.data, .data, .data, .data, .pinned], laidTests := true, laidLooks := .later }
def GroupsOriginsUptoCardSaid : Prop := Claim7.holds Tryd.pinned (.plain (OpenSpec.upto groupsOriginsSpec)) groupsOriginsUptoCard

/-- THE SECOND FORM's CARD OF 'glacislaw11.CspmatchMore'. -/
def cspmatchMoreUptoCard : Claim7 := { stood := { row := cspmatchMoreUptoRow, standIns := [], harness := (true, "199045f12d70a05658ec7369cd0cd6c6b46a629122dd849e25f2e590fc2c031f"), looks := false }, kinds := [], alts := [], laidByText := true, laidKinds := [.data, .data, .data, .data, .pinned], laidTests := true, laidLooks := .later }
def CspmatchMoreUptoCardSaid : Prop := Claim7.holds Tryd.pinned (.plain (OpenSpec.upto cspmatchMoreSpec)) cspmatchMoreUptoCard

/-- THE SECOND FORM's CARD OF 'glacislaw18.EmbedNames'. -/
def embedNamesUptoCard : Claim7 := { stood := { row := embedNamesUptoRow, standIns := [], harness := (true, "199045f12d70a05658ec7369cd0cd6c6b46a629122dd849e25f2e590fc2c031f"), looks := false }, kinds := [], alts := [], laidByText := true, laidKinds := [.data, .data, .data, .data, .pinned], laidTests := true, laidLooks := .later }
def EmbedNamesUptoCardSaid : Prop := Claim7.holds Tryd.pinned (.plain (OpenSpec.upto embedNamesSpec)) embedNamesUptoCard

/-- THE SECOND FORM's CARD OF 'glacislaw18.EmbedChain'. -/
def embedChainUptoCard : Claim7 := { stood := { row := embedChainUptoRow, standIns := [], harness := (true, "199045f12d70a05658ec7369cd0cd6c6b46a629122dd849e25f2e590fc2c031f"), looks := false }, kinds := [], alts := [], laidByText := true, laidKinds := [.data, .data, .data, .data, .pinned], laidTests := true, laidLooks := .later }
def EmbedChainUptoCardSaid : Prop := Claim7.holds Tryd.pinned (.plain (OpenSpec.upto embedChainSpec)) embedChainUptoCard

/-- THE SECOND FORM's CARD OF 'glacislaw18.EmbedOwn'. -/
def embedOwnUptoCard : Claim7 := { stood := { row := embedOwnUptoRow, standIns := [], harness := (true, "199045f12d70a05658ec7369cd0cd6c6b46a629122dd849e25f2e590fc2c031f"), looks := false }, kinds := [], alts := [], laidByText := true, laidKinds := [.data, .data, .data, .data, .pinned], laidTests := true, laidLooks := .later }
def EmbedOwnUptoCardSaid : Prop := Claim7.holds Tryd.pinned (.plain (OpenSpec.upto embedOwnSpec)) embedOwnUptoCard
end Rows
end Go.Proofs.YtgmacggbhcodjaaDoor
