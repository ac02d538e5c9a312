/-
  DERIVED. GIVEN WITH THE SEED: THE CARDS: each row of YtgmacggbhcodjaaGreatDoorRows.lean that lists a variable, with what it lists TIED to the program's text (the seventh form; the later family's looks); each row that meets fmt, with fmt's text TOLD by the authors' own Lean function (tested against real Go, not proved from fmt's source: count such statements apart). THE CARD IS WHAT COUNTS. Prove the row's statement (the work); the ties are given (YtgmacggbhcodjaaGreatDoorTie.lean); close each card by the builder's one call (the guide's Derived/Test/ToyasCard.lean, 'card_holds'). Laid BY PROGRAM, IN A SANDBOX (cutbox-door.mjs). By AI agents, Wed Nov 11 2026. No macro, syntax, notation, axiom, sorry.
-/
import Derived.Test.YtgmacggbhcodjaaGreatDoorRows
import GoSem.ClaimSeven
namespace Go.Proofs.YtgmacggbhcodjaaGreatDoor
namespace Rows

/-- THE TIED CARD OF 'glacislaw18.EmbedTells'. -/
def embedTellsCard : Claim7 := { stood := { row := embedTellsRow, standIns := [], harness := (true, "838a812c3610a4197fb9996c917bc867d577170bc533ce65265d3f9e449c24b8"), looks := false }, kinds := [], alts := [], laidByText := true, laidKinds := [.data, .data, .data, .data, .pinned], laidTests := true, laidLooks := .later }
def EmbedTellsCardSaid : Prop := Claim7.holds Tryz.pinned (.plain (OpenSpec.ofChange embedTellsSpec)) embedTellsCard

/-- THE TIED CARD OF 'glacislaw18.EmbedPolicies'. -/
def embedPoliciesCard : Claim7 := { stood := { row := embedPoliciesRow, standIns := [], harness := (true, "838a812c3610a4197fb9996c917bc867d577170bc533ce65265d3f9e449c24b8"), looks := false }, kinds := [], alts := [], laidByText := true, laidKinds := [.data, .data, .data, .data, .pinned], laidTests := true, laidLooks := .later }
def EmbedPoliciesCardSaid : Prop := Claim7.holds Tryz.pinned (.plain (OpenSpec.ofChange embedPoliciesSpec)) embedPoliciesCard

/-- THE TIED CARD OF 'glacislaw18.EmbedMore'. -/
def embedMoreCard : Claim7 := { stood := { row := embedMoreRow, standIns := [], harness := (true, "838a812c3610a4197fb9996c917bc867d577170bc533ce65265d3f9e449c24b8"), looks := false }, kinds := [], alts := [], laidByText := true, laidKinds := [.data, .data, .data, .data, .pinned], laidTests := true, laidLooks := .later }
def EmbedMoreCardSaid : Prop := Claim7.holds Tryz.pinned (.plain (OpenSpec.ofChange embedMoreSpec)) embedMoreCard

/-- THE TIED CARD OF 'glacislaw14.CorpgateInner'. -/
def corpgateInnerCard : Claim7 := { stood := { row := corpgateInnerRow, standIns := [], harness := (true, "838a812c3610a4197fb9996c917bc867d577170bc533ce65265d3f9e449c24b8"), looks := false }, kinds := [], alts := [], laidByText := true, laidKinds := [.data, .data, .data, .data, .pinned], laidTests := true, laidLooks := .later }
def CorpgateInnerCardSaid : Prop := Claim7.holds Tryz.pinned (.plain (OpenSpec.ofChange corpgateInnerSpec)) corpgateInnerCard

/-- THE TIED CARD OF 'glacislaw14.CorpgateChecks'. -/
def corpgateChecksCard : Claim7 := { stood := { row := corpgateChecksRow, standIns := [], harness := (true, "838a812c3610a4197fb9996c917bc867d577170bc533ce65265d3f9e449c24b8"), looks := false }, kinds := [], alts := [], laidByText := true, laidKinds := [.data, .data, .data, .data, .pinned], laidTests := true, laidLooks := .later }
def CorpgateChecksCardSaid : Prop := Claim7.holds Tryz.pinned (.plain (OpenSpec.ofChange corpgateChecksSpec)) corpgateChecksCard

/-- THE TIED CARD OF 'glacislaw14.CorpgateOwn'. -/
def corpgateOwnCard : Claim7 := { stood := { row := corpgateOwnRow, standIns := [], harness := (true, "838a812c3610a4197fb9996c917bc867d577170bc533ce65265d3f9e449c24b8"), looks := false }, kinds := [], alts := [], laidByText := true, laidKinds := [.data, .data, .data, .data, .pinned], laidTests := true, laidLooks := .later }
def CorpgateOwnCardSaid : Prop := Claim7.holds Tryz.pinned (.plain (OpenSpec.ofChange corpgateOwnSpec)) corpgateOwnCard

/-- THE TIED CARD OF 'glacislaw14.CorpgateWeaker'. -/
def corpgateWeakerCard : Claim7 := { stood := { row := corpgateWeakerRow, standIns := [], harness := (true, "838a812c3610a4197fb9996c917bc867d577170bc533ce65265d3f9e449c24b8"), looks := false }, kinds := [], alts := [], laidByText := true, laidKinds := [.data, .data, .data, .data, .pinned], laidTests := true, laidLooks := .later }
def CorpgateWeakerCardSaid : Prop := Claim7.holds Tryz.pinned (.plain (OpenSpec.ofChange corpgateWeakerSpec)) corpgateWeakerCard

/-- THE SECOND FORM's CARD OF 'glacislaw18.EmbedTells'. -/
def embedTellsUptoCard : Claim7 := { stood := { row := embedTellsUptoRow, standIns := [], harness := (true, "838a812c3610a4197fb9996c917bc867d577170bc533ce65265d3f9e449c24b8"), looks := false }, kinds := [], alts := [], laidByText := true, laidKinds := [.data, .data, .data, .data, .pinned], laidTests := true, laidLooks := .later }
def EmbedTellsUptoCardSaid : Prop := Claim7.holds Tryz.pinned (.plain (OpenSpec.upto embedTellsSpec)) embedTellsUptoCard

/-- THE SECOND FORM's CARD OF 'glacislaw18.EmbedPolicies'. -/
def embedPoliciesUptoCard : Claim7 := { stood := { row := embedPoliciesUptoRow, standIns := [], harness := (true, "838a812c3610a4197fb9996c917bc867d577170bc533ce65265d3f9e449c24b8"), looks := false }, kinds := [], alts := [], laidByText := true, laidKinds := [.data, .data, .data, .data, .pinned], laidTests := true, laidLooks := .later }
def EmbedPoliciesUptoCardSaid : Prop := Claim7.holds Tryz.pinned (.plain (OpenSpec.upto embedPoliciesSpec)) embedPoliciesUptoCard

/-- THE SECOND FORM's CARD OF 'glacislaw18.EmbedMore'. -/
def embedMoreUptoCard : Claim7 := { stood := { row := embedMoreUptoRow, standIns := [], harness := (true, "838a812c3610a4197fb9996c917bc867d577170bc533ce65265d3f9e449c24b8"), looks := false }, kinds := [], alts := [], laidByText := true, laidKinds := [.data, .data, .data, .data, .pinned], laidTests := true, laidLooks := .later }
def EmbedMoreUptoCardSaid : Prop := Claim7.holds Tryz.pinned (.plain (OpenSpec.upto embedMoreSpec)) embedMoreUptoCard

/-- THE SECOND FORM's CARD OF 'glacislaw14.CorpgateInner'. -/
def corpgateInnerUptoCard : Claim7 := { stood := { row := corpgateInnerUptoRow, standIns := [], harness := (true, "838a812c3610a4197fb9996c917bc867d577170bc533ce65265d3f9e449c24b8"), looks := false }, kinds := [], alts := [], laidByText := true, laidKinds := [.data, .data, .data, .data, .pinned], laidTests := true, laidLooks := .later }
def CorpgateInnerUptoCardSaid : Prop := Claim7.holds Tryz.pinned (.plain (OpenSpec.upto corpgateInnerSpec)) corpgateInnerUptoCard

/-- THE SECOND FORM's CARD OF 'glacislaw14.CorpgateChecks'. -/
def corpgateChecksUptoCard : Claim7 := { stood := { row := corpgateChecksUptoRow, standIns := [], harness := (true, "838a812c3610a4197fb9996c917bc867d577170bc533ce65265d3f9e449c24b8"), looks := false }, kinds := [], alts := [], laidByText := true, laidKinds := [.data, .data, .data, .data, .pinned], laidTests := true, laidLooks := .later }
def CorpgateChecksUptoCardSaid : Prop := Claim7.holds Tryz.pinned (.plain (OpenSpec.upto corpgateChecksSpec)) corpgateChecksUptoCard

/-- THE SECOND FORM's CARD OF 'glacislaw14.CorpgateOwn'. -/
def corpgateOwnUptoCard : Claim7 := { stood := { row := corpgateOwnUptoRow, standIns := [], harness := (true, "838a812c3610a4197fb9996c917bc867d577170bc533ce65265d3f9e449c24b8"), looks := false }, kinds := [], alts := [], laidByText := true, laidKinds := [.data, .data, .data, .data, .pinned], laidTests := true, laidLooks := .later }
def CorpgateOwnUptoCardSaid : Prop := Claim7.holds Tryz.pinned (.plain (OpenSpec.upto corpgateOwnSpec)) corpgateOwnUptoCard

/-- THE SECOND FORM's CARD OF 'glacislaw14.CorpgateWeaker'. -/
def corpgateWeakerUptoCard : Claim7 := { stood := { row := corpgateWeakerUptoRow, standIns := [], harness := (true, "838a812c3610a4197fb9996c917bc867d577170bc533ce65265d3f9e449c24b8"), looks := false }, kinds := [], alts := [], laidByText := true, laidKinds := [.data, .data, .data, .data, .pinned], laidTests := true, laidLooks := .later }
def CorpgateWeakerUptoCardSaid : Prop := Claim7.holds Tryz.pinned (.plain (OpenSpec.upto corpgateWeakerSpec)) corpgateWeakerUptoCard
end Rows
end Go.Proofs.YtgmacggbhcodjaaGreatDoor
