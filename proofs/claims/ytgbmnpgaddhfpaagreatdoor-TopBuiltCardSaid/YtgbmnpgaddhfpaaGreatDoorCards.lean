/-
  DERIVED. GIVEN WITH THE SEED: THE CARDS: each row of YtgbmnpgaddhfpaaGreatDoorRows.lean that lists a variable, with what it lists TIED to the program's text (the seventh form; the later family's looks); each row that meets fmt, with fmt's text TOLD by the authors' own Lean function (tested against real Go, not proved from fmt's source: count such statements apart). THE CARD IS WHAT COUNTS. Prove the row's statement (the work); the ties are given (YtgbmnpgaddhfpaaGreatDoorTie.lean); close each card by the builder's one call (the guide's Derived/Test/ToyasCard.lean, 'card_holds'). Laid BY PROGRAM, IN A SANDBOX (cutbox-door.mjs). By AI agents, Wed Nov 11 2026. No macro, syntax, notation, axiom, sorry.
-/
import Derived.Test.YtgbmnpgaddhfpaaGreatDoorRows
import GoSem.ClaimSeven
namespace Go.Proofs.YtgbmnpgaddhfpaaGreatDoor
namespace Rows

/-- THE TIED CARD OF 'groattop.TopOutcome'. -/
def topOutcomeCard : Claim7 := { stood := { row := topOutcomeRow, standIns := [], harness := (true, "cd85fe993565ac1dbca8bcfc0f38a83d985b5c923950fb919ba784c26bf583b2"), looks := false }, kinds := [], alts := [], laidByText := true, laidKinds := [.data, .pinned], laidTests := true, laidLooks := .later }
def TopOutcomeCardSaid : Prop := Claim7.holds Tryz.pinned (.plain (OpenSpec.ofChange topOutcomeSpec)) topOutcomeCard

/-- THE TIED CARD OF 'groattop.TopAnswers'. -/
def topAnswersCard : Claim7 := { stood := { row := topAnswersRow, standIns := [], harness := (true, "cd85fe993565ac1dbca8bcfc0f38a83d985b5c923950fb919ba784c26bf583b2"), looks := false }, kinds := [], alts := [], laidByText := true, laidKinds := [.data, .pinned], laidTests := true, laidLooks := .later }
def TopAnswersCardSaid : Prop := Claim7.holds Tryz.pinned (.plain (OpenSpec.ofChange topAnswersSpec)) topAnswersCard

/-- THE TIED CARD OF 'groattop.TopBuilt'. -/
def topBuiltCard : Claim7 := { stood := { row := topBuiltRow, standIns := [], harness := (true, "cd85fe993565ac1dbca8bcfc0f38a83d985b5c923950fb919ba784c26bf583b2"), looks := false }, kinds := [], alts := [], laidByText := true, laidKinds := [.data, .pinned], laidTests := true, laidLooks := .later }
def TopBuiltCardSaid : Prop := Claim7.holds Tryz.pinned (.plain (OpenSpec.ofChange topBuiltSpec)) topBuiltCard

/-- THE SECOND FORM's CARD OF 'groattop.TopOutcome'. -/
def topOutcomeUptoCard : Claim7 := { stood := { row := topOutcomeUptoRow, standIns := [], harness := (true, "cd85fe993565ac1dbca8bcfc0f38a83d985b5c923950fb919ba784c26bf583b2"), looks := false }, kinds := [], alts := [], laidByText := true, laidKinds := [.data, .pinned], laidTests := true, laidLooks := .later }
def TopOutcomeUptoCardSaid : Prop := Claim7.holds Tryz.pinned (.plain (OpenSpec.upto topOutcomeSpec)) topOutcomeUptoCard

/-- THE SECOND FORM's CARD OF 'groattop.TopAnswers'. -/
def topAnswersUptoCard : Claim7 := { stood := { row := topAnswersUptoRow, standIns := [], harness := (true, "cd85fe993565ac1dbca8bcfc0f38a83d985b5c923950fb919ba784c26bf583b2"), looks := false }, kinds := [], alts := [], laidByText := true, laidKinds := [.data, .pinned], laidTests := true, laidLooks := .later }
def TopAnswersUptoCardSaid : Prop := Claim7.holds Tryz.pinned (.plain (OpenSpec.upto topAnswersSpec)) topAnswersUptoCard

/-- THE SECOND FORM's CARD OF 'groattop.TopBuilt'. -/
def topBuiltUptoCard : Claim7 := { stood := { row := topBuiltUptoRow, standIns := [], harness := (true, "cd85fe993565ac1dbca8bcfc0f38a83d985b5c923950fb919ba784c26bf583b2"), looks := false }, kinds := [], alts := [], laidByText := true, laidKinds := [.data, .pinned], laidTests := true, laidLooks := .later }
def TopBuiltUptoCardSaid : Prop := Claim7.holds Tryz.pinned (.plain (OpenSpec.upto topBuiltSpec)) topBuiltUptoCard
end Rows
end Go.Proofs.YtgbmnpgaddhfpaaGreatDoor
