/-
  DERIVED. GIVEN WITH THE SEED: THE CARDS: each row of YtkofnbjjbcohgaaGreatDoorRows.lean that lists a variable, with what it lists TIED to the program's text (the seventh form; the later family's looks); each row that meets fmt, with fmt's text TOLD by the authors' own Lean function (tested against real Go, not proved from fmt's source: count such statements apart). THE CARD IS WHAT COUNTS. Prove the row's statement (the work); the ties are given (YtkofnbjjbcohgaaGreatDoorTie.lean); close each card by the builder's one call (the guide's Derived/Test/ToyasCard.lean, 'card_holds'). Laid BY PROGRAM, IN A SANDBOX (cutbox-door.mjs). By AI agents, Wed Nov 11 2026. No macro, syntax, notation, axiom, sorry.
-/
import Derived.Test.YtkofnbjjbcohgaaGreatDoorRows
import GoSem.ClaimSeven
namespace Go.Proofs.YtkofnbjjbcohgaaGreatDoor
namespace Rows

/-- THE TIED CARD OF 'laws.FnStalkForms'. -/
def fnStalkFormsCard : Claim7 := { stood := { row := fnStalkFormsRow, standIns := [], harness := (true, "cc356b5f207eb9ed256eed54135b771ff880e75c4906d009863d27f6582ba975"), looks := false }, kinds := [], alts := [], laidByText := true, laidKinds := [.data, .data, .data, .data, .pinned], laidTests := true, laidLooks := .later }
def FnStalkFormsCardSaid : Prop := Claim7.holds Tryz.pinned (.plain (OpenSpec.ofChange fnStalkFormsSpec)) fnStalkFormsCard

/-- THE SECOND FORM's CARD OF 'laws.FnStalkForms'. -/
def fnStalkFormsUptoCard : Claim7 := { stood := { row := fnStalkFormsUptoRow, standIns := [], harness := (true, "cc356b5f207eb9ed256eed54135b771ff880e75c4906d009863d27f6582ba975"), looks := false }, kinds := [], alts := [], laidByText := true, laidKinds := [.data, .data, .data, .data, .pinned], laidTests := true, laidLooks := .later }
def FnStalkFormsUptoCardSaid : Prop := Claim7.holds Tryz.pinned (.plain (OpenSpec.upto fnStalkFormsSpec)) fnStalkFormsUptoCard
end Rows
end Go.Proofs.YtkofnbjjbcohgaaGreatDoor
