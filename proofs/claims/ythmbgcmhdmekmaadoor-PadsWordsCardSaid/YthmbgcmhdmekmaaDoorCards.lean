/-
  DERIVED. GIVEN WITH THE SEED: THE CARDS: each row of YthmbgcmhdmekmaaDoorRows.lean that lists a variable, with what it lists TIED to the program's text (the seventh form; the later family's looks); each row that meets fmt, with fmt's text TOLD by the authors' own Lean function (tested against real Go, not proved from fmt's source: count such statements apart). THE CARD IS WHAT COUNTS. Prove the row's statement (the work); the ties are given (YthmbgcmhdmekmaaDoorTie.lean); close each card by the builder's one call (the guide's Derived/Test/ToyasCard.lean, 'card_holds'). Laid BY PROGRAM, IN A SANDBOX (cutbox-door.mjs). By AI agents, Wed Nov 11 2026. No macro, syntax, notation, axiom, sorry.
-/
import Derived.Test.YthmbgcmhdmekmaaDoorRows
import GoSem.ClaimSeven
namespace Go.Proofs.YthmbgcmhdmekmaaDoor
namespace Rows

/-- THE TIED CARD OF 'joysticklaw21.PadsParses'. -/
def padsParsesCard : Claim7 := { stood := { row := padsParsesRow, standIns := [], harness := (true, "e2c027c0543eb95fd7a296ed901c0080e34e6ddb3246039f164e184469921126"), looks := false }, kinds := [], alts := [], laidByText := true, laidKinds := [.data, .pinned], laidTests := true, laidLooks := .later }
def PadsParsesCardSaid : Prop := Claim7.holds Tryd.pinned (.plain (OpenSpec.ofChange padsParsesSpec)) padsParsesCard

/-- THE TIED CARD OF 'joysticklaw21.PadsWords'. -/
def padsWordsCard : Claim7 := { stood := { row := padsWordsRow, standIns := [], harness := (true, "e2c027c0543eb95fd7a296ed901c0080e34e6ddb3246039f164e184469921126"), looks := false }, kinds := [], alts := [], laidByText := true, laidKinds := [.data, .pinned], laidTests := true, laidLooks := .later }
def PadsWordsCardSaid : Prop := Claim7.holds Tryd.pinned (.plain (OpenSpec.ofChange padsWordsSpec)) padsWordsCard

/-- THE TIED CARD OF 'joysticklaw21.PadsNames'. -/
def padsNamesCard : Claim7 := { stood := { row := padsNamesRow, standIns := [], harness := (true, "e2c027c0543eb95fd7a296ed901c0080e34e6ddb3246039f164e184469921126"), looks := false }, kinds := [], alts := [], laidByText := true, laidKinds := [.data, .pinned], laidTests := true, laidLooks := .later }
def PadsNamesCardSaid : Prop := Claim7.holds Tryd.pinned (.plain (OpenSpec.ofChange padsNamesSpec)) padsNamesCard

/-- THE TIED CARD OF 'joysticklaw21.PadsTells'. -/
def padsTellsCard : Claim7 := { stood := { row := padsTellsRow, standIns := [], harness := (true, "e2c027c0543eb95fd7a296ed901c0080e34e6ddb3246039f164e184469921126"), looks := false }, kinds := [], alts := [], laidByText := true, laidKinds := [.data, .pinned], laidTests := true, laidLooks := .later }
def PadsTellsCardSaid : Prop := Claim7.holds Tryd.pinned (.plain (OpenSpec.ofChange padsTellsSpec)) padsTellsCard

/-- THE SECOND FORM's CARD OF 'joysticklaw21.PadsParses'. -/
def padsParsesUptoCard : Claim7 := { stood := { row := padsParsesUptoRow, standIns := [], harness := (true, "e2c027c0543eb95fd7a296ed901c0080e34e6ddb3246039f164e184469921126"), looks := false }, kinds := [], alts := [], laidByText := true, laidKinds := [.data, .pinned], laidTests := true, laidLooks := .later }
def PadsParsesUptoCardSaid : Prop := Claim7.holds Tryd.pinned (.plain (OpenSpec.upto padsParsesSpec)) padsParsesUptoCard

/-- THE SECOND FORM's CARD OF 'joysticklaw21.PadsWords'. -/
def padsWordsUptoCard : Claim7 := { stood := { row := padsWordsUptoRow, standIns := [], harness := (true, "e2c027c0543eb95fd7a296ed901c0080e34e6ddb3246039f164e184469921126"), looks := false }, kinds := [], alts := [], laidByText := true, laidKinds := [.data, .pinned], laidTests := true, laidLooks := .later }
def PadsWordsUptoCardSaid : Prop := Claim7.holds Tryd.pinned (.plain (OpenSpec.upto padsWordsSpec)) padsWordsUptoCard

/-- THE SECOND FORM's CARD OF 'joysticklaw21.PadsNames'. -/
def padsNamesUptoCard : Claim7 := { stood := { row := padsNamesUptoRow, standIns := [], harness := (true, "e2c027c0543eb95fd7a296ed901c0080e34e6ddb3246039f164e184469921126"), looks := false }, kinds := [], alts := [], laidByText := true, laidKinds := [.data, .pinned], laidTests := true, laidLooks := .later }
def PadsNamesUptoCardSaid : Prop := Claim7.holds Tryd.pinned (.plain (OpenSpec.upto padsNamesSpec)) padsNamesUptoCard

/-- THE SECOND FORM's CARD OF 'joysticklaw21.PadsTells'. -/
def padsTellsUptoCard : Claim7 := { stood := { row := padsTellsUptoRow, standIns := [], harness := (true, "e2c027c0543eb95fd7a296ed901c0080e34e6ddb3246039f164e184469921126"), looks := false }, kinds := [], alts := [], laidByText := true, laidKinds := [.data, .pinned], laidTests := true, laidLooks := .later }
def PadsTellsUptoCardSaid : Prop := Claim7.holds Tryd.pinned (.plain (OpenSpec.upto padsTellsSpec)) padsTellsUptoCard
end Rows
end Go.Proofs.YthmbgcmhdmekmaaDoor
