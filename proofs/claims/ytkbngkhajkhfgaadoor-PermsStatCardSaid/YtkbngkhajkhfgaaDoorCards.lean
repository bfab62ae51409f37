/-
  DERIVED. GIVEN WITH THE SEED: THE CARDS: each row of YtkbngkhajkhfgaaDoorRows.lean that lists a variable, with what it lists TIED to the program's text (the seventh form; the later family's looks); each row that meets fmt, with fmt's text TOLD by the authors' own Lean function (tested against real Go, not proved from fmt's source: count such statements apart). THE CARD IS WHAT COUNTS. Prove the row's statement (the work); the ties are given (YtkbngkhajkhfgaaDoorTie.lean); close each card by the builder's one call (the guide's Derived/Test/ToyasCard.lean, 'card_holds'). Laid BY PROGRAM, IN A SANDBOX (cutbox-door.mjs). By AI agents, Wed Nov 11 2026. No macro, syntax, notation, axiom, sorry.
-/
import Derived.Test.YtkbngkhajkhfgaaDoorRows
import GoSem.ClaimSeven
namespace Go.Proofs.YtkbngkhajkhfgaaDoor
namespace Rows

/-- THE TIED CARD OF 'halberdlaw23.PermsFlags'. -/
def permsFlagsCard : Claim7 := { stood := { row := permsFlagsRow, standIns := [], harness := (true, "e93be35369b1479d7aa598a8569b277e61265da3e8ce1b5a50cbbc77956f2a39"), looks := false }, kinds := [], alts := [], laidByText := true, laidKinds := [.data, .data, .data], laidTests := true, laidLooks := .later }
def PermsFlagsCardSaid : Prop := Claim7.holds Tryd.pinned (.plain (OpenSpec.ofChange permsFlagsSpec)) permsFlagsCard

/-- THE TIED CARD OF 'halberdlaw23.PermsStat'. -/
def permsStatCard : Claim7 := { stood := { row := permsStatRow, standIns := [], harness := (true, "e93be35369b1479d7aa598a8569b277e61265da3e8ce1b5a50cbbc77956f2a39"), looks := false }, kinds := [], alts := [], laidByText := true, laidKinds := [.data, .data, .data], laidTests := true, laidLooks := .later }
def PermsStatCardSaid : Prop := Claim7.holds Tryd.pinned (.plain (OpenSpec.ofChange permsStatSpec)) permsStatCard

/-- THE TIED CARD OF 'halberdlaw23.PermsWho'. -/
def permsWhoCard : Claim7 := { stood := { row := permsWhoRow, standIns := [], harness := (true, "e93be35369b1479d7aa598a8569b277e61265da3e8ce1b5a50cbbc77956f2a39"), looks := false }, kinds := [], alts := [], laidByText := true, laidKinds := [.data, .data, .data], laidTests := true, laidLooks := .later }
def PermsWhoCardSaid : Prop := Claim7.holds Tryd.pinned (.plain (OpenSpec.ofChange permsWhoSpec)) permsWhoCard

/-- THE TIED CARD OF 'halberdlaw23.PermsLetters'. -/
def permsLettersCard : Claim7 := { stood := { row := permsLettersRow, standIns := [], harness := (true, "e93be35369b1479d7aa598a8569b277e61265da3e8ce1b5a50cbbc77956f2a39"), looks := false }, kinds := [], alts := [], laidByText := true, laidKinds := [.data, .data, .data], laidTests := true, laidLooks := .later }
def PermsLettersCardSaid : Prop := Claim7.holds Tryd.pinned (.plain (OpenSpec.ofChange permsLettersSpec)) permsLettersCard

/-- THE SECOND FORM's CARD OF 'halberdlaw23.PermsFlags'. -/
def permsFlagsUptoCard : Claim7 := { stood := { row := permsFlagsUptoRow, standIns := [], harness := (true, "e93be35369b1479d7aa598a8569b277e61265da3e8ce1b5a50cbbc77956f2a39"), looks := false }, kinds := [], alts := [], laidByText := true, laidKinds := [.data, .data, .data], laidTests := true, laidLooks := .later }
def PermsFlagsUptoCardSaid : Prop := Claim7.holds Tryd.pinned (.plain (OpenSpec.upto permsFlagsSpec)) permsFlagsUptoCard

/-- THE SECOND FORM's CARD OF 'halberdlaw23.PermsStat'. -/
def permsStatUptoCard : Claim7 := { stood := { row := permsStatUptoRow, standIns := [], harness := (true, "e93be35369b1479d7aa598a8569b277e61265da3e8ce1b5a50cbbc77956f2a39"), looks := false }, kinds := [], alts := [], laidByText := true, laidKinds := [.data, .data, .data], laidTests := true, laidLooks := .later }
def PermsStatUptoCardSaid : Prop := Claim7.holds Tryd.pinned (.plain (OpenSpec.upto permsStatSpec)) permsStatUptoCard

/-- THE SECOND FORM's CARD OF 'halberdlaw23.PermsWho'. -/
def permsWhoUptoCard : Claim7 := { stood := { row := permsWhoUptoRow, standIns := [], harness := (true, "e93be35369b1479d7aa598a8569b277e61265da3e8ce1b5a50cbbc77956f2a39"), looks := false }, kinds := [], alts := [], laidByText := true, laidKinds := [.data, .data, .data], laidTests := true, laidLooks := .later }
def PermsWhoUptoCardSaid : Prop := Claim7.holds Tryd.pinned (.plain (OpenSpec.upto permsWhoSpec)) permsWhoUptoCard

/-- THE SECOND FORM's CARD OF 'halberdlaw23.PermsLetters'. -/
def permsLettersUptoCard : Claim7 := { stood := { row := permsLettersUptoRow, standIns := [], harness := (true, "e93be35369b1479d7aa598a8569b277e61265da3e8ce1b5a50cbbc77956f2a39"), looks := false }, kinds := [], alts := [], laidByText := true, laidKinds := [.data, .data, .data], laidTests := true, laidLooks := .later }
def PermsLettersUptoCardSaid : Prop := Claim7.holds Tryd.pinned (.plain (OpenSpec.upto permsLettersSpec)) permsLettersUptoCard
end Rows
end Go.Proofs.YtkbngkhajkhfgaaDoor
