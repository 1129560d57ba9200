/-
  DERIVED. GIVEN WITH THE SEED: THE CARDS: each row of YtbdlccajpcomjaaDoorRows.lean that lists a variable, with what it lists TIED to the program's text (the seventh form; the later family's looks); each row that meets fmt, with fmt's text TOLD by the authors' own Lean function (tested against real Go, not proved from fmt's source: count such statements apart). THE CARD IS WHAT COUNTS. Prove the row's statement (the work); the ties are given (YtbdlccajpcomjaaDoorTie.lean); close each card by the builder's one call (the guide's Derived/Test/ToyasCard.lean, 'card_holds'). Laid BY PROGRAM, IN A SANDBOX (cutbox-door.mjs). By AI agents, Wed Nov 11 2026. No macro, syntax, notation, axiom, sorry.
-/
import Derived.Test.YtbdlccajpcomjaaDoorRows
import GoSem.ClaimSeven
namespace Go.Proofs.YtbdlccajpcomjaaDoor
namespace Rows

/-- THE TIED CARD OF 'ancepslaw17.LicenceParse'. -/
def licenceParseCard : Claim7 := { stood := { row := licenceParseRow, standIns := [], harness := (true, "59d4d5859f5182b766d83bdb3104cc30bae833b6f79d17027d82d9e8eb29ad2d"), looks := false }, kinds := [], alts := [], laidByText := true, laidKinds := [.data, .data, .data], laidTests := true, laidLooks := .later }
def LicenceParseCardSaid : Prop := Claim7.holds Tryd.pinned (.plain (OpenSpec.ofChange licenceParseSpec)) licenceParseCard

/-- THE TIED CARD OF 'ancepslaw17.LicenceValid'. -/
def licenceValidCard : Claim7 := { stood := { row := licenceValidRow, standIns := [], harness := (true, "59d4d5859f5182b766d83bdb3104cc30bae833b6f79d17027d82d9e8eb29ad2d"), looks := false }, kinds := [], alts := [], laidByText := true, laidKinds := [.data, .data, .data], laidTests := true, laidLooks := .later }
def LicenceValidCardSaid : Prop := Claim7.holds Tryd.pinned (.plain (OpenSpec.ofChange licenceValidSpec)) licenceValidCard

/-- THE SECOND FORM's CARD OF 'ancepslaw17.LicenceParse'. -/
def licenceParseUptoCard : Claim7 := { stood := { row := licenceParseUptoRow, standIns := [], harness := (true, "59d4d5859f5182b766d83bdb3104cc30bae833b6f79d17027d82d9e8eb29ad2d"), looks := false }, kinds := [], alts := [], laidByText := true, laidKinds := [.data, .data, .data], laidTests := true, laidLooks := .later }
def LicenceParseUptoCardSaid : Prop := Claim7.holds Tryd.pinned (.plain (OpenSpec.upto licenceParseSpec)) licenceParseUptoCard

/-- THE SECOND FORM's CARD OF 'ancepslaw17.LicenceValid'. -/
def licenceValidUptoCard : Claim7 := { stood := { row := licenceValidUptoRow, standIns := [], harness := (true, "59d4d5859f5182b766d83bdb3104cc30bae833b6f79d17027d82d9e8eb29ad2d"), looks := false }, kinds := [], alts := [], laidByText := true, laidKinds := [.data, .data, .data], laidTests := true, laidLooks := .later }
def LicenceValidUptoCardSaid : Prop := Claim7.holds Tryd.pinned (.plain (OpenSpec.upto licenceValidSpec)) licenceValidUptoCard
end Rows
end Go.Proofs.YtbdlccajpcomjaaDoor
