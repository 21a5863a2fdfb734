/-
  DERIVED. GIVEN WITH THE SEED: THE CARDS: each row of YtalgmlhcbilicaaDoorRows.lean that lists a variable, with what it lists TIED to the program's text (the seventh form; the later family's looks); each row that meets fmt, with fmt's text TOLD by the authors' own Lean function (tested against real Go, not proved from fmt's source: count such statements apart). THE CARD IS WHAT COUNTS. Prove the row's statement (the work); the ties are given (YtalgmlhcbilicaaDoorTie.lean); close each card by the builder's one call (the guide's Derived/Test/ToyasCard.lean, 'card_holds'). Laid BY PROGRAM, IN A SANDBOX (cutbox-door.mjs). By AI agents, Wed Nov 11 2026. No macro, syntax, notation, axiom, sorry.
-/
import Derived.Test.YtalgmlhcbilicaaDoorRows
import GoSem.ClaimSeven
namespace Go.Proofs.YtalgmlhcbilicaaDoor
namespace Rows

/-- THE TIED CARD OF 'tumblerlaw21.ChainDoes'. -/
def chainDoesCard : Claim7 := { stood := { row := chainDoesRow, standIns := [], harness := (true, "880e19a3b80f32c9728e082c1039d2ffa37283ef6cbdedf4ee5d934b756284fb"), looks := true }, kinds := [], alts := [], laidByText := true, laidKinds := [.data, .data, .data], laidTests := true, laidLooks := .later }
def ChainDoesCardSaid : Prop := Claim7.holds Tryd.pinned (.plain (OpenSpec.ofChange chainDoesSpec)) chainDoesCard

/-- THE TIED CARD OF 'tumblerlaw21.ChainTexts'. -/
def chainTextsCard : Claim7 := { stood := { row := chainTextsRow, standIns := [], harness := (true, "880e19a3b80f32c9728e082c1039d2ffa37283ef6cbdedf4ee5d934b756284fb"), looks := true }, kinds := [], alts := [], laidByText := true, laidKinds := [.data, .data, .data], laidTests := true, laidLooks := .later }
def ChainTextsCardSaid : Prop := Claim7.holds Tryd.pinned (.plain (OpenSpec.ofChange chainTextsSpec)) chainTextsCard

/-- THE SECOND FORM's CARD OF 'tumblerlaw21.ChainDoes'. -/
def chainDoesUptoCard : Claim7 := { stood := { row := chainDoesUptoRow, standIns := [], harness := (true, "880e19a3b80f32c9728e082c1039d2ffa37283ef6cbdedf4ee5d934b756284fb"), looks := true }, kinds := [], alts := [], laidByText := true, laidKinds := [.data, .data, .data], laidTests := true, laidLooks := .later }
def ChainDoesUptoCardSaid : Prop := Claim7.holds Tryd.pinned (.plain (OpenSpec.upto chainDoesSpec)) chainDoesUptoCard

/-- THE SECOND FORM's CARD OF 'tumblerlaw21.ChainTexts'. -/
def chainTextsUptoCard : Claim7 := { stood := { row := chainTextsUptoRow, standIns := [], harness := (true, "880e19a3b80f32c9728e082c1039d2ffa37283ef6cbdedf4ee5d934b756284fb"), looks := true }, kinds := [], alts := [], laidByText := true, laidKinds := [.data, .data, .data], laidTests := true, laidLooks := .later }
def ChainTextsUptoCardSaid : Prop := Claim7.holds Tryd.pinned (.plain (OpenSpec.upto chainTextsSpec)) chainTextsUptoCard
end Rows
end Go.Proofs.YtalgmlhcbilicaaDoor
