/-
  DERIVED. GIVEN WITH THE SEED: THE CARDS: each row of YtliphfgiaioebaaDoorRows.lean that lists a variable, with what it lists TIED to the program's text (the seventh form; the later family's looks); each row that meets fmt, with fmt's text TOLD by the authors' own Lean function (tested against real Go, not proved from fmt's source: count such statements apart). THE CARD IS WHAT COUNTS. Prove the row's statement (the work); the ties are given (YtliphfgiaioebaaDoorTie.lean); close each card by the builder's one call (the guide's Derived/Test/ToyasCard.lean, 'card_holds'). Laid BY PROGRAM, IN A SANDBOX (cutbox-door.mjs). By AI agents, Wed Nov 11 2026. No macro, syntax, notation, axiom, sorry.
-/
import Derived.Test.YtliphfgiaioebaaDoorRows
import GoSem.ClaimSeven
namespace Go.Proofs.YtliphfgiaioebaaDoor
namespace Rows

/-- THE TIED CARD OF 'galleylaw09.RopeScripts'. -/
def ropeScriptsCard : Claim7 := { stood := { row := ropeScriptsRow, standIns := [], harness := (true, "3433856ebe03e32f5c58ede8c2a44e2ed70bf5814adc12574b4ded9b50c6bc00"), looks := true }, kinds := [], alts := [], laidByText := true, laidKinds := [.data, .data, .data, .data], laidTests := true, laidLooks := .later }
def RopeScriptsCardSaid : Prop := Claim7.holds Tryd.pinned (.plain (OpenSpec.ofChange ropeScriptsSpec)) ropeScriptsCard

/-- THE TIED CARD OF 'galleylaw09.RopeFirst'. -/
def ropeFirstCard : Claim7 := { stood := { row := ropeFirstRow, standIns := [], harness := (true, "3433856ebe03e32f5c58ede8c2a44e2ed70bf5814adc12574b4ded9b50c6bc00"), looks := true }, kinds := [], alts := [], laidByText := true, laidKinds := [.data, .data, .data, .data], laidTests := true, laidLooks := .later }
def RopeFirstCardSaid : Prop := Claim7.holds Tryd.pinned (.plain (OpenSpec.ofChange ropeFirstSpec)) ropeFirstCard

/-- THE TIED CARD OF 'galleylaw09.RopeAny'. -/
def ropeAnyCard : Claim7 := { stood := { row := ropeAnyRow, standIns := [], harness := (true, "3433856ebe03e32f5c58ede8c2a44e2ed70bf5814adc12574b4ded9b50c6bc00"), looks := true }, kinds := [], alts := [], laidByText := true, laidKinds := [.data, .data, .data, .data], laidTests := true, laidLooks := .later }
def RopeAnyCardSaid : Prop := Claim7.holds Tryd.pinned (.plain (OpenSpec.ofChange ropeAnySpec)) ropeAnyCard

/-- THE TIED CARD OF 'galleylaw12.EditPlaces'. -/
def editPlacesCard : Claim7 := { stood := { row := editPlacesRow, standIns := [], harness := (true, "3433856ebe03e32f5c58ede8c2a44e2ed70bf5814adc12574b4ded9b50c6bc00"), looks := true }, kinds := [], alts := [], laidByText := true, laidKinds := [.data, .data, .data, .data], laidTests := true, laidLooks := .later }
def EditPlacesCardSaid : Prop := Claim7.holds Tryd.pinned (.plain (OpenSpec.ofChange editPlacesSpec)) editPlacesCard

/-- THE TIED CARD OF 'galleylaw09.RopePieces'. -/
def ropePiecesCard : Claim7 := { stood := { row := ropePiecesRow, standIns := [], harness := (true, "3433856ebe03e32f5c58ede8c2a44e2ed70bf5814adc12574b4ded9b50c6bc00"), looks := true }, kinds := [], alts := [], laidByText := true, laidKinds := [.data, .data, .data, .data], laidTests := true, laidLooks := .later }
def RopePiecesCardSaid : Prop := Claim7.holds Tryd.pinned (.plain (OpenSpec.ofChange ropePiecesSpec)) ropePiecesCard

/-- THE TIED CARD OF 'galleylaw09.RopeStops'. -/
def ropeStopsCard : Claim7 := { stood := { row := ropeStopsRow, standIns := [], harness := (true, "3433856ebe03e32f5c58ede8c2a44e2ed70bf5814adc12574b4ded9b50c6bc00"), looks := true }, kinds := [], alts := [], laidByText := true, laidKinds := [.data, .data, .data, .data], laidTests := true, laidLooks := .later }
def RopeStopsCardSaid : Prop := Claim7.holds Tryd.pinned (.plain (OpenSpec.ofChange ropeStopsSpec)) ropeStopsCard

/-- THE TIED CARD OF 'galleylaw09.RopeDepth'. -/
def ropeDepthCard : Claim7 := { stood := { row := ropeDepthRow, standIns := [], harness := (true, "3433856ebe03e32f5c58ede8c2a44e2ed70bf5814adc12574b4ded9b50c6bc00"), looks := true }, kinds := [], alts := [], laidByText := true, laidKinds := [.data, .data, .data, .data], laidTests := true, laidLooks := .later }
def RopeDepthCardSaid : Prop := Claim7.holds Tryd.pinned (.plain (OpenSpec.ofChange ropeDepthSpec)) ropeDepthCard

/-- THE TIED CARD OF 'galleylaw09.RopeGrows'. -/
def ropeGrowsCard : Claim7 := { stood := { row := ropeGrowsRow, standIns := [], harness := (true, "3433856ebe03e32f5c58ede8c2a44e2ed70bf5814adc12574b4ded9b50c6bc00"), looks := true }, kinds := [], alts := [], laidByText := true, laidKinds := [.data, .data, .data, .data], laidTests := true, laidLooks := .later }
def RopeGrowsCardSaid : Prop := Claim7.holds Tryd.pinned (.plain (OpenSpec.ofChange ropeGrowsSpec)) ropeGrowsCard

/-- THE TIED CARD OF 'galleylaw09.RopeSame'. -/
def ropeSameCard : Claim7 := { stood := { row := ropeSameRow, standIns := [], harness := (true, "3433856ebe03e32f5c58ede8c2a44e2ed70bf5814adc12574b4ded9b50c6bc00"), looks := true }, kinds := [], alts := [], laidByText := true, laidKinds := [.data, .data, .data, .data], laidTests := true, laidLooks := .later }
def RopeSameCardSaid : Prop := Claim7.holds Tryd.pinned (.plain (OpenSpec.ofChange ropeSameSpec)) ropeSameCard

/-- THE TIED CARD OF 'galleylaw09.RopeNil'. -/
def ropeNilCard : Claim7 := { stood := { row := ropeNilRow, standIns := [], harness := (true, "3433856ebe03e32f5c58ede8c2a44e2ed70bf5814adc12574b4ded9b50c6bc00"), looks := true }, kinds := [], alts := [], laidByText := true, laidKinds := [.data, .data, .data, .data], laidTests := true, laidLooks := .later }
def RopeNilCardSaid : Prop := Claim7.holds Tryd.pinned (.plain (OpenSpec.ofChange ropeNilSpec)) ropeNilCard

/-- THE TIED CARD OF 'galleylaw09.RopeOwn'. -/
def ropeOwnCard : Claim7 := { stood := { row := ropeOwnRow, standIns := [], harness := (true, "3433856ebe03e32f5c58ede8c2a44e2ed70bf5814adc12574b4ded9b50c6bc00"), looks := true }, kinds := [], alts := [], laidByText := true, laidKinds := [.data, .data, .data, .data], laidTests := true, laidLooks := .later }
def RopeOwnCardSaid : Prop := Claim7.holds Tryd.pinned (.plain (OpenSpec.ofChange ropeOwnSpec)) ropeOwnCard

/-- THE TIED CARD OF 'galleylaw12.EditBack'. -/
def editBackCard : Claim7 := { stood := { row := editBackRow, standIns := [], harness := (true, "3433856ebe03e32f5c58ede8c2a44e2ed70bf5814adc12574b4ded9b50c6bc00"), looks := true }, kinds := [], alts := [], laidByText := true, laidKinds := [.data, .data, .data, .data], laidTests := true, laidLooks := .later }
def EditBackCardSaid : Prop := Claim7.holds Tryd.pinned (.plain (OpenSpec.ofChange editBackSpec)) editBackCard

/-- THE TIED CARD OF 'galleylaw12.EditOrder'. -/
def editOrderCard : Claim7 := { stood := { row := editOrderRow, standIns := [], harness := (true, "3433856ebe03e32f5c58ede8c2a44e2ed70bf5814adc12574b4ded9b50c6bc00"), looks := true }, kinds := [], alts := [], laidByText := true, laidKinds := [.data, .data, .data, .data], laidTests := true, laidLooks := .later }
def EditOrderCardSaid : Prop := Claim7.holds Tryd.pinned (.plain (OpenSpec.ofChange editOrderSpec)) editOrderCard

/-- THE TIED CARD OF 'galleylaw12.EditNil'. -/
def editNilCard : Claim7 := { stood := { row := editNilRow, standIns := [], harness := (true, "3433856ebe03e32f5c58ede8c2a44e2ed70bf5814adc12574b4ded9b50c6bc00"), looks := true }, kinds := [], alts := [], laidByText := true, laidKinds := [.data, .data, .data, .data], laidTests := true, laidLooks := .later }
def EditNilCardSaid : Prop := Claim7.holds Tryd.pinned (.plain (OpenSpec.ofChange editNilSpec)) editNilCard

/-- THE SECOND FORM's CARD OF 'galleylaw09.RopeScripts'. -/
def ropeScriptsUptoCard : Claim7 := { stood := { row := ropeScriptsUptoRow, standIns := [], harness := (true, "3433856ebe03e32f5c58ede8c2a44e2ed70bf5814adc12574b4ded9b50c6bc00"), looks := true }, kinds := [], alts := [], laidByText := true, laidKinds := [.data, .data, .data, .data], laidTests := true, laidLooks := .later }
def RopeScriptsUptoCardSaid : Prop := Claim7.holds Tryd.pinned (.plain (OpenSpec.upto ropeScriptsSpec)) ropeScriptsUptoCard

/-- THE SECOND FORM's CARD OF 'galleylaw09.RopeFirst'. -/
def ropeFirstUptoCard : Claim7 := { stood := { row := ropeFirstUptoRow, standIns := [], harness := (true, "3433856ebe03e32f5c58ede8c2a44e2ed70bf5814adc12574b4ded9b50c6bc00"), looks := true }, kinds := [], alts := [], laidByText := true, laidKinds := [.data, .data, .data, .data], laidTests := true, laidLooks := .later }
def RopeFirstUptoCardSaid : Prop := Claim7.holds Tryd.pinned (.plain (OpenSpec.upto ropeFirstSpec)) ropeFirstUptoCard

/-- THE SECOND FORM's CARD OF 'galleylaw09.RopeAny'. -/
def ropeAnyUptoCard : Claim7 := { stood := { row := ropeAnyUptoRow, standIns := [], harness := (true, "3433856ebe03e32f5c58ede8c2a44e2ed70bf5814adc12574b4ded9b50c6bc00"), looks := true }, kinds := [], alts := [], laidByText := true, laidKinds := [.data, .data, .data, .data], laidTests := true, laidLooks := .later }
def RopeAnyUptoCardSaid : Prop := Claim7.holds Tryd.pinned (.plain (OpenSpec.upto ropeAnySpec)) ropeAnyUptoCard

/-- THE SECOND FORM's CARD OF 'galleylaw12.EditPlaces'. -/
def editPlacesUptoCard : Claim7 := { stood := { row := editPlacesUptoRow, standIns := [], harness := (true, "3433856ebe03e32f5c58ede8c2a44e2ed70bf5814adc12574b4ded9b50c6bc00"), looks := true }, kinds := [], alts := [], laidByText := true, laidKinds := [.data, .data, .data, .data], laidTests := true, laidLooks := .later }
def EditPlacesUptoCardSaid : Prop := Claim7.holds Tryd.pinned (.plain (OpenSpec.upto editPlacesSpec)) editPlacesUptoCard

/-- THE SECOND FORM's CARD OF 'galleylaw09.RopePieces'. -/
def ropePiecesUptoCard : Claim7 := { stood := { row := ropePiecesUptoRow, standIns := [], harness := (true, "3433856ebe03e32f5c58ede8c2a44e2ed70bf5814adc12574b4ded9b50c6bc00"), looks := true }, kinds := [], alts := [], laidByText := true, laidKinds := [.data, .data, .data, .data], laidTests := true, laidLooks := .later }
def RopePiecesUptoCardSaid : Prop := Claim7.holds Tryd.pinned (.plain (OpenSpec.upto ropePiecesSpec)) ropePiecesUptoCard

/-- THE SECOND FORM's CARD OF 'galleylaw09.RopeStops'. -/
def ropeStopsUptoCard : Claim7 := { stood := { row := ropeStopsUptoRow, standIns := [], harness := (true, "3433856ebe03e32f5c58ede8c2a44e2ed70bf5814adc12574b4ded9b50c6bc00"), looks := true }, kinds := [], alts := [], laidByText := true, laidKinds := [.data, .data, .data, .data], laidTests := true, laidLooks := .later }
def RopeStopsUptoCardSaid : Prop := Claim7.holds Tryd.pinned (.plain (OpenSpec.upto ropeStopsSpec)) ropeStopsUptoCard

/-- THE SECOND FORM's CARD OF 'galleylaw09.RopeDepth'. -/
def ropeDepthUptoCard : Claim7 := { stood := { row := ropeDepthUptoRow, standIns := [], harness := (true, "3433856ebe03e32f5c58ede8c2a44e2ed70bf5814adc12574b4ded9b50c6bc00"), looks := true }, kinds := [], alts := [], laidByText := true, laidKinds := [.data, .data, .data, .data], laidTests := true, laidLooks := .later }
def RopeDepthUptoCardSaid : Prop := Claim7.holds Tryd.pinned (.plain (OpenSpec.upto ropeDepthSpec)) ropeDepthUptoCard

/-- THE SECOND FORM's CARD OF 'galleylaw09.RopeGrows'. -/
def ropeGrowsUptoCard : Claim7 := { stood := { row := ropeGrowsUptoRow, standIns := [], harness := (true, "3433856ebe03e32f5c58ede8c2a44e2ed70bf5814adc12574b4ded9b50c6bc00"), looks := true }, kinds := [], alts := [], laidByText := true, laidKinds := [.data, .data, .data, .data], laidTests := true, laidLooks := .later }
def RopeGrowsUptoCardSaid : Prop := Claim7.holds Tryd.pinned (.plain (OpenSpec.upto ropeGrowsSpec)) ropeGrowsUptoCard

/-- THE SECOND FORM's CARD OF 'galleylaw09.RopeSame'. -/
def ropeSameUptoCard : Claim7 := { stood := { row := ropeSameUptoRow, standIns := [], harness := (true, "3433856ebe03e32f5c58ede8c2a44e2ed70bf5814adc12574b4ded9b50c6bc00"), looks := true }, kinds := [], alts := [], laidByText := true, laidKinds := [.data, .data, .data, .data], laidTests := true, laidLooks := .later }
def RopeSameUptoCardSaid : Prop := Claim7.holds Tryd.pinned (.plain (OpenSpec.upto ropeSameSpec)) ropeSameUptoCard

/-- THE SECOND FORM's CARD OF 'galleylaw09.RopeNil'. -/
def ropeNilUptoCard : Claim7 := { stood := { row := ropeNilUptoRow, standIns := [], harness := (true, "3433856ebe03e32f5c58ede8c2a44e2ed70bf5814adc12574b4ded9b50c6bc00"), looks := true }, kinds := [], alts := [], laidByText := true, laidKinds := [.data, .data, .data, .data], laidTests := true, laidLooks := .later }
def RopeNilUptoCardSaid : Prop := Claim7.holds Tryd.pinned (.plain (OpenSpec.upto ropeNilSpec)) ropeNilUptoCard

/-- THE SECOND FORM's CARD OF 'galleylaw09.RopeOwn'. -/
def ropeOwnUptoCard : Claim7 := { stood := { row := ropeOwnUptoRow, standIns := [], harness := (true, "3433856ebe03e32f5c58ede8c2a44e2ed70bf5814adc12574b4ded9b50c6bc00"), looks := true }, kinds := [], alts := [], laidByText := true, laidKinds := [.data, .data, .data, .data], laidTests := true, laidLooks := .later }
def RopeOwnUptoCardSaid : Prop := Claim7.holds Tryd.pinned (.plain (OpenSpec.upto ropeOwnSpec)) ropeOwnUptoCard

/-- THE SECOND FORM's CARD OF 'galleylaw12.EditBack'. -/
def editBackUptoCard : Claim7 := { stood := { row := editBackUptoRow, standIns := [], harness := (true, "3433856ebe03e32f5c58ede8c2a44e2ed70bf5814adc12574b4ded9b50c6bc00"), looks := true }, kinds := [], alts := [], laidByText := true, laidKinds := [.data, .data, .data, .data], laidTests := true, laidLooks := .later }
def EditBackUptoCardSaid : Prop := Claim7.holds Tryd.pinned (.plain (OpenSpec.upto editBackSpec)) editBackUptoCard

/-- THE SECOND FORM's CARD OF 'galleylaw12.EditOrder'. -/
def editOrderUptoCard : Claim7 := { stood := { row := editOrderUptoRow, standIns := [], harness := (true, "3433856ebe03e32f5c58ede8c2a44e2ed70bf5814adc12574b4ded9b50c6bc00"), looks := true }, kinds := [], alts := [], laidByText := true, laidKinds := [.data, .data, .data, .data], laidTests := true, laidLooks := .later }
def EditOrderUptoCardSaid : Prop := Claim7.holds Tryd.pinned (.plain (OpenSpec.upto editOrderSpec)) editOrderUptoCard

/-- THE SECOND FORM's CARD OF 'galleylaw12.EditNil'. -/
def editNilUptoCard : Claim7 := { stood := { row := editNilUptoRow, standIns := [], harness := (true, "3433856ebe03e32f5c58ede8c2a44e2ed70bf5814adc12574b4ded9b50c6bc00"), looks := true }, kinds := [], alts := [], laidByText := true, laidKinds := [.data, .data, .data, .data], laidTests := true, laidLooks := .later }
def EditNilUptoCardSaid : Prop := Claim7.holds Tryd.pinned (.plain (OpenSpec.upto editNilSpec)) editNilUptoCard
end Rows
end Go.Proofs.YtliphfgiaioebaaDoor
