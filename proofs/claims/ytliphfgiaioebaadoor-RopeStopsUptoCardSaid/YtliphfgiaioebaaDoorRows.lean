/-
  NARROWER THAN 'FOR EVERY INPUT', by the rows' own cells (each row's printed sentence says how): RopeScripts: laid · RopeFirst: laid · RopeAny: laid · EditPlaces: laid · RopePieces: laid · RopeStops: laid · RopeDepth: laid · RopeGrows: laid · RopeSame: laid · RopeNil: laid · RopeOwn: laid · EditBack: laid · EditOrder: laid · EditNil: laid.
  DERIVED. THE GIVEN ROWS OF THIS SEAT. 14 by the template 'for every input the law returns true; each argument reads behind the call as it read before'; 0 by the template 'total and deterministic' (their statements: YtliphfgiaioebaaDoorTotals.lean).
  GIVEN WITH THE SEED: the statements are not yours to turn. If you find one false, say at which input.
  Laid BY PROGRAM, IN A SANDBOX (cutbox-rows.mjs): the forced cells as the released guide's own fill.sh prints them over the translation e831ab3b31b8e7b1… (all of the seat's roots in one cut). By AI agents, Wed Nov 11 2026. No macro, syntax, notation, axiom, sorry.
-/
import Derived.Test.YtliphfgiaioebaaDoorChecked
import GoSem.Claim
import GoSem.ClaimJoined
import GoSem.ClaimMapViews
import Derived.JoinedTies
import Derived.KernelRfl
namespace Go.Proofs.YtliphfgiaioebaaDoor
/- THE CELL 'sum', in the pinned program and in every row, IS THE sha256 OF THE DUMP (.gsa) THAT YtliphfgiaioebaaDoorProg.lean LOADS. Nothing in Lean hashes anything: it is a label: what it is worth is what the hold of that sum in a sandbox is worth. -/
noncomputable def Tryd.pinned : Pinned := { name := "ytliphfgiaioebaadoor", sum := "e831ab3b31b8e7b18538c23c02f9f7fc7ceb425956c795a234c169441332a1b7", checked := Tryd.checked }
namespace Rows
def none {H : Type} : Left H := { results := [], args := [] }

/- WHAT THE LISTED PACKAGE-LEVEL VARIABLES READ AS WHEN THE CALL BEGINS. Each datum BY PROGRAM (the guide's laid-datum.mjs) off the statement by which the dump's own 'gosem.cut.vars' lays the variable. In a bare row this is a premise. The card (YtliphfgiaioebaaDoorCards.lean) ties it to the program's text. -/
def laid_galley_octet_spans {H : Type} : DataW H := .agg [.agg [.lit (.int .i64 0), .lit (.int .i64 127), .lit (.int .i64 1)], .agg [.lit (.int .i64 128), .lit (.int .i64 191), .lit (.int .i64 2)], .agg [.lit (.int .i64 192), .lit (.int .i64 193), .lit (.int .i64 6)], .agg [.lit (.int .i64 194), .lit (.int .i64 223), .lit (.int .i64 3)], .agg [.lit (.int .i64 224), .lit (.int .i64 239), .lit (.int .i64 4)], .agg [.lit (.int .i64 240), .lit (.int .i64 244), .lit (.int .i64 5)], .agg [.lit (.int .i64 245), .lit (.int .i64 255), .lit (.int .i64 6)]]
def laid_galley_octet_needs {H : Type} : DataW H := .agg [.lit (.int .i64 0), .lit (.int .i64 1), .lit (.int .i64 0), .lit (.int .i64 2), .lit (.int .i64 3), .lit (.int .i64 4), .lit (.int .i64 0)]
def laid_galley_octet_masks {H : Type} : DataW H := .agg [.lit (.int .u8 0), .lit (.int .u8 127), .lit (.int .u8 31), .lit (.int .u8 15), .lit (.int .u8 7)]
def laid_galley_step_bad {H : Type} : DataW H := .agg [.lit (.int .i32 65533), .lit (.int .i64 1), .lit (.bool false)]

/-- 'galleylaw09.RopeScripts': WHATEVER THE INPUT: true; the input reads as it did. -/
def ropeScriptsSpec : ChangeSpec := { name := "ropeScripts", fn := fun _ => fun
  | [d1, d2, d3] => { results := [.lit (.bool true)], args := [d1, d2, d3] }
  | _ => none }
def ropeScriptsRow : OpenClaim := { program := "ytliphfgiaioebaadoor", sum := "e831ab3b31b8e7b18538c23c02f9f7fc7ceb425956c795a234c169441332a1b7", func := "galley/galleylaw09.RopeScripts", spec := "ropeScripts", unfollowed := true, recurses := true, named := ["galley/step.bad", "galley/octet.masks", "galley/octet.needs", "galley/octet.spans"], apart := false, laid := [("galley/octet.spans", laid_galley_octet_spans), ("galley/octet.needs", laid_galley_octet_needs), ("galley/octet.masks", laid_galley_octet_masks), ("galley/step.bad", laid_galley_step_bad)] }
def RopeScriptsSaid : Prop := ropeScriptsRow.holds Tryd.pinned (OpenSpec.ofChange ropeScriptsSpec)

/-- ITS FALSE NEIGHBOUR: 'it returns false'. Refute it at one input. -/
def ropeScriptsWrong : ChangeSpec := { name := "ropeScripts", fn := fun _ => fun
  | [d1, d2, d3] => { results := [.lit (.bool false)], args := [d1, d2, d3] }
  | _ => none }
def RopeScriptsWrongFalsely : Prop := ropeScriptsRow.holds Tryd.pinned (OpenSpec.ofChange ropeScriptsWrong)

/-- 'galleylaw09.RopeFirst': WHATEVER THE INPUT: true; the input reads as it did. -/
def ropeFirstSpec : ChangeSpec := { name := "ropeFirst", fn := fun _ => fun
  | [d1, d2, d3] => { results := [.lit (.bool true)], args := [d1, d2, d3] }
  | _ => none }
def ropeFirstRow : OpenClaim := { program := "ytliphfgiaioebaadoor", sum := "e831ab3b31b8e7b18538c23c02f9f7fc7ceb425956c795a234c169441332a1b7", func := "galley/galleylaw09.RopeFirst", spec := "ropeFirst", unfollowed := true, recurses := true, named := ["galley/step.bad", "galley/octet.masks", "galley/octet.needs", "galley/octet.spans"], apart := false, laid := [("galley/octet.spans", laid_galley_octet_spans), ("galley/octet.needs", laid_galley_octet_needs), ("galley/octet.masks", laid_galley_octet_masks), ("galley/step.bad", laid_galley_step_bad)] }
def RopeFirstSaid : Prop := ropeFirstRow.holds Tryd.pinned (OpenSpec.ofChange ropeFirstSpec)

/-- ITS FALSE NEIGHBOUR: 'it returns false'. Refute it at one input. -/
def ropeFirstWrong : ChangeSpec := { name := "ropeFirst", fn := fun _ => fun
  | [d1, d2, d3] => { results := [.lit (.bool false)], args := [d1, d2, d3] }
  | _ => none }
def RopeFirstWrongFalsely : Prop := ropeFirstRow.holds Tryd.pinned (OpenSpec.ofChange ropeFirstWrong)

/-- 'galleylaw09.RopeAny': WHATEVER THE INPUT: true; the input reads as it did. -/
def ropeAnySpec : ChangeSpec := { name := "ropeAny", fn := fun _ => fun
  | [d1, d2, d3] => { results := [.lit (.bool true)], args := [d1, d2, d3] }
  | _ => none }
def ropeAnyRow : OpenClaim := { program := "ytliphfgiaioebaadoor", sum := "e831ab3b31b8e7b18538c23c02f9f7fc7ceb425956c795a234c169441332a1b7", func := "galley/galleylaw09.RopeAny", spec := "ropeAny", unfollowed := true, recurses := true, named := ["galley/step.bad", "galley/octet.masks", "galley/octet.needs", "galley/octet.spans"], apart := false, laid := [("galley/octet.spans", laid_galley_octet_spans), ("galley/octet.needs", laid_galley_octet_needs), ("galley/octet.masks", laid_galley_octet_masks), ("galley/step.bad", laid_galley_step_bad)] }
def RopeAnySaid : Prop := ropeAnyRow.holds Tryd.pinned (OpenSpec.ofChange ropeAnySpec)

/-- ITS FALSE NEIGHBOUR: 'it returns false'. Refute it at one input. -/
def ropeAnyWrong : ChangeSpec := { name := "ropeAny", fn := fun _ => fun
  | [d1, d2, d3] => { results := [.lit (.bool false)], args := [d1, d2, d3] }
  | _ => none }
def RopeAnyWrongFalsely : Prop := ropeAnyRow.holds Tryd.pinned (OpenSpec.ofChange ropeAnyWrong)

/-- 'galleylaw12.EditPlaces': WHATEVER THE INPUT: true; the input reads as it did. -/
def editPlacesSpec : ChangeSpec := { name := "editPlaces", fn := fun _ => fun
  | [d1, d2, d3] => { results := [.lit (.bool true)], args := [d1, d2, d3] }
  | _ => none }
def editPlacesRow : OpenClaim := { program := "ytliphfgiaioebaadoor", sum := "e831ab3b31b8e7b18538c23c02f9f7fc7ceb425956c795a234c169441332a1b7", func := "galley/galleylaw12.EditPlaces", spec := "editPlaces", unfollowed := true, recurses := true, named := ["galley/step.bad", "galley/octet.masks", "galley/octet.needs", "galley/octet.spans"], apart := false, laid := [("galley/octet.spans", laid_galley_octet_spans), ("galley/octet.needs", laid_galley_octet_needs), ("galley/octet.masks", laid_galley_octet_masks), ("galley/step.bad", laid_galley_step_bad)] }
def EditPlacesSaid : Prop := editPlacesRow.holds Tryd.pinned (OpenSpec.ofChange editPlacesSpec)

/-- ITS FALSE NEIGHBOUR: 'it returns false'. Refute it at one input. -/
def editPlacesWrong : ChangeSpec := { name := "editPlaces", fn := fun _ => fun
  | [d1, d2, d3] => { results := [.lit (.bool false)], args := [d1, d2, d3] }
  | _ => none }
def EditPlacesWrongFalsely : Prop := editPlacesRow.holds Tryd.pinned (OpenSpec.ofChange editPlacesWrong)

/-- 'galleylaw09.RopePieces': WHATEVER THE INPUT: true; the input reads as it did. -/
def ropePiecesSpec : ChangeSpec := { name := "ropePieces", fn := fun _ => fun
  | [d1, d2] => { results := [.lit (.bool true)], args := [d1, d2] }
  | _ => none }
def ropePiecesRow : OpenClaim := { program := "ytliphfgiaioebaadoor", sum := "e831ab3b31b8e7b18538c23c02f9f7fc7ceb425956c795a234c169441332a1b7", func := "galley/galleylaw09.RopePieces", spec := "ropePieces", unfollowed := true, recurses := true, named := ["galley/step.bad", "galley/octet.masks", "galley/octet.needs", "galley/octet.spans"], apart := false, laid := [("galley/octet.spans", laid_galley_octet_spans), ("galley/octet.needs", laid_galley_octet_needs), ("galley/octet.masks", laid_galley_octet_masks), ("galley/step.bad", laid_galley_step_bad)] }
def RopePiecesSaid : Prop := ropePiecesRow.holds Tryd.pinned (OpenSpec.ofChange ropePiecesSpec)

/-- ITS FALSE NEIGHBOUR: 'it returns false'. Refute it at one input. -/
def ropePiecesWrong : ChangeSpec := { name := "ropePieces", fn := fun _ => fun
  | [d1, d2] => { results := [.lit (.bool false)], args := [d1, d2] }
  | _ => none }
def RopePiecesWrongFalsely : Prop := ropePiecesRow.holds Tryd.pinned (OpenSpec.ofChange ropePiecesWrong)

/-- 'galleylaw09.RopeStops': WHATEVER THE INPUT: true; the input reads as it did. -/
def ropeStopsSpec : ChangeSpec := { name := "ropeStops", fn := fun _ => fun
  | [d1, d2, d3] => { results := [.lit (.bool true)], args := [d1, d2, d3] }
  | _ => none }
def ropeStopsRow : OpenClaim := { program := "ytliphfgiaioebaadoor", sum := "e831ab3b31b8e7b18538c23c02f9f7fc7ceb425956c795a234c169441332a1b7", func := "galley/galleylaw09.RopeStops", spec := "ropeStops", unfollowed := true, recurses := true, named := ["galley/step.bad", "galley/octet.masks", "galley/octet.needs", "galley/octet.spans"], apart := false, laid := [("galley/octet.spans", laid_galley_octet_spans), ("galley/octet.needs", laid_galley_octet_needs), ("galley/octet.masks", laid_galley_octet_masks), ("galley/step.bad", laid_galley_step_bad)] }
def RopeStopsSaid : Prop := ropeStopsRow.holds Tryd.pinned (OpenSpec.ofChange ropeStopsSpec)

/-- ITS FALSE NEIGHBOUR: 'it returns false'. Refute it at one input. -/
def ropeStopsWrong : ChangeSpec := { name := "ropeStops", fn := fun _ => fun
  | [d1, d2, d3] => { results := [.lit (.bool false)], args := [d1, d2, d3] }
  | _ => none }
def RopeStopsWrongFalsely : Prop := ropeStopsRow.holds Tryd.pinned (OpenSpec.ofChange ropeStopsWrong)

/-- 'galleylaw09.RopeDepth': WHATEVER THE INPUT: true; the input reads as it did. -/
def ropeDepthSpec : ChangeSpec := { name := "ropeDepth", fn := fun _ => fun
  | [d] => { results := [.lit (.bool true)], args := [d] }
  | _ => none }
def ropeDepthRow : OpenClaim := { program := "ytliphfgiaioebaadoor", sum := "e831ab3b31b8e7b18538c23c02f9f7fc7ceb425956c795a234c169441332a1b7", func := "galley/galleylaw09.RopeDepth", spec := "ropeDepth", unfollowed := true, recurses := true, named := ["galley/step.bad", "galley/octet.masks", "galley/octet.needs", "galley/octet.spans"], apart := false, laid := [("galley/octet.spans", laid_galley_octet_spans), ("galley/octet.needs", laid_galley_octet_needs), ("galley/octet.masks", laid_galley_octet_masks), ("galley/step.bad", laid_galley_step_bad)] }
def RopeDepthSaid : Prop := ropeDepthRow.holds Tryd.pinned (OpenSpec.ofChange ropeDepthSpec)

/-- ITS FALSE NEIGHBOUR: 'it returns false'. Refute it at one input. -/
def ropeDepthWrong : ChangeSpec := { name := "ropeDepth", fn := fun _ => fun
  | [d] => { results := [.lit (.bool false)], args := [d] }
  | _ => none }
def RopeDepthWrongFalsely : Prop := ropeDepthRow.holds Tryd.pinned (OpenSpec.ofChange ropeDepthWrong)

/-- 'galleylaw09.RopeGrows': WHATEVER THE INPUT: true; the input reads as it did. -/
def ropeGrowsSpec : ChangeSpec := { name := "ropeGrows", fn := fun _ => fun
  | [d1, d2, d3] => { results := [.lit (.bool true)], args := [d1, d2, d3] }
  | _ => none }
def ropeGrowsRow : OpenClaim := { program := "ytliphfgiaioebaadoor", sum := "e831ab3b31b8e7b18538c23c02f9f7fc7ceb425956c795a234c169441332a1b7", func := "galley/galleylaw09.RopeGrows", spec := "ropeGrows", unfollowed := true, recurses := true, named := ["galley/step.bad", "galley/octet.masks", "galley/octet.needs", "galley/octet.spans"], apart := false, laid := [("galley/octet.spans", laid_galley_octet_spans), ("galley/octet.needs", laid_galley_octet_needs), ("galley/octet.masks", laid_galley_octet_masks), ("galley/step.bad", laid_galley_step_bad)] }
def RopeGrowsSaid : Prop := ropeGrowsRow.holds Tryd.pinned (OpenSpec.ofChange ropeGrowsSpec)

/-- ITS FALSE NEIGHBOUR: 'it returns false'. Refute it at one input. -/
def ropeGrowsWrong : ChangeSpec := { name := "ropeGrows", fn := fun _ => fun
  | [d1, d2, d3] => { results := [.lit (.bool false)], args := [d1, d2, d3] }
  | _ => none }
def RopeGrowsWrongFalsely : Prop := ropeGrowsRow.holds Tryd.pinned (OpenSpec.ofChange ropeGrowsWrong)

/-- 'galleylaw09.RopeSame': WHATEVER THE INPUT: true; the input reads as it did. -/
def ropeSameSpec : ChangeSpec := { name := "ropeSame", fn := fun _ => fun
  | [d1, d2] => { results := [.lit (.bool true)], args := [d1, d2] }
  | _ => none }
def ropeSameRow : OpenClaim := { program := "ytliphfgiaioebaadoor", sum := "e831ab3b31b8e7b18538c23c02f9f7fc7ceb425956c795a234c169441332a1b7", func := "galley/galleylaw09.RopeSame", spec := "ropeSame", unfollowed := true, recurses := true, named := ["galley/step.bad", "galley/octet.masks", "galley/octet.needs", "galley/octet.spans"], apart := false, laid := [("galley/octet.spans", laid_galley_octet_spans), ("galley/octet.needs", laid_galley_octet_needs), ("galley/octet.masks", laid_galley_octet_masks), ("galley/step.bad", laid_galley_step_bad)] }
def RopeSameSaid : Prop := ropeSameRow.holds Tryd.pinned (OpenSpec.ofChange ropeSameSpec)

/-- ITS FALSE NEIGHBOUR: 'it returns false'. Refute it at one input. -/
def ropeSameWrong : ChangeSpec := { name := "ropeSame", fn := fun _ => fun
  | [d1, d2] => { results := [.lit (.bool false)], args := [d1, d2] }
  | _ => none }
def RopeSameWrongFalsely : Prop := ropeSameRow.holds Tryd.pinned (OpenSpec.ofChange ropeSameWrong)

/-- 'galleylaw09.RopeNil': WHATEVER THE INPUT: true; the input reads as it did. -/
def ropeNilSpec : ChangeSpec := { name := "ropeNil", fn := fun _ => fun
  | [d1, d2, d3] => { results := [.lit (.bool true)], args := [d1, d2, d3] }
  | _ => none }
def ropeNilRow : OpenClaim := { program := "ytliphfgiaioebaadoor", sum := "e831ab3b31b8e7b18538c23c02f9f7fc7ceb425956c795a234c169441332a1b7", func := "galley/galleylaw09.RopeNil", spec := "ropeNil", unfollowed := true, recurses := true, named := ["galley/step.bad", "galley/octet.masks", "galley/octet.needs", "galley/octet.spans"], apart := false, laid := [("galley/octet.spans", laid_galley_octet_spans), ("galley/octet.needs", laid_galley_octet_needs), ("galley/octet.masks", laid_galley_octet_masks), ("galley/step.bad", laid_galley_step_bad)] }
def RopeNilSaid : Prop := ropeNilRow.holds Tryd.pinned (OpenSpec.ofChange ropeNilSpec)

/-- ITS FALSE NEIGHBOUR: 'it returns false'. Refute it at one input. -/
def ropeNilWrong : ChangeSpec := { name := "ropeNil", fn := fun _ => fun
  | [d1, d2, d3] => { results := [.lit (.bool false)], args := [d1, d2, d3] }
  | _ => none }
def RopeNilWrongFalsely : Prop := ropeNilRow.holds Tryd.pinned (OpenSpec.ofChange ropeNilWrong)

/-- 'galleylaw09.RopeOwn': WHATEVER THE INPUT: true; the input reads as it did. -/
def ropeOwnSpec : ChangeSpec := { name := "ropeOwn", fn := fun _ => fun
  | [d1, d2] => { results := [.lit (.bool true)], args := [d1, d2] }
  | _ => none }
def ropeOwnRow : OpenClaim := { program := "ytliphfgiaioebaadoor", sum := "e831ab3b31b8e7b18538c23c02f9f7fc7ceb425956c795a234c169441332a1b7", func := "galley/galleylaw09.RopeOwn", spec := "ropeOwn", unfollowed := true, recurses := true, named := ["galley/step.bad", "galley/octet.masks", "galley/octet.needs", "galley/octet.spans"], apart := false, laid := [("galley/octet.spans", laid_galley_octet_spans), ("galley/octet.needs", laid_galley_octet_needs), ("galley/octet.masks", laid_galley_octet_masks), ("galley/step.bad", laid_galley_step_bad)] }
def RopeOwnSaid : Prop := ropeOwnRow.holds Tryd.pinned (OpenSpec.ofChange ropeOwnSpec)

/-- ITS FALSE NEIGHBOUR: 'it returns false'. Refute it at one input. -/
def ropeOwnWrong : ChangeSpec := { name := "ropeOwn", fn := fun _ => fun
  | [d1, d2] => { results := [.lit (.bool false)], args := [d1, d2] }
  | _ => none }
def RopeOwnWrongFalsely : Prop := ropeOwnRow.holds Tryd.pinned (OpenSpec.ofChange ropeOwnWrong)

/-- 'galleylaw12.EditBack': WHATEVER THE INPUT: true; the input reads as it did. -/
def editBackSpec : ChangeSpec := { name := "editBack", fn := fun _ => fun
  | [d1, d2] => { results := [.lit (.bool true)], args := [d1, d2] }
  | _ => none }
def editBackRow : OpenClaim := { program := "ytliphfgiaioebaadoor", sum := "e831ab3b31b8e7b18538c23c02f9f7fc7ceb425956c795a234c169441332a1b7", func := "galley/galleylaw12.EditBack", spec := "editBack", unfollowed := true, recurses := true, named := ["galley/step.bad", "galley/octet.masks", "galley/octet.needs", "galley/octet.spans"], apart := false, laid := [("galley/octet.spans", laid_galley_octet_spans), ("galley/octet.needs", laid_galley_octet_needs), ("galley/octet.masks", laid_galley_octet_masks), ("galley/step.bad", laid_galley_step_bad)] }
def EditBackSaid : Prop := editBackRow.holds Tryd.pinned (OpenSpec.ofChange editBackSpec)

/-- ITS FALSE NEIGHBOUR: 'it returns false'. Refute it at one input. -/
def editBackWrong : ChangeSpec := { name := "editBack", fn := fun _ => fun
  | [d1, d2] => { results := [.lit (.bool false)], args := [d1, d2] }
  | _ => none }
def EditBackWrongFalsely : Prop := editBackRow.holds Tryd.pinned (OpenSpec.ofChange editBackWrong)

/-- 'galleylaw12.EditOrder': WHATEVER THE INPUT: true; the input reads as it did. -/
def editOrderSpec : ChangeSpec := { name := "editOrder", fn := fun _ => fun
  | [d1, d2, d3] => { results := [.lit (.bool true)], args := [d1, d2, d3] }
  | _ => none }
def editOrderRow : OpenClaim := { program := "ytliphfgiaioebaadoor", sum := "e831ab3b31b8e7b18538c23c02f9f7fc7ceb425956c795a234c169441332a1b7", func := "galley/galleylaw12.EditOrder", spec := "editOrder", unfollowed := true, recurses := true, named := ["galley/step.bad", "galley/octet.masks", "galley/octet.needs", "galley/octet.spans"], apart := false, laid := [("galley/octet.spans", laid_galley_octet_spans), ("galley/octet.needs", laid_galley_octet_needs), ("galley/octet.masks", laid_galley_octet_masks), ("galley/step.bad", laid_galley_step_bad)] }
def EditOrderSaid : Prop := editOrderRow.holds Tryd.pinned (OpenSpec.ofChange editOrderSpec)

/-- ITS FALSE NEIGHBOUR: 'it returns false'. Refute it at one input. -/
def editOrderWrong : ChangeSpec := { name := "editOrder", fn := fun _ => fun
  | [d1, d2, d3] => { results := [.lit (.bool false)], args := [d1, d2, d3] }
  | _ => none }
def EditOrderWrongFalsely : Prop := editOrderRow.holds Tryd.pinned (OpenSpec.ofChange editOrderWrong)

/-- 'galleylaw12.EditNil': WHATEVER THE INPUT: true; the input reads as it did. -/
def editNilSpec : ChangeSpec := { name := "editNil", fn := fun _ => fun
  | [d1, d2, d3] => { results := [.lit (.bool true)], args := [d1, d2, d3] }
  | _ => none }
def editNilRow : OpenClaim := { program := "ytliphfgiaioebaadoor", sum := "e831ab3b31b8e7b18538c23c02f9f7fc7ceb425956c795a234c169441332a1b7", func := "galley/galleylaw12.EditNil", spec := "editNil", unfollowed := true, recurses := true, named := ["galley/step.bad", "galley/octet.masks", "galley/octet.needs", "galley/octet.spans"], apart := false, laid := [("galley/octet.spans", laid_galley_octet_spans), ("galley/octet.needs", laid_galley_octet_needs), ("galley/octet.masks", laid_galley_octet_masks), ("galley/step.bad", laid_galley_step_bad)] }
def EditNilSaid : Prop := editNilRow.holds Tryd.pinned (OpenSpec.ofChange editNilSpec)

/-- ITS FALSE NEIGHBOUR: 'it returns false'. Refute it at one input. -/
def editNilWrong : ChangeSpec := { name := "editNil", fn := fun _ => fun
  | [d1, d2, d3] => { results := [.lit (.bool false)], args := [d1, d2, d3] }
  | _ => none }
def EditNilWrongFalsely : Prop := editNilRow.holds Tryd.pinned (OpenSpec.ofChange editNilWrong)

/- THE SECOND FORM. 'bulk': how many values and letters a reading holds, each counted each time it is reached (what is shared counts as often as it is met; a slice's spare places count too). A statement '..UptoSaid' is the law's where the arguments, and the package variables that the reading takes, are together of bulk at most 1048576: NARROWER than '..Said'. Prove '..Said' where nothing that the law and all that it calls make is longer than what came in: it says more and counts as full. Else prove '..UptoSaid'. A law counts once. -/
mutual
def uptoBulk {H : Type} : DataW H → Nat
  | .lit (.string bytes) => bytes.length + 1
  | .lit _ => 1
  | .nil => 1
  | .ptr d => uptoBulk d + 1
  | .slice elems spare => uptoBulkAll elems + uptoBulkAll spare + 1
  | .agg parts => uptoBulkAll parts + 1
  | .iface _ d => uptoBulk d + 1
  | .map entries => uptoBulkEntries entries + 1
  | .held _ => 1
def uptoBulkAll {H : Type} : List (DataW H) → Nat
  | [] => 0
  | d :: r => uptoBulk d + uptoBulkAll r
def uptoBulkEntries {H : Type} : List (Lit × DataW H) → Nat
  | [] => 0
  | x :: r => uptoBulkEntry x + uptoBulkEntries r
def uptoBulkEntry {H : Type} : Lit × DataW H → Nat
  | (.string bytes, d) => bytes.length + uptoBulk d + 1
  | (_, d) => uptoBulk d + 1
 end
def uptoSmall : (H : Type) → List (DataW H) → Bool := fun _ ds => decide (uptoBulkAll ds ≤ 1048576)
def OpenSpec.upto (s : _root_.Go.ChangeSpec) : _root_.Go.OpenSpec := { _root_.Go.OpenSpec.ofChange s with cond := some uptoSmall }

/-- 'galleylaw09.RopeScripts', WHERE WHAT IT READS IS OF BULK AT MOST 1048576: true; the input reads as it did. -/
def ropeScriptsUptoRow : OpenClaim := { program := "ytliphfgiaioebaadoor", sum := "e831ab3b31b8e7b18538c23c02f9f7fc7ceb425956c795a234c169441332a1b7", func := "galley/galleylaw09.RopeScripts", spec := "ropeScripts", unfollowed := true, recurses := true, named := ["galley/step.bad", "galley/octet.masks", "galley/octet.needs", "galley/octet.spans"], apart := false, laid := [("galley/octet.spans", laid_galley_octet_spans), ("galley/octet.needs", laid_galley_octet_needs), ("galley/octet.masks", laid_galley_octet_masks), ("galley/step.bad", laid_galley_step_bad)], narrowed := true }
def RopeScriptsUptoSaid : Prop := ropeScriptsUptoRow.holds Tryd.pinned (OpenSpec.upto ropeScriptsSpec)

/-- 'galleylaw09.RopeFirst', WHERE WHAT IT READS IS OF BULK AT MOST 1048576: true; the input reads as it did. -/
def ropeFirstUptoRow : OpenClaim := { program := "ytliphfgiaioebaadoor", sum := "e831ab3b31b8e7b18538c23c02f9f7fc7ceb425956c795a234c169441332a1b7", func := "galley/galleylaw09.RopeFirst", spec := "ropeFirst", unfollowed := true, recurses := true, named := ["galley/step.bad", "galley/octet.masks", "galley/octet.needs", "galley/octet.spans"], apart := false, laid := [("galley/octet.spans", laid_galley_octet_spans), ("galley/octet.needs", laid_galley_octet_needs), ("galley/octet.masks", laid_galley_octet_masks), ("galley/step.bad", laid_galley_step_bad)], narrowed := true }
def RopeFirstUptoSaid : Prop := ropeFirstUptoRow.holds Tryd.pinned (OpenSpec.upto ropeFirstSpec)

/-- 'galleylaw09.RopeAny', WHERE WHAT IT READS IS OF BULK AT MOST 1048576: true; the input reads as it did. -/
def ropeAnyUptoRow : OpenClaim := { program := "ytliphfgiaioebaadoor", sum := "e831ab3b31b8e7b18538c23c02f9f7fc7ceb425956c795a234c169441332a1b7", func := "galley/galleylaw09.RopeAny", spec := "ropeAny", unfollowed := true, recurses := true, named := ["galley/step.bad", "galley/octet.masks", "galley/octet.needs", "galley/octet.spans"], apart := false, laid := [("galley/octet.spans", laid_galley_octet_spans), ("galley/octet.needs", laid_galley_octet_needs), ("galley/octet.masks", laid_galley_octet_masks), ("galley/step.bad", laid_galley_step_bad)], narrowed := true }
def RopeAnyUptoSaid : Prop := ropeAnyUptoRow.holds Tryd.pinned (OpenSpec.upto ropeAnySpec)

/-- 'galleylaw12.EditPlaces', WHERE WHAT IT READS IS OF BULK AT MOST 1048576: true; the input reads as it did. -/
def editPlacesUptoRow : OpenClaim := { program := "ytliphfgiaioebaadoor", sum := "e831ab3b31b8e7b18538c23c02f9f7fc7ceb425956c795a234c169441332a1b7", func := "galley/galleylaw12.EditPlaces", spec := "editPlaces", unfollowed := true, recurses := true, named := ["galley/step.bad", "galley/octet.masks", "galley/octet.needs", "galley/octet.spans"], apart := false, laid := [("galley/octet.spans", laid_galley_octet_spans), ("galley/octet.needs", laid_galley_octet_needs), ("galley/octet.masks", laid_galley_octet_masks), ("galley/step.bad", laid_galley_step_bad)], narrowed := true }
def EditPlacesUptoSaid : Prop := editPlacesUptoRow.holds Tryd.pinned (OpenSpec.upto editPlacesSpec)

/-- 'galleylaw09.RopePieces', WHERE WHAT IT READS IS OF BULK AT MOST 1048576: true; the input reads as it did. -/
def ropePiecesUptoRow : OpenClaim := { program := "ytliphfgiaioebaadoor", sum := "e831ab3b31b8e7b18538c23c02f9f7fc7ceb425956c795a234c169441332a1b7", func := "galley/galleylaw09.RopePieces", spec := "ropePieces", unfollowed := true, recurses := true, named := ["galley/step.bad", "galley/octet.masks", "galley/octet.needs", "galley/octet.spans"], apart := false, laid := [("galley/octet.spans", laid_galley_octet_spans), ("galley/octet.needs", laid_galley_octet_needs), ("galley/octet.masks", laid_galley_octet_masks), ("galley/step.bad", laid_galley_step_bad)], narrowed := true }
def RopePiecesUptoSaid : Prop := ropePiecesUptoRow.holds Tryd.pinned (OpenSpec.upto ropePiecesSpec)

/-- 'galleylaw09.RopeStops', WHERE WHAT IT READS IS OF BULK AT MOST 1048576: true; the input reads as it did. -/
def ropeStopsUptoRow : OpenClaim := { program := "ytliphfgiaioebaadoor", sum := "e831ab3b31b8e7b18538c23c02f9f7fc7ceb425956c795a234c169441332a1b7", func := "galley/galleylaw09.RopeStops", spec := "ropeStops", unfollowed := true, recurses := true, named := ["galley/step.bad", "galley/octet.masks", "galley/octet.needs", "galley/octet.spans"], apart := false, laid := [("galley/octet.spans", laid_galley_octet_spans), ("galley/octet.needs", laid_galley_octet_needs), ("galley/octet.masks", laid_galley_octet_masks), ("galley/step.bad", laid_galley_step_bad)], narrowed := true }
def RopeStopsUptoSaid : Prop := ropeStopsUptoRow.holds Tryd.pinned (OpenSpec.upto ropeStopsSpec)

/-- 'galleylaw09.RopeDepth', WHERE WHAT IT READS IS OF BULK AT MOST 1048576: true; the input reads as it did. -/
def ropeDepthUptoRow : OpenClaim := { program := "ytliphfgiaioebaadoor", sum := "e831ab3b31b8e7b18538c23c02f9f7fc7ceb425956c795a234c169441332a1b7", func := "galley/galleylaw09.RopeDepth", spec := "ropeDepth", unfollowed := true, recurses := true, named := ["galley/step.bad", "galley/octet.masks", "galley/octet.needs", "galley/octet.spans"], apart := false, laid := [("galley/octet.spans", laid_galley_octet_spans), ("galley/octet.needs", laid_galley_octet_needs), ("galley/octet.masks", laid_galley_octet_masks), ("galley/step.bad", laid_galley_step_bad)], narrowed := true }
def RopeDepthUptoSaid : Prop := ropeDepthUptoRow.holds Tryd.pinned (OpenSpec.upto ropeDepthSpec)

/-- 'galleylaw09.RopeGrows', WHERE WHAT IT READS IS OF BULK AT MOST 1048576: true; the input reads as it did. -/
def ropeGrowsUptoRow : OpenClaim := { program := "ytliphfgiaioebaadoor", sum := "e831ab3b31b8e7b18538c23c02f9f7fc7ceb425956c795a234c169441332a1b7", func := "galley/galleylaw09.RopeGrows", spec := "ropeGrows", unfollowed := true, recurses := true, named := ["galley/step.bad", "galley/octet.masks", "galley/octet.needs", "galley/octet.spans"], apart := false, laid := [("galley/octet.spans", laid_galley_octet_spans), ("galley/octet.needs", laid_galley_octet_needs), ("galley/octet.masks", laid_galley_octet_masks), ("galley/step.bad", laid_galley_step_bad)], narrowed := true }
def RopeGrowsUptoSaid : Prop := ropeGrowsUptoRow.holds Tryd.pinned (OpenSpec.upto ropeGrowsSpec)

/-- 'galleylaw09.RopeSame', WHERE WHAT IT READS IS OF BULK AT MOST 1048576: true; the input reads as it did. -/
def ropeSameUptoRow : OpenClaim := { program := "ytliphfgiaioebaadoor", sum := "e831ab3b31b8e7b18538c23c02f9f7fc7ceb425956c795a234c169441332a1b7", func := "galley/galleylaw09.RopeSame", spec := "ropeSame", unfollowed := true, recurses := true, named := ["galley/step.bad", "galley/octet.masks", "galley/octet.needs", "galley/octet.spans"], apart := false, laid := [("galley/octet.spans", laid_galley_octet_spans), ("galley/octet.needs", laid_galley_octet_needs), ("galley/octet.masks", laid_galley_octet_masks), ("galley/step.bad", laid_galley_step_bad)], narrowed := true }
def RopeSameUptoSaid : Prop := ropeSameUptoRow.holds Tryd.pinned (OpenSpec.upto ropeSameSpec)

/-- 'galleylaw09.RopeNil', WHERE WHAT IT READS IS OF BULK AT MOST 1048576: true; the input reads as it did. -/
def ropeNilUptoRow : OpenClaim := { program := "ytliphfgiaioebaadoor", sum := "e831ab3b31b8e7b18538c23c02f9f7fc7ceb425956c795a234c169441332a1b7", func := "galley/galleylaw09.RopeNil", spec := "ropeNil", unfollowed := true, recurses := true, named := ["galley/step.bad", "galley/octet.masks", "galley/octet.needs", "galley/octet.spans"], apart := false, laid := [("galley/octet.spans", laid_galley_octet_spans), ("galley/octet.needs", laid_galley_octet_needs), ("galley/octet.masks", laid_galley_octet_masks), ("galley/step.bad", laid_galley_step_bad)], narrowed := true }
def RopeNilUptoSaid : Prop := ropeNilUptoRow.holds Tryd.pinned (OpenSpec.upto ropeNilSpec)

/-- 'galleylaw09.RopeOwn', WHERE WHAT IT READS IS OF BULK AT MOST 1048576: true; the input reads as it did. -/
def ropeOwnUptoRow : OpenClaim := { program := "ytliphfgiaioebaadoor", sum := "e831ab3b31b8e7b18538c23c02f9f7fc7ceb425956c795a234c169441332a1b7", func := "galley/galleylaw09.RopeOwn", spec := "ropeOwn", unfollowed := true, recurses := true, named := ["galley/step.bad", "galley/octet.masks", "galley/octet.needs", "galley/octet.spans"], apart := false, laid := [("galley/octet.spans", laid_galley_octet_spans), ("galley/octet.needs", laid_galley_octet_needs), ("galley/octet.masks", laid_galley_octet_masks), ("galley/step.bad", laid_galley_step_bad)], narrowed := true }
def RopeOwnUptoSaid : Prop := ropeOwnUptoRow.holds Tryd.pinned (OpenSpec.upto ropeOwnSpec)

/-- 'galleylaw12.EditBack', WHERE WHAT IT READS IS OF BULK AT MOST 1048576: true; the input reads as it did. -/
def editBackUptoRow : OpenClaim := { program := "ytliphfgiaioebaadoor", sum := "e831ab3b31b8e7b18538c23c02f9f7fc7ceb425956c795a234c169441332a1b7", func := "galley/galleylaw12.EditBack", spec := "editBack", unfollowed := true, recurses := true, named := ["galley/step.bad", "galley/octet.masks", "galley/octet.needs", "galley/octet.spans"], apart := false, laid := [("galley/octet.spans", laid_galley_octet_spans), ("galley/octet.needs", laid_galley_octet_needs), ("galley/octet.masks", laid_galley_octet_masks), ("galley/step.bad", laid_galley_step_bad)], narrowed := true }
def EditBackUptoSaid : Prop := editBackUptoRow.holds Tryd.pinned (OpenSpec.upto editBackSpec)

/-- 'galleylaw12.EditOrder', WHERE WHAT IT READS IS OF BULK AT MOST 1048576: true; the input reads as it did. -/
def editOrderUptoRow : OpenClaim := { program := "ytliphfgiaioebaadoor", sum := "e831ab3b31b8e7b18538c23c02f9f7fc7ceb425956c795a234c169441332a1b7", func := "galley/galleylaw12.EditOrder", spec := "editOrder", unfollowed := true, recurses := true, named := ["galley/step.bad", "galley/octet.masks", "galley/octet.needs", "galley/octet.spans"], apart := false, laid := [("galley/octet.spans", laid_galley_octet_spans), ("galley/octet.needs", laid_galley_octet_needs), ("galley/octet.masks", laid_galley_octet_masks), ("galley/step.bad", laid_galley_step_bad)], narrowed := true }
def EditOrderUptoSaid : Prop := editOrderUptoRow.holds Tryd.pinned (OpenSpec.upto editOrderSpec)

/-- 'galleylaw12.EditNil', WHERE WHAT IT READS IS OF BULK AT MOST 1048576: true; the input reads as it did. -/
def editNilUptoRow : OpenClaim := { program := "ytliphfgiaioebaadoor", sum := "e831ab3b31b8e7b18538c23c02f9f7fc7ceb425956c795a234c169441332a1b7", func := "galley/galleylaw12.EditNil", spec := "editNil", unfollowed := true, recurses := true, named := ["galley/step.bad", "galley/octet.masks", "galley/octet.needs", "galley/octet.spans"], apart := false, laid := [("galley/octet.spans", laid_galley_octet_spans), ("galley/octet.needs", laid_galley_octet_needs), ("galley/octet.masks", laid_galley_octet_masks), ("galley/step.bad", laid_galley_step_bad)], narrowed := true }
def EditNilUptoSaid : Prop := editNilUptoRow.holds Tryd.pinned (OpenSpec.upto editNilSpec)

end Rows
end Go.Proofs.YtliphfgiaioebaaDoor
