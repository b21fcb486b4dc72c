/- A start that meets the rows' condition; no condition. -/
import Derived.Test.YtadegppnocmcgaaGreatDoorRows
import Derived.Test.YtadegppnocmcgaaGreatDoorCards
import Derived.Test.YtadegppnocmcgaaGreatDoorTie
import Derived.WalkKit
import Derived.ProofKit
import Derived.OpenShut
import Derived.LaidMore
import Derived.SevenTiedAt
namespace Go.Proofs.YtadegppnocmcgaaGreatDoor
open Go.ChangeShapes Go.WideShapes Go.ChangeAt Go.WideMaps Go.WideElems Go.RowKit
set_option linter.unusedVariables false
set_option maxRecDepth 100000

theorem own : ownKnob Tryz.prog.godebug = none := by kernel_rfl

/-- The heap that the door's own run leaves, with the pinned table in its variable. -/
noncomputable def start0 (os : Os) : World := (World.doorLaid Tryz.prog 400 os).setRow 0 (Go.Pinned.utf8FirstZ.map fun (n : Nat) => Value.int .u8 (n : Int)).toArray
theorem start_met (os : Os) (args : Array Value) : laidMetH Tryz.prog Rows.evalFaultsRow.laid ((start0 os).forCall (fun _ _ => 0) ⟨#[], args, []⟩).memory :=
  laidMetH_of_parts3 (fuel := 8) (laidMet_of_run' 8 (by kernel_rfl) (by kernel_rfl)) (by kernel_rfl) (by kernel_rfl)
theorem start_shaped (os : Os) (args : Array Value) : ((start0 os).forCall (fun _ _ => 0) ⟨#[], args, []⟩).Shaped Tryz.prog := World.shaped_of_RefB (by kernel_rfl) (by kernel_rfl)
end Go.Proofs.YtadegppnocmcgaaGreatDoor
