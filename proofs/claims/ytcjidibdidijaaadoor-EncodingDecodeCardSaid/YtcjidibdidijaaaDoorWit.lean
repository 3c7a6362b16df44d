/- The witness' world of the laws over the laid table: the heap that the door's own run leaves. -/
import Derived.Test.YtcjidibdidijaaaDoorCards
import Derived.Test.YtcjidibdidijaaaDoorTie
import Derived.Test.YtcjidibdidijaaaDoorLaid
import Derived.WalkKit
import Derived.ProofKit
import Derived.OpenShut
import Derived.Deep.DeepHandedRow
import Derived.Deep.DeepWitnessRowRef
import Derived.LaidMore
import Derived.Below
import Derived.SizedLaws
namespace Go.Proofs.YtcjidibdidijaaaDoor
open Go.ChangeShapes Go.WideShapes Go.ChangeAt Go.RowKit

theorem own : ownKnob Tryd.prog.godebug = none := by kernel_rfl
noncomputable def door (os : Os) : World := World.doorLaid Tryd.prog 3000 os
theorem door_met (os : Os) (args : Array Value) : laidMet Tryd.prog [("fulling/machine.table", Rows.laid_fulling_machine_table)] ((door os).forCall (fun _ _ => 0) ⟨#[], args, []⟩).memory :=
  laidMet_of_run' 8 (by kernel_rfl) (by kernel_rfl)
theorem door_vars (os : Os) (args : Array Value) : ((door os).forCall (fun _ _ => 0) ⟨#[], args, []⟩).variablesRefB Tryd.checked.prog = true := by kernel_rfl
theorem door_heap (os : Os) (args : Array Value) : ((((door os).forCall (fun _ _ => 0) ⟨#[], args, []⟩).heap.toList.drop Tryd.checked.prog.globals.size).take ((begin Tryd.checked.prog (fun _ _ => 0) default).world.heap.size - Tryd.checked.prog.globals.size)) = (begin Tryd.checked.prog (fun _ _ => 0) default).world.heap.toList.drop Tryd.checked.prog.globals.size := by kernel_rfl
end Go.Proofs.YtcjidibdidijaaaDoor
