/-
  Closed facts on the program as a whole, reckoned once by the kernel; each law's card takes them from here.
  Conditions: none.
-/
import Derived.Test.YtcakednecmngdaaDoorRows
import Derived.JoinedOf
import Derived.SevenTiedAt
namespace Go.Proofs.YtcakednecmngdaaDoor.Facts
open Go
theorem laidOut : laidOutB Tryd.pinned.checked.prog = true := by kernel_rfl
theorem rowed : mapsRowed Tryd.pinned.checked.prog = true := by kernel_rfl
theorem stops : (Tryd.pinned.checked.prog.stops == []) = true := by kernel_rfl
theorem stopKnobs : (Tryd.pinned.checked.prog.stopKnobs == []) = true := by kernel_rfl
theorem plainKeys : (Rows.dnsUndersRow.plainKeys == Tryd.pinned.checked.prog.plainKeys) = true := by kernel_rfl
theorem stopsHeard : Tryd.pinned.checked.prog.stopsHeard = true := by kernel_rfl
theorem mayEnter : Tryd.pinned.checked.prog.mayEnter = true := by kernel_rfl
theorem lifted : (Rows.dnsUndersRow.lifted == Tryd.pinned.checked.prog.liftsFinal) = true := by kernel_rfl
theorem make : (Tryd.pinned.checked.prog.make == some Rows.dnsUndersRow.make) = true := by kernel_rfl
theorem looks : true = Tryd.pinned.checked.prog.looks [] := by kernel_rfl
theorem mainIs : Tryd.pinned.checked.prog.mainIs = some (true, "d75507db2a88d81330456835d569fc8e35a844794ce3343c87ac0712c07b36f6".toList) := by kernel_rfl
end Go.Proofs.YtcakednecmngdaaDoor.Facts
