/- What the rows ask of the program alone, fact by fact: no conditions. -/
import Derived.Test.YthkgbjpkklkppaaGreatDoorRows
import Derived.JoinedOf
namespace Go.Proofs.YthkgbjpkklkppaaGreatDoor.OfProg
open Go.Proofs
theorem andT {a b : Bool} (h : a = true) (k : b = true) : (a && b) = true := by rw [h, k]; rfl
theorem laid : laidOutB Tryz.pinned.checked.prog = true := by kernel_rfl
theorem maps : mapsRowed Tryz.pinned.checked.prog = true := by kernel_rfl
theorem stops : (Tryz.pinned.checked.prog.stops == []) = true := by kernel_rfl
theorem knobs : (Tryz.pinned.checked.prog.stopKnobs == []) = true := by kernel_rfl
theorem heard : Tryz.pinned.checked.prog.stopsHeard = true := by kernel_rfl
theorem enter : Tryz.pinned.checked.prog.mayEnter = true := by kernel_rfl
theorem keys : (false == Tryz.pinned.checked.prog.plainKeys) = true ∨ (true == Tryz.pinned.checked.prog.plainKeys) = true := by cases Tryz.pinned.checked.prog.plainKeys <;> decide
end Go.Proofs.YthkgbjpkklkppaaGreatDoor.OfProg
