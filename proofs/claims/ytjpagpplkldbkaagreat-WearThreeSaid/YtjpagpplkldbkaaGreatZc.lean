/- Closed facts on the program, which every row of the seat asks. -/
import Derived.Test.YtjpagpplkldbkaaGreatRows
import Derived.WalkKit
import Derived.ProofKit
import Derived.OpenShut
namespace Go.Proofs.YtjpagpplkldbkaaGreat.facts
open Go.ChangeShapes Go.WideShapes Go.ChangeAt Go.RowKit
set_option maxRecDepth 100000 in
theorem c1 : laidOutB Tryz.prog = true := by kernel_rfl
set_option maxRecDepth 100000 in
theorem c2 : mapsRowed Tryz.prog = true := by kernel_rfl
set_option maxRecDepth 100000 in
theorem c6 : (Tryz.prog.stops == []) = true := by kernel_rfl
set_option maxRecDepth 100000 in
theorem c8 : (Tryz.prog.stopKnobs == []) = true := by kernel_rfl
set_option maxRecDepth 100000 in
theorem c24 : Tryz.prog.stopsHeard = true := by kernel_rfl
set_option maxRecDepth 100000 in
theorem c25 : Tryz.prog.mayEnter = true := by kernel_rfl
set_option maxRecDepth 100000 in
theorem d22 : (Rows.wearTimesRow.plainKeys == Tryz.prog.plainKeys) = true := by kernel_rfl
theorem c22 (c : OpenClaim) (h : c.plainKeys = Rows.wearTimesRow.plainKeys) : (c.plainKeys == Tryz.prog.plainKeys) = true := by rw [h]; exact d22
set_option maxRecDepth 100000 in
theorem d26 : (Rows.wearTimesRow.lifted == Tryz.prog.liftsFinal) = true := by kernel_rfl
theorem c26 (c : OpenClaim) (h : c.lifted = Rows.wearTimesRow.lifted) : (c.lifted == Tryz.prog.liftsFinal) = true := by rw [h]; exact d26
set_option maxRecDepth 100000 in
theorem d27 : (Tryz.prog.make == some Rows.wearTimesRow.make) = true := by kernel_rfl
theorem c27 (c : OpenClaim) (h : c.make = Rows.wearTimesRow.make) : (Tryz.prog.make == some c.make) = true := by rw [h]; exact d27
end Go.Proofs.YtjpagpplkldbkaaGreat.facts
