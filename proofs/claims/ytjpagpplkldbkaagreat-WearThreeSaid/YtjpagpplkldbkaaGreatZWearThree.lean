/- The closed facts of the row of WearThree. -/
import Derived.Test.YtjpagpplkldbkaaGreatRows
import Derived.WalkKit
import Derived.ProofKit
import Derived.OpenShut
import Derived.Test.YtjpagpplkldbkaaGreatZc
namespace Go.Proofs.YtjpagpplkldbkaaGreat.wearThreeFacts
open Go.ChangeShapes Go.WideShapes Go.ChangeAt Go.RowKit Go.Proofs.YtjpagpplkldbkaaGreat.facts
set_option maxRecDepth 100000 in
theorem fact0 : Rows.wearThreeRow.wf (OpenSpec.ofChange Rows.wearThreeSpec) = true := by kernel_rfl
set_option maxRecDepth 100000 in
theorem fact3 : Tryz.f11.params.all (Tryz.prog.readableRec ·) = true := by kernel_rfl
set_option maxRecDepth 100000 in
theorem fact4 : namedTie Tryz.prog Rows.wearThreeRow.named Rows.wearThreeSpec.vars = true := by kernel_rfl
set_option maxRecDepth 100000 in
theorem fact5 : (Rows.wearThreeRow.stops == []) = true := by kernel_rfl
set_option maxRecDepth 100000 in
theorem fact7 : (Rows.wearThreeRow.knobs == []) = true := by kernel_rfl
set_option maxRecDepth 100000 in
theorem fact9 : (Rows.wearThreeRow.inPlace == Tryz.prog.inPlace 11) = true := by kernel_rfl
set_option maxRecDepth 100000 in
theorem fact10 : (Rows.wearThreeRow.unfollowed == Tryz.prog.unfollowed 11) = true := by kernel_rfl
set_option maxRecDepth 100000 in
theorem fact11 : (Rows.wearThreeRow.recurses == Tryz.prog.recurses 11) = true := by kernel_rfl
set_option maxRecDepth 100000 in
theorem fact12 : (Rows.wearThreeRow.named == Tryz.prog.varsNamed 11) = true := by kernel_rfl
set_option maxRecDepth 100000 in
theorem fact13 : (Rows.wearThreeRow.maps == (Tryz.f11.params.toList ++ Rows.wearThreeSpec.plain.varTypes Tryz.prog).any (Tryz.prog.mapsRec ·)) = true := by kernel_rfl
set_option maxRecDepth 100000 in
theorem fact14 : (Rows.wearThreeRow.ifaces == (Tryz.f11.params.toList ++ Rows.wearThreeSpec.plain.varTypes Tryz.prog).any (Tryz.prog.ifacesRec ·)) = true := by kernel_rfl
set_option maxRecDepth 100000 in
theorem fact15 : (Rows.wearThreeRow.mapsOut == Tryz.prog.mapsAmong Tryz.f11.resultTypes.toList) = true := by kernel_rfl
set_option maxRecDepth 100000 in
theorem fact16 : (Rows.wearThreeRow.loops == (Tryz.f11.params.toList ++ Rows.wearThreeSpec.plain.varTypes Tryz.prog).any (Tryz.prog.loopsFrom ·)) = true := by kernel_rfl
set_option maxRecDepth 100000 in
theorem fact17 : (Rows.wearThreeRow.wideKeys == (Tryz.f11.params.toList ++ Rows.wearThreeSpec.plain.varTypes Tryz.prog ++ Tryz.f11.resultTypes.toList).any (Tryz.prog.wideKeysFrom ·)) = true := by kernel_rfl
set_option maxRecDepth 100000 in
theorem fact18 : Rows.wearThreeSpec.vars.all (Tryz.prog.varReadable ·) = true := by kernel_rfl
set_option maxRecDepth 100000 in
theorem fact19 : Tryz.f11.resultTypes.all (fun t => Tryz.prog.readableRec t && decide (t < Tryz.prog.types.size)) = true := by kernel_rfl
set_option maxRecDepth 100000 in
theorem fact20 : (Rows.wearThreeRow.ifacesOut == Tryz.f11.resultTypes.toList.any (Tryz.prog.ifacesRec ·)) = true := by kernel_rfl
set_option maxRecDepth 100000 in
theorem fact21 : (Rows.wearThreeRow.loopsOut == Tryz.f11.resultTypes.toList.any (Tryz.prog.loopsFrom ·)) = true := by kernel_rfl
set_option maxRecDepth 100000 in
theorem fact23 : Rows.wearThreeRow.shortTexts.isNone = true := by kernel_rfl
set_option maxRecDepth 100000 in
theorem fact28 : (Rows.wearThreeRow.kinds == (if Rows.wearThreeRow.domain.isEmpty then [] else Tryz.f11.params.toList.map fun t => match Tryz.prog.underlying t with | some (.int k) => some k | _ => none)) = true := by kernel_rfl
set_option maxRecDepth 100000 in
theorem fact29 : (Rows.wearThreeRow.pinned == Rows.wearThreeRow.pinnedBy) = true := by kernel_rfl
set_option maxRecDepth 100000 in
theorem fact30 : (Rows.wearThreeRow.veiled == (Tryz.f11.params.toList ++ Rows.wearThreeSpec.plain.varTypes Tryz.prog ++ Tryz.f11.resultTypes.toList).any (Tryz.prog.veiledRec ·)) = true := by kernel_rfl
set_option maxRecDepth 100000 in
theorem fact31 : Rows.wearThreeRow.veiledFits Tryz.prog Tryz.f11.params.toList (Tryz.f11.params.toList ++ Rows.wearThreeSpec.plain.varTypes Tryz.prog ++ Tryz.f11.resultTypes.toList) = true := by kernel_rfl
set_option maxRecDepth 100000 in
theorem closed : joinedFacts Tryz.prog 11 Tryz.f11 Rows.wearThreeSpec Rows.wearThreeRow = true := by
  unfold joinedFacts
  simp only [Bool.and_eq_true]
  exact ⟨⟨⟨⟨⟨⟨⟨⟨⟨⟨⟨⟨⟨⟨⟨⟨⟨⟨⟨⟨⟨⟨⟨⟨⟨⟨⟨⟨⟨⟨⟨fact0, c1⟩, c2⟩, fact3⟩, fact4⟩, fact5⟩, c6⟩, fact7⟩, c8⟩, fact9⟩, fact10⟩, fact11⟩, fact12⟩, fact13⟩, fact14⟩, fact15⟩, fact16⟩, fact17⟩, fact18⟩, fact19⟩, fact20⟩, fact21⟩, (c22 _ rfl)⟩, fact23⟩, c24⟩, c25⟩, (c26 _ rfl)⟩, (c27 _ rfl)⟩, fact28⟩, fact29⟩, fact30⟩, fact31⟩
theorem named_ : Tryz.prog.funcNamed Rows.wearThreeRow.func = some 11 := by kernel_rfl
theorem inst : Tryz.f11.isInstance Tryz.prog Rows.wearThreeRow.origin Rows.wearThreeRow.targs := of_decide_eq_true (by kernel_rfl)
theorem wrap_ : Tryz.f11.isWrapper Tryz.prog Rows.wearThreeRow.wrapper Rows.wearThreeRow.mainSum := by unfold Func.isWrapper; first | (rw [if_pos (by decide +kernel)]; kernel_rfl) | (rw [if_neg (by decide +kernel)]; exact ⟨rfl, rfl⟩)
end Go.Proofs.YtjpagpplkldbkaaGreat.wearThreeFacts
