/- The closed facts of the row of WearLater. -/
import Derived.Test.YtjpagpplkldbkaaGreatRows
import Derived.WalkKit
import Derived.ProofKit
import Derived.OpenShut
import Derived.Test.YtjpagpplkldbkaaGreatZc
namespace Go.Proofs.YtjpagpplkldbkaaGreat.wearLaterFacts
open Go.ChangeShapes Go.WideShapes Go.ChangeAt Go.RowKit Go.Proofs.YtjpagpplkldbkaaGreat.facts
set_option maxRecDepth 100000 in
theorem fact0 : Rows.wearLaterRow.wf (OpenSpec.ofChange Rows.wearLaterSpec) = true := by kernel_rfl
set_option maxRecDepth 100000 in
theorem fact3 : Tryz.f9.params.all (Tryz.prog.readableRec ·) = true := by kernel_rfl
set_option maxRecDepth 100000 in
theorem fact4 : namedTie Tryz.prog Rows.wearLaterRow.named Rows.wearLaterSpec.vars = true := by kernel_rfl
set_option maxRecDepth 100000 in
theorem fact5 : (Rows.wearLaterRow.stops == []) = true := by kernel_rfl
set_option maxRecDepth 100000 in
theorem fact7 : (Rows.wearLaterRow.knobs == []) = true := by kernel_rfl
set_option maxRecDepth 100000 in
theorem fact9 : (Rows.wearLaterRow.inPlace == Tryz.prog.inPlace 9) = true := by kernel_rfl
set_option maxRecDepth 100000 in
theorem fact10 : (Rows.wearLaterRow.unfollowed == Tryz.prog.unfollowed 9) = true := by kernel_rfl
set_option maxRecDepth 100000 in
theorem fact11 : (Rows.wearLaterRow.recurses == Tryz.prog.recurses 9) = true := by kernel_rfl
set_option maxRecDepth 100000 in
theorem fact12 : (Rows.wearLaterRow.named == Tryz.prog.varsNamed 9) = true := by kernel_rfl
set_option maxRecDepth 100000 in
theorem fact13 : (Rows.wearLaterRow.maps == (Tryz.f9.params.toList ++ Rows.wearLaterSpec.plain.varTypes Tryz.prog).any (Tryz.prog.mapsRec ·)) = true := by kernel_rfl
set_option maxRecDepth 100000 in
theorem fact14 : (Rows.wearLaterRow.ifaces == (Tryz.f9.params.toList ++ Rows.wearLaterSpec.plain.varTypes Tryz.prog).any (Tryz.prog.ifacesRec ·)) = true := by kernel_rfl
set_option maxRecDepth 100000 in
theorem fact15 : (Rows.wearLaterRow.mapsOut == Tryz.prog.mapsAmong Tryz.f9.resultTypes.toList) = true := by kernel_rfl
set_option maxRecDepth 100000 in
theorem fact16 : (Rows.wearLaterRow.loops == (Tryz.f9.params.toList ++ Rows.wearLaterSpec.plain.varTypes Tryz.prog).any (Tryz.prog.loopsFrom ·)) = true := by kernel_rfl
set_option maxRecDepth 100000 in
theorem fact17 : (Rows.wearLaterRow.wideKeys == (Tryz.f9.params.toList ++ Rows.wearLaterSpec.plain.varTypes Tryz.prog ++ Tryz.f9.resultTypes.toList).any (Tryz.prog.wideKeysFrom ·)) = true := by kernel_rfl
set_option maxRecDepth 100000 in
theorem fact18 : Rows.wearLaterSpec.vars.all (Tryz.prog.varReadable ·) = true := by kernel_rfl
set_option maxRecDepth 100000 in
theorem fact19 : Tryz.f9.resultTypes.all (fun t => Tryz.prog.readableRec t && decide (t < Tryz.prog.types.size)) = true := by kernel_rfl
set_option maxRecDepth 100000 in
theorem fact20 : (Rows.wearLaterRow.ifacesOut == Tryz.f9.resultTypes.toList.any (Tryz.prog.ifacesRec ·)) = true := by kernel_rfl
set_option maxRecDepth 100000 in
theorem fact21 : (Rows.wearLaterRow.loopsOut == Tryz.f9.resultTypes.toList.any (Tryz.prog.loopsFrom ·)) = true := by kernel_rfl
set_option maxRecDepth 100000 in
theorem fact23 : Rows.wearLaterRow.shortTexts.isNone = true := by kernel_rfl
set_option maxRecDepth 100000 in
theorem fact28 : (Rows.wearLaterRow.kinds == (if Rows.wearLaterRow.domain.isEmpty then [] else Tryz.f9.params.toList.map fun t => match Tryz.prog.underlying t with | some (.int k) => some k | _ => none)) = true := by kernel_rfl
set_option maxRecDepth 100000 in
theorem fact29 : (Rows.wearLaterRow.pinned == Rows.wearLaterRow.pinnedBy) = true := by kernel_rfl
set_option maxRecDepth 100000 in
theorem fact30 : (Rows.wearLaterRow.veiled == (Tryz.f9.params.toList ++ Rows.wearLaterSpec.plain.varTypes Tryz.prog ++ Tryz.f9.resultTypes.toList).any (Tryz.prog.veiledRec ·)) = true := by kernel_rfl
set_option maxRecDepth 100000 in
theorem fact31 : Rows.wearLaterRow.veiledFits Tryz.prog Tryz.f9.params.toList (Tryz.f9.params.toList ++ Rows.wearLaterSpec.plain.varTypes Tryz.prog ++ Tryz.f9.resultTypes.toList) = true := by kernel_rfl
set_option maxRecDepth 100000 in
theorem closed : joinedFacts Tryz.prog 9 Tryz.f9 Rows.wearLaterSpec Rows.wearLaterRow = true := by
  unfold joinedFacts
  simp only [Bool.and_eq_true]
  exact ⟨⟨⟨⟨⟨⟨⟨⟨⟨⟨⟨⟨⟨⟨⟨⟨⟨⟨⟨⟨⟨⟨⟨⟨⟨⟨⟨⟨⟨⟨⟨fact0, c1⟩, c2⟩, fact3⟩, fact4⟩, fact5⟩, c6⟩, fact7⟩, c8⟩, fact9⟩, fact10⟩, fact11⟩, fact12⟩, fact13⟩, fact14⟩, fact15⟩, fact16⟩, fact17⟩, fact18⟩, fact19⟩, fact20⟩, fact21⟩, (c22 _ rfl)⟩, fact23⟩, c24⟩, c25⟩, (c26 _ rfl)⟩, (c27 _ rfl)⟩, fact28⟩, fact29⟩, fact30⟩, fact31⟩
theorem named_ : Tryz.prog.funcNamed Rows.wearLaterRow.func = some 9 := by kernel_rfl
theorem inst : Tryz.f9.isInstance Tryz.prog Rows.wearLaterRow.origin Rows.wearLaterRow.targs := of_decide_eq_true (by kernel_rfl)
theorem wrap_ : Tryz.f9.isWrapper Tryz.prog Rows.wearLaterRow.wrapper Rows.wearLaterRow.mainSum := by unfold Func.isWrapper; first | (rw [if_pos (by decide +kernel)]; kernel_rfl) | (rw [if_neg (by decide +kernel)]; exact ⟨rfl, rfl⟩)
end Go.Proofs.YtjpagpplkldbkaaGreat.wearLaterFacts
