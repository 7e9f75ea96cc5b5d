/- The closed facts of the row of WearNarrow. -/
import Derived.Test.YtjpagpplkldbkaaGreatRows
import Derived.WalkKit
import Derived.ProofKit
import Derived.OpenShut
import Derived.Test.YtjpagpplkldbkaaGreatZc
namespace Go.Proofs.YtjpagpplkldbkaaGreat.wearNarrowFacts
open Go.ChangeShapes Go.WideShapes Go.ChangeAt Go.RowKit Go.Proofs.YtjpagpplkldbkaaGreat.facts
set_option maxRecDepth 100000 in
theorem fact0 : Rows.wearNarrowRow.wf (OpenSpec.ofChange Rows.wearNarrowSpec) = true := by kernel_rfl
set_option maxRecDepth 100000 in
theorem fact3 : Tryz.f8.params.all (Tryz.prog.readableRec ·) = true := by kernel_rfl
set_option maxRecDepth 100000 in
theorem fact4 : namedTie Tryz.prog Rows.wearNarrowRow.named Rows.wearNarrowSpec.vars = true := by kernel_rfl
set_option maxRecDepth 100000 in
theorem fact5 : (Rows.wearNarrowRow.stops == []) = true := by kernel_rfl
set_option maxRecDepth 100000 in
theorem fact7 : (Rows.wearNarrowRow.knobs == []) = true := by kernel_rfl
set_option maxRecDepth 100000 in
theorem fact9 : (Rows.wearNarrowRow.inPlace == Tryz.prog.inPlace 8) = true := by kernel_rfl
set_option maxRecDepth 100000 in
theorem fact10 : (Rows.wearNarrowRow.unfollowed == Tryz.prog.unfollowed 8) = true := by kernel_rfl
set_option maxRecDepth 100000 in
theorem fact11 : (Rows.wearNarrowRow.recurses == Tryz.prog.recurses 8) = true := by kernel_rfl
set_option maxRecDepth 100000 in
theorem fact12 : (Rows.wearNarrowRow.named == Tryz.prog.varsNamed 8) = true := by kernel_rfl
set_option maxRecDepth 100000 in
theorem fact13 : (Rows.wearNarrowRow.maps == (Tryz.f8.params.toList ++ Rows.wearNarrowSpec.plain.varTypes Tryz.prog).any (Tryz.prog.mapsRec ·)) = true := by kernel_rfl
set_option maxRecDepth 100000 in
theorem fact14 : (Rows.wearNarrowRow.ifaces == (Tryz.f8.params.toList ++ Rows.wearNarrowSpec.plain.varTypes Tryz.prog).any (Tryz.prog.ifacesRec ·)) = true := by kernel_rfl
set_option maxRecDepth 100000 in
theorem fact15 : (Rows.wearNarrowRow.mapsOut == Tryz.prog.mapsAmong Tryz.f8.resultTypes.toList) = true := by kernel_rfl
set_option maxRecDepth 100000 in
theorem fact16 : (Rows.wearNarrowRow.loops == (Tryz.f8.params.toList ++ Rows.wearNarrowSpec.plain.varTypes Tryz.prog).any (Tryz.prog.loopsFrom ·)) = true := by kernel_rfl
set_option maxRecDepth 100000 in
theorem fact17 : (Rows.wearNarrowRow.wideKeys == (Tryz.f8.params.toList ++ Rows.wearNarrowSpec.plain.varTypes Tryz.prog ++ Tryz.f8.resultTypes.toList).any (Tryz.prog.wideKeysFrom ·)) = true := by kernel_rfl
set_option maxRecDepth 100000 in
theorem fact18 : Rows.wearNarrowSpec.vars.all (Tryz.prog.varReadable ·) = true := by kernel_rfl
set_option maxRecDepth 100000 in
theorem fact19 : Tryz.f8.resultTypes.all (fun t => Tryz.prog.readableRec t && decide (t < Tryz.prog.types.size)) = true := by kernel_rfl
set_option maxRecDepth 100000 in
theorem fact20 : (Rows.wearNarrowRow.ifacesOut == Tryz.f8.resultTypes.toList.any (Tryz.prog.ifacesRec ·)) = true := by kernel_rfl
set_option maxRecDepth 100000 in
theorem fact21 : (Rows.wearNarrowRow.loopsOut == Tryz.f8.resultTypes.toList.any (Tryz.prog.loopsFrom ·)) = true := by kernel_rfl
set_option maxRecDepth 100000 in
theorem fact23 : Rows.wearNarrowRow.shortTexts.isNone = true := by kernel_rfl
set_option maxRecDepth 100000 in
theorem fact28 : (Rows.wearNarrowRow.kinds == (if Rows.wearNarrowRow.domain.isEmpty then [] else Tryz.f8.params.toList.map fun t => match Tryz.prog.underlying t with | some (.int k) => some k | _ => none)) = true := by kernel_rfl
set_option maxRecDepth 100000 in
theorem fact29 : (Rows.wearNarrowRow.pinned == Rows.wearNarrowRow.pinnedBy) = true := by kernel_rfl
set_option maxRecDepth 100000 in
theorem fact30 : (Rows.wearNarrowRow.veiled == (Tryz.f8.params.toList ++ Rows.wearNarrowSpec.plain.varTypes Tryz.prog ++ Tryz.f8.resultTypes.toList).any (Tryz.prog.veiledRec ·)) = true := by kernel_rfl
set_option maxRecDepth 100000 in
theorem fact31 : Rows.wearNarrowRow.veiledFits Tryz.prog Tryz.f8.params.toList (Tryz.f8.params.toList ++ Rows.wearNarrowSpec.plain.varTypes Tryz.prog ++ Tryz.f8.resultTypes.toList) = true := by kernel_rfl
set_option maxRecDepth 100000 in
theorem closed : joinedFacts Tryz.prog 8 Tryz.f8 Rows.wearNarrowSpec Rows.wearNarrowRow = true := by
  unfold joinedFacts
  simp only [Bool.and_eq_true]
  exact ⟨⟨⟨⟨⟨⟨⟨⟨⟨⟨⟨⟨⟨⟨⟨⟨⟨⟨⟨⟨⟨⟨⟨⟨⟨⟨⟨⟨⟨⟨⟨fact0, c1⟩, c2⟩, fact3⟩, fact4⟩, fact5⟩, c6⟩, fact7⟩, c8⟩, fact9⟩, fact10⟩, fact11⟩, fact12⟩, fact13⟩, fact14⟩, fact15⟩, fact16⟩, fact17⟩, fact18⟩, fact19⟩, fact20⟩, fact21⟩, (c22 _ rfl)⟩, fact23⟩, c24⟩, c25⟩, (c26 _ rfl)⟩, (c27 _ rfl)⟩, fact28⟩, fact29⟩, fact30⟩, fact31⟩
theorem named_ : Tryz.prog.funcNamed Rows.wearNarrowRow.func = some 8 := by kernel_rfl
theorem inst : Tryz.f8.isInstance Tryz.prog Rows.wearNarrowRow.origin Rows.wearNarrowRow.targs := of_decide_eq_true (by kernel_rfl)
theorem wrap_ : Tryz.f8.isWrapper Tryz.prog Rows.wearNarrowRow.wrapper Rows.wearNarrowRow.mainSum := by unfold Func.isWrapper; first | (rw [if_pos (by decide +kernel)]; kernel_rfl) | (rw [if_neg (by decide +kernel)]; exact ⟨rfl, rfl⟩)
end Go.Proofs.YtjpagpplkldbkaaGreat.wearNarrowFacts
