/- The closed facts of the row of WearEither. -/
import Derived.Test.YtjpagpplkldbkaaGreatRows
import Derived.WalkKit
import Derived.ProofKit
import Derived.OpenShut
import Derived.Test.YtjpagpplkldbkaaGreatZc
namespace Go.Proofs.YtjpagpplkldbkaaGreat.wearEitherFacts
open Go.ChangeShapes Go.WideShapes Go.ChangeAt Go.RowKit Go.Proofs.YtjpagpplkldbkaaGreat.facts
set_option maxRecDepth 100000 in
theorem fact0 : Rows.wearEitherRow.wf (OpenSpec.ofChange Rows.wearEitherSpec) = true := by kernel_rfl
set_option maxRecDepth 100000 in
theorem fact3 : Tryz.f17.params.all (Tryz.prog.readableRec ·) = true := by kernel_rfl
set_option maxRecDepth 100000 in
theorem fact4 : namedTie Tryz.prog Rows.wearEitherRow.named Rows.wearEitherSpec.vars = true := by kernel_rfl
set_option maxRecDepth 100000 in
theorem fact5 : (Rows.wearEitherRow.stops == []) = true := by kernel_rfl
set_option maxRecDepth 100000 in
theorem fact7 : (Rows.wearEitherRow.knobs == []) = true := by kernel_rfl
set_option maxRecDepth 100000 in
theorem fact9 : (Rows.wearEitherRow.inPlace == Tryz.prog.inPlace 17) = true := by kernel_rfl
set_option maxRecDepth 100000 in
theorem fact10 : (Rows.wearEitherRow.unfollowed == Tryz.prog.unfollowed 17) = true := by kernel_rfl
set_option maxRecDepth 100000 in
theorem fact11 : (Rows.wearEitherRow.recurses == Tryz.prog.recurses 17) = true := by kernel_rfl
set_option maxRecDepth 100000 in
theorem fact12 : (Rows.wearEitherRow.named == Tryz.prog.varsNamed 17) = true := by kernel_rfl
set_option maxRecDepth 100000 in
theorem fact13 : (Rows.wearEitherRow.maps == (Tryz.f17.params.toList ++ Rows.wearEitherSpec.plain.varTypes Tryz.prog).any (Tryz.prog.mapsRec ·)) = true := by kernel_rfl
set_option maxRecDepth 100000 in
theorem fact14 : (Rows.wearEitherRow.ifaces == (Tryz.f17.params.toList ++ Rows.wearEitherSpec.plain.varTypes Tryz.prog).any (Tryz.prog.ifacesRec ·)) = true := by kernel_rfl
set_option maxRecDepth 100000 in
theorem fact15 : (Rows.wearEitherRow.mapsOut == Tryz.prog.mapsAmong Tryz.f17.resultTypes.toList) = true := by kernel_rfl
set_option maxRecDepth 100000 in
theorem fact16 : (Rows.wearEitherRow.loops == (Tryz.f17.params.toList ++ Rows.wearEitherSpec.plain.varTypes Tryz.prog).any (Tryz.prog.loopsFrom ·)) = true := by kernel_rfl
set_option maxRecDepth 100000 in
theorem fact17 : (Rows.wearEitherRow.wideKeys == (Tryz.f17.params.toList ++ Rows.wearEitherSpec.plain.varTypes Tryz.prog ++ Tryz.f17.resultTypes.toList).any (Tryz.prog.wideKeysFrom ·)) = true := by kernel_rfl
set_option maxRecDepth 100000 in
theorem fact18 : Rows.wearEitherSpec.vars.all (Tryz.prog.varReadable ·) = true := by kernel_rfl
set_option maxRecDepth 100000 in
theorem fact19 : Tryz.f17.resultTypes.all (fun t => Tryz.prog.readableRec t && decide (t < Tryz.prog.types.size)) = true := by kernel_rfl
set_option maxRecDepth 100000 in
theorem fact20 : (Rows.wearEitherRow.ifacesOut == Tryz.f17.resultTypes.toList.any (Tryz.prog.ifacesRec ·)) = true := by kernel_rfl
set_option maxRecDepth 100000 in
theorem fact21 : (Rows.wearEitherRow.loopsOut == Tryz.f17.resultTypes.toList.any (Tryz.prog.loopsFrom ·)) = true := by kernel_rfl
set_option maxRecDepth 100000 in
theorem fact23 : Rows.wearEitherRow.shortTexts.isNone = true := by kernel_rfl
set_option maxRecDepth 100000 in
theorem fact28 : (Rows.wearEitherRow.kinds == (if Rows.wearEitherRow.domain.isEmpty then [] else Tryz.f17.params.toList.map fun t => match Tryz.prog.underlying t with | some (.int k) => some k | _ => none)) = true := by kernel_rfl
set_option maxRecDepth 100000 in
theorem fact29 : (Rows.wearEitherRow.pinned == Rows.wearEitherRow.pinnedBy) = true := by kernel_rfl
set_option maxRecDepth 100000 in
theorem fact30 : (Rows.wearEitherRow.veiled == (Tryz.f17.params.toList ++ Rows.wearEitherSpec.plain.varTypes Tryz.prog ++ Tryz.f17.resultTypes.toList).any (Tryz.prog.veiledRec ·)) = true := by kernel_rfl
set_option maxRecDepth 100000 in
theorem fact31 : Rows.wearEitherRow.veiledFits Tryz.prog Tryz.f17.params.toList (Tryz.f17.params.toList ++ Rows.wearEitherSpec.plain.varTypes Tryz.prog ++ Tryz.f17.resultTypes.toList) = true := by kernel_rfl
set_option maxRecDepth 100000 in
theorem closed : joinedFacts Tryz.prog 17 Tryz.f17 Rows.wearEitherSpec Rows.wearEitherRow = true := by
  unfold joinedFacts
  simp only [Bool.and_eq_true]
  exact ⟨⟨⟨⟨⟨⟨⟨⟨⟨⟨⟨⟨⟨⟨⟨⟨⟨⟨⟨⟨⟨⟨⟨⟨⟨⟨⟨⟨⟨⟨⟨fact0, c1⟩, c2⟩, fact3⟩, fact4⟩, fact5⟩, c6⟩, fact7⟩, c8⟩, fact9⟩, fact10⟩, fact11⟩, fact12⟩, fact13⟩, fact14⟩, fact15⟩, fact16⟩, fact17⟩, fact18⟩, fact19⟩, fact20⟩, fact21⟩, (c22 _ rfl)⟩, fact23⟩, c24⟩, c25⟩, (c26 _ rfl)⟩, (c27 _ rfl)⟩, fact28⟩, fact29⟩, fact30⟩, fact31⟩
theorem named_ : Tryz.prog.funcNamed Rows.wearEitherRow.func = some 17 := by kernel_rfl
theorem inst : Tryz.f17.isInstance Tryz.prog Rows.wearEitherRow.origin Rows.wearEitherRow.targs := of_decide_eq_true (by kernel_rfl)
theorem wrap_ : Tryz.f17.isWrapper Tryz.prog Rows.wearEitherRow.wrapper Rows.wearEitherRow.mainSum := by unfold Func.isWrapper; first | (rw [if_pos (by decide +kernel)]; kernel_rfl) | (rw [if_neg (by decide +kernel)]; exact ⟨rfl, rfl⟩)
end Go.Proofs.YtjpagpplkldbkaaGreat.wearEitherFacts
