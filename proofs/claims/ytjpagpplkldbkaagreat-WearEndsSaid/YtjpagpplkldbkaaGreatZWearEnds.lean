/- The closed facts of the row of WearEnds. -/
import Derived.Test.YtjpagpplkldbkaaGreatRows
import Derived.WalkKit
import Derived.ProofKit
import Derived.OpenShut
import Derived.Test.YtjpagpplkldbkaaGreatZc
namespace Go.Proofs.YtjpagpplkldbkaaGreat.wearEndsFacts
open Go.ChangeShapes Go.WideShapes Go.ChangeAt Go.RowKit Go.Proofs.YtjpagpplkldbkaaGreat.facts
set_option maxRecDepth 100000 in
theorem fact0 : Rows.wearEndsRow.wf (OpenSpec.ofChange Rows.wearEndsSpec) = true := by kernel_rfl
set_option maxRecDepth 100000 in
theorem fact3 : Tryz.f5.params.all (Tryz.prog.readableRec ·) = true := by kernel_rfl
set_option maxRecDepth 100000 in
theorem fact4 : namedTie Tryz.prog Rows.wearEndsRow.named Rows.wearEndsSpec.vars = true := by kernel_rfl
set_option maxRecDepth 100000 in
theorem fact5 : (Rows.wearEndsRow.stops == []) = true := by kernel_rfl
set_option maxRecDepth 100000 in
theorem fact7 : (Rows.wearEndsRow.knobs == []) = true := by kernel_rfl
set_option maxRecDepth 100000 in
theorem fact9 : (Rows.wearEndsRow.inPlace == Tryz.prog.inPlace 5) = true := by kernel_rfl
set_option maxRecDepth 100000 in
theorem fact10 : (Rows.wearEndsRow.unfollowed == Tryz.prog.unfollowed 5) = true := by kernel_rfl
set_option maxRecDepth 100000 in
theorem fact11 : (Rows.wearEndsRow.recurses == Tryz.prog.recurses 5) = true := by kernel_rfl
set_option maxRecDepth 100000 in
theorem fact12 : (Rows.wearEndsRow.named == Tryz.prog.varsNamed 5) = true := by kernel_rfl
set_option maxRecDepth 100000 in
theorem fact13 : (Rows.wearEndsRow.maps == (Tryz.f5.params.toList ++ Rows.wearEndsSpec.plain.varTypes Tryz.prog).any (Tryz.prog.mapsRec ·)) = true := by kernel_rfl
set_option maxRecDepth 100000 in
theorem fact14 : (Rows.wearEndsRow.ifaces == (Tryz.f5.params.toList ++ Rows.wearEndsSpec.plain.varTypes Tryz.prog).any (Tryz.prog.ifacesRec ·)) = true := by kernel_rfl
set_option maxRecDepth 100000 in
theorem fact15 : (Rows.wearEndsRow.mapsOut == Tryz.prog.mapsAmong Tryz.f5.resultTypes.toList) = true := by kernel_rfl
set_option maxRecDepth 100000 in
theorem fact16 : (Rows.wearEndsRow.loops == (Tryz.f5.params.toList ++ Rows.wearEndsSpec.plain.varTypes Tryz.prog).any (Tryz.prog.loopsFrom ·)) = true := by kernel_rfl
set_option maxRecDepth 100000 in
theorem fact17 : (Rows.wearEndsRow.wideKeys == (Tryz.f5.params.toList ++ Rows.wearEndsSpec.plain.varTypes Tryz.prog ++ Tryz.f5.resultTypes.toList).any (Tryz.prog.wideKeysFrom ·)) = true := by kernel_rfl
set_option maxRecDepth 100000 in
theorem fact18 : Rows.wearEndsSpec.vars.all (Tryz.prog.varReadable ·) = true := by kernel_rfl
set_option maxRecDepth 100000 in
theorem fact19 : Tryz.f5.resultTypes.all (fun t => Tryz.prog.readableRec t && decide (t < Tryz.prog.types.size)) = true := by kernel_rfl
set_option maxRecDepth 100000 in
theorem fact20 : (Rows.wearEndsRow.ifacesOut == Tryz.f5.resultTypes.toList.any (Tryz.prog.ifacesRec ·)) = true := by kernel_rfl
set_option maxRecDepth 100000 in
theorem fact21 : (Rows.wearEndsRow.loopsOut == Tryz.f5.resultTypes.toList.any (Tryz.prog.loopsFrom ·)) = true := by kernel_rfl
set_option maxRecDepth 100000 in
theorem fact23 : Rows.wearEndsRow.shortTexts.isNone = true := by kernel_rfl
set_option maxRecDepth 100000 in
theorem fact28 : (Rows.wearEndsRow.kinds == (if Rows.wearEndsRow.domain.isEmpty then [] else Tryz.f5.params.toList.map fun t => match Tryz.prog.underlying t with | some (.int k) => some k | _ => none)) = true := by kernel_rfl
set_option maxRecDepth 100000 in
theorem fact29 : (Rows.wearEndsRow.pinned == Rows.wearEndsRow.pinnedBy) = true := by kernel_rfl
set_option maxRecDepth 100000 in
theorem fact30 : (Rows.wearEndsRow.veiled == (Tryz.f5.params.toList ++ Rows.wearEndsSpec.plain.varTypes Tryz.prog ++ Tryz.f5.resultTypes.toList).any (Tryz.prog.veiledRec ·)) = true := by kernel_rfl
set_option maxRecDepth 100000 in
theorem fact31 : Rows.wearEndsRow.veiledFits Tryz.prog Tryz.f5.params.toList (Tryz.f5.params.toList ++ Rows.wearEndsSpec.plain.varTypes Tryz.prog ++ Tryz.f5.resultTypes.toList) = true := by kernel_rfl
set_option maxRecDepth 100000 in
theorem closed : joinedFacts Tryz.prog 5 Tryz.f5 Rows.wearEndsSpec Rows.wearEndsRow = true := by
  unfold joinedFacts
  simp only [Bool.and_eq_true]
  exact ⟨⟨⟨⟨⟨⟨⟨⟨⟨⟨⟨⟨⟨⟨⟨⟨⟨⟨⟨⟨⟨⟨⟨⟨⟨⟨⟨⟨⟨⟨⟨fact0, c1⟩, c2⟩, fact3⟩, fact4⟩, fact5⟩, c6⟩, fact7⟩, c8⟩, fact9⟩, fact10⟩, fact11⟩, fact12⟩, fact13⟩, fact14⟩, fact15⟩, fact16⟩, fact17⟩, fact18⟩, fact19⟩, fact20⟩, fact21⟩, (c22 _ rfl)⟩, fact23⟩, c24⟩, c25⟩, (c26 _ rfl)⟩, (c27 _ rfl)⟩, fact28⟩, fact29⟩, fact30⟩, fact31⟩
theorem named_ : Tryz.prog.funcNamed Rows.wearEndsRow.func = some 5 := by kernel_rfl
theorem inst : Tryz.f5.isInstance Tryz.prog Rows.wearEndsRow.origin Rows.wearEndsRow.targs := of_decide_eq_true (by kernel_rfl)
theorem wrap_ : Tryz.f5.isWrapper Tryz.prog Rows.wearEndsRow.wrapper Rows.wearEndsRow.mainSum := by unfold Func.isWrapper; first | (rw [if_pos (by decide +kernel)]; kernel_rfl) | (rw [if_neg (by decide +kernel)]; exact ⟨rfl, rfl⟩)
end Go.Proofs.YtjpagpplkldbkaaGreat.wearEndsFacts
