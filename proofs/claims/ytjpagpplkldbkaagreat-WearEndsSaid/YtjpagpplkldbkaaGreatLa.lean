/- WearLater: its walk. WRITTEN BY wip/tools/gen_la.py. -/
import Derived.Deep.DeepCutAuto
import Derived.Test.YtjpagpplkldbkaaGreatLib29
set_option linter.unusedVariables false
set_option linter.unusedSimpArgs false
namespace Go.Proofs.YtjpagpplkldbkaaGreat
open Go.RowKit Go.Shelf WH
set_option maxRecDepth 100000 in
set_option maxHeartbeats 1000000 in
theorem later_30 {v : Value} {f : Fl} {x m k : Int}  {w : World} (hf : Fv w v f) (he : f.possE = 30) : Calls Tryz.prog 9 #[v, .int .i64 x, .int .i64 m, .int .i64 k] w fun e w' => e = .returned (.bool true) ∧ Below w.heap.size w w' := by
  obtain ⟨vv, sv, rfl, hv, hs⟩ := hf
  have HV := Lib.hid hv
  have HS := Lib.hid hs
  obtain ⟨A, c, rfl, _⟩ := hv
  obtain ⟨A2, c2, rfl, _⟩ := hs
  have HE := Lib.hid he
  clear he
  unfold flC
  have HM := Lib.hid (Bks.nil w); have hC : Below w.heap.size w w := Below.refl _ _; have hK := True.intro; have hL := True.intro
  go_enter Tryz.func9, Tryz.ntmps9
  go_wp2_with fail
  refine (sane_is).mono ?_
  rintro e1 w1 ⟨rfl, hb⟩
  obtain ⟨hm_, hC_⟩ := stp1 hb HM.out hC; clear HM hC hb hK hL; have hK := hm_.cells; have hL := hm_.lts; simp only [BCells, CellsAt, BLts, Nat.reduceAdd, Nat.zero_add, and_true] at hK hL; have HM := Lib.hid hm_; have hC := hC_; clear hm_ hC_
  go_wp2_with fail
  refine (check_is HE.out ⟨_, _, rfl, HV.out.below (by (repeat' with_reducible first|assumption|exact Below.refl _ _|apply bl_alloc|apply bl_drewN|apply bl_drew|refine bl_set ?_ (by simp<;>omega) _|refine bl_then ?_ (by assumption))), HS.out.below (by (repeat' with_reducible first|assumption|exact Below.refl _ _|apply bl_alloc|apply bl_drewN|apply bl_drew|refine bl_set ?_ (by simp<;>omega) _|refine bl_then ?_ (by assumption)))⟩).mono ?_
  rintro e2 w2 ⟨rfl, hb⟩
  obtain ⟨hm_, hC_⟩ := stp0 hb HM.out hC; clear HM hC hb hK hL; have hK := hm_.cells; have hL := hm_.lts; simp only [BCells, CellsAt, BLts, Nat.reduceAdd, Nat.zero_add, and_true] at hK hL; have HM := Lib.hid hm_; have hC := hC_; clear hm_ hC_
  go_wp2
  go_ret
  exact ⟨rfl, by (repeat' with_reducible first|assumption|exact Below.refl _ _|apply bl_alloc|apply bl_drewN|apply bl_drew|refine bl_set ?_ (by simp<;>omega) _|refine bl_then ?_ (by assumption))⟩
set_option maxRecDepth 100000 in
set_option maxHeartbeats 1000000 in
theorem later_g0 {v : Value} {f : Fl} {x m k : Int}  {w : World} (hf : Fv w v f) (he : f.possE = 0) (d1 : decide (m < 0) = true) : Calls Tryz.prog 9 #[v, .int .i64 x, .int .i64 m, .int .i64 k] w fun e w' => e = .returned (.bool true) ∧ Below w.heap.size w w' := by
  obtain ⟨vv, sv, rfl, hv, hs⟩ := hf
  have HV := Lib.hid hv
  have HS := Lib.hid hs
  obtain ⟨A, c, rfl, _⟩ := hv
  obtain ⟨A2, c2, rfl, _⟩ := hs
  have HE := Lib.hid he
  clear he
  unfold flC
  have HM := Lib.hid (Bks.nil w); have hC : Below w.heap.size w w := Below.refl _ _; have hK := True.intro; have hL := True.intro
  go_enter Tryz.func9, Tryz.ntmps9
  go_wp2_with fail
  refine (sane_is).mono ?_
  rintro e1 w1 ⟨rfl, hb⟩
  obtain ⟨hm_, hC_⟩ := stp1 hb HM.out hC; clear HM hC hb hK hL; have hK := hm_.cells; have hL := hm_.lts; simp only [BCells, CellsAt, BLts, Nat.reduceAdd, Nat.zero_add, and_true] at hK hL; have HM := Lib.hid hm_; have hC := hC_; clear hm_ hC_
  go_wp2_with fail
  refine (check_is HE.out ⟨_, _, rfl, HV.out.below (by (repeat' with_reducible first|assumption|exact Below.refl _ _|apply bl_alloc|apply bl_drewN|apply bl_drew|refine bl_set ?_ (by simp<;>omega) _|refine bl_then ?_ (by assumption))), HS.out.below (by (repeat' with_reducible first|assumption|exact Below.refl _ _|apply bl_alloc|apply bl_drewN|apply bl_drew|refine bl_set ?_ (by simp<;>omega) _|refine bl_then ?_ (by assumption)))⟩).mono ?_
  rintro e2 w2 ⟨rfl, hb⟩
  obtain ⟨hm_, hC_⟩ := stp0 hb HM.out hC; clear HM hC hb hK hL; have hK := hm_.cells; have hL := hm_.lts; simp only [BCells, CellsAt, BLts, Nat.reduceAdd, Nat.zero_add, and_true] at hK hL; have HM := Lib.hid hm_; have hC := hC_; clear hm_ hC_
  go_wp2
  go_ret
  exact ⟨rfl, by (repeat' with_reducible first|assumption|exact Below.refl _ _|apply bl_alloc|apply bl_drewN|apply bl_drew|refine bl_set ?_ (by simp<;>omega) _|refine bl_then ?_ (by assumption))⟩
set_option maxRecDepth 100000 in
set_option maxHeartbeats 1000000 in
theorem later_g1 {v : Value} {f : Fl} {x m k : Int}  {w : World} (hf : Fv w v f) (he : f.possE = 0) (d1 : decide (m < 0) = false) (d2 : decide ((1048576 : Int) < m) = true) : Calls Tryz.prog 9 #[v, .int .i64 x, .int .i64 m, .int .i64 k] w fun e w' => e = .returned (.bool true) ∧ Below w.heap.size w w' := by
  obtain ⟨vv, sv, rfl, hv, hs⟩ := hf
  have HV := Lib.hid hv
  have HS := Lib.hid hs
  obtain ⟨A, c, rfl, _⟩ := hv
  obtain ⟨A2, c2, rfl, _⟩ := hs
  have HE := Lib.hid he
  clear he
  unfold flC
  have HM := Lib.hid (Bks.nil w); have hC : Below w.heap.size w w := Below.refl _ _; have hK := True.intro; have hL := True.intro
  go_enter Tryz.func9, Tryz.ntmps9
  go_wp2_with fail
  refine (sane_is).mono ?_
  rintro e1 w1 ⟨rfl, hb⟩
  obtain ⟨hm_, hC_⟩ := stp1 hb HM.out hC; clear HM hC hb hK hL; have hK := hm_.cells; have hL := hm_.lts; simp only [BCells, CellsAt, BLts, Nat.reduceAdd, Nat.zero_add, and_true] at hK hL; have HM := Lib.hid hm_; have hC := hC_; clear hm_ hC_
  go_wp2_with fail
  refine (check_is HE.out ⟨_, _, rfl, HV.out.below (by (repeat' with_reducible first|assumption|exact Below.refl _ _|apply bl_alloc|apply bl_drewN|apply bl_drew|refine bl_set ?_ (by simp<;>omega) _|refine bl_then ?_ (by assumption))), HS.out.below (by (repeat' with_reducible first|assumption|exact Below.refl _ _|apply bl_alloc|apply bl_drewN|apply bl_drew|refine bl_set ?_ (by simp<;>omega) _|refine bl_then ?_ (by assumption)))⟩).mono ?_
  rintro e2 w2 ⟨rfl, hb⟩
  obtain ⟨hm_, hC_⟩ := stp0 hb HM.out hC; clear HM hC hb hK hL; have hK := hm_.cells; have hL := hm_.lts; simp only [BCells, CellsAt, BLts, Nat.reduceAdd, Nat.zero_add, and_true] at hK hL; have HM := Lib.hid hm_; have hC := hC_; clear hm_ hC_
  go_wp2
  go_ret
  exact ⟨rfl, by (repeat' with_reducible first|assumption|exact Below.refl _ _|apply bl_alloc|apply bl_drewN|apply bl_drew|refine bl_set ?_ (by simp<;>omega) _|refine bl_then ?_ (by assumption))⟩
set_option maxRecDepth 100000 in
set_option maxHeartbeats 1000000 in
theorem later_g2 {v : Value} {f : Fl} {x m k : Int}  {w : World} (hf : Fv w v f) (he : f.possE = 0) (d1 : decide (m < 0) = false) (d2 : decide ((1048576 : Int) < m) = false) (d3 : decide (k < 0) = true) : Calls Tryz.prog 9 #[v, .int .i64 x, .int .i64 m, .int .i64 k] w fun e w' => e = .returned (.bool true) ∧ Below w.heap.size w w' := by
  obtain ⟨vv, sv, rfl, hv, hs⟩ := hf
  have HV := Lib.hid hv
  have HS := Lib.hid hs
  obtain ⟨A, c, rfl, _⟩ := hv
  obtain ⟨A2, c2, rfl, _⟩ := hs
  have HE := Lib.hid he
  clear he
  unfold flC
  have HM := Lib.hid (Bks.nil w); have hC : Below w.heap.size w w := Below.refl _ _; have hK := True.intro; have hL := True.intro
  go_enter Tryz.func9, Tryz.ntmps9
  go_wp2_with fail
  refine (sane_is).mono ?_
  rintro e1 w1 ⟨rfl, hb⟩
  obtain ⟨hm_, hC_⟩ := stp1 hb HM.out hC; clear HM hC hb hK hL; have hK := hm_.cells; have hL := hm_.lts; simp only [BCells, CellsAt, BLts, Nat.reduceAdd, Nat.zero_add, and_true] at hK hL; have HM := Lib.hid hm_; have hC := hC_; clear hm_ hC_
  go_wp2_with fail
  refine (check_is HE.out ⟨_, _, rfl, HV.out.below (by (repeat' with_reducible first|assumption|exact Below.refl _ _|apply bl_alloc|apply bl_drewN|apply bl_drew|refine bl_set ?_ (by simp<;>omega) _|refine bl_then ?_ (by assumption))), HS.out.below (by (repeat' with_reducible first|assumption|exact Below.refl _ _|apply bl_alloc|apply bl_drewN|apply bl_drew|refine bl_set ?_ (by simp<;>omega) _|refine bl_then ?_ (by assumption)))⟩).mono ?_
  rintro e2 w2 ⟨rfl, hb⟩
  obtain ⟨hm_, hC_⟩ := stp0 hb HM.out hC; clear HM hC hb hK hL; have hK := hm_.cells; have hL := hm_.lts; simp only [BCells, CellsAt, BLts, Nat.reduceAdd, Nat.zero_add, and_true] at hK hL; have HM := Lib.hid hm_; have hC := hC_; clear hm_ hC_
  go_wp2
  go_ret
  exact ⟨rfl, by (repeat' with_reducible first|assumption|exact Below.refl _ _|apply bl_alloc|apply bl_drewN|apply bl_drew|refine bl_set ?_ (by simp<;>omega) _|refine bl_then ?_ (by assumption))⟩
set_option maxRecDepth 100000 in
set_option maxHeartbeats 1000000 in
theorem later_g3 {v : Value} {f : Fl} {x m k : Int}  {w : World} (hf : Fv w v f) (he : f.possE = 0) (d1 : decide (m < 0) = false) (d2 : decide ((1048576 : Int) < m) = false) (d3 : decide (k < 0) = false) (d4 : decide ((1048576 : Int) < k) = true) : Calls Tryz.prog 9 #[v, .int .i64 x, .int .i64 m, .int .i64 k] w fun e w' => e = .returned (.bool true) ∧ Below w.heap.size w w' := by
  obtain ⟨vv, sv, rfl, hv, hs⟩ := hf
  have HV := Lib.hid hv
  have HS := Lib.hid hs
  obtain ⟨A, c, rfl, _⟩ := hv
  obtain ⟨A2, c2, rfl, _⟩ := hs
  have HE := Lib.hid he
  clear he
  unfold flC
  have HM := Lib.hid (Bks.nil w); have hC : Below w.heap.size w w := Below.refl _ _; have hK := True.intro; have hL := True.intro
  go_enter Tryz.func9, Tryz.ntmps9
  go_wp2_with fail
  refine (sane_is).mono ?_
  rintro e1 w1 ⟨rfl, hb⟩
  obtain ⟨hm_, hC_⟩ := stp1 hb HM.out hC; clear HM hC hb hK hL; have hK := hm_.cells; have hL := hm_.lts; simp only [BCells, CellsAt, BLts, Nat.reduceAdd, Nat.zero_add, and_true] at hK hL; have HM := Lib.hid hm_; have hC := hC_; clear hm_ hC_
  go_wp2_with fail
  refine (check_is HE.out ⟨_, _, rfl, HV.out.below (by (repeat' with_reducible first|assumption|exact Below.refl _ _|apply bl_alloc|apply bl_drewN|apply bl_drew|refine bl_set ?_ (by simp<;>omega) _|refine bl_then ?_ (by assumption))), HS.out.below (by (repeat' with_reducible first|assumption|exact Below.refl _ _|apply bl_alloc|apply bl_drewN|apply bl_drew|refine bl_set ?_ (by simp<;>omega) _|refine bl_then ?_ (by assumption)))⟩).mono ?_
  rintro e2 w2 ⟨rfl, hb⟩
  obtain ⟨hm_, hC_⟩ := stp0 hb HM.out hC; clear HM hC hb hK hL; have hK := hm_.cells; have hL := hm_.lts; simp only [BCells, CellsAt, BLts, Nat.reduceAdd, Nat.zero_add, and_true] at hK hL; have HM := Lib.hid hm_; have hC := hC_; clear hm_ hC_
  go_wp2
  go_ret
  exact ⟨rfl, by (repeat' with_reducible first|assumption|exact Below.refl _ _|apply bl_alloc|apply bl_drewN|apply bl_drew|refine bl_set ?_ (by simp<;>omega) _|refine bl_then ?_ (by assumption))⟩
set_option maxRecDepth 100000 in
set_option maxHeartbeats 1000000 in
theorem later_e1 {v : Value} {f : Fl} {x m k : Int}  {w : World} (hf : Fv w v f) (he : f.possE = 0) (d1 : decide (m < 0) = false) (d2 : decide ((1048576 : Int) < m) = false) (d3 : decide (k < 0) = false) (d4 : decide ((1048576 : Int) < k) = false) (h1 : f.rcLo x = 0) (h2 : f.rcHi x = 0) (h3 : f.rcE x = 1) : Calls Tryz.prog 9 #[v, .int .i64 x, .int .i64 m, .int .i64 k] w fun e w' => e = .returned (.bool true) ∧ Below w.heap.size w w' := by
  obtain ⟨vv, sv, rfl, hv, hs⟩ := hf
  have HV := Lib.hid hv
  have HS := Lib.hid hs
  obtain ⟨A, c, rfl, _⟩ := hv
  obtain ⟨A2, c2, rfl, _⟩ := hs
  have HE := Lib.hid he
  clear he
  have H1 := Lib.hid h1
  clear h1
  have H2 := Lib.hid h2
  clear h2
  have H3 := Lib.hid h3
  clear h3
  unfold flC
  have HM := Lib.hid (Bks.nil w); have hC : Below w.heap.size w w := Below.refl _ _; have hK := True.intro; have hL := True.intro
  go_enter Tryz.func9, Tryz.ntmps9
  go_wp2_with fail
  refine (sane_is).mono ?_
  rintro e1 w1 ⟨rfl, hb⟩
  obtain ⟨hm_, hC_⟩ := stp1 hb HM.out hC; clear HM hC hb hK hL; have hK := hm_.cells; have hL := hm_.lts; simp only [BCells, CellsAt, BLts, Nat.reduceAdd, Nat.zero_add, and_true] at hK hL; have HM := Lib.hid hm_; have hC := hC_; clear hm_ hC_
  go_wp2_with fail
  refine (check_is HE.out ⟨_, _, rfl, HV.out.below (by (repeat' with_reducible first|assumption|exact Below.refl _ _|apply bl_alloc|apply bl_drewN|apply bl_drew|refine bl_set ?_ (by simp<;>omega) _|refine bl_then ?_ (by assumption))), HS.out.below (by (repeat' with_reducible first|assumption|exact Below.refl _ _|apply bl_alloc|apply bl_drewN|apply bl_drew|refine bl_set ?_ (by simp<;>omega) _|refine bl_then ?_ (by assumption)))⟩).mono ?_
  rintro e2 w2 ⟨rfl, hb⟩
  obtain ⟨hm_, hC_⟩ := stp0 hb HM.out hC; clear HM hC hb hK hL; have hK := hm_.cells; have hL := hm_.lts; simp only [BCells, CellsAt, BLts, Nat.reduceAdd, Nat.zero_add, and_true] at hK hL; have HM := Lib.hid hm_; have hC := hC_; clear hm_ hC_
  go_wp2_with fail
  refine (reached_is H1.out H2.out H3.out ⟨_, _, rfl, HV.out.below (by (repeat' with_reducible first|assumption|exact Below.refl _ _|apply bl_alloc|apply bl_drewN|apply bl_drew|refine bl_set ?_ (by simp<;>omega) _|refine bl_then ?_ (by assumption))), HS.out.below (by (repeat' with_reducible first|assumption|exact Below.refl _ _|apply bl_alloc|apply bl_drewN|apply bl_drew|refine bl_set ?_ (by simp<;>omega) _|refine bl_then ?_ (by assumption)))⟩).mono ?_
  rintro e3 w3 ⟨rfl, hb⟩
  obtain ⟨hm_, hC_⟩ := stp0 hb HM.out hC; clear HM hC hb hK hL; have hK := hm_.cells; have hL := hm_.lts; simp only [BCells, CellsAt, BLts, Nat.reduceAdd, Nat.zero_add, and_true] at hK hL; have HM := Lib.hid hm_; have hC := hC_; clear hm_ hC_
  go_wp2
  go_ret
  exact ⟨rfl, by (repeat' with_reducible first|assumption|exact Below.refl _ _|apply bl_alloc|apply bl_drewN|apply bl_drew|refine bl_set ?_ (by simp<;>omega) _|refine bl_then ?_ (by assumption))⟩
set_option maxRecDepth 100000 in
set_option maxHeartbeats 1000000 in
theorem later_e31 {v : Value} {f : Fl} {x m k : Int}  {w : World} (hf : Fv w v f) (he : f.possE = 0) (d1 : decide (m < 0) = false) (d2 : decide ((1048576 : Int) < m) = false) (d3 : decide (k < 0) = false) (d4 : decide ((1048576 : Int) < k) = false) (h1 : f.rcLo x = 0) (h2 : f.rcHi x = 0) (h3 : f.rcE x = 31) : Calls Tryz.prog 9 #[v, .int .i64 x, .int .i64 m, .int .i64 k] w fun e w' => e = .returned (.bool true) ∧ Below w.heap.size w w' := by
  obtain ⟨vv, sv, rfl, hv, hs⟩ := hf
  have HV := Lib.hid hv
  have HS := Lib.hid hs
  obtain ⟨A, c, rfl, _⟩ := hv
  obtain ⟨A2, c2, rfl, _⟩ := hs
  have HE := Lib.hid he
  clear he
  have H1 := Lib.hid h1
  clear h1
  have H2 := Lib.hid h2
  clear h2
  have H3 := Lib.hid h3
  clear h3
  unfold flC
  have HM := Lib.hid (Bks.nil w); have hC : Below w.heap.size w w := Below.refl _ _; have hK := True.intro; have hL := True.intro
  go_enter Tryz.func9, Tryz.ntmps9
  go_wp2_with fail
  refine (sane_is).mono ?_
  rintro e1 w1 ⟨rfl, hb⟩
  obtain ⟨hm_, hC_⟩ := stp1 hb HM.out hC; clear HM hC hb hK hL; have hK := hm_.cells; have hL := hm_.lts; simp only [BCells, CellsAt, BLts, Nat.reduceAdd, Nat.zero_add, and_true] at hK hL; have HM := Lib.hid hm_; have hC := hC_; clear hm_ hC_
  go_wp2_with fail
  refine (check_is HE.out ⟨_, _, rfl, HV.out.below (by (repeat' with_reducible first|assumption|exact Below.refl _ _|apply bl_alloc|apply bl_drewN|apply bl_drew|refine bl_set ?_ (by simp<;>omega) _|refine bl_then ?_ (by assumption))), HS.out.below (by (repeat' with_reducible first|assumption|exact Below.refl _ _|apply bl_alloc|apply bl_drewN|apply bl_drew|refine bl_set ?_ (by simp<;>omega) _|refine bl_then ?_ (by assumption)))⟩).mono ?_
  rintro e2 w2 ⟨rfl, hb⟩
  obtain ⟨hm_, hC_⟩ := stp0 hb HM.out hC; clear HM hC hb hK hL; have hK := hm_.cells; have hL := hm_.lts; simp only [BCells, CellsAt, BLts, Nat.reduceAdd, Nat.zero_add, and_true] at hK hL; have HM := Lib.hid hm_; have hC := hC_; clear hm_ hC_
  go_wp2_with fail
  refine (reached_is H1.out H2.out H3.out ⟨_, _, rfl, HV.out.below (by (repeat' with_reducible first|assumption|exact Below.refl _ _|apply bl_alloc|apply bl_drewN|apply bl_drew|refine bl_set ?_ (by simp<;>omega) _|refine bl_then ?_ (by assumption))), HS.out.below (by (repeat' with_reducible first|assumption|exact Below.refl _ _|apply bl_alloc|apply bl_drewN|apply bl_drew|refine bl_set ?_ (by simp<;>omega) _|refine bl_then ?_ (by assumption)))⟩).mono ?_
  rintro e3 w3 ⟨rfl, hb⟩
  obtain ⟨hm_, hC_⟩ := stp0 hb HM.out hC; clear HM hC hb hK hL; have hK := hm_.cells; have hL := hm_.lts; simp only [BCells, CellsAt, BLts, Nat.reduceAdd, Nat.zero_add, and_true] at hK hL; have HM := Lib.hid hm_; have hC := hC_; clear hm_ hC_
  go_wp2
  go_ret
  exact ⟨rfl, by (repeat' with_reducible first|assumption|exact Below.refl _ _|apply bl_alloc|apply bl_drewN|apply bl_drew|refine bl_set ?_ (by simp<;>omega) _|refine bl_then ?_ (by assumption))⟩
/-- What Surely and Ever say beside the span of Reached. -/
def SureSo (su ev : Bool) (x0 x1 m : Int) : Prop := (su = true → ev = true) ∧ (su = decide (x1 ≤ m)) ∧ (ev = true → decide (m < x0) = false) ∧ (ev = false → decide (x0 < m) = false)
set_option maxRecDepth 100000 in
set_option maxHeartbeats 1000000 in
theorem later_uz {v : Value} {f : Fl} {x m k x0 x1 a0 a1 b0 b1 y0 y1 : Int} {su ev : Bool}  {w : World} (hf : Fv w v f) (he : f.possE = 0) (d1 : decide (m < 0) = false) (d2 : decide ((1048576 : Int) < m) = false) (d3 : decide (k < 0) = false) (d4 : decide ((1048576 : Int) < k) = false) (h1 : f.rcLo x = x0) (h2 : f.rcHi x = x1) (h3 : f.rcE x = 0) (h4 : f.lv0 m = a0) (h5 : f.lv1 m = a1) (h6 : f.lvE m = 0) (h7 : f.lv0 (m + k) = b0) (h8 : f.lv1 (m + k) = b1) (h9 : f.lvE (m + k) = 0) (e1 : IntKind.i64.wrap (m + k) = m + k) (t1 : decide (a0 < b0) = false) (t2 : decide (a1 < b1) = false) (t3 : decide (a1 < a0) = false) (t4 : decide (x1 < x0) = false) (t5 : decide (0 < x) = true) (h10 : f.rcLo (x - 1) = y0) (h11 : f.rcHi (x - 1) = y1) (h12 : f.rcE (x - 1) = 0) (e2 : IntKind.i64.wrap (x - 1) = x - 1) (t6 : decide (y0 < x0) = false) (t7 : decide (y1 < x1) = false) (h13 : f.suB x m = su) (h14 : f.asE x m = 0) (h15 : f.evB x m = ev) (hss : SureSo su ev x0 x1 m) (h16 : f.suB x x1 = true) (h17 : f.asE x x1 = 0) (t8 : (x0 == 0) = true) : Calls Tryz.prog 9 #[v, .int .i64 x, .int .i64 m, .int .i64 k] w fun e w' => e = .returned (.bool true) ∧ Below w.heap.size w w' := by
  obtain ⟨vv, sv, rfl, hv, hs⟩ := hf
  have HV := Lib.hid hv
  have HS := Lib.hid hs
  obtain ⟨A, c, rfl, _⟩ := hv
  obtain ⟨A2, c2, rfl, _⟩ := hs
  have HE := Lib.hid he
  clear he
  have H1 := Lib.hid h1
  clear h1
  have H2 := Lib.hid h2
  clear h2
  have H3 := Lib.hid h3
  clear h3
  have H4 := Lib.hid h4
  clear h4
  have H5 := Lib.hid h5
  clear h5
  have H6 := Lib.hid h6
  clear h6
  have H7 := Lib.hid h7
  clear h7
  have H8 := Lib.hid h8
  clear h8
  have H9 := Lib.hid h9
  clear h9
  have H10 := Lib.hid h10
  clear h10
  have H11 := Lib.hid h11
  clear h11
  have H12 := Lib.hid h12
  clear h12
  have H13 := Lib.hid h13
  clear h13
  have H14 := Lib.hid h14
  clear h14
  have H15 := Lib.hid h15
  clear h15
  have HSS := Lib.hid hss
  clear hss
  have H16 := Lib.hid h16
  clear h16
  have H17 := Lib.hid h17
  clear h17
  unfold flC
  have HM := Lib.hid (Bks.nil w); have hC : Below w.heap.size w w := Below.refl _ _; have hK := True.intro; have hL := True.intro
  go_enter Tryz.func9, Tryz.ntmps9
  go_wp2_with fail
  refine (sane_is).mono ?_
  rintro e1 w1 ⟨rfl, hb⟩
  obtain ⟨hm_, hC_⟩ := stp1 hb HM.out hC; clear HM hC hb hK hL; have hK := hm_.cells; have hL := hm_.lts; simp only [BCells, CellsAt, BLts, Nat.reduceAdd, Nat.zero_add, and_true] at hK hL; have HM := Lib.hid hm_; have hC := hC_; clear hm_ hC_
  go_wp2_with fail
  refine (check_is HE.out ⟨_, _, rfl, HV.out.below (by (repeat' with_reducible first|assumption|exact Below.refl _ _|apply bl_alloc|apply bl_drewN|apply bl_drew|refine bl_set ?_ (by simp<;>omega) _|refine bl_then ?_ (by assumption))), HS.out.below (by (repeat' with_reducible first|assumption|exact Below.refl _ _|apply bl_alloc|apply bl_drewN|apply bl_drew|refine bl_set ?_ (by simp<;>omega) _|refine bl_then ?_ (by assumption)))⟩).mono ?_
  rintro e2 w2 ⟨rfl, hb⟩
  obtain ⟨hm_, hC_⟩ := stp0 hb HM.out hC; clear HM hC hb hK hL; have hK := hm_.cells; have hL := hm_.lts; simp only [BCells, CellsAt, BLts, Nat.reduceAdd, Nat.zero_add, and_true] at hK hL; have HM := Lib.hid hm_; have hC := hC_; clear hm_ hC_
  go_wp2_with fail
  refine (reached_is H1.out H2.out H3.out ⟨_, _, rfl, HV.out.below (by (repeat' with_reducible first|assumption|exact Below.refl _ _|apply bl_alloc|apply bl_drewN|apply bl_drew|refine bl_set ?_ (by simp<;>omega) _|refine bl_then ?_ (by assumption))), HS.out.below (by (repeat' with_reducible first|assumption|exact Below.refl _ _|apply bl_alloc|apply bl_drewN|apply bl_drew|refine bl_set ?_ (by simp<;>omega) _|refine bl_then ?_ (by assumption)))⟩).mono ?_
  rintro e3 w3 ⟨rfl, hb⟩
  obtain ⟨hm_, hC_⟩ := stp0 hb HM.out hC; clear HM hC hb hK hL; have hK := hm_.cells; have hL := hm_.lts; simp only [BCells, CellsAt, BLts, Nat.reduceAdd, Nat.zero_add, and_true] at hK hL; have HM := Lib.hid hm_; have hC := hC_; clear hm_ hC_
  go_wp2_with fail
  refine (level_is H4.out H5.out H6.out ⟨_, _, rfl, HV.out.below (by (repeat' with_reducible first|assumption|exact Below.refl _ _|apply bl_alloc|apply bl_drewN|apply bl_drew|refine bl_set ?_ (by simp<;>omega) _|refine bl_then ?_ (by assumption))), HS.out.below (by (repeat' with_reducible first|assumption|exact Below.refl _ _|apply bl_alloc|apply bl_drewN|apply bl_drew|refine bl_set ?_ (by simp<;>omega) _|refine bl_then ?_ (by assumption)))⟩).mono ?_
  rintro e4 w4 ⟨rfl, hb⟩
  obtain ⟨hm_, hC_⟩ := stp1 hb HM.out hC; clear HM hC hb hK hL; have hK := hm_.cells; have hL := hm_.lts; simp only [BCells, CellsAt, BLts, Nat.reduceAdd, Nat.zero_add, and_true] at hK hL; have HM := Lib.hid hm_; have hC := hC_; clear hm_ hC_
  go_wp2_with fail
  refine (level_is H7.out H8.out H9.out ⟨_, _, rfl, HV.out.below (by (repeat' with_reducible first|assumption|exact Below.refl _ _|apply bl_alloc|apply bl_drewN|apply bl_drew|refine bl_set ?_ (by simp<;>omega) _|refine bl_then ?_ (by assumption))), HS.out.below (by (repeat' with_reducible first|assumption|exact Below.refl _ _|apply bl_alloc|apply bl_drewN|apply bl_drew|refine bl_set ?_ (by simp<;>omega) _|refine bl_then ?_ (by assumption)))⟩).mono ?_
  rintro e5 w5 ⟨rfl, hb⟩
  obtain ⟨hm_, hC_⟩ := stp1 hb HM.out hC; clear HM hC hb hK hL; have hK := hm_.cells; have hL := hm_.lts; simp only [BCells, CellsAt, BLts, Nat.reduceAdd, Nat.zero_add, and_true] at hK hL; have HM := Lib.hid hm_; have hC := hC_; clear hm_ hC_
  go_wp2_with fail
  refine (reached_is H10.out H11.out H12.out ⟨_, _, rfl, HV.out.below (by (repeat' with_reducible first|assumption|exact Below.refl _ _|apply bl_alloc|apply bl_drewN|apply bl_drew|refine bl_set ?_ (by simp<;>omega) _|refine bl_then ?_ (by assumption))), HS.out.below (by (repeat' with_reducible first|assumption|exact Below.refl _ _|apply bl_alloc|apply bl_drewN|apply bl_drew|refine bl_set ?_ (by simp<;>omega) _|refine bl_then ?_ (by assumption)))⟩).mono ?_
  rintro e6 w6 ⟨rfl, hb⟩
  obtain ⟨hm_, hC_⟩ := stp1 hb HM.out hC; clear HM hC hb hK hL; have hK := hm_.cells; have hL := hm_.lts; simp only [BCells, CellsAt, BLts, Nat.reduceAdd, Nat.zero_add, and_true] at hK hL; have HM := Lib.hid hm_; have hC := hC_; clear hm_ hC_
  go_wp2_with fail
  refine (surely_is H13.out H14.out ⟨_, _, rfl, HV.out.below (by (repeat' with_reducible first|assumption|exact Below.refl _ _|apply bl_alloc|apply bl_drewN|apply bl_drew|refine bl_set ?_ (by simp<;>omega) _|refine bl_then ?_ (by assumption))), HS.out.below (by (repeat' with_reducible first|assumption|exact Below.refl _ _|apply bl_alloc|apply bl_drewN|apply bl_drew|refine bl_set ?_ (by simp<;>omega) _|refine bl_then ?_ (by assumption)))⟩).mono ?_
  rintro e7 w7 ⟨rfl, hb⟩
  obtain ⟨hm_, hC_⟩ := stp1 hb HM.out hC; clear HM hC hb hK hL; have hK := hm_.cells; have hL := hm_.lts; simp only [BCells, CellsAt, BLts, Nat.reduceAdd, Nat.zero_add, and_true] at hK hL; have HM := Lib.hid hm_; have hC := hC_; clear hm_ hC_
  go_wp2_with fail
  refine (ever_is H15.out H14.out ⟨_, _, rfl, HV.out.below (by (repeat' with_reducible first|assumption|exact Below.refl _ _|apply bl_alloc|apply bl_drewN|apply bl_drew|refine bl_set ?_ (by simp<;>omega) _|refine bl_then ?_ (by assumption))), HS.out.below (by (repeat' with_reducible first|assumption|exact Below.refl _ _|apply bl_alloc|apply bl_drewN|apply bl_drew|refine bl_set ?_ (by simp<;>omega) _|refine bl_then ?_ (by assumption)))⟩).mono ?_
  rintro e8 w8 ⟨rfl, hb⟩
  obtain ⟨hm_, hC_⟩ := stp0 hb HM.out hC; clear HM hC hb hK hL; have hK := hm_.cells; have hL := hm_.lts; simp only [BCells, CellsAt, BLts, Nat.reduceAdd, Nat.zero_add, and_true] at hK hL; have HM := Lib.hid hm_; have hC := hC_; clear hm_ hC_
  go_upto_region 18 with fail
  go_cut [181] (fun s wx => s = .bool false ∧ wx = w8)
  case first =>
    have hSS := HSS.out
    unfold SureSo at hSS
    obtain ⟨q1, q2, q3, q4⟩ := hSS
    cases su <;> cases ev
    · have r1 := q2.symm
      have r2 := q4 rfl
      clear q1 q2 q3 q4
      go_wp2
      go_meet
      exact ⟨rfl, rfl⟩
    · have r1 := q2.symm
      have r2 := q3 rfl
      clear q1 q2 q3 q4
      cases r3 : decide (x0 < m)
      all_goals
        go_wp2
        go_meet
        exact ⟨rfl, rfl⟩
    · exact absurd (q1 rfl) (by simp)
    · have r1 := q2.symm
      have r2 := q3 rfl
      clear q1 q2 q3 q4
      cases r3 : decide (x0 < m)
      all_goals
        go_wp2
        go_meet
        exact ⟨rfl, rfl⟩
  case rest =>
    obtain ⟨rfl, rfl⟩ := hcut
    go_wp2_with fail
    refine (surely_is H16.out H17.out ⟨_, _, rfl, HV.out.below (by (repeat' with_reducible first|assumption|exact Below.refl _ _|apply bl_alloc|apply bl_drewN|apply bl_drew|refine bl_set ?_ (by simp<;>omega) _|refine bl_then ?_ (by assumption))), HS.out.below (by (repeat' with_reducible first|assumption|exact Below.refl _ _|apply bl_alloc|apply bl_drewN|apply bl_drew|refine bl_set ?_ (by simp<;>omega) _|refine bl_then ?_ (by assumption)))⟩).mono ?_
    rintro e9 w9 ⟨rfl, hb⟩
    obtain ⟨hm_, hC_⟩ := stp0 hb HM.out hC; clear HM hC hb hK hL; have hK := hm_.cells; have hL := hm_.lts; simp only [BCells, CellsAt, BLts, Nat.reduceAdd, Nat.zero_add, and_true] at hK hL; have HM := Lib.hid hm_; have hC := hC_; clear hm_ hC_
    go_wp2
    go_ret
    exact ⟨rfl, by (repeat' with_reducible first|assumption|exact Below.refl _ _|apply bl_alloc|apply bl_drewN|apply bl_drew|refine bl_set ?_ (by simp<;>omega) _|refine bl_then ?_ (by assumption))⟩
set_option maxRecDepth 100000 in
set_option maxHeartbeats 1000000 in
theorem later_um {v : Value} {f : Fl} {x m k x0 x1 a0 a1 b0 b1 y0 y1 : Int} {su ev : Bool}  {w : World} (hf : Fv w v f) (he : f.possE = 0) (d1 : decide (m < 0) = false) (d2 : decide ((1048576 : Int) < m) = false) (d3 : decide (k < 0) = false) (d4 : decide ((1048576 : Int) < k) = false) (h1 : f.rcLo x = x0) (h2 : f.rcHi x = x1) (h3 : f.rcE x = 0) (h4 : f.lv0 m = a0) (h5 : f.lv1 m = a1) (h6 : f.lvE m = 0) (h7 : f.lv0 (m + k) = b0) (h8 : f.lv1 (m + k) = b1) (h9 : f.lvE (m + k) = 0) (e1 : IntKind.i64.wrap (m + k) = m + k) (t1 : decide (a0 < b0) = false) (t2 : decide (a1 < b1) = false) (t3 : decide (a1 < a0) = false) (t4 : decide (x1 < x0) = false) (t5 : decide (0 < x) = true) (h10 : f.rcLo (x - 1) = y0) (h11 : f.rcHi (x - 1) = y1) (h12 : f.rcE (x - 1) = 0) (e2 : IntKind.i64.wrap (x - 1) = x - 1) (t6 : decide (y0 < x0) = false) (t7 : decide (y1 < x1) = false) (h13 : f.suB x m = su) (h14 : f.asE x m = 0) (h15 : f.evB x m = ev) (hss : SureSo su ev x0 x1 m) (h16 : f.suB x x1 = true) (h17 : f.asE x x1 = 0) (t8 : (x0 == 0) = false) (h18 : f.evB x (x0 - 1) = false) (h19 : f.asE x (x0 - 1) = 0) (e3 : IntKind.i64.wrap (x0 - 1) = x0 - 1) : Calls Tryz.prog 9 #[v, .int .i64 x, .int .i64 m, .int .i64 k] w fun e w' => e = .returned (.bool true) ∧ Below w.heap.size w w' := by
  obtain ⟨vv, sv, rfl, hv, hs⟩ := hf
  have HV := Lib.hid hv
  have HS := Lib.hid hs
  obtain ⟨A, c, rfl, _⟩ := hv
  obtain ⟨A2, c2, rfl, _⟩ := hs
  have HE := Lib.hid he
  clear he
  have H1 := Lib.hid h1
  clear h1
  have H2 := Lib.hid h2
  clear h2
  have H3 := Lib.hid h3
  clear h3
  have H4 := Lib.hid h4
  clear h4
  have H5 := Lib.hid h5
  clear h5
  have H6 := Lib.hid h6
  clear h6
  have H7 := Lib.hid h7
  clear h7
  have H8 := Lib.hid h8
  clear h8
  have H9 := Lib.hid h9
  clear h9
  have H10 := Lib.hid h10
  clear h10
  have H11 := Lib.hid h11
  clear h11
  have H12 := Lib.hid h12
  clear h12
  have H13 := Lib.hid h13
  clear h13
  have H14 := Lib.hid h14
  clear h14
  have H15 := Lib.hid h15
  clear h15
  have HSS := Lib.hid hss
  clear hss
  have H16 := Lib.hid h16
  clear h16
  have H17 := Lib.hid h17
  clear h17
  have H18 := Lib.hid h18
  clear h18
  have H19 := Lib.hid h19
  clear h19
  unfold flC
  have HM := Lib.hid (Bks.nil w); have hC : Below w.heap.size w w := Below.refl _ _; have hK := True.intro; have hL := True.intro
  go_enter Tryz.func9, Tryz.ntmps9
  go_wp2_with fail
  refine (sane_is).mono ?_
  rintro e1 w1 ⟨rfl, hb⟩
  obtain ⟨hm_, hC_⟩ := stp1 hb HM.out hC; clear HM hC hb hK hL; have hK := hm_.cells; have hL := hm_.lts; simp only [BCells, CellsAt, BLts, Nat.reduceAdd, Nat.zero_add, and_true] at hK hL; have HM := Lib.hid hm_; have hC := hC_; clear hm_ hC_
  go_wp2_with fail
  refine (check_is HE.out ⟨_, _, rfl, HV.out.below (by (repeat' with_reducible first|assumption|exact Below.refl _ _|apply bl_alloc|apply bl_drewN|apply bl_drew|refine bl_set ?_ (by simp<;>omega) _|refine bl_then ?_ (by assumption))), HS.out.below (by (repeat' with_reducible first|assumption|exact Below.refl _ _|apply bl_alloc|apply bl_drewN|apply bl_drew|refine bl_set ?_ (by simp<;>omega) _|refine bl_then ?_ (by assumption)))⟩).mono ?_
  rintro e2 w2 ⟨rfl, hb⟩
  obtain ⟨hm_, hC_⟩ := stp0 hb HM.out hC; clear HM hC hb hK hL; have hK := hm_.cells; have hL := hm_.lts; simp only [BCells, CellsAt, BLts, Nat.reduceAdd, Nat.zero_add, and_true] at hK hL; have HM := Lib.hid hm_; have hC := hC_; clear hm_ hC_
  go_wp2_with fail
  refine (reached_is H1.out H2.out H3.out ⟨_, _, rfl, HV.out.below (by (repeat' with_reducible first|assumption|exact Below.refl _ _|apply bl_alloc|apply bl_drewN|apply bl_drew|refine bl_set ?_ (by simp<;>omega) _|refine bl_then ?_ (by assumption))), HS.out.below (by (repeat' with_reducible first|assumption|exact Below.refl _ _|apply bl_alloc|apply bl_drewN|apply bl_drew|refine bl_set ?_ (by simp<;>omega) _|refine bl_then ?_ (by assumption)))⟩).mono ?_
  rintro e3 w3 ⟨rfl, hb⟩
  obtain ⟨hm_, hC_⟩ := stp0 hb HM.out hC; clear HM hC hb hK hL; have hK := hm_.cells; have hL := hm_.lts; simp only [BCells, CellsAt, BLts, Nat.reduceAdd, Nat.zero_add, and_true] at hK hL; have HM := Lib.hid hm_; have hC := hC_; clear hm_ hC_
  go_wp2_with fail
  refine (level_is H4.out H5.out H6.out ⟨_, _, rfl, HV.out.below (by (repeat' with_reducible first|assumption|exact Below.refl _ _|apply bl_alloc|apply bl_drewN|apply bl_drew|refine bl_set ?_ (by simp<;>omega) _|refine bl_then ?_ (by assumption))), HS.out.below (by (repeat' with_reducible first|assumption|exact Below.refl _ _|apply bl_alloc|apply bl_drewN|apply bl_drew|refine bl_set ?_ (by simp<;>omega) _|refine bl_then ?_ (by assumption)))⟩).mono ?_
  rintro e4 w4 ⟨rfl, hb⟩
  obtain ⟨hm_, hC_⟩ := stp1 hb HM.out hC; clear HM hC hb hK hL; have hK := hm_.cells; have hL := hm_.lts; simp only [BCells, CellsAt, BLts, Nat.reduceAdd, Nat.zero_add, and_true] at hK hL; have HM := Lib.hid hm_; have hC := hC_; clear hm_ hC_
  go_wp2_with fail
  refine (level_is H7.out H8.out H9.out ⟨_, _, rfl, HV.out.below (by (repeat' with_reducible first|assumption|exact Below.refl _ _|apply bl_alloc|apply bl_drewN|apply bl_drew|refine bl_set ?_ (by simp<;>omega) _|refine bl_then ?_ (by assumption))), HS.out.below (by (repeat' with_reducible first|assumption|exact Below.refl _ _|apply bl_alloc|apply bl_drewN|apply bl_drew|refine bl_set ?_ (by simp<;>omega) _|refine bl_then ?_ (by assumption)))⟩).mono ?_
  rintro e5 w5 ⟨rfl, hb⟩
  obtain ⟨hm_, hC_⟩ := stp1 hb HM.out hC; clear HM hC hb hK hL; have hK := hm_.cells; have hL := hm_.lts; simp only [BCells, CellsAt, BLts, Nat.reduceAdd, Nat.zero_add, and_true] at hK hL; have HM := Lib.hid hm_; have hC := hC_; clear hm_ hC_
  go_wp2_with fail
  refine (reached_is H10.out H11.out H12.out ⟨_, _, rfl, HV.out.below (by (repeat' with_reducible first|assumption|exact Below.refl _ _|apply bl_alloc|apply bl_drewN|apply bl_drew|refine bl_set ?_ (by simp<;>omega) _|refine bl_then ?_ (by assumption))), HS.out.below (by (repeat' with_reducible first|assumption|exact Below.refl _ _|apply bl_alloc|apply bl_drewN|apply bl_drew|refine bl_set ?_ (by simp<;>omega) _|refine bl_then ?_ (by assumption)))⟩).mono ?_
  rintro e6 w6 ⟨rfl, hb⟩
  obtain ⟨hm_, hC_⟩ := stp1 hb HM.out hC; clear HM hC hb hK hL; have hK := hm_.cells; have hL := hm_.lts; simp only [BCells, CellsAt, BLts, Nat.reduceAdd, Nat.zero_add, and_true] at hK hL; have HM := Lib.hid hm_; have hC := hC_; clear hm_ hC_
  go_wp2_with fail
  refine (surely_is H13.out H14.out ⟨_, _, rfl, HV.out.below (by (repeat' with_reducible first|assumption|exact Below.refl _ _|apply bl_alloc|apply bl_drewN|apply bl_drew|refine bl_set ?_ (by simp<;>omega) _|refine bl_then ?_ (by assumption))), HS.out.below (by (repeat' with_reducible first|assumption|exact Below.refl _ _|apply bl_alloc|apply bl_drewN|apply bl_drew|refine bl_set ?_ (by simp<;>omega) _|refine bl_then ?_ (by assumption)))⟩).mono ?_
  rintro e7 w7 ⟨rfl, hb⟩
  obtain ⟨hm_, hC_⟩ := stp1 hb HM.out hC; clear HM hC hb hK hL; have hK := hm_.cells; have hL := hm_.lts; simp only [BCells, CellsAt, BLts, Nat.reduceAdd, Nat.zero_add, and_true] at hK hL; have HM := Lib.hid hm_; have hC := hC_; clear hm_ hC_
  go_wp2_with fail
  refine (ever_is H15.out H14.out ⟨_, _, rfl, HV.out.below (by (repeat' with_reducible first|assumption|exact Below.refl _ _|apply bl_alloc|apply bl_drewN|apply bl_drew|refine bl_set ?_ (by simp<;>omega) _|refine bl_then ?_ (by assumption))), HS.out.below (by (repeat' with_reducible first|assumption|exact Below.refl _ _|apply bl_alloc|apply bl_drewN|apply bl_drew|refine bl_set ?_ (by simp<;>omega) _|refine bl_then ?_ (by assumption)))⟩).mono ?_
  rintro e8 w8 ⟨rfl, hb⟩
  obtain ⟨hm_, hC_⟩ := stp0 hb HM.out hC; clear HM hC hb hK hL; have hK := hm_.cells; have hL := hm_.lts; simp only [BCells, CellsAt, BLts, Nat.reduceAdd, Nat.zero_add, and_true] at hK hL; have HM := Lib.hid hm_; have hC := hC_; clear hm_ hC_
  go_upto_region 18 with fail
  go_cut [181] (fun s wx => s = .bool false ∧ wx = w8)
  case first =>
    have hSS := HSS.out
    unfold SureSo at hSS
    obtain ⟨q1, q2, q3, q4⟩ := hSS
    cases su <;> cases ev
    · have r1 := q2.symm
      have r2 := q4 rfl
      clear q1 q2 q3 q4
      go_wp2
      go_meet
      exact ⟨rfl, rfl⟩
    · have r1 := q2.symm
      have r2 := q3 rfl
      clear q1 q2 q3 q4
      cases r3 : decide (x0 < m)
      all_goals
        go_wp2
        go_meet
        exact ⟨rfl, rfl⟩
    · exact absurd (q1 rfl) (by simp)
    · have r1 := q2.symm
      have r2 := q3 rfl
      clear q1 q2 q3 q4
      cases r3 : decide (x0 < m)
      all_goals
        go_wp2
        go_meet
        exact ⟨rfl, rfl⟩
  case rest =>
    obtain ⟨rfl, rfl⟩ := hcut
    go_wp2_with fail
    refine (surely_is H16.out H17.out ⟨_, _, rfl, HV.out.below (by (repeat' with_reducible first|assumption|exact Below.refl _ _|apply bl_alloc|apply bl_drewN|apply bl_drew|refine bl_set ?_ (by simp<;>omega) _|refine bl_then ?_ (by assumption))), HS.out.below (by (repeat' with_reducible first|assumption|exact Below.refl _ _|apply bl_alloc|apply bl_drewN|apply bl_drew|refine bl_set ?_ (by simp<;>omega) _|refine bl_then ?_ (by assumption)))⟩).mono ?_
    rintro e9 w9 ⟨rfl, hb⟩
    obtain ⟨hm_, hC_⟩ := stp0 hb HM.out hC; clear HM hC hb hK hL; have hK := hm_.cells; have hL := hm_.lts; simp only [BCells, CellsAt, BLts, Nat.reduceAdd, Nat.zero_add, and_true] at hK hL; have HM := Lib.hid hm_; have hC := hC_; clear hm_ hC_
    go_wp2_with fail
    refine (ever_is H18.out H19.out ⟨_, _, rfl, HV.out.below (by (repeat' with_reducible first|assumption|exact Below.refl _ _|apply bl_alloc|apply bl_drewN|apply bl_drew|refine bl_set ?_ (by simp<;>omega) _|refine bl_then ?_ (by assumption))), HS.out.below (by (repeat' with_reducible first|assumption|exact Below.refl _ _|apply bl_alloc|apply bl_drewN|apply bl_drew|refine bl_set ?_ (by simp<;>omega) _|refine bl_then ?_ (by assumption)))⟩).mono ?_
    rintro e10 w10 ⟨rfl, hb⟩
    obtain ⟨hm_, hC_⟩ := stp0 hb HM.out hC; clear HM hC hb hK hL; have hK := hm_.cells; have hL := hm_.lts; simp only [BCells, CellsAt, BLts, Nat.reduceAdd, Nat.zero_add, and_true] at hK hL; have HM := Lib.hid hm_; have hC := hC_; clear hm_ hC_
    go_wp2
    go_ret
    exact ⟨rfl, by (repeat' with_reducible first|assumption|exact Below.refl _ _|apply bl_alloc|apply bl_drewN|apply bl_drew|refine bl_set ?_ (by simp<;>omega) _|refine bl_then ?_ (by assumption))⟩
set_option maxRecDepth 100000 in
set_option maxHeartbeats 1000000 in
theorem later_lz {v : Value} {f : Fl} {x m k x0 x1 a0 a1 b0 b1 y0 y1 : Int} {su ev : Bool}  {w : World} (hf : Fv w v f) (he : f.possE = 0) (d1 : decide (m < 0) = false) (d2 : decide ((1048576 : Int) < m) = false) (d3 : decide (k < 0) = false) (d4 : decide ((1048576 : Int) < k) = false) (h1 : f.rcLo x = x0) (h2 : f.rcHi x = x1) (h3 : f.rcE x = 0) (h4 : f.lv0 m = a0) (h5 : f.lv1 m = a1) (h6 : f.lvE m = 0) (h7 : f.lv0 (m + k) = b0) (h8 : f.lv1 (m + k) = b1) (h9 : f.lvE (m + k) = 0) (e1 : IntKind.i64.wrap (m + k) = m + k) (t1 : decide (a0 < b0) = false) (t2 : decide (a1 < b1) = false) (t3 : decide (a1 < a0) = false) (t4 : decide (x1 < x0) = false) (t5 : decide (0 < x) = false) (h13 : f.suB x m = su) (h14 : f.asE x m = 0) (h15 : f.evB x m = ev) (hss : SureSo su ev x0 x1 m) (h16 : f.suB x x1 = true) (h17 : f.asE x x1 = 0) (t8 : (x0 == 0) = true) : Calls Tryz.prog 9 #[v, .int .i64 x, .int .i64 m, .int .i64 k] w fun e w' => e = .returned (.bool true) ∧ Below w.heap.size w w' := by
  obtain ⟨vv, sv, rfl, hv, hs⟩ := hf
  have HV := Lib.hid hv
  have HS := Lib.hid hs
  obtain ⟨A, c, rfl, _⟩ := hv
  obtain ⟨A2, c2, rfl, _⟩ := hs
  have HE := Lib.hid he
  clear he
  have H1 := Lib.hid h1
  clear h1
  have H2 := Lib.hid h2
  clear h2
  have H3 := Lib.hid h3
  clear h3
  have H4 := Lib.hid h4
  clear h4
  have H5 := Lib.hid h5
  clear h5
  have H6 := Lib.hid h6
  clear h6
  have H7 := Lib.hid h7
  clear h7
  have H8 := Lib.hid h8
  clear h8
  have H9 := Lib.hid h9
  clear h9
  have H13 := Lib.hid h13
  clear h13
  have H14 := Lib.hid h14
  clear h14
  have H15 := Lib.hid h15
  clear h15
  have HSS := Lib.hid hss
  clear hss
  have H16 := Lib.hid h16
  clear h16
  have H17 := Lib.hid h17
  clear h17
  unfold flC
  have HM := Lib.hid (Bks.nil w); have hC : Below w.heap.size w w := Below.refl _ _; have hK := True.intro; have hL := True.intro
  go_enter Tryz.func9, Tryz.ntmps9
  go_wp2_with fail
  refine (sane_is).mono ?_
  rintro e1 w1 ⟨rfl, hb⟩
  obtain ⟨hm_, hC_⟩ := stp1 hb HM.out hC; clear HM hC hb hK hL; have hK := hm_.cells; have hL := hm_.lts; simp only [BCells, CellsAt, BLts, Nat.reduceAdd, Nat.zero_add, and_true] at hK hL; have HM := Lib.hid hm_; have hC := hC_; clear hm_ hC_
  go_wp2_with fail
  refine (check_is HE.out ⟨_, _, rfl, HV.out.below (by (repeat' with_reducible first|assumption|exact Below.refl _ _|apply bl_alloc|apply bl_drewN|apply bl_drew|refine bl_set ?_ (by simp<;>omega) _|refine bl_then ?_ (by assumption))), HS.out.below (by (repeat' with_reducible first|assumption|exact Below.refl _ _|apply bl_alloc|apply bl_drewN|apply bl_drew|refine bl_set ?_ (by simp<;>omega) _|refine bl_then ?_ (by assumption)))⟩).mono ?_
  rintro e2 w2 ⟨rfl, hb⟩
  obtain ⟨hm_, hC_⟩ := stp0 hb HM.out hC; clear HM hC hb hK hL; have hK := hm_.cells; have hL := hm_.lts; simp only [BCells, CellsAt, BLts, Nat.reduceAdd, Nat.zero_add, and_true] at hK hL; have HM := Lib.hid hm_; have hC := hC_; clear hm_ hC_
  go_wp2_with fail
  refine (reached_is H1.out H2.out H3.out ⟨_, _, rfl, HV.out.below (by (repeat' with_reducible first|assumption|exact Below.refl _ _|apply bl_alloc|apply bl_drewN|apply bl_drew|refine bl_set ?_ (by simp<;>omega) _|refine bl_then ?_ (by assumption))), HS.out.below (by (repeat' with_reducible first|assumption|exact Below.refl _ _|apply bl_alloc|apply bl_drewN|apply bl_drew|refine bl_set ?_ (by simp<;>omega) _|refine bl_then ?_ (by assumption)))⟩).mono ?_
  rintro e3 w3 ⟨rfl, hb⟩
  obtain ⟨hm_, hC_⟩ := stp0 hb HM.out hC; clear HM hC hb hK hL; have hK := hm_.cells; have hL := hm_.lts; simp only [BCells, CellsAt, BLts, Nat.reduceAdd, Nat.zero_add, and_true] at hK hL; have HM := Lib.hid hm_; have hC := hC_; clear hm_ hC_
  go_wp2_with fail
  refine (level_is H4.out H5.out H6.out ⟨_, _, rfl, HV.out.below (by (repeat' with_reducible first|assumption|exact Below.refl _ _|apply bl_alloc|apply bl_drewN|apply bl_drew|refine bl_set ?_ (by simp<;>omega) _|refine bl_then ?_ (by assumption))), HS.out.below (by (repeat' with_reducible first|assumption|exact Below.refl _ _|apply bl_alloc|apply bl_drewN|apply bl_drew|refine bl_set ?_ (by simp<;>omega) _|refine bl_then ?_ (by assumption)))⟩).mono ?_
  rintro e4 w4 ⟨rfl, hb⟩
  obtain ⟨hm_, hC_⟩ := stp1 hb HM.out hC; clear HM hC hb hK hL; have hK := hm_.cells; have hL := hm_.lts; simp only [BCells, CellsAt, BLts, Nat.reduceAdd, Nat.zero_add, and_true] at hK hL; have HM := Lib.hid hm_; have hC := hC_; clear hm_ hC_
  go_wp2_with fail
  refine (level_is H7.out H8.out H9.out ⟨_, _, rfl, HV.out.below (by (repeat' with_reducible first|assumption|exact Below.refl _ _|apply bl_alloc|apply bl_drewN|apply bl_drew|refine bl_set ?_ (by simp<;>omega) _|refine bl_then ?_ (by assumption))), HS.out.below (by (repeat' with_reducible first|assumption|exact Below.refl _ _|apply bl_alloc|apply bl_drewN|apply bl_drew|refine bl_set ?_ (by simp<;>omega) _|refine bl_then ?_ (by assumption)))⟩).mono ?_
  rintro e5 w5 ⟨rfl, hb⟩
  obtain ⟨hm_, hC_⟩ := stp1 hb HM.out hC; clear HM hC hb hK hL; have hK := hm_.cells; have hL := hm_.lts; simp only [BCells, CellsAt, BLts, Nat.reduceAdd, Nat.zero_add, and_true] at hK hL; have HM := Lib.hid hm_; have hC := hC_; clear hm_ hC_
  go_wp2_with fail
  refine (surely_is H13.out H14.out ⟨_, _, rfl, HV.out.below (by (repeat' with_reducible first|assumption|exact Below.refl _ _|apply bl_alloc|apply bl_drewN|apply bl_drew|refine bl_set ?_ (by simp<;>omega) _|refine bl_then ?_ (by assumption))), HS.out.below (by (repeat' with_reducible first|assumption|exact Below.refl _ _|apply bl_alloc|apply bl_drewN|apply bl_drew|refine bl_set ?_ (by simp<;>omega) _|refine bl_then ?_ (by assumption)))⟩).mono ?_
  rintro e6 w6 ⟨rfl, hb⟩
  obtain ⟨hm_, hC_⟩ := stp1 hb HM.out hC; clear HM hC hb hK hL; have hK := hm_.cells; have hL := hm_.lts; simp only [BCells, CellsAt, BLts, Nat.reduceAdd, Nat.zero_add, and_true] at hK hL; have HM := Lib.hid hm_; have hC := hC_; clear hm_ hC_
  go_wp2_with fail
  refine (ever_is H15.out H14.out ⟨_, _, rfl, HV.out.below (by (repeat' with_reducible first|assumption|exact Below.refl _ _|apply bl_alloc|apply bl_drewN|apply bl_drew|refine bl_set ?_ (by simp<;>omega) _|refine bl_then ?_ (by assumption))), HS.out.below (by (repeat' with_reducible first|assumption|exact Below.refl _ _|apply bl_alloc|apply bl_drewN|apply bl_drew|refine bl_set ?_ (by simp<;>omega) _|refine bl_then ?_ (by assumption)))⟩).mono ?_
  rintro e7 w7 ⟨rfl, hb⟩
  obtain ⟨hm_, hC_⟩ := stp0 hb HM.out hC; clear HM hC hb hK hL; have hK := hm_.cells; have hL := hm_.lts; simp only [BCells, CellsAt, BLts, Nat.reduceAdd, Nat.zero_add, and_true] at hK hL; have HM := Lib.hid hm_; have hC := hC_; clear hm_ hC_
  go_upto_region 18 with fail
  go_cut [181] (fun s wx => s = .bool false ∧ wx = w7)
  case first =>
    have hSS := HSS.out
    unfold SureSo at hSS
    obtain ⟨q1, q2, q3, q4⟩ := hSS
    cases su <;> cases ev
    · have r1 := q2.symm
      have r2 := q4 rfl
      clear q1 q2 q3 q4
      go_wp2
      go_meet
      exact ⟨rfl, rfl⟩
    · have r1 := q2.symm
      have r2 := q3 rfl
      clear q1 q2 q3 q4
      cases r3 : decide (x0 < m)
      all_goals
        go_wp2
        go_meet
        exact ⟨rfl, rfl⟩
    · exact absurd (q1 rfl) (by simp)
    · have r1 := q2.symm
      have r2 := q3 rfl
      clear q1 q2 q3 q4
      cases r3 : decide (x0 < m)
      all_goals
        go_wp2
        go_meet
        exact ⟨rfl, rfl⟩
  case rest =>
    obtain ⟨rfl, rfl⟩ := hcut
    go_wp2_with fail
    refine (surely_is H16.out H17.out ⟨_, _, rfl, HV.out.below (by (repeat' with_reducible first|assumption|exact Below.refl _ _|apply bl_alloc|apply bl_drewN|apply bl_drew|refine bl_set ?_ (by simp<;>omega) _|refine bl_then ?_ (by assumption))), HS.out.below (by (repeat' with_reducible first|assumption|exact Below.refl _ _|apply bl_alloc|apply bl_drewN|apply bl_drew|refine bl_set ?_ (by simp<;>omega) _|refine bl_then ?_ (by assumption)))⟩).mono ?_
    rintro e8 w8 ⟨rfl, hb⟩
    obtain ⟨hm_, hC_⟩ := stp0 hb HM.out hC; clear HM hC hb hK hL; have hK := hm_.cells; have hL := hm_.lts; simp only [BCells, CellsAt, BLts, Nat.reduceAdd, Nat.zero_add, and_true] at hK hL; have HM := Lib.hid hm_; have hC := hC_; clear hm_ hC_
    go_wp2
    go_ret
    exact ⟨rfl, by (repeat' with_reducible first|assumption|exact Below.refl _ _|apply bl_alloc|apply bl_drewN|apply bl_drew|refine bl_set ?_ (by simp<;>omega) _|refine bl_then ?_ (by assumption))⟩
set_option maxRecDepth 100000 in
set_option maxHeartbeats 1000000 in
theorem later_lm {v : Value} {f : Fl} {x m k x0 x1 a0 a1 b0 b1 y0 y1 : Int} {su ev : Bool}  {w : World} (hf : Fv w v f) (he : f.possE = 0) (d1 : decide (m < 0) = false) (d2 : decide ((1048576 : Int) < m) = false) (d3 : decide (k < 0) = false) (d4 : decide ((1048576 : Int) < k) = false) (h1 : f.rcLo x = x0) (h2 : f.rcHi x = x1) (h3 : f.rcE x = 0) (h4 : f.lv0 m = a0) (h5 : f.lv1 m = a1) (h6 : f.lvE m = 0) (h7 : f.lv0 (m + k) = b0) (h8 : f.lv1 (m + k) = b1) (h9 : f.lvE (m + k) = 0) (e1 : IntKind.i64.wrap (m + k) = m + k) (t1 : decide (a0 < b0) = false) (t2 : decide (a1 < b1) = false) (t3 : decide (a1 < a0) = false) (t4 : decide (x1 < x0) = false) (t5 : decide (0 < x) = false) (h13 : f.suB x m = su) (h14 : f.asE x m = 0) (h15 : f.evB x m = ev) (hss : SureSo su ev x0 x1 m) (h16 : f.suB x x1 = true) (h17 : f.asE x x1 = 0) (t8 : (x0 == 0) = false) (h18 : f.evB x (x0 - 1) = false) (h19 : f.asE x (x0 - 1) = 0) (e3 : IntKind.i64.wrap (x0 - 1) = x0 - 1) : Calls Tryz.prog 9 #[v, .int .i64 x, .int .i64 m, .int .i64 k] w fun e w' => e = .returned (.bool true) ∧ Below w.heap.size w w' := by
  obtain ⟨vv, sv, rfl, hv, hs⟩ := hf
  have HV := Lib.hid hv
  have HS := Lib.hid hs
  obtain ⟨A, c, rfl, _⟩ := hv
  obtain ⟨A2, c2, rfl, _⟩ := hs
  have HE := Lib.hid he
  clear he
  have H1 := Lib.hid h1
  clear h1
  have H2 := Lib.hid h2
  clear h2
  have H3 := Lib.hid h3
  clear h3
  have H4 := Lib.hid h4
  clear h4
  have H5 := Lib.hid h5
  clear h5
  have H6 := Lib.hid h6
  clear h6
  have H7 := Lib.hid h7
  clear h7
  have H8 := Lib.hid h8
  clear h8
  have H9 := Lib.hid h9
  clear h9
  have H13 := Lib.hid h13
  clear h13
  have H14 := Lib.hid h14
  clear h14
  have H15 := Lib.hid h15
  clear h15
  have HSS := Lib.hid hss
  clear hss
  have H16 := Lib.hid h16
  clear h16
  have H17 := Lib.hid h17
  clear h17
  have H18 := Lib.hid h18
  clear h18
  have H19 := Lib.hid h19
  clear h19
  unfold flC
  have HM := Lib.hid (Bks.nil w); have hC : Below w.heap.size w w := Below.refl _ _; have hK := True.intro; have hL := True.intro
  go_enter Tryz.func9, Tryz.ntmps9
  go_wp2_with fail
  refine (sane_is).mono ?_
  rintro e1 w1 ⟨rfl, hb⟩
  obtain ⟨hm_, hC_⟩ := stp1 hb HM.out hC; clear HM hC hb hK hL; have hK := hm_.cells; have hL := hm_.lts; simp only [BCells, CellsAt, BLts, Nat.reduceAdd, Nat.zero_add, and_true] at hK hL; have HM := Lib.hid hm_; have hC := hC_; clear hm_ hC_
  go_wp2_with fail
  refine (check_is HE.out ⟨_, _, rfl, HV.out.below (by (repeat' with_reducible first|assumption|exact Below.refl _ _|apply bl_alloc|apply bl_drewN|apply bl_drew|refine bl_set ?_ (by simp<;>omega) _|refine bl_then ?_ (by assumption))), HS.out.below (by (repeat' with_reducible first|assumption|exact Below.refl _ _|apply bl_alloc|apply bl_drewN|apply bl_drew|refine bl_set ?_ (by simp<;>omega) _|refine bl_then ?_ (by assumption)))⟩).mono ?_
  rintro e2 w2 ⟨rfl, hb⟩
  obtain ⟨hm_, hC_⟩ := stp0 hb HM.out hC; clear HM hC hb hK hL; have hK := hm_.cells; have hL := hm_.lts; simp only [BCells, CellsAt, BLts, Nat.reduceAdd, Nat.zero_add, and_true] at hK hL; have HM := Lib.hid hm_; have hC := hC_; clear hm_ hC_
  go_wp2_with fail
  refine (reached_is H1.out H2.out H3.out ⟨_, _, rfl, HV.out.below (by (repeat' with_reducible first|assumption|exact Below.refl _ _|apply bl_alloc|apply bl_drewN|apply bl_drew|refine bl_set ?_ (by simp<;>omega) _|refine bl_then ?_ (by assumption))), HS.out.below (by (repeat' with_reducible first|assumption|exact Below.refl _ _|apply bl_alloc|apply bl_drewN|apply bl_drew|refine bl_set ?_ (by simp<;>omega) _|refine bl_then ?_ (by assumption)))⟩).mono ?_
  rintro e3 w3 ⟨rfl, hb⟩
  obtain ⟨hm_, hC_⟩ := stp0 hb HM.out hC; clear HM hC hb hK hL; have hK := hm_.cells; have hL := hm_.lts; simp only [BCells, CellsAt, BLts, Nat.reduceAdd, Nat.zero_add, and_true] at hK hL; have HM := Lib.hid hm_; have hC := hC_; clear hm_ hC_
  go_wp2_with fail
  refine (level_is H4.out H5.out H6.out ⟨_, _, rfl, HV.out.below (by (repeat' with_reducible first|assumption|exact Below.refl _ _|apply bl_alloc|apply bl_drewN|apply bl_drew|refine bl_set ?_ (by simp<;>omega) _|refine bl_then ?_ (by assumption))), HS.out.below (by (repeat' with_reducible first|assumption|exact Below.refl _ _|apply bl_alloc|apply bl_drewN|apply bl_drew|refine bl_set ?_ (by simp<;>omega) _|refine bl_then ?_ (by assumption)))⟩).mono ?_
  rintro e4 w4 ⟨rfl, hb⟩
  obtain ⟨hm_, hC_⟩ := stp1 hb HM.out hC; clear HM hC hb hK hL; have hK := hm_.cells; have hL := hm_.lts; simp only [BCells, CellsAt, BLts, Nat.reduceAdd, Nat.zero_add, and_true] at hK hL; have HM := Lib.hid hm_; have hC := hC_; clear hm_ hC_
  go_wp2_with fail
  refine (level_is H7.out H8.out H9.out ⟨_, _, rfl, HV.out.below (by (repeat' with_reducible first|assumption|exact Below.refl _ _|apply bl_alloc|apply bl_drewN|apply bl_drew|refine bl_set ?_ (by simp<;>omega) _|refine bl_then ?_ (by assumption))), HS.out.below (by (repeat' with_reducible first|assumption|exact Below.refl _ _|apply bl_alloc|apply bl_drewN|apply bl_drew|refine bl_set ?_ (by simp<;>omega) _|refine bl_then ?_ (by assumption)))⟩).mono ?_
  rintro e5 w5 ⟨rfl, hb⟩
  obtain ⟨hm_, hC_⟩ := stp1 hb HM.out hC; clear HM hC hb hK hL; have hK := hm_.cells; have hL := hm_.lts; simp only [BCells, CellsAt, BLts, Nat.reduceAdd, Nat.zero_add, and_true] at hK hL; have HM := Lib.hid hm_; have hC := hC_; clear hm_ hC_
  go_wp2_with fail
  refine (surely_is H13.out H14.out ⟨_, _, rfl, HV.out.below (by (repeat' with_reducible first|assumption|exact Below.refl _ _|apply bl_alloc|apply bl_drewN|apply bl_drew|refine bl_set ?_ (by simp<;>omega) _|refine bl_then ?_ (by assumption))), HS.out.below (by (repeat' with_reducible first|assumption|exact Below.refl _ _|apply bl_alloc|apply bl_drewN|apply bl_drew|refine bl_set ?_ (by simp<;>omega) _|refine bl_then ?_ (by assumption)))⟩).mono ?_
  rintro e6 w6 ⟨rfl, hb⟩
  obtain ⟨hm_, hC_⟩ := stp1 hb HM.out hC; clear HM hC hb hK hL; have hK := hm_.cells; have hL := hm_.lts; simp only [BCells, CellsAt, BLts, Nat.reduceAdd, Nat.zero_add, and_true] at hK hL; have HM := Lib.hid hm_; have hC := hC_; clear hm_ hC_
  go_wp2_with fail
  refine (ever_is H15.out H14.out ⟨_, _, rfl, HV.out.below (by (repeat' with_reducible first|assumption|exact Below.refl _ _|apply bl_alloc|apply bl_drewN|apply bl_drew|refine bl_set ?_ (by simp<;>omega) _|refine bl_then ?_ (by assumption))), HS.out.below (by (repeat' with_reducible first|assumption|exact Below.refl _ _|apply bl_alloc|apply bl_drewN|apply bl_drew|refine bl_set ?_ (by simp<;>omega) _|refine bl_then ?_ (by assumption)))⟩).mono ?_
  rintro e7 w7 ⟨rfl, hb⟩
  obtain ⟨hm_, hC_⟩ := stp0 hb HM.out hC; clear HM hC hb hK hL; have hK := hm_.cells; have hL := hm_.lts; simp only [BCells, CellsAt, BLts, Nat.reduceAdd, Nat.zero_add, and_true] at hK hL; have HM := Lib.hid hm_; have hC := hC_; clear hm_ hC_
  go_upto_region 18 with fail
  go_cut [181] (fun s wx => s = .bool false ∧ wx = w7)
  case first =>
    have hSS := HSS.out
    unfold SureSo at hSS
    obtain ⟨q1, q2, q3, q4⟩ := hSS
    cases su <;> cases ev
    · have r1 := q2.symm
      have r2 := q4 rfl
      clear q1 q2 q3 q4
      go_wp2
      go_meet
      exact ⟨rfl, rfl⟩
    · have r1 := q2.symm
      have r2 := q3 rfl
      clear q1 q2 q3 q4
      cases r3 : decide (x0 < m)
      all_goals
        go_wp2
        go_meet
        exact ⟨rfl, rfl⟩
    · exact absurd (q1 rfl) (by simp)
    · have r1 := q2.symm
      have r2 := q3 rfl
      clear q1 q2 q3 q4
      cases r3 : decide (x0 < m)
      all_goals
        go_wp2
        go_meet
        exact ⟨rfl, rfl⟩
  case rest =>
    obtain ⟨rfl, rfl⟩ := hcut
    go_wp2_with fail
    refine (surely_is H16.out H17.out ⟨_, _, rfl, HV.out.below (by (repeat' with_reducible first|assumption|exact Below.refl _ _|apply bl_alloc|apply bl_drewN|apply bl_drew|refine bl_set ?_ (by simp<;>omega) _|refine bl_then ?_ (by assumption))), HS.out.below (by (repeat' with_reducible first|assumption|exact Below.refl _ _|apply bl_alloc|apply bl_drewN|apply bl_drew|refine bl_set ?_ (by simp<;>omega) _|refine bl_then ?_ (by assumption)))⟩).mono ?_
    rintro e8 w8 ⟨rfl, hb⟩
    obtain ⟨hm_, hC_⟩ := stp0 hb HM.out hC; clear HM hC hb hK hL; have hK := hm_.cells; have hL := hm_.lts; simp only [BCells, CellsAt, BLts, Nat.reduceAdd, Nat.zero_add, and_true] at hK hL; have HM := Lib.hid hm_; have hC := hC_; clear hm_ hC_
    go_wp2_with fail
    refine (ever_is H18.out H19.out ⟨_, _, rfl, HV.out.below (by (repeat' with_reducible first|assumption|exact Below.refl _ _|apply bl_alloc|apply bl_drewN|apply bl_drew|refine bl_set ?_ (by simp<;>omega) _|refine bl_then ?_ (by assumption))), HS.out.below (by (repeat' with_reducible first|assumption|exact Below.refl _ _|apply bl_alloc|apply bl_drewN|apply bl_drew|refine bl_set ?_ (by simp<;>omega) _|refine bl_then ?_ (by assumption)))⟩).mono ?_
    rintro e9 w9 ⟨rfl, hb⟩
    obtain ⟨hm_, hC_⟩ := stp0 hb HM.out hC; clear HM hC hb hK hL; have hK := hm_.cells; have hL := hm_.lts; simp only [BCells, CellsAt, BLts, Nat.reduceAdd, Nat.zero_add, and_true] at hK hL; have HM := Lib.hid hm_; have hC := hC_; clear hm_ hC_
    go_wp2
    go_ret
    exact ⟨rfl, by (repeat' with_reducible first|assumption|exact Below.refl _ _|apply bl_alloc|apply bl_drewN|apply bl_drew|refine bl_set ?_ (by simp<;>omega) _|refine bl_then ?_ (by assumption))⟩
end Go.Proofs.YtjpagpplkldbkaaGreat
