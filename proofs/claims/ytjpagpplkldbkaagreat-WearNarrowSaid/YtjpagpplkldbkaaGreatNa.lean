/- WearNarrow: its walk. -/
import Derived.Test.YtjpagpplkldbkaaGreatLib29
set_option linter.unusedVariables false
set_option linter.unusedSimpArgs false
namespace Go.Proofs.YtjpagpplkldbkaaGreat
open Go.RowKit Go.Shelf WH
theorem narrow_fv {f : Fl} {w : World} {vv sv : Value} (hv : Sl rnC 3 w vv f.v) (hs : Sl snC 4 w sv f.seen) (n : Int) : Fv w (.agg #[vv, .int .i64 f.lv, .int .i64 f.er, .int .i64 n, .int .i64 n, sv]) (f.narrow n) := ⟨vv, sv, rfl, hv, hs⟩
set_option maxRecDepth 100000 in
set_option maxHeartbeats 1000000 in
theorem narrow_30 (v : Value) (f : Fl) (n : Int) (w : World) (hf : Fv w v f) (hE : f.possE = 30) : Calls Tryz.prog 8 #[v, .int .i64 n] w fun e w' => e = .returned (.bool true) ∧ Below w.heap.size w w' := by
  obtain ⟨vv, sv, rfl, hv, hs⟩ := hf
  have HV := Lib.hid hv
  have HS := Lib.hid hs
  obtain ⟨A, c, rfl, _⟩ := hv
  obtain ⟨A2, c2, rfl, _⟩ := hs
  have HE := Lib.hid hE
  clear hE
  unfold flC
  have HM := Lib.hid (Bks.nil w); have hC : Below w.heap.size w w := Below.refl _ _; have hK := True.intro; have hL := True.intro
  go_enter Tryz.func8, Tryz.ntmps8
  go_wp2_with fail
  refine sane_is.mono ?_
  rintro e1 w1 ⟨rfl, hb⟩
  obtain ⟨hm_, hC_⟩ := stp1 hb HM.out hC; clear HM hC hb hK hL; have hK := hm_.cells; have hL := hm_.lts; simp only [BCells, CellsAt, BLts, Nat.reduceAdd, Nat.zero_add, and_true] at hK hL; have HM := Lib.hid hm_; have hC := hC_; clear hm_ hC_
  go_wp2_with fail
  refine (check_is HE.out ⟨_, _, rfl, HV.out.below (by (repeat' with_reducible first|assumption|exact Below.refl _ _|apply bl_alloc|apply bl_drewN|apply bl_drew|refine bl_set ?_ (by simp<;>omega) _|refine bl_then ?_ (by assumption))), HS.out.below (by (repeat' with_reducible first|assumption|exact Below.refl _ _|apply bl_alloc|apply bl_drewN|apply bl_drew|refine bl_set ?_ (by simp<;>omega) _|refine bl_then ?_ (by assumption)))⟩).mono ?_
  rintro e2 w2 ⟨rfl, hb⟩
  obtain ⟨hm_, hC_⟩ := stp0 hb HM.out hC; clear HM hC hb hK hL; have hK := hm_.cells; have hL := hm_.lts; simp only [BCells, CellsAt, BLts, Nat.reduceAdd, Nat.zero_add, and_true] at hK hL; have HM := Lib.hid hm_; have hC := hC_; clear hm_ hC_
  go_wp2
  go_ret
  exact ⟨rfl, by (repeat' with_reducible first|assumption|exact Below.refl _ _|apply bl_alloc|apply bl_drewN|apply bl_drew|refine bl_set ?_ (by simp<;>omega) _|refine bl_then ?_ (by assumption))⟩
set_option maxRecDepth 100000 in
set_option maxHeartbeats 1000000 in
theorem narrow_lo (v : Value) (f : Fl) (n : Int) (w : World) (hf : Fv w v f) (hE : f.possE = 0) (d1 : decide (n < f.wl) = true) : Calls Tryz.prog 8 #[v, .int .i64 n] w fun e w' => e = .returned (.bool true) ∧ Below w.heap.size w w' := by
  obtain ⟨vv, sv, rfl, hv, hs⟩ := hf
  have HV := Lib.hid hv
  have HS := Lib.hid hs
  obtain ⟨A, c, rfl, _⟩ := hv
  obtain ⟨A2, c2, rfl, _⟩ := hs
  have HE := Lib.hid hE
  clear hE
  unfold flC
  have HM := Lib.hid (Bks.nil w); have hC : Below w.heap.size w w := Below.refl _ _; have hK := True.intro; have hL := True.intro
  go_enter Tryz.func8, Tryz.ntmps8
  go_wp2_with fail
  refine sane_is.mono ?_
  rintro e1 w1 ⟨rfl, hb⟩
  obtain ⟨hm_, hC_⟩ := stp1 hb HM.out hC; clear HM hC hb hK hL; have hK := hm_.cells; have hL := hm_.lts; simp only [BCells, CellsAt, BLts, Nat.reduceAdd, Nat.zero_add, and_true] at hK hL; have HM := Lib.hid hm_; have hC := hC_; clear hm_ hC_
  go_wp2_with fail
  refine (check_is HE.out ⟨_, _, rfl, HV.out.below (by (repeat' with_reducible first|assumption|exact Below.refl _ _|apply bl_alloc|apply bl_drewN|apply bl_drew|refine bl_set ?_ (by simp<;>omega) _|refine bl_then ?_ (by assumption))), HS.out.below (by (repeat' with_reducible first|assumption|exact Below.refl _ _|apply bl_alloc|apply bl_drewN|apply bl_drew|refine bl_set ?_ (by simp<;>omega) _|refine bl_then ?_ (by assumption)))⟩).mono ?_
  rintro e2 w2 ⟨rfl, hb⟩
  obtain ⟨hm_, hC_⟩ := stp0 hb HM.out hC; clear HM hC hb hK hL; have hK := hm_.cells; have hL := hm_.lts; simp only [BCells, CellsAt, BLts, Nat.reduceAdd, Nat.zero_add, and_true] at hK hL; have HM := Lib.hid hm_; have hC := hC_; clear hm_ hC_
  go_wp2
  go_ret
  exact ⟨rfl, by (repeat' with_reducible first|assumption|exact Below.refl _ _|apply bl_alloc|apply bl_drewN|apply bl_drew|refine bl_set ?_ (by simp<;>omega) _|refine bl_then ?_ (by assumption))⟩
set_option maxRecDepth 100000 in
set_option maxHeartbeats 1000000 in
theorem narrow_hi (v : Value) (f : Fl) (n : Int) (w : World) (hf : Fv w v f) (hE : f.possE = 0) (d1 : decide (n < f.wl) = false) (d2 : decide (f.wh < n) = true) : Calls Tryz.prog 8 #[v, .int .i64 n] w fun e w' => e = .returned (.bool true) ∧ Below w.heap.size w w' := by
  obtain ⟨vv, sv, rfl, hv, hs⟩ := hf
  have HV := Lib.hid hv
  have HS := Lib.hid hs
  obtain ⟨A, c, rfl, _⟩ := hv
  obtain ⟨A2, c2, rfl, _⟩ := hs
  have HE := Lib.hid hE
  clear hE
  unfold flC
  have HM := Lib.hid (Bks.nil w); have hC : Below w.heap.size w w := Below.refl _ _; have hK := True.intro; have hL := True.intro
  go_enter Tryz.func8, Tryz.ntmps8
  go_wp2_with fail
  refine sane_is.mono ?_
  rintro e1 w1 ⟨rfl, hb⟩
  obtain ⟨hm_, hC_⟩ := stp1 hb HM.out hC; clear HM hC hb hK hL; have hK := hm_.cells; have hL := hm_.lts; simp only [BCells, CellsAt, BLts, Nat.reduceAdd, Nat.zero_add, and_true] at hK hL; have HM := Lib.hid hm_; have hC := hC_; clear hm_ hC_
  go_wp2_with fail
  refine (check_is HE.out ⟨_, _, rfl, HV.out.below (by (repeat' with_reducible first|assumption|exact Below.refl _ _|apply bl_alloc|apply bl_drewN|apply bl_drew|refine bl_set ?_ (by simp<;>omega) _|refine bl_then ?_ (by assumption))), HS.out.below (by (repeat' with_reducible first|assumption|exact Below.refl _ _|apply bl_alloc|apply bl_drewN|apply bl_drew|refine bl_set ?_ (by simp<;>omega) _|refine bl_then ?_ (by assumption)))⟩).mono ?_
  rintro e2 w2 ⟨rfl, hb⟩
  obtain ⟨hm_, hC_⟩ := stp0 hb HM.out hC; clear HM hC hb hK hL; have hK := hm_.cells; have hL := hm_.lts; simp only [BCells, CellsAt, BLts, Nat.reduceAdd, Nat.zero_add, and_true] at hK hL; have HM := Lib.hid hm_; have hC := hC_; clear hm_ hC_
  go_wp2
  go_ret
  exact ⟨rfl, by (repeat' with_reducible first|assumption|exact Below.refl _ _|apply bl_alloc|apply bl_drewN|apply bl_drew|refine bl_set ?_ (by simp<;>omega) _|refine bl_then ?_ (by assumption))⟩
set_option maxRecDepth 100000 in
set_option maxHeartbeats 1000000 in
theorem narrow_31 (v : Value) (f : Fl) (n : Int) (w : World) (hf : Fv w v f) (hE : f.possE = 0) (d1 : decide (n < f.wl) = false) (d2 : decide (f.wh < n) = false) (h1 : f.bLo = ⟨0, 0⟩) (h2 : f.bHi = ⟨0, 0⟩) (h3 : f.rdy true = 31) (h4 : (f.narrow n).possB = false) (h5 : (f.narrow n).possE = 0) : Calls Tryz.prog 8 #[v, .int .i64 n] w fun e w' => e = .returned (.bool true) ∧ Below w.heap.size w w' := by
  obtain ⟨vv, sv, rfl, hv, hs⟩ := hf
  have HV := Lib.hid hv
  have HS := Lib.hid hs
  obtain ⟨A, c, rfl, _⟩ := hv
  obtain ⟨A2, c2, rfl, _⟩ := hs
  have HE := Lib.hid hE
  clear hE
  have H1 := Lib.hid h1
  clear h1
  have H2 := Lib.hid h2
  clear h2
  have H3 := Lib.hid h3
  clear h3
  have H4 := Lib.hid h4
  clear h4
  have H5 := Lib.hid h5
  clear h5
  unfold flC
  have HM := Lib.hid (Bks.nil w); have hC : Below w.heap.size w w := Below.refl _ _; have hK := True.intro; have hL := True.intro
  go_enter Tryz.func8, Tryz.ntmps8
  go_wp2_with fail
  refine sane_is.mono ?_
  rintro e1 w1 ⟨rfl, hb⟩
  obtain ⟨hm_, hC_⟩ := stp1 hb HM.out hC; clear HM hC hb hK hL; have hK := hm_.cells; have hL := hm_.lts; simp only [BCells, CellsAt, BLts, Nat.reduceAdd, Nat.zero_add, and_true] at hK hL; have HM := Lib.hid hm_; have hC := hC_; clear hm_ hC_
  go_wp2_with fail
  refine (check_is HE.out ⟨_, _, rfl, HV.out.below (by (repeat' with_reducible first|assumption|exact Below.refl _ _|apply bl_alloc|apply bl_drewN|apply bl_drew|refine bl_set ?_ (by simp<;>omega) _|refine bl_then ?_ (by assumption))), HS.out.below (by (repeat' with_reducible first|assumption|exact Below.refl _ _|apply bl_alloc|apply bl_drewN|apply bl_drew|refine bl_set ?_ (by simp<;>omega) _|refine bl_then ?_ (by assumption)))⟩).mono ?_
  rintro e2 w2 ⟨rfl, hb⟩
  obtain ⟨hm_, hC_⟩ := stp0 hb HM.out hC; clear HM hC hb hK hL; have hK := hm_.cells; have hL := hm_.lts; simp only [BCells, CellsAt, BLts, Nat.reduceAdd, Nat.zero_add, and_true] at hK hL; have HM := Lib.hid hm_; have hC := hC_; clear hm_ hC_
  go_wp2_with fail
  refine (bounds_is H1.out H2.out H3.out ⟨_, _, rfl, HV.out.below (by (repeat' with_reducible first|assumption|exact Below.refl _ _|apply bl_alloc|apply bl_drewN|apply bl_drew|refine bl_set ?_ (by simp<;>omega) _|refine bl_then ?_ (by assumption))), HS.out.below (by (repeat' with_reducible first|assumption|exact Below.refl _ _|apply bl_alloc|apply bl_drewN|apply bl_drew|refine bl_set ?_ (by simp<;>omega) _|refine bl_then ?_ (by assumption)))⟩).mono ?_
  rintro e3 w3 ⟨rfl, hb⟩
  obtain ⟨hm_, hC_⟩ := stp0 hb HM.out hC; clear HM hC hb hK hL; have hK := hm_.cells; have hL := hm_.lts; simp only [BCells, CellsAt, BLts, Nat.reduceAdd, Nat.zero_add, and_true] at hK hL; have HM := Lib.hid hm_; have hC := hC_; clear hm_ hC_
  go_wp2_with fail
  refine (possible_is H4.out H5.out (narrow_fv (HV.out.below (by (repeat' with_reducible first|assumption|exact Below.refl _ _|apply bl_alloc|apply bl_drewN|apply bl_drew|refine bl_set ?_ (by simp<;>omega) _|refine bl_then ?_ (by assumption)))) (HS.out.below (by (repeat' with_reducible first|assumption|exact Below.refl _ _|apply bl_alloc|apply bl_drewN|apply bl_drew|refine bl_set ?_ (by simp<;>omega) _|refine bl_then ?_ (by assumption)))) n)).mono ?_
  rintro e4 w4 ⟨rfl, hb⟩
  obtain ⟨hm_, hC_⟩ := stp3 hb HM.out hC; clear HM hC hb hK hL; have hK := hm_.cells; have hL := hm_.lts; simp only [BCells, CellsAt, BLts, Nat.reduceAdd, Nat.zero_add, and_true] at hK hL; have HM := Lib.hid hm_; have hC := hC_; clear hm_ hC_
  go_wp2
  go_ret
  exact ⟨rfl, by (repeat' with_reducible first|assumption|exact Below.refl _ _|apply bl_alloc|apply bl_drewN|apply bl_drew|refine bl_set ?_ (by simp<;>omega) _|refine bl_then ?_ (by assumption))⟩
set_option maxRecDepth 100000 in
set_option maxHeartbeats 1000000 in
theorem narrow_0t (v : Value) (f : Fl) (n : Int) (w : World) (hf : Fv w v f) {a b c_ d : Int} (hE : f.possE = 0) (d1 : decide (n < f.wl) = false) (d2 : decide (f.wh < n) = false) (h1 : f.bLo = ⟨a, b⟩) (h2 : f.bHi = ⟨c_, d⟩) (h3 : f.rdy true = 0) (h4 : (f.narrow n).possB = true) (h5 : (f.narrow n).possE = 0) (d3 : decide (b < 1) = false) (d4 : decide (d < 1) = false) (d5 : decide ((1125899906842624 : Int) < b) = false) (d6 : decide ((1125899906842624 : Int) < d) = false) (e1 : IntKind.i64.wrap (n * b) = n * b) (e2 : IntKind.i64.wrap (n * d) = n * d) (d7 : decide (a ≤ n * b) = true) (d8 : decide (n * d ≤ c_) = true) : Calls Tryz.prog 8 #[v, .int .i64 n] w fun e w' => e = .returned (.bool true) ∧ Below w.heap.size w w' := by
  obtain ⟨vv, sv, rfl, hv, hs⟩ := hf
  have HV := Lib.hid hv
  have HS := Lib.hid hs
  obtain ⟨A, c, rfl, _⟩ := hv
  obtain ⟨A2, c2, rfl, _⟩ := hs
  have HE := Lib.hid hE
  clear hE
  have H1 := Lib.hid h1
  clear h1
  have H2 := Lib.hid h2
  clear h2
  have H3 := Lib.hid h3
  clear h3
  have H4 := Lib.hid h4
  clear h4
  have H5 := Lib.hid h5
  clear h5
  unfold flC
  have HM := Lib.hid (Bks.nil w); have hC : Below w.heap.size w w := Below.refl _ _; have hK := True.intro; have hL := True.intro
  go_enter Tryz.func8, Tryz.ntmps8
  go_wp2_with fail
  refine sane_is.mono ?_
  rintro e1 w1 ⟨rfl, hb⟩
  obtain ⟨hm_, hC_⟩ := stp1 hb HM.out hC; clear HM hC hb hK hL; have hK := hm_.cells; have hL := hm_.lts; simp only [BCells, CellsAt, BLts, Nat.reduceAdd, Nat.zero_add, and_true] at hK hL; have HM := Lib.hid hm_; have hC := hC_; clear hm_ hC_
  go_wp2_with fail
  refine (check_is HE.out ⟨_, _, rfl, HV.out.below (by (repeat' with_reducible first|assumption|exact Below.refl _ _|apply bl_alloc|apply bl_drewN|apply bl_drew|refine bl_set ?_ (by simp<;>omega) _|refine bl_then ?_ (by assumption))), HS.out.below (by (repeat' with_reducible first|assumption|exact Below.refl _ _|apply bl_alloc|apply bl_drewN|apply bl_drew|refine bl_set ?_ (by simp<;>omega) _|refine bl_then ?_ (by assumption)))⟩).mono ?_
  rintro e2 w2 ⟨rfl, hb⟩
  obtain ⟨hm_, hC_⟩ := stp0 hb HM.out hC; clear HM hC hb hK hL; have hK := hm_.cells; have hL := hm_.lts; simp only [BCells, CellsAt, BLts, Nat.reduceAdd, Nat.zero_add, and_true] at hK hL; have HM := Lib.hid hm_; have hC := hC_; clear hm_ hC_
  go_wp2_with fail
  refine (bounds_is H1.out H2.out H3.out ⟨_, _, rfl, HV.out.below (by (repeat' with_reducible first|assumption|exact Below.refl _ _|apply bl_alloc|apply bl_drewN|apply bl_drew|refine bl_set ?_ (by simp<;>omega) _|refine bl_then ?_ (by assumption))), HS.out.below (by (repeat' with_reducible first|assumption|exact Below.refl _ _|apply bl_alloc|apply bl_drewN|apply bl_drew|refine bl_set ?_ (by simp<;>omega) _|refine bl_then ?_ (by assumption)))⟩).mono ?_
  rintro e3 w3 ⟨rfl, hb⟩
  obtain ⟨hm_, hC_⟩ := stp0 hb HM.out hC; clear HM hC hb hK hL; have hK := hm_.cells; have hL := hm_.lts; simp only [BCells, CellsAt, BLts, Nat.reduceAdd, Nat.zero_add, and_true] at hK hL; have HM := Lib.hid hm_; have hC := hC_; clear hm_ hC_
  go_wp2_with fail
  refine (possible_is H4.out H5.out (narrow_fv (HV.out.below (by (repeat' with_reducible first|assumption|exact Below.refl _ _|apply bl_alloc|apply bl_drewN|apply bl_drew|refine bl_set ?_ (by simp<;>omega) _|refine bl_then ?_ (by assumption)))) (HS.out.below (by (repeat' with_reducible first|assumption|exact Below.refl _ _|apply bl_alloc|apply bl_drewN|apply bl_drew|refine bl_set ?_ (by simp<;>omega) _|refine bl_then ?_ (by assumption)))) n)).mono ?_
  rintro e4 w4 ⟨rfl, hb⟩
  obtain ⟨hm_, hC_⟩ := stp3 hb HM.out hC; clear HM hC hb hK hL; have hK := hm_.cells; have hL := hm_.lts; simp only [BCells, CellsAt, BLts, Nat.reduceAdd, Nat.zero_add, and_true] at hK hL; have HM := Lib.hid hm_; have hC := hC_; clear hm_ hC_
  go_wp2
  go_ret
  exact ⟨rfl, by (repeat' with_reducible first|assumption|exact Below.refl _ _|apply bl_alloc|apply bl_drewN|apply bl_drew|refine bl_set ?_ (by simp<;>omega) _|refine bl_then ?_ (by assumption))⟩
set_option maxRecDepth 100000 in
set_option maxHeartbeats 1000000 in
theorem narrow_0u (v : Value) (f : Fl) (n : Int) (w : World) (hf : Fv w v f) {a b c_ d : Int} (hE : f.possE = 0) (d1 : decide (n < f.wl) = false) (d2 : decide (f.wh < n) = false) (h1 : f.bLo = ⟨a, b⟩) (h2 : f.bHi = ⟨c_, d⟩) (h3 : f.rdy true = 0) (h4 : (f.narrow n).possB = false) (h5 : (f.narrow n).possE = 0) (d3 : decide (b < 1) = false) (d4 : decide (d < 1) = false) (d5 : decide ((1125899906842624 : Int) < b) = false) (d6 : decide ((1125899906842624 : Int) < d) = false) (e1 : IntKind.i64.wrap (n * b) = n * b) (e2 : IntKind.i64.wrap (n * d) = n * d) (d7 : decide (a ≤ n * b) = true) (d8 : decide (n * d ≤ c_) = false) : Calls Tryz.prog 8 #[v, .int .i64 n] w fun e w' => e = .returned (.bool true) ∧ Below w.heap.size w w' := by
  obtain ⟨vv, sv, rfl, hv, hs⟩ := hf
  have HV := Lib.hid hv
  have HS := Lib.hid hs
  obtain ⟨A, c, rfl, _⟩ := hv
  obtain ⟨A2, c2, rfl, _⟩ := hs
  have HE := Lib.hid hE
  clear hE
  have H1 := Lib.hid h1
  clear h1
  have H2 := Lib.hid h2
  clear h2
  have H3 := Lib.hid h3
  clear h3
  have H4 := Lib.hid h4
  clear h4
  have H5 := Lib.hid h5
  clear h5
  unfold flC
  have HM := Lib.hid (Bks.nil w); have hC : Below w.heap.size w w := Below.refl _ _; have hK := True.intro; have hL := True.intro
  go_enter Tryz.func8, Tryz.ntmps8
  go_wp2_with fail
  refine sane_is.mono ?_
  rintro e1 w1 ⟨rfl, hb⟩
  obtain ⟨hm_, hC_⟩ := stp1 hb HM.out hC; clear HM hC hb hK hL; have hK := hm_.cells; have hL := hm_.lts; simp only [BCells, CellsAt, BLts, Nat.reduceAdd, Nat.zero_add, and_true] at hK hL; have HM := Lib.hid hm_; have hC := hC_; clear hm_ hC_
  go_wp2_with fail
  refine (check_is HE.out ⟨_, _, rfl, HV.out.below (by (repeat' with_reducible first|assumption|exact Below.refl _ _|apply bl_alloc|apply bl_drewN|apply bl_drew|refine bl_set ?_ (by simp<;>omega) _|refine bl_then ?_ (by assumption))), HS.out.below (by (repeat' with_reducible first|assumption|exact Below.refl _ _|apply bl_alloc|apply bl_drewN|apply bl_drew|refine bl_set ?_ (by simp<;>omega) _|refine bl_then ?_ (by assumption)))⟩).mono ?_
  rintro e2 w2 ⟨rfl, hb⟩
  obtain ⟨hm_, hC_⟩ := stp0 hb HM.out hC; clear HM hC hb hK hL; have hK := hm_.cells; have hL := hm_.lts; simp only [BCells, CellsAt, BLts, Nat.reduceAdd, Nat.zero_add, and_true] at hK hL; have HM := Lib.hid hm_; have hC := hC_; clear hm_ hC_
  go_wp2_with fail
  refine (bounds_is H1.out H2.out H3.out ⟨_, _, rfl, HV.out.below (by (repeat' with_reducible first|assumption|exact Below.refl _ _|apply bl_alloc|apply bl_drewN|apply bl_drew|refine bl_set ?_ (by simp<;>omega) _|refine bl_then ?_ (by assumption))), HS.out.below (by (repeat' with_reducible first|assumption|exact Below.refl _ _|apply bl_alloc|apply bl_drewN|apply bl_drew|refine bl_set ?_ (by simp<;>omega) _|refine bl_then ?_ (by assumption)))⟩).mono ?_
  rintro e3 w3 ⟨rfl, hb⟩
  obtain ⟨hm_, hC_⟩ := stp0 hb HM.out hC; clear HM hC hb hK hL; have hK := hm_.cells; have hL := hm_.lts; simp only [BCells, CellsAt, BLts, Nat.reduceAdd, Nat.zero_add, and_true] at hK hL; have HM := Lib.hid hm_; have hC := hC_; clear hm_ hC_
  go_wp2_with fail
  refine (possible_is H4.out H5.out (narrow_fv (HV.out.below (by (repeat' with_reducible first|assumption|exact Below.refl _ _|apply bl_alloc|apply bl_drewN|apply bl_drew|refine bl_set ?_ (by simp<;>omega) _|refine bl_then ?_ (by assumption)))) (HS.out.below (by (repeat' with_reducible first|assumption|exact Below.refl _ _|apply bl_alloc|apply bl_drewN|apply bl_drew|refine bl_set ?_ (by simp<;>omega) _|refine bl_then ?_ (by assumption)))) n)).mono ?_
  rintro e4 w4 ⟨rfl, hb⟩
  obtain ⟨hm_, hC_⟩ := stp3 hb HM.out hC; clear HM hC hb hK hL; have hK := hm_.cells; have hL := hm_.lts; simp only [BCells, CellsAt, BLts, Nat.reduceAdd, Nat.zero_add, and_true] at hK hL; have HM := Lib.hid hm_; have hC := hC_; clear hm_ hC_
  go_wp2
  go_ret
  exact ⟨rfl, by (repeat' with_reducible first|assumption|exact Below.refl _ _|apply bl_alloc|apply bl_drewN|apply bl_drew|refine bl_set ?_ (by simp<;>omega) _|refine bl_then ?_ (by assumption))⟩
set_option maxRecDepth 100000 in
set_option maxHeartbeats 1000000 in
theorem narrow_0v (v : Value) (f : Fl) (n : Int) (w : World) (hf : Fv w v f) {a b c_ d : Int} (hE : f.possE = 0) (d1 : decide (n < f.wl) = false) (d2 : decide (f.wh < n) = false) (h1 : f.bLo = ⟨a, b⟩) (h2 : f.bHi = ⟨c_, d⟩) (h3 : f.rdy true = 0) (h4 : (f.narrow n).possB = false) (h5 : (f.narrow n).possE = 0) (d3 : decide (b < 1) = false) (d4 : decide (d < 1) = false) (d5 : decide ((1125899906842624 : Int) < b) = false) (d6 : decide ((1125899906842624 : Int) < d) = false) (e1 : IntKind.i64.wrap (n * b) = n * b) (d7 : decide (a ≤ n * b) = false) : Calls Tryz.prog 8 #[v, .int .i64 n] w fun e w' => e = .returned (.bool true) ∧ Below w.heap.size w w' := by
  obtain ⟨vv, sv, rfl, hv, hs⟩ := hf
  have HV := Lib.hid hv
  have HS := Lib.hid hs
  obtain ⟨A, c, rfl, _⟩ := hv
  obtain ⟨A2, c2, rfl, _⟩ := hs
  have HE := Lib.hid hE
  clear hE
  have H1 := Lib.hid h1
  clear h1
  have H2 := Lib.hid h2
  clear h2
  have H3 := Lib.hid h3
  clear h3
  have H4 := Lib.hid h4
  clear h4
  have H5 := Lib.hid h5
  clear h5
  unfold flC
  have HM := Lib.hid (Bks.nil w); have hC : Below w.heap.size w w := Below.refl _ _; have hK := True.intro; have hL := True.intro
  go_enter Tryz.func8, Tryz.ntmps8
  go_wp2_with fail
  refine sane_is.mono ?_
  rintro e1 w1 ⟨rfl, hb⟩
  obtain ⟨hm_, hC_⟩ := stp1 hb HM.out hC; clear HM hC hb hK hL; have hK := hm_.cells; have hL := hm_.lts; simp only [BCells, CellsAt, BLts, Nat.reduceAdd, Nat.zero_add, and_true] at hK hL; have HM := Lib.hid hm_; have hC := hC_; clear hm_ hC_
  go_wp2_with fail
  refine (check_is HE.out ⟨_, _, rfl, HV.out.below (by (repeat' with_reducible first|assumption|exact Below.refl _ _|apply bl_alloc|apply bl_drewN|apply bl_drew|refine bl_set ?_ (by simp<;>omega) _|refine bl_then ?_ (by assumption))), HS.out.below (by (repeat' with_reducible first|assumption|exact Below.refl _ _|apply bl_alloc|apply bl_drewN|apply bl_drew|refine bl_set ?_ (by simp<;>omega) _|refine bl_then ?_ (by assumption)))⟩).mono ?_
  rintro e2 w2 ⟨rfl, hb⟩
  obtain ⟨hm_, hC_⟩ := stp0 hb HM.out hC; clear HM hC hb hK hL; have hK := hm_.cells; have hL := hm_.lts; simp only [BCells, CellsAt, BLts, Nat.reduceAdd, Nat.zero_add, and_true] at hK hL; have HM := Lib.hid hm_; have hC := hC_; clear hm_ hC_
  go_wp2_with fail
  refine (bounds_is H1.out H2.out H3.out ⟨_, _, rfl, HV.out.below (by (repeat' with_reducible first|assumption|exact Below.refl _ _|apply bl_alloc|apply bl_drewN|apply bl_drew|refine bl_set ?_ (by simp<;>omega) _|refine bl_then ?_ (by assumption))), HS.out.below (by (repeat' with_reducible first|assumption|exact Below.refl _ _|apply bl_alloc|apply bl_drewN|apply bl_drew|refine bl_set ?_ (by simp<;>omega) _|refine bl_then ?_ (by assumption)))⟩).mono ?_
  rintro e3 w3 ⟨rfl, hb⟩
  obtain ⟨hm_, hC_⟩ := stp0 hb HM.out hC; clear HM hC hb hK hL; have hK := hm_.cells; have hL := hm_.lts; simp only [BCells, CellsAt, BLts, Nat.reduceAdd, Nat.zero_add, and_true] at hK hL; have HM := Lib.hid hm_; have hC := hC_; clear hm_ hC_
  go_wp2_with fail
  refine (possible_is H4.out H5.out (narrow_fv (HV.out.below (by (repeat' with_reducible first|assumption|exact Below.refl _ _|apply bl_alloc|apply bl_drewN|apply bl_drew|refine bl_set ?_ (by simp<;>omega) _|refine bl_then ?_ (by assumption)))) (HS.out.below (by (repeat' with_reducible first|assumption|exact Below.refl _ _|apply bl_alloc|apply bl_drewN|apply bl_drew|refine bl_set ?_ (by simp<;>omega) _|refine bl_then ?_ (by assumption)))) n)).mono ?_
  rintro e4 w4 ⟨rfl, hb⟩
  obtain ⟨hm_, hC_⟩ := stp3 hb HM.out hC; clear HM hC hb hK hL; have hK := hm_.cells; have hL := hm_.lts; simp only [BCells, CellsAt, BLts, Nat.reduceAdd, Nat.zero_add, and_true] at hK hL; have HM := Lib.hid hm_; have hC := hC_; clear hm_ hC_
  go_wp2
  go_ret
  exact ⟨rfl, by (repeat' with_reducible first|assumption|exact Below.refl _ _|apply bl_alloc|apply bl_drewN|apply bl_drew|refine bl_set ?_ (by simp<;>omega) _|refine bl_then ?_ (by assumption))⟩
theorem narrow_any {w : World} (v : Value) (f : Fl) (hf : Fv w v f) (n : Int) : Calls Tryz.prog 8 #[v, .int .i64 n] w fun e w' => e = .returned (.bool true) ∧ Below w.heap.size w w' := by
  rcases @possE_rdy f with ⟨hE, _⟩ | ⟨hE, hg, ho, hr, hs, _⟩ | ⟨hE, hg, ho, hr, hs, _⟩
  · exact narrow_30 v f n w hf hE
  all_goals
    by_cases c1 : n < f.wl
    · exact narrow_lo v f n w hf hE (by simpa using c1)
    have d1 : decide (n < f.wl) = false := by simpa using c1
    by_cases c2 : f.wh < n
    · exact narrow_hi v f n w hf hE d1 (by simpa using c2)
    have d2 : decide (f.wh < n) = false := by simpa using c2
    have hl := narrow_law hg (n := n) (by omega) (by omega)
    have hN := narrow_good hg (n := n) (by omega) (by omega)
    have h5 : (f.narrow n).possE = 0 := by unfold Fl.possE; rw [good_iff.2 hN]; rfl
    have hP : (f.narrow n).possB = !(f.narrow n).sol.empty := by
      unfold Fl.possB Fl.rdy
      rw [good_iff.2 hN]
      cases (f.narrow n).sol.empty <;> rfl
  · obtain ⟨b1, b2⟩ := bnd_none (f := f) (by omega)
    exact narrow_31 v f n w hf hE d1 d2 b1 b2 hr (by rw [hP, hl, hs]; rfl) h5
  · obtain ⟨b1, b2⟩ := bnd_zero hr
    obtain ⟨l1, l2, l3, l4⟩ := lo_bd hg
    obtain ⟨k1, k2, k3, k4⟩ := hi_bd hg
    have hw := within_bd hg.wear
    rw [hs, Bool.false_or] at hl
    rw [hl] at hP
    have m1 : 0 ≤ n * f.lo.d ∧ n * f.lo.d ≤ 4000 * 480000000000 := ⟨Int.mul_nonneg (by omega) (by omega), Int.mul_le_mul (by omega) l4 (by omega) (by omega)⟩
    have m2 : 0 ≤ n * f.hi.d ∧ n * f.hi.d ≤ 4000 * 480000000000 := ⟨Int.mul_nonneg (by omega) (by omega), Int.mul_le_mul (by omega) k4 (by omega) (by omega)⟩
    have e1 : IntKind.i64.wrap (n * f.lo.d) = n * f.lo.d := wrapI (by omega) (by omega)
    have e2 : IntKind.i64.wrap (n * f.hi.d) = n * f.hi.d := wrapI (by omega) (by omega)
    have g1 : decide (f.lo.d < 1) = false := by simp; omega
    have g2 : decide (f.hi.d < 1) = false := by simp; omega
    have g3 : decide ((1125899906842624 : Int) < f.lo.d) = false := by simp; omega
    have g4 : decide ((1125899906842624 : Int) < f.hi.d) = false := by simp; omega
    cases d7 : decide (f.lo.n ≤ n * f.lo.d) with
    | false => exact narrow_0v v f n w hf hE d1 d2 b1 b2 hr (by rw [hP, d7]; rfl) h5 g1 g2 g3 g4 e1 d7
    | true =>
      cases d8 : decide (n * f.hi.d ≤ f.hi.n) with
      | false => exact narrow_0u v f n w hf hE d1 d2 b1 b2 hr (by rw [hP, d7, d8]; rfl) h5 g1 g2 g3 g4 e1 e2 d7 d8
      | true => exact narrow_0t v f n w hf hE d1 d2 b1 b2 hr (by rw [hP, d7, d8]; rfl) h5 g1 g2 g3 g4 e1 e2 d7 d8
end Go.Proofs.YtjpagpplkldbkaaGreat
