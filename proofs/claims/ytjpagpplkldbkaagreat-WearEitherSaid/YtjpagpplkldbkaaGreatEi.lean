/- WearEither: its walk. WRITTEN BY wip/tools/gen_ei.py. -/
import Derived.Test.YtjpagpplkldbkaaGreatLb
set_option linter.unusedVariables false
set_option linter.unusedSimpArgs false
namespace Go.Proofs.YtjpagpplkldbkaaGreat
open Go.RowKit Go.Shelf WH
/-- Case, where there is none. -/
theorem case_no {f : Fl} {v : Value} {w : World} (h : f.rdy true = 31) (hf : Fv w v f) : Calls Tryz.prog 78 #[v] w fun e w' => e = .returned (.tuple #[.agg #[.int .i64 0, .int .i64 0], .int .i64 0, .bool false, .int .i64 0]) ∧ Below w.heap.size w w' := by
  refine (case_any v f w hf).mono ?_
  rintro e w' ⟨r, k, b, rfl, hc, hb⟩
  have hp : f.possE = 0 := by rcases @possE_rdy f with ⟨_, _, h1, _⟩ | ⟨h1, _⟩ | ⟨h1, _⟩ <;> omega
  rcases hc with ⟨_, rfl, rfl, rfl⟩ | ⟨h1, _⟩ | ⟨h1, _⟩
  · rw [hp]; exact ⟨rfl, hb⟩
  · omega
  · omega
/-- Case, where there is one. -/
theorem case_yes {f : Fl} {v : Value} {w : World} (h : f.rdy true = 0) (hf : Fv w v f) : Calls Tryz.prog 78 #[v] w fun e w' => ∃ k : Int, e = .returned (.tuple #[.agg #[.int .i64 f.lo.n, .int .i64 f.lo.d], .int .i64 k, .bool true, .int .i64 0]) ∧ f.ccErr f.lo k = 0 ∧ Below w.heap.size w w' := by
  have hp : f.possE = 0 ∧ f.good ∧ f.sol.empty = false := by
    rcases @possE_rdy f with ⟨_, _, h1, _⟩ | ⟨_, _, _, h1, _⟩ | ⟨h1, h2, _, _, h3, _⟩
    · omega
    · omega
    · exact ⟨h1, h2, h3⟩
  refine (case_any v f w hf).mono ?_
  rintro e w' ⟨r, k, b, rfl, hc, hb⟩
  rcases hc with ⟨h1, _⟩ | ⟨_, rfl, rfl, _, _, h1⟩ | ⟨_, _, _, _, h1⟩
  · omega
  · rw [hp.1]; exact ⟨k, rfl, h1, hb⟩
  · obtain ⟨j, j1, j2, j3⟩ := lo_case hp.2.1 hp.2.2
    exact absurd j3 (h1 j j1 j2)
set_option maxRecDepth 100000 in
set_option maxHeartbeats 1000000 in
theorem either_30 {v : Value} {f : Fl} {a b y : Int} {lv : Value} {l : List Int}  {w : World} (hf : Fv w v f) (hll : Sl inC 1 w lv l) (he : f.possE = 30) : Calls Tryz.prog 17 #[v, raV ⟨a, b⟩, .int .i64 y, lv] w fun e w' => e = .returned (.bool true) ∧ Below w.heap.size w w' := by
  obtain ⟨vv, sv, rfl, hv, hs⟩ := hf
  have HV := Lib.hid hv
  have HS := Lib.hid hs
  obtain ⟨A, c, rfl, _⟩ := hv
  obtain ⟨A2, c2, rfl, _⟩ := hs
  obtain ⟨A3, c3, rfl, _⟩ := id hll
  have HLL := Lib.hid hll
  clear hll
  unfold raV
  have HE := Lib.hid he
  clear he
  unfold flC
  have HM := Lib.hid (Bks.nil w); have hC : Below w.heap.size w w := Below.refl _ _; have hK := True.intro; have hL := True.intro
  go_enter Tryz.func17, Tryz.ntmps17
  go_wp2_with fail
  refine (sane_is).mono ?_
  rintro e1 w1 ⟨rfl, hb⟩
  obtain ⟨hm_, hC_⟩ := stp2 hb HM.out hC; clear HM hC hb hK hL; have hK := hm_.cells; have hL := hm_.lts; simp only [BCells, CellsAt, BLts, Nat.reduceAdd, Nat.zero_add, and_true] at hK hL; have HM := Lib.hid hm_; have hC := hC_; clear hm_ hC_
  go_wp2_with fail
  refine (check_is HE.out ⟨_, _, rfl, HV.out.below (by (repeat' with_reducible first|assumption|exact Below.refl _ _|apply bl_alloc|apply bl_drewN|apply bl_drew|refine bl_set ?_ (by simp<;>omega) _|refine bl_then ?_ (by assumption))), HS.out.below (by (repeat' with_reducible first|assumption|exact Below.refl _ _|apply bl_alloc|apply bl_drewN|apply bl_drew|refine bl_set ?_ (by simp<;>omega) _|refine bl_then ?_ (by assumption)))⟩).mono ?_
  rintro e2 w2 ⟨rfl, hb⟩
  obtain ⟨hm_, hC_⟩ := stp0 hb HM.out hC; clear HM hC hb hK hL; have hK := hm_.cells; have hL := hm_.lts; simp only [BCells, CellsAt, BLts, Nat.reduceAdd, Nat.zero_add, and_true] at hK hL; have HM := Lib.hid hm_; have hC := hC_; clear hm_ hC_
  go_wp2
  go_ret
  exact ⟨rfl, by (repeat' with_reducible first|assumption|exact Below.refl _ _|apply bl_alloc|apply bl_drewN|apply bl_drew|refine bl_set ?_ (by simp<;>omega) _|refine bl_then ?_ (by assumption))⟩
set_option maxRecDepth 100000 in
set_option maxHeartbeats 1000000 in
theorem either_long {v : Value} {f : Fl} {a b y : Int} {lv : Value} {l : List Int}  {w : World} (hf : Fv w v f) (hll : Sl inC 1 w lv l) (he : f.possE = 0) (d1 : decide ((24 : Int) < (l.length : Int)) = true) : Calls Tryz.prog 17 #[v, raV ⟨a, b⟩, .int .i64 y, lv] w fun e w' => e = .returned (.bool true) ∧ Below w.heap.size w w' := by
  obtain ⟨vv, sv, rfl, hv, hs⟩ := hf
  have HV := Lib.hid hv
  have HS := Lib.hid hs
  obtain ⟨A, c, rfl, _⟩ := hv
  obtain ⟨A2, c2, rfl, _⟩ := hs
  obtain ⟨A3, c3, rfl, _⟩ := id hll
  have HLL := Lib.hid hll
  clear hll
  unfold raV
  have HE := Lib.hid he
  clear he
  unfold flC
  have HM := Lib.hid (Bks.nil w); have hC : Below w.heap.size w w := Below.refl _ _; have hK := True.intro; have hL := True.intro
  go_enter Tryz.func17, Tryz.ntmps17
  go_wp2_with fail
  refine (sane_is).mono ?_
  rintro e1 w1 ⟨rfl, hb⟩
  obtain ⟨hm_, hC_⟩ := stp2 hb HM.out hC; clear HM hC hb hK hL; have hK := hm_.cells; have hL := hm_.lts; simp only [BCells, CellsAt, BLts, Nat.reduceAdd, Nat.zero_add, and_true] at hK hL; have HM := Lib.hid hm_; have hC := hC_; clear hm_ hC_
  go_wp2_with fail
  refine (check_is HE.out ⟨_, _, rfl, HV.out.below (by (repeat' with_reducible first|assumption|exact Below.refl _ _|apply bl_alloc|apply bl_drewN|apply bl_drew|refine bl_set ?_ (by simp<;>omega) _|refine bl_then ?_ (by assumption))), HS.out.below (by (repeat' with_reducible first|assumption|exact Below.refl _ _|apply bl_alloc|apply bl_drewN|apply bl_drew|refine bl_set ?_ (by simp<;>omega) _|refine bl_then ?_ (by assumption)))⟩).mono ?_
  rintro e2 w2 ⟨rfl, hb⟩
  obtain ⟨hm_, hC_⟩ := stp0 hb HM.out hC; clear HM hC hb hK hL; have hK := hm_.cells; have hL := hm_.lts; simp only [BCells, CellsAt, BLts, Nat.reduceAdd, Nat.zero_add, and_true] at hK hL; have HM := Lib.hid hm_; have hC := hC_; clear hm_ hC_
  go_wp2
  go_ret
  exact ⟨rfl, by (repeat' with_reducible first|assumption|exact Below.refl _ _|apply bl_alloc|apply bl_drewN|apply bl_drew|refine bl_set ?_ (by simp<;>omega) _|refine bl_then ?_ (by assumption))⟩
set_option maxRecDepth 100000 in
set_option maxHeartbeats 1000000 in
theorem either_yes_t {v : Value} {f : Fl} {a b y n1 : Int} {lv : Value} {l : List Int}  {w : World} (hf : Fv w v f) (hll : Sl inC 1 w lv l) (he : f.possE = 0) (d1 : decide ((24 : Int) < (l.length : Int)) = false) (h1 : f.rdy true = 0) (h2 : f.clI = false) (h3 : f.possB = true) (h4 : f.ccErr ⟨a, b⟩ y = n1) (d4 : (n1 != 0) = true) (h5 : f.clErr l = 32) : Calls Tryz.prog 17 #[v, raV ⟨a, b⟩, .int .i64 y, lv] w fun e w' => e = .returned (.bool true) ∧ Below w.heap.size w w' := by
  obtain ⟨vv, sv, rfl, hv, hs⟩ := hf
  have HV := Lib.hid hv
  have HS := Lib.hid hs
  obtain ⟨A, c, rfl, _⟩ := hv
  obtain ⟨A2, c2, rfl, _⟩ := hs
  obtain ⟨A3, c3, rfl, _⟩ := id hll
  have HLL := Lib.hid hll
  clear hll
  unfold raV
  have HE := Lib.hid he
  clear he
  have H1 := Lib.hid h1
  clear h1
  have H2 := Lib.hid h2
  clear h2
  have H3 := Lib.hid h3
  clear h3
  have H4 := Lib.hid h4
  clear h4
  have H5 := Lib.hid h5
  clear h5
  unfold flC
  have HM := Lib.hid (Bks.nil w); have hC : Below w.heap.size w w := Below.refl _ _; have hK := True.intro; have hL := True.intro
  go_enter Tryz.func17, Tryz.ntmps17
  go_wp2_with fail
  refine (sane_is).mono ?_
  rintro e1 w1 ⟨rfl, hb⟩
  obtain ⟨hm_, hC_⟩ := stp2 hb HM.out hC; clear HM hC hb hK hL; have hK := hm_.cells; have hL := hm_.lts; simp only [BCells, CellsAt, BLts, Nat.reduceAdd, Nat.zero_add, and_true] at hK hL; have HM := Lib.hid hm_; have hC := hC_; clear hm_ hC_
  go_wp2_with fail
  refine (check_is HE.out ⟨_, _, rfl, HV.out.below (by (repeat' with_reducible first|assumption|exact Below.refl _ _|apply bl_alloc|apply bl_drewN|apply bl_drew|refine bl_set ?_ (by simp<;>omega) _|refine bl_then ?_ (by assumption))), HS.out.below (by (repeat' with_reducible first|assumption|exact Below.refl _ _|apply bl_alloc|apply bl_drewN|apply bl_drew|refine bl_set ?_ (by simp<;>omega) _|refine bl_then ?_ (by assumption)))⟩).mono ?_
  rintro e2 w2 ⟨rfl, hb⟩
  obtain ⟨hm_, hC_⟩ := stp0 hb HM.out hC; clear HM hC hb hK hL; have hK := hm_.cells; have hL := hm_.lts; simp only [BCells, CellsAt, BLts, Nat.reduceAdd, Nat.zero_add, and_true] at hK hL; have HM := Lib.hid hm_; have hC := hC_; clear hm_ hC_
  go_wp2_with fail
  refine (case_yes H1.out ⟨_, _, rfl, HV.out.below (by (repeat' with_reducible first|assumption|exact Below.refl _ _|apply bl_alloc|apply bl_drewN|apply bl_drew|refine bl_set ?_ (by simp<;>omega) _|refine bl_then ?_ (by assumption))), HS.out.below (by (repeat' with_reducible first|assumption|exact Below.refl _ _|apply bl_alloc|apply bl_drewN|apply bl_drew|refine bl_set ?_ (by simp<;>omega) _|refine bl_then ?_ (by assumption)))⟩).mono ?_
  rintro e3 w3 ⟨k, rfl, hk, hb⟩
  have HCK := Lib.hid hk
  clear hk
  obtain ⟨hm_, hC_⟩ := stp0 hb HM.out hC; clear HM hC hb hK hL; have hK := hm_.cells; have hL := hm_.lts; simp only [BCells, CellsAt, BLts, Nat.reduceAdd, Nat.zero_add, and_true] at hK hL; have HM := Lib.hid hm_; have hC := hC_; clear hm_ hC_
  go_wp2_with fail
  refine (clash_is H2.out HE.out ⟨_, _, rfl, HV.out.below (by (repeat' with_reducible first|assumption|exact Below.refl _ _|apply bl_alloc|apply bl_drewN|apply bl_drew|refine bl_set ?_ (by simp<;>omega) _|refine bl_then ?_ (by assumption))), HS.out.below (by (repeat' with_reducible first|assumption|exact Below.refl _ _|apply bl_alloc|apply bl_drewN|apply bl_drew|refine bl_set ?_ (by simp<;>omega) _|refine bl_then ?_ (by assumption)))⟩).mono ?_
  rintro e4 w4 ⟨A4, c4, rfl, hcl, hb⟩
  clear hcl
  obtain ⟨hm_, hC_⟩ := stp1 hb HM.out hC; clear HM hC hb hK hL; have hK := hm_.cells; have hL := hm_.lts; simp only [BCells, CellsAt, BLts, Nat.reduceAdd, Nat.zero_add, and_true] at hK hL; have HM := Lib.hid hm_; have hC := hC_; clear hm_ hC_
  go_wp2_with fail
  refine (possible_is H3.out HE.out ⟨_, _, rfl, HV.out.below (by (repeat' with_reducible first|assumption|exact Below.refl _ _|apply bl_alloc|apply bl_drewN|apply bl_drew|refine bl_set ?_ (by simp<;>omega) _|refine bl_then ?_ (by assumption))), HS.out.below (by (repeat' with_reducible first|assumption|exact Below.refl _ _|apply bl_alloc|apply bl_drewN|apply bl_drew|refine bl_set ?_ (by simp<;>omega) _|refine bl_then ?_ (by assumption)))⟩).mono ?_
  rintro e5 w5 ⟨rfl, hb⟩
  obtain ⟨hm_, hC_⟩ := stp0 hb HM.out hC; clear HM hC hb hK hL; have hK := hm_.cells; have hL := hm_.lts; simp only [BCells, CellsAt, BLts, Nat.reduceAdd, Nat.zero_add, and_true] at hK hL; have HM := Lib.hid hm_; have hC := hC_; clear hm_ hC_
  go_wp2_with fail
  refine (ckc_is HCK.out ⟨_, _, rfl, HV.out.below (by (repeat' with_reducible first|assumption|exact Below.refl _ _|apply bl_alloc|apply bl_drewN|apply bl_drew|refine bl_set ?_ (by simp<;>omega) _|refine bl_then ?_ (by assumption))), HS.out.below (by (repeat' with_reducible first|assumption|exact Below.refl _ _|apply bl_alloc|apply bl_drewN|apply bl_drew|refine bl_set ?_ (by simp<;>omega) _|refine bl_then ?_ (by assumption)))⟩).mono ?_
  rintro e6 w6 ⟨rfl, hb⟩
  obtain ⟨hm_, hC_⟩ := stp0 hb HM.out hC; clear HM hC hb hK hL; have hK := hm_.cells; have hL := hm_.lts; simp only [BCells, CellsAt, BLts, Nat.reduceAdd, Nat.zero_add, and_true] at hK hL; have HM := Lib.hid hm_; have hC := hC_; clear hm_ hC_
  go_wp2_with fail
  refine (ckc_is H4.out ⟨_, _, rfl, HV.out.below (by (repeat' with_reducible first|assumption|exact Below.refl _ _|apply bl_alloc|apply bl_drewN|apply bl_drew|refine bl_set ?_ (by simp<;>omega) _|refine bl_then ?_ (by assumption))), HS.out.below (by (repeat' with_reducible first|assumption|exact Below.refl _ _|apply bl_alloc|apply bl_drewN|apply bl_drew|refine bl_set ?_ (by simp<;>omega) _|refine bl_then ?_ (by assumption)))⟩).mono ?_
  rintro e7 w7 ⟨rfl, hb⟩
  obtain ⟨hm_, hC_⟩ := stp0 hb HM.out hC; clear HM hC hb hK hL; have hK := hm_.cells; have hL := hm_.lts; simp only [BCells, CellsAt, BLts, Nat.reduceAdd, Nat.zero_add, and_true] at hK hL; have HM := Lib.hid hm_; have hC := hC_; clear hm_ hC_
  go_wp2_with fail
  refine (ckl_is H5.out ⟨_, _, rfl, HV.out.below (by (repeat' with_reducible first|assumption|exact Below.refl _ _|apply bl_alloc|apply bl_drewN|apply bl_drew|refine bl_set ?_ (by simp<;>omega) _|refine bl_then ?_ (by assumption))), HS.out.below (by (repeat' with_reducible first|assumption|exact Below.refl _ _|apply bl_alloc|apply bl_drewN|apply bl_drew|refine bl_set ?_ (by simp<;>omega) _|refine bl_then ?_ (by assumption)))⟩ (HLL.out.below (by (repeat' with_reducible first|assumption|exact Below.refl _ _|apply bl_alloc|apply bl_drewN|apply bl_drew|refine bl_set ?_ (by simp<;>omega) _|refine bl_then ?_ (by assumption))))).mono ?_
  rintro e8 w8 ⟨rfl, hb⟩
  obtain ⟨hm_, hC_⟩ := stp0 hb HM.out hC; clear HM hC hb hK hL; have hK := hm_.cells; have hL := hm_.lts; simp only [BCells, CellsAt, BLts, Nat.reduceAdd, Nat.zero_add, and_true] at hK hL; have HM := Lib.hid hm_; have hC := hC_; clear hm_ hC_
  go_wp2
  go_ret
  exact ⟨rfl, by (repeat' with_reducible first|assumption|exact Below.refl _ _|apply bl_alloc|apply bl_drewN|apply bl_drew|refine bl_set ?_ (by simp<;>omega) _|refine bl_then ?_ (by assumption))⟩
set_option maxRecDepth 100000 in
set_option maxHeartbeats 1000000 in
theorem either_yes_f {v : Value} {f : Fl} {a b y n1 : Int} {lv : Value} {l : List Int}  {w : World} (hf : Fv w v f) (hll : Sl inC 1 w lv l) (he : f.possE = 0) (d1 : decide ((24 : Int) < (l.length : Int)) = false) (h1 : f.rdy true = 0) (h2 : f.clI = false) (h3 : f.possB = true) (h4 : f.ccErr ⟨a, b⟩ y = n1) (d4 : (n1 != 0) = false) (h5 : f.clErr l = 32) : Calls Tryz.prog 17 #[v, raV ⟨a, b⟩, .int .i64 y, lv] w fun e w' => e = .returned (.bool true) ∧ Below w.heap.size w w' := by
  obtain ⟨vv, sv, rfl, hv, hs⟩ := hf
  have HV := Lib.hid hv
  have HS := Lib.hid hs
  obtain ⟨A, c, rfl, _⟩ := hv
  obtain ⟨A2, c2, rfl, _⟩ := hs
  obtain ⟨A3, c3, rfl, _⟩ := id hll
  have HLL := Lib.hid hll
  clear hll
  unfold raV
  have HE := Lib.hid he
  clear he
  have H1 := Lib.hid h1
  clear h1
  have H2 := Lib.hid h2
  clear h2
  have H3 := Lib.hid h3
  clear h3
  have H4 := Lib.hid h4
  clear h4
  have H5 := Lib.hid h5
  clear h5
  unfold flC
  have HM := Lib.hid (Bks.nil w); have hC : Below w.heap.size w w := Below.refl _ _; have hK := True.intro; have hL := True.intro
  go_enter Tryz.func17, Tryz.ntmps17
  go_wp2_with fail
  refine (sane_is).mono ?_
  rintro e1 w1 ⟨rfl, hb⟩
  obtain ⟨hm_, hC_⟩ := stp2 hb HM.out hC; clear HM hC hb hK hL; have hK := hm_.cells; have hL := hm_.lts; simp only [BCells, CellsAt, BLts, Nat.reduceAdd, Nat.zero_add, and_true] at hK hL; have HM := Lib.hid hm_; have hC := hC_; clear hm_ hC_
  go_wp2_with fail
  refine (check_is HE.out ⟨_, _, rfl, HV.out.below (by (repeat' with_reducible first|assumption|exact Below.refl _ _|apply bl_alloc|apply bl_drewN|apply bl_drew|refine bl_set ?_ (by simp<;>omega) _|refine bl_then ?_ (by assumption))), HS.out.below (by (repeat' with_reducible first|assumption|exact Below.refl _ _|apply bl_alloc|apply bl_drewN|apply bl_drew|refine bl_set ?_ (by simp<;>omega) _|refine bl_then ?_ (by assumption)))⟩).mono ?_
  rintro e2 w2 ⟨rfl, hb⟩
  obtain ⟨hm_, hC_⟩ := stp0 hb HM.out hC; clear HM hC hb hK hL; have hK := hm_.cells; have hL := hm_.lts; simp only [BCells, CellsAt, BLts, Nat.reduceAdd, Nat.zero_add, and_true] at hK hL; have HM := Lib.hid hm_; have hC := hC_; clear hm_ hC_
  go_wp2_with fail
  refine (case_yes H1.out ⟨_, _, rfl, HV.out.below (by (repeat' with_reducible first|assumption|exact Below.refl _ _|apply bl_alloc|apply bl_drewN|apply bl_drew|refine bl_set ?_ (by simp<;>omega) _|refine bl_then ?_ (by assumption))), HS.out.below (by (repeat' with_reducible first|assumption|exact Below.refl _ _|apply bl_alloc|apply bl_drewN|apply bl_drew|refine bl_set ?_ (by simp<;>omega) _|refine bl_then ?_ (by assumption)))⟩).mono ?_
  rintro e3 w3 ⟨k, rfl, hk, hb⟩
  have HCK := Lib.hid hk
  clear hk
  obtain ⟨hm_, hC_⟩ := stp0 hb HM.out hC; clear HM hC hb hK hL; have hK := hm_.cells; have hL := hm_.lts; simp only [BCells, CellsAt, BLts, Nat.reduceAdd, Nat.zero_add, and_true] at hK hL; have HM := Lib.hid hm_; have hC := hC_; clear hm_ hC_
  go_wp2_with fail
  refine (clash_is H2.out HE.out ⟨_, _, rfl, HV.out.below (by (repeat' with_reducible first|assumption|exact Below.refl _ _|apply bl_alloc|apply bl_drewN|apply bl_drew|refine bl_set ?_ (by simp<;>omega) _|refine bl_then ?_ (by assumption))), HS.out.below (by (repeat' with_reducible first|assumption|exact Below.refl _ _|apply bl_alloc|apply bl_drewN|apply bl_drew|refine bl_set ?_ (by simp<;>omega) _|refine bl_then ?_ (by assumption)))⟩).mono ?_
  rintro e4 w4 ⟨A4, c4, rfl, hcl, hb⟩
  clear hcl
  obtain ⟨hm_, hC_⟩ := stp1 hb HM.out hC; clear HM hC hb hK hL; have hK := hm_.cells; have hL := hm_.lts; simp only [BCells, CellsAt, BLts, Nat.reduceAdd, Nat.zero_add, and_true] at hK hL; have HM := Lib.hid hm_; have hC := hC_; clear hm_ hC_
  go_wp2_with fail
  refine (possible_is H3.out HE.out ⟨_, _, rfl, HV.out.below (by (repeat' with_reducible first|assumption|exact Below.refl _ _|apply bl_alloc|apply bl_drewN|apply bl_drew|refine bl_set ?_ (by simp<;>omega) _|refine bl_then ?_ (by assumption))), HS.out.below (by (repeat' with_reducible first|assumption|exact Below.refl _ _|apply bl_alloc|apply bl_drewN|apply bl_drew|refine bl_set ?_ (by simp<;>omega) _|refine bl_then ?_ (by assumption)))⟩).mono ?_
  rintro e5 w5 ⟨rfl, hb⟩
  obtain ⟨hm_, hC_⟩ := stp0 hb HM.out hC; clear HM hC hb hK hL; have hK := hm_.cells; have hL := hm_.lts; simp only [BCells, CellsAt, BLts, Nat.reduceAdd, Nat.zero_add, and_true] at hK hL; have HM := Lib.hid hm_; have hC := hC_; clear hm_ hC_
  go_wp2_with fail
  refine (ckc_is HCK.out ⟨_, _, rfl, HV.out.below (by (repeat' with_reducible first|assumption|exact Below.refl _ _|apply bl_alloc|apply bl_drewN|apply bl_drew|refine bl_set ?_ (by simp<;>omega) _|refine bl_then ?_ (by assumption))), HS.out.below (by (repeat' with_reducible first|assumption|exact Below.refl _ _|apply bl_alloc|apply bl_drewN|apply bl_drew|refine bl_set ?_ (by simp<;>omega) _|refine bl_then ?_ (by assumption)))⟩).mono ?_
  rintro e6 w6 ⟨rfl, hb⟩
  obtain ⟨hm_, hC_⟩ := stp0 hb HM.out hC; clear HM hC hb hK hL; have hK := hm_.cells; have hL := hm_.lts; simp only [BCells, CellsAt, BLts, Nat.reduceAdd, Nat.zero_add, and_true] at hK hL; have HM := Lib.hid hm_; have hC := hC_; clear hm_ hC_
  go_wp2_with fail
  refine (ckc_is H4.out ⟨_, _, rfl, HV.out.below (by (repeat' with_reducible first|assumption|exact Below.refl _ _|apply bl_alloc|apply bl_drewN|apply bl_drew|refine bl_set ?_ (by simp<;>omega) _|refine bl_then ?_ (by assumption))), HS.out.below (by (repeat' with_reducible first|assumption|exact Below.refl _ _|apply bl_alloc|apply bl_drewN|apply bl_drew|refine bl_set ?_ (by simp<;>omega) _|refine bl_then ?_ (by assumption)))⟩).mono ?_
  rintro e7 w7 ⟨rfl, hb⟩
  obtain ⟨hm_, hC_⟩ := stp0 hb HM.out hC; clear HM hC hb hK hL; have hK := hm_.cells; have hL := hm_.lts; simp only [BCells, CellsAt, BLts, Nat.reduceAdd, Nat.zero_add, and_true] at hK hL; have HM := Lib.hid hm_; have hC := hC_; clear hm_ hC_
  go_wp2_with fail
  refine (ckl_is H5.out ⟨_, _, rfl, HV.out.below (by (repeat' with_reducible first|assumption|exact Below.refl _ _|apply bl_alloc|apply bl_drewN|apply bl_drew|refine bl_set ?_ (by simp<;>omega) _|refine bl_then ?_ (by assumption))), HS.out.below (by (repeat' with_reducible first|assumption|exact Below.refl _ _|apply bl_alloc|apply bl_drewN|apply bl_drew|refine bl_set ?_ (by simp<;>omega) _|refine bl_then ?_ (by assumption)))⟩ (HLL.out.below (by (repeat' with_reducible first|assumption|exact Below.refl _ _|apply bl_alloc|apply bl_drewN|apply bl_drew|refine bl_set ?_ (by simp<;>omega) _|refine bl_then ?_ (by assumption))))).mono ?_
  rintro e8 w8 ⟨rfl, hb⟩
  obtain ⟨hm_, hC_⟩ := stp0 hb HM.out hC; clear HM hC hb hK hL; have hK := hm_.cells; have hL := hm_.lts; simp only [BCells, CellsAt, BLts, Nat.reduceAdd, Nat.zero_add, and_true] at hK hL; have HM := Lib.hid hm_; have hC := hC_; clear hm_ hC_
  go_wp2
  go_ret
  exact ⟨rfl, by (repeat' with_reducible first|assumption|exact Below.refl _ _|apply bl_alloc|apply bl_drewN|apply bl_drew|refine bl_set ?_ (by simp<;>omega) _|refine bl_then ?_ (by assumption))⟩
set_option maxRecDepth 100000 in
set_option maxHeartbeats 1000000 in
theorem either_no_t {v : Value} {f : Fl} {a b y n1 n2 : Int} {lv : Value} {l : List Int}  {w : World} (hf : Fv w v f) (hll : Sl inC 1 w lv l) (he : f.possE = 0) (d1 : decide ((24 : Int) < (l.length : Int)) = false) (h1 : f.rdy true = 31) (h2 : f.clI = true) (h3 : f.possB = false) (d2 : decide ((f.clL.length : Int) < 1) = false) (d3 : decide ((3 : Int) < (f.clL.length : Int)) = false) (h4 : f.ccErr ⟨a, b⟩ y = n1) (d4 : (n1 != 0) = true) (h5 : f.clErr l = n2) (d5 : (n2 != 0) = true) (h6 : f.clErr f.clL = 0) : Calls Tryz.prog 17 #[v, raV ⟨a, b⟩, .int .i64 y, lv] w fun e w' => e = .returned (.bool true) ∧ Below w.heap.size w w' := by
  obtain ⟨vv, sv, rfl, hv, hs⟩ := hf
  have HV := Lib.hid hv
  have HS := Lib.hid hs
  obtain ⟨A, c, rfl, _⟩ := hv
  obtain ⟨A2, c2, rfl, _⟩ := hs
  obtain ⟨A3, c3, rfl, _⟩ := id hll
  have HLL := Lib.hid hll
  clear hll
  unfold raV
  have HE := Lib.hid he
  clear he
  have H1 := Lib.hid h1
  clear h1
  have H2 := Lib.hid h2
  clear h2
  have H3 := Lib.hid h3
  clear h3
  have H4 := Lib.hid h4
  clear h4
  have H5 := Lib.hid h5
  clear h5
  have H6 := Lib.hid h6
  clear h6
  unfold flC
  have HM := Lib.hid (Bks.nil w); have hC : Below w.heap.size w w := Below.refl _ _; have hK := True.intro; have hL := True.intro
  go_enter Tryz.func17, Tryz.ntmps17
  go_wp2_with fail
  refine (sane_is).mono ?_
  rintro e1 w1 ⟨rfl, hb⟩
  obtain ⟨hm_, hC_⟩ := stp2 hb HM.out hC; clear HM hC hb hK hL; have hK := hm_.cells; have hL := hm_.lts; simp only [BCells, CellsAt, BLts, Nat.reduceAdd, Nat.zero_add, and_true] at hK hL; have HM := Lib.hid hm_; have hC := hC_; clear hm_ hC_
  go_wp2_with fail
  refine (check_is HE.out ⟨_, _, rfl, HV.out.below (by (repeat' with_reducible first|assumption|exact Below.refl _ _|apply bl_alloc|apply bl_drewN|apply bl_drew|refine bl_set ?_ (by simp<;>omega) _|refine bl_then ?_ (by assumption))), HS.out.below (by (repeat' with_reducible first|assumption|exact Below.refl _ _|apply bl_alloc|apply bl_drewN|apply bl_drew|refine bl_set ?_ (by simp<;>omega) _|refine bl_then ?_ (by assumption)))⟩).mono ?_
  rintro e2 w2 ⟨rfl, hb⟩
  obtain ⟨hm_, hC_⟩ := stp0 hb HM.out hC; clear HM hC hb hK hL; have hK := hm_.cells; have hL := hm_.lts; simp only [BCells, CellsAt, BLts, Nat.reduceAdd, Nat.zero_add, and_true] at hK hL; have HM := Lib.hid hm_; have hC := hC_; clear hm_ hC_
  go_wp2_with fail
  refine (case_no H1.out ⟨_, _, rfl, HV.out.below (by (repeat' with_reducible first|assumption|exact Below.refl _ _|apply bl_alloc|apply bl_drewN|apply bl_drew|refine bl_set ?_ (by simp<;>omega) _|refine bl_then ?_ (by assumption))), HS.out.below (by (repeat' with_reducible first|assumption|exact Below.refl _ _|apply bl_alloc|apply bl_drewN|apply bl_drew|refine bl_set ?_ (by simp<;>omega) _|refine bl_then ?_ (by assumption)))⟩).mono ?_
  rintro e3 w3 ⟨rfl, hb⟩
  obtain ⟨hm_, hC_⟩ := stp0 hb HM.out hC; clear HM hC hb hK hL; have hK := hm_.cells; have hL := hm_.lts; simp only [BCells, CellsAt, BLts, Nat.reduceAdd, Nat.zero_add, and_true] at hK hL; have HM := Lib.hid hm_; have hC := hC_; clear hm_ hC_
  go_wp2_with fail
  refine (clash_is H2.out HE.out ⟨_, _, rfl, HV.out.below (by (repeat' with_reducible first|assumption|exact Below.refl _ _|apply bl_alloc|apply bl_drewN|apply bl_drew|refine bl_set ?_ (by simp<;>omega) _|refine bl_then ?_ (by assumption))), HS.out.below (by (repeat' with_reducible first|assumption|exact Below.refl _ _|apply bl_alloc|apply bl_drewN|apply bl_drew|refine bl_set ?_ (by simp<;>omega) _|refine bl_then ?_ (by assumption)))⟩).mono ?_
  rintro e4 w4 ⟨A4, c4, rfl, hcl, hb⟩
  have HCL := Lib.hid (hcl)
  clear hcl
  obtain ⟨hm_, hC_⟩ := stp1 hb HM.out hC; clear HM hC hb hK hL; have hK := hm_.cells; have hL := hm_.lts; simp only [BCells, CellsAt, BLts, Nat.reduceAdd, Nat.zero_add, and_true] at hK hL; have HM := Lib.hid hm_; have hC := hC_; clear hm_ hC_
  go_wp2_with fail
  refine (possible_is H3.out HE.out ⟨_, _, rfl, HV.out.below (by (repeat' with_reducible first|assumption|exact Below.refl _ _|apply bl_alloc|apply bl_drewN|apply bl_drew|refine bl_set ?_ (by simp<;>omega) _|refine bl_then ?_ (by assumption))), HS.out.below (by (repeat' with_reducible first|assumption|exact Below.refl _ _|apply bl_alloc|apply bl_drewN|apply bl_drew|refine bl_set ?_ (by simp<;>omega) _|refine bl_then ?_ (by assumption)))⟩).mono ?_
  rintro e5 w5 ⟨rfl, hb⟩
  have HCL2 := Lib.hid (HCL.out.below hb)
  clear HCL
  obtain ⟨hm_, hC_⟩ := stp0 hb HM.out hC; clear HM hC hb hK hL; have hK := hm_.cells; have hL := hm_.lts; simp only [BCells, CellsAt, BLts, Nat.reduceAdd, Nat.zero_add, and_true] at hK hL; have HM := Lib.hid hm_; have hC := hC_; clear hm_ hC_
  go_wp2_with fail
  refine (ckl_is H6.out ⟨_, _, rfl, HV.out.below (by (repeat' with_reducible first|assumption|exact Below.refl _ _|apply bl_alloc|apply bl_drewN|apply bl_drew|refine bl_set ?_ (by simp<;>omega) _|refine bl_then ?_ (by assumption))), HS.out.below (by (repeat' with_reducible first|assumption|exact Below.refl _ _|apply bl_alloc|apply bl_drewN|apply bl_drew|refine bl_set ?_ (by simp<;>omega) _|refine bl_then ?_ (by assumption)))⟩ HCL2.out).mono ?_
  rintro e6 w6 ⟨rfl, hb⟩
  obtain ⟨hm_, hC_⟩ := stp0 hb HM.out hC; clear HM hC hb hK hL; have hK := hm_.cells; have hL := hm_.lts; simp only [BCells, CellsAt, BLts, Nat.reduceAdd, Nat.zero_add, and_true] at hK hL; have HM := Lib.hid hm_; have hC := hC_; clear hm_ hC_
  go_wp2_with fail
  refine (ckc_is H4.out ⟨_, _, rfl, HV.out.below (by (repeat' with_reducible first|assumption|exact Below.refl _ _|apply bl_alloc|apply bl_drewN|apply bl_drew|refine bl_set ?_ (by simp<;>omega) _|refine bl_then ?_ (by assumption))), HS.out.below (by (repeat' with_reducible first|assumption|exact Below.refl _ _|apply bl_alloc|apply bl_drewN|apply bl_drew|refine bl_set ?_ (by simp<;>omega) _|refine bl_then ?_ (by assumption)))⟩).mono ?_
  rintro e7 w7 ⟨rfl, hb⟩
  obtain ⟨hm_, hC_⟩ := stp0 hb HM.out hC; clear HM hC hb hK hL; have hK := hm_.cells; have hL := hm_.lts; simp only [BCells, CellsAt, BLts, Nat.reduceAdd, Nat.zero_add, and_true] at hK hL; have HM := Lib.hid hm_; have hC := hC_; clear hm_ hC_
  go_wp2_with fail
  refine (ckl_is H5.out ⟨_, _, rfl, HV.out.below (by (repeat' with_reducible first|assumption|exact Below.refl _ _|apply bl_alloc|apply bl_drewN|apply bl_drew|refine bl_set ?_ (by simp<;>omega) _|refine bl_then ?_ (by assumption))), HS.out.below (by (repeat' with_reducible first|assumption|exact Below.refl _ _|apply bl_alloc|apply bl_drewN|apply bl_drew|refine bl_set ?_ (by simp<;>omega) _|refine bl_then ?_ (by assumption)))⟩ (HLL.out.below (by (repeat' with_reducible first|assumption|exact Below.refl _ _|apply bl_alloc|apply bl_drewN|apply bl_drew|refine bl_set ?_ (by simp<;>omega) _|refine bl_then ?_ (by assumption))))).mono ?_
  rintro e8 w8 ⟨rfl, hb⟩
  obtain ⟨hm_, hC_⟩ := stp0 hb HM.out hC; clear HM hC hb hK hL; have hK := hm_.cells; have hL := hm_.lts; simp only [BCells, CellsAt, BLts, Nat.reduceAdd, Nat.zero_add, and_true] at hK hL; have HM := Lib.hid hm_; have hC := hC_; clear hm_ hC_
  go_wp2
  go_ret
  exact ⟨rfl, by (repeat' with_reducible first|assumption|exact Below.refl _ _|apply bl_alloc|apply bl_drewN|apply bl_drew|refine bl_set ?_ (by simp<;>omega) _|refine bl_then ?_ (by assumption))⟩
set_option maxRecDepth 100000 in
set_option maxHeartbeats 1000000 in
theorem either_no_f {v : Value} {f : Fl} {a b y n1 n2 : Int} {lv : Value} {l : List Int}  {w : World} (hf : Fv w v f) (hll : Sl inC 1 w lv l) (he : f.possE = 0) (d1 : decide ((24 : Int) < (l.length : Int)) = false) (h1 : f.rdy true = 31) (h2 : f.clI = true) (h3 : f.possB = false) (d2 : decide ((f.clL.length : Int) < 1) = false) (d3 : decide ((3 : Int) < (f.clL.length : Int)) = false) (h4 : f.ccErr ⟨a, b⟩ y = n1) (d4 : (n1 != 0) = true) (h5 : f.clErr l = n2) (d5 : (n2 != 0) = false) (h6 : f.clErr f.clL = 0) : Calls Tryz.prog 17 #[v, raV ⟨a, b⟩, .int .i64 y, lv] w fun e w' => e = .returned (.bool true) ∧ Below w.heap.size w w' := by
  obtain ⟨vv, sv, rfl, hv, hs⟩ := hf
  have HV := Lib.hid hv
  have HS := Lib.hid hs
  obtain ⟨A, c, rfl, _⟩ := hv
  obtain ⟨A2, c2, rfl, _⟩ := hs
  obtain ⟨A3, c3, rfl, _⟩ := id hll
  have HLL := Lib.hid hll
  clear hll
  unfold raV
  have HE := Lib.hid he
  clear he
  have H1 := Lib.hid h1
  clear h1
  have H2 := Lib.hid h2
  clear h2
  have H3 := Lib.hid h3
  clear h3
  have H4 := Lib.hid h4
  clear h4
  have H5 := Lib.hid h5
  clear h5
  have H6 := Lib.hid h6
  clear h6
  unfold flC
  have HM := Lib.hid (Bks.nil w); have hC : Below w.heap.size w w := Below.refl _ _; have hK := True.intro; have hL := True.intro
  go_enter Tryz.func17, Tryz.ntmps17
  go_wp2_with fail
  refine (sane_is).mono ?_
  rintro e1 w1 ⟨rfl, hb⟩
  obtain ⟨hm_, hC_⟩ := stp2 hb HM.out hC; clear HM hC hb hK hL; have hK := hm_.cells; have hL := hm_.lts; simp only [BCells, CellsAt, BLts, Nat.reduceAdd, Nat.zero_add, and_true] at hK hL; have HM := Lib.hid hm_; have hC := hC_; clear hm_ hC_
  go_wp2_with fail
  refine (check_is HE.out ⟨_, _, rfl, HV.out.below (by (repeat' with_reducible first|assumption|exact Below.refl _ _|apply bl_alloc|apply bl_drewN|apply bl_drew|refine bl_set ?_ (by simp<;>omega) _|refine bl_then ?_ (by assumption))), HS.out.below (by (repeat' with_reducible first|assumption|exact Below.refl _ _|apply bl_alloc|apply bl_drewN|apply bl_drew|refine bl_set ?_ (by simp<;>omega) _|refine bl_then ?_ (by assumption)))⟩).mono ?_
  rintro e2 w2 ⟨rfl, hb⟩
  obtain ⟨hm_, hC_⟩ := stp0 hb HM.out hC; clear HM hC hb hK hL; have hK := hm_.cells; have hL := hm_.lts; simp only [BCells, CellsAt, BLts, Nat.reduceAdd, Nat.zero_add, and_true] at hK hL; have HM := Lib.hid hm_; have hC := hC_; clear hm_ hC_
  go_wp2_with fail
  refine (case_no H1.out ⟨_, _, rfl, HV.out.below (by (repeat' with_reducible first|assumption|exact Below.refl _ _|apply bl_alloc|apply bl_drewN|apply bl_drew|refine bl_set ?_ (by simp<;>omega) _|refine bl_then ?_ (by assumption))), HS.out.below (by (repeat' with_reducible first|assumption|exact Below.refl _ _|apply bl_alloc|apply bl_drewN|apply bl_drew|refine bl_set ?_ (by simp<;>omega) _|refine bl_then ?_ (by assumption)))⟩).mono ?_
  rintro e3 w3 ⟨rfl, hb⟩
  obtain ⟨hm_, hC_⟩ := stp0 hb HM.out hC; clear HM hC hb hK hL; have hK := hm_.cells; have hL := hm_.lts; simp only [BCells, CellsAt, BLts, Nat.reduceAdd, Nat.zero_add, and_true] at hK hL; have HM := Lib.hid hm_; have hC := hC_; clear hm_ hC_
  go_wp2_with fail
  refine (clash_is H2.out HE.out ⟨_, _, rfl, HV.out.below (by (repeat' with_reducible first|assumption|exact Below.refl _ _|apply bl_alloc|apply bl_drewN|apply bl_drew|refine bl_set ?_ (by simp<;>omega) _|refine bl_then ?_ (by assumption))), HS.out.below (by (repeat' with_reducible first|assumption|exact Below.refl _ _|apply bl_alloc|apply bl_drewN|apply bl_drew|refine bl_set ?_ (by simp<;>omega) _|refine bl_then ?_ (by assumption)))⟩).mono ?_
  rintro e4 w4 ⟨A4, c4, rfl, hcl, hb⟩
  have HCL := Lib.hid (hcl)
  clear hcl
  obtain ⟨hm_, hC_⟩ := stp1 hb HM.out hC; clear HM hC hb hK hL; have hK := hm_.cells; have hL := hm_.lts; simp only [BCells, CellsAt, BLts, Nat.reduceAdd, Nat.zero_add, and_true] at hK hL; have HM := Lib.hid hm_; have hC := hC_; clear hm_ hC_
  go_wp2_with fail
  refine (possible_is H3.out HE.out ⟨_, _, rfl, HV.out.below (by (repeat' with_reducible first|assumption|exact Below.refl _ _|apply bl_alloc|apply bl_drewN|apply bl_drew|refine bl_set ?_ (by simp<;>omega) _|refine bl_then ?_ (by assumption))), HS.out.below (by (repeat' with_reducible first|assumption|exact Below.refl _ _|apply bl_alloc|apply bl_drewN|apply bl_drew|refine bl_set ?_ (by simp<;>omega) _|refine bl_then ?_ (by assumption)))⟩).mono ?_
  rintro e5 w5 ⟨rfl, hb⟩
  have HCL2 := Lib.hid (HCL.out.below hb)
  clear HCL
  obtain ⟨hm_, hC_⟩ := stp0 hb HM.out hC; clear HM hC hb hK hL; have hK := hm_.cells; have hL := hm_.lts; simp only [BCells, CellsAt, BLts, Nat.reduceAdd, Nat.zero_add, and_true] at hK hL; have HM := Lib.hid hm_; have hC := hC_; clear hm_ hC_
  go_wp2_with fail
  refine (ckl_is H6.out ⟨_, _, rfl, HV.out.below (by (repeat' with_reducible first|assumption|exact Below.refl _ _|apply bl_alloc|apply bl_drewN|apply bl_drew|refine bl_set ?_ (by simp<;>omega) _|refine bl_then ?_ (by assumption))), HS.out.below (by (repeat' with_reducible first|assumption|exact Below.refl _ _|apply bl_alloc|apply bl_drewN|apply bl_drew|refine bl_set ?_ (by simp<;>omega) _|refine bl_then ?_ (by assumption)))⟩ HCL2.out).mono ?_
  rintro e6 w6 ⟨rfl, hb⟩
  obtain ⟨hm_, hC_⟩ := stp0 hb HM.out hC; clear HM hC hb hK hL; have hK := hm_.cells; have hL := hm_.lts; simp only [BCells, CellsAt, BLts, Nat.reduceAdd, Nat.zero_add, and_true] at hK hL; have HM := Lib.hid hm_; have hC := hC_; clear hm_ hC_
  go_wp2_with fail
  refine (ckc_is H4.out ⟨_, _, rfl, HV.out.below (by (repeat' with_reducible first|assumption|exact Below.refl _ _|apply bl_alloc|apply bl_drewN|apply bl_drew|refine bl_set ?_ (by simp<;>omega) _|refine bl_then ?_ (by assumption))), HS.out.below (by (repeat' with_reducible first|assumption|exact Below.refl _ _|apply bl_alloc|apply bl_drewN|apply bl_drew|refine bl_set ?_ (by simp<;>omega) _|refine bl_then ?_ (by assumption)))⟩).mono ?_
  rintro e7 w7 ⟨rfl, hb⟩
  obtain ⟨hm_, hC_⟩ := stp0 hb HM.out hC; clear HM hC hb hK hL; have hK := hm_.cells; have hL := hm_.lts; simp only [BCells, CellsAt, BLts, Nat.reduceAdd, Nat.zero_add, and_true] at hK hL; have HM := Lib.hid hm_; have hC := hC_; clear hm_ hC_
  go_wp2_with fail
  refine (ckl_is H5.out ⟨_, _, rfl, HV.out.below (by (repeat' with_reducible first|assumption|exact Below.refl _ _|apply bl_alloc|apply bl_drewN|apply bl_drew|refine bl_set ?_ (by simp<;>omega) _|refine bl_then ?_ (by assumption))), HS.out.below (by (repeat' with_reducible first|assumption|exact Below.refl _ _|apply bl_alloc|apply bl_drewN|apply bl_drew|refine bl_set ?_ (by simp<;>omega) _|refine bl_then ?_ (by assumption)))⟩ (HLL.out.below (by (repeat' with_reducible first|assumption|exact Below.refl _ _|apply bl_alloc|apply bl_drewN|apply bl_drew|refine bl_set ?_ (by simp<;>omega) _|refine bl_then ?_ (by assumption))))).mono ?_
  rintro e8 w8 ⟨rfl, hb⟩
  obtain ⟨hm_, hC_⟩ := stp0 hb HM.out hC; clear HM hC hb hK hL; have hK := hm_.cells; have hL := hm_.lts; simp only [BCells, CellsAt, BLts, Nat.reduceAdd, Nat.zero_add, and_true] at hK hL; have HM := Lib.hid hm_; have hC := hC_; clear hm_ hC_
  go_wp2
  go_ret
  exact ⟨rfl, by (repeat' with_reducible first|assumption|exact Below.refl _ _|apply bl_alloc|apply bl_drewN|apply bl_drew|refine bl_set ?_ (by simp<;>omega) _|refine bl_then ?_ (by assumption))⟩
theorem cl_ok {f : Fl} {l : List Int} (hg : f.good) : f.clErr l = if f.clB l then 0 else 32 := by unfold Fl.clErr; rw [good_iff.2 hg]; rfl
theorem poss_apart {f : Fl} : f.apart f.all = f.sol.empty := rfl
theorem either_any {v : Value} {f : Fl} {w : World} (hf : Fv w v f) (r : Ra) (y : Int) {lv : Value} {l : List Int} (hl : Sl inC 1 w lv l) : Calls Tryz.prog 17 #[v, raV r, .int .i64 y, lv] w fun e w' => e = .returned (.bool true) ∧ Below w.heap.size w w' := by
  obtain ⟨a, b⟩ := r
  rcases @possE_rdy f with ⟨hE, _⟩ | ⟨hE, hg, ho, hr, hs, hp⟩ | ⟨hE, hg, ho, hr, hs, hp⟩
  · exact either_30 hf hl hE
  all_goals
    by_cases c1 : 24 < l.length
    · exact either_long hf hl hE (by simp; omega)
    have d1 : decide ((24 : Int) < (l.length : Int)) = false := by simp; omega
  · have ha : f.apart f.all = true := by rw [poss_apart]; exact hs
    have hc := clash_core hg ha
    have hi : f.clI = true := by unfold Fl.clI; rw [ho, ha]; rfl
    have hL : f.clL = f.clash := by unfold Fl.clL; rw [if_pos ho]
    have hm := core_small hg hc
    have d2 : decide ((f.clL.length : Int) < 1) = false := by rw [hL]; simp; omega
    have d3 : decide ((3 : Int) < (f.clL.length : Int)) = false := by rw [hL]; simp; omega
    have h6 : f.clErr f.clL = 0 := by rw [cl_ok hg, hL, clB_iff.2 hc]; rfl
    have d4 : (f.ccErr ⟨a, b⟩ y != 0) = true := by
      simp only [bne_iff_ne, ne_eq]
      intro h
      rw [cc_poss h] at hs
      cases hs
    cases d5 : (f.clErr l != 0) with
    | true => exact either_no_t hf hl hE d1 hr hi hp d2 d3 rfl d4 rfl d5 h6
    | false => exact either_no_f hf hl hE d1 hr hi hp d2 d3 rfl d4 rfl d5 h6
  · have ha : f.apart f.all = false := by rw [poss_apart]; exact hs
    have hi : f.clI = false := by unfold Fl.clI; rw [ho, ha]; rfl
    have h5 : f.clErr l = 32 := by
      rw [cl_ok hg, if_neg]
      intro h
      rw [core_all hg (clB_iff.1 h)] at ha
      cases ha
    cases d4 : (f.ccErr ⟨a, b⟩ y != 0) with
    | true => exact either_yes_t hf hl hE d1 hr hi hp rfl d4 h5
    | false => exact either_yes_f hf hl hE d1 hr hi hp rfl d4 h5
end Go.Proofs.YtjpagpplkldbkaaGreat
