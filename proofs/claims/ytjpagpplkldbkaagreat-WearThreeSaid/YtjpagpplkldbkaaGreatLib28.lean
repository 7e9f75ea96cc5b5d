/- The law's sane: it returns true. WRITTEN BY wip/tools/gen_sane.py. -/
import Derived.Test.YtjpagpplkldbkaaGreatLib27
set_option linter.unusedVariables false
set_option linter.unusedSimpArgs false
namespace Go.Proofs.YtjpagpplkldbkaaGreat
open Go.RowKit Go.Shelf WH
theorem s_poss (v : Value) (w : World) (hf : Fv w v ex1) : Calls Tryz.prog 36 #[v] w fun e w' => e = .returned (.tuple #[.bool true, .int .i64 0]) ∧ Below w.heap.size w w' := by
  have h := possible_any v ex1 w hf
  rw [ex_poss.1, ex_poss.2.1] at h
  exact h
theorem s_bounds (v : Value) (w : World) (hf : Fv w v ex1) : Calls Tryz.prog 33 #[v] w fun e w' => e = .returned (.tuple #[.agg #[.int .i64 900, .int .i64 1], .agg #[.int .i64 1000, .int .i64 1], .int .i64 0]) ∧ Below w.heap.size w w' := by
  have h := bounds_any v ex1 w hf
  rw [ex_bounds.1, ex_bounds.2, ex_poss.2.2] at h
  exact h
theorem s_reached (v : Value) (w : World) (hf : Fv w v ex1) : Calls Tryz.prog 21 #[v, .int .i64 25] w fun e w' => e = .returned (.tuple #[.agg #[.int .i64 135, .int .i64 150], .int .i64 0]) ∧ Below w.heap.size w w' := by
  have h := reached_api v ex1 25 w hf
  rw [ex_reached.1, ex_reached.2.1, ex_reached.2.2] at h
  exact h
theorem s_level (v : Value) (w : World) (hf : Fv w v ex1) : Calls Tryz.prog 23 #[v, .int .i64 90] w fun e w' => e = .returned (.tuple #[.agg #[.int .i64 50, .int .i64 55], .int .i64 0]) ∧ Below w.heap.size w w' := by
  have h := level_api v ex1 90 w hf
  rw [ex_level.1, ex_level.2.1, ex_level.2.2] at h
  exact h
theorem s_seen (v : Value) (w : World) (hf : Fv w v ex1) : Calls Tryz.prog 25 #[v, .int .i64 0] w fun e w' => e = .returned (.tuple #[.agg #[.int .i64 90, .int .i64 100], .int .i64 0]) ∧ Below w.heap.size w w' := by
  have h := seen_api v ex1 0 w hf
  rw [ex_seen.1, ex_seen.2.1, ex_seen.2.2] at h
  exact h
theorem s_sinks (v : Value) (w : World) (hf : Fv w v ex1) : Calls Tryz.prog 27 #[v, .int .i64 60, .int .i64 50] w fun e w' => e = .returned (.tuple #[.agg #[.int .i64 18, .int .i64 20], .int .i64 0]) ∧ Below w.heap.size w w' := by
  have h := sinks_api v ex1 60 50 w hf (fun _ _ _ => ⟨by unfold DivOk; decide +kernel, by unfold DivOk; decide +kernel⟩)
  rw [ex_sinks.1, ex_sinks.2.1, ex_sinks.2.2] at h
  exact h
theorem s_surely (v : Value) (w : World) (hf : Fv w v ex1) : Calls Tryz.prog 29 #[v, .int .i64 0, .int .i64 199] w fun e w' => e = .returned (.tuple #[.bool false, .int .i64 0]) ∧ Below w.heap.size w w' := by
  have h := surely_api v ex1 0 199 w hf
  rw [ex_surely.1, ex_surely.2.1] at h
  exact h
theorem s_ever (v : Value) (w : World) (hf : Fv w v ex1) : Calls Tryz.prog 31 #[v, .int .i64 0, .int .i64 180] w fun e w' => e = .returned (.tuple #[.bool true, .int .i64 0]) ∧ Below w.heap.size w w' := by
  have h := ever_api v ex1 0 180 w hf
  rw [ex_surely.2.2.1, ex_surely.2.2.2] at h
  exact h
theorem s_case (v : Value) (w : World) (hf : Fv w v ex1) : Calls Tryz.prog 34 #[v, .agg #[.int .i64 950, .int .i64 1], .int .i64 (-1)] w fun e w' => e = .returned (.int .i64 0) ∧ Below w.heap.size w w' := by
  have h := ckc_any v ex1 ⟨950, 1⟩ (-1) w hf
  rw [ex_case] at h
  exact h
theorem s_rests (v : Value) (w : World) (hf : Fv w v ex1) : Calls Tryz.prog 71 #[v] w fun e w' => ∃ lv, e = .returned (.tuple #[lv, .int .i64 0]) ∧ Sl inC 1 w' lv [0] ∧ Below w.heap.size w w' := by
  have h := rests_any v ex1 w hf
  rw [ex_poss.2.2, ex_rests] at h
  exact h
theorem s_clash (v : Value) (w : World) (hf : Fv w v ex2) : Calls Tryz.prog 58 #[v] w fun e w' => ∃ lv, e = .returned (.tuple #[lv, .bool true, .int .i64 0]) ∧ Sl inC 1 w' lv [0, 1] ∧ Below w.heap.size w w' := by
  have h := clash_any v ex2 w hf
  rw [ex_clash.1, ex_clash.2.1, ex_clash.2.2] at h
  exact h
theorem s_proof (v lv : Value) (w : World) (hf : Fv w v ex2) (hl : Sl inC 1 w lv [0, 1]) : Calls Tryz.prog 43 #[v, lv] w fun e w' => e = .returned (.int .i64 0) ∧ Below w.heap.size w w' := by
  have h := ckl_any v lv ex2 [0, 1] w hf hl
  rw [ex_proof.1] at h
  exact h
theorem s_proof3 (v lv : Value) (w : World) (hf : Fv w v ex2) (hl : Sl inC 1 w lv [-1, 0, 1]) : Calls Tryz.prog 43 #[v, lv] w fun e w' => e = .returned (.int .i64 32) ∧ Below w.heap.size w w' := by
  have h := ckl_any v lv ex2 [-1, 0, 1] w hf hl
  rw [ex_proof.2] at h
  exact h
theorem Sl.setOne {w : World} {v : Value} {xs : List Int} (h : Sl inC 1 w v xs) {p : Addr} {s0 : Value} (hp : w.cell? p = some s0) (hn : ∀ n, s0 ≠ .int .i64 n) (u : Value) : Sl inC 1 (w.setCell p u) v xs := by
  obtain ⟨A, c, h1, h2, h3, h4⟩ := h
  refine ⟨A, c, h1, h2, h3, fun hne => ?_⟩
  obtain ⟨b, off, h5, h6⟩ := h4 hne
  refine ⟨b, off, h5, fun j i x hj hx hi => ?_⟩
  have h7 := h6 j i x hj hx hi
  have hne2 : (⟨b, off + j * 1 + i, none⟩ : Addr) ≠ p := by
    rintro rfl
    rw [hp] at h7
    rw [List.getElem?_eq_getElem hj] at hx
    have hi0 : i = 0 := by omega
    subst hi0
    simp [inC] at hx
    cases h7
    exact hn _ hx.symm
  rw [World.cell?_setCell_other (h := fun e => hne2 e.symm) ..]
  exact h7
theorem Sl.new3 (w : World) (x y z : Int) (t : TypeId) : Sl inC 1 (w.alloc (.cells #[.int .i64 x, .int .i64 y, .int .i64 z] t)) (.slice (some ⟨w.heap.size, 0, none⟩) 3 3) [x, y, z] := by
  refine ⟨_, 3, rfl, by simp, ⟨by omega, fun h => by cases h⟩, fun _ => ⟨w.heap.size, 0, rfl, fun j i u hj hu hi => ?_⟩⟩
  have hi0 : i = 0 := by omega
  subst hi0
  rw [bk_cell (bk_new w (.cells #[.int .i64 x, .int .i64 y, .int .i64 z] t))]
  match j, hj with
  | 0, _ => simpa [inC] using hu
  | 1, _ => simpa [inC] using hu
  | 2, _ => simpa [inC] using hu
theorem nine {w : World} {g : Nat} {t : TypeId} (h : w.heap[g]? = some (.cells #[.int .i64 0, .int .i64 0, .int .i64 0, .int .i64 0, .int .i64 0, .int .i64 0, .int .i64 0, .int .i64 0, .int .i64 0] t (0, 0))) {k : Nat} (hk : k < 9) : w.cell? ⟨g, k, none⟩ = some (.int .i64 0) := by
  rw [bk_cell h]
  match k, hk with
  | 0, _ => rfl
  | 1, _ => rfl
  | 2, _ => rfl
  | 3, _ => rfl
  | 4, _ => rfl
  | 5, _ => rfl
  | 6, _ => rfl
  | 7, _ => rfl
  | 8, _ => rfl
set_option maxRecDepth 100000 in
set_option maxHeartbeats 4000000 in
theorem sane_any (w : World) : Calls Tryz.prog 19 #[] w fun e w' => e = .returned (.bool true) ∧ Below w.heap.size w w' := by
  go_enter Tryz.func19, Tryz.ntmps19
  go_wp2_with fail
  refine (example_any _).mono ?_
  rintro e0 w0 ⟨vv, sv, rfl, hv, hs, ⟨A2, rfl⟩, hfv, hfs, hb0⟩
  have hB0 : Below w.heap.size w w0 := by (repeat' with_reducible first|assumption|exact Below.refl _ _|apply bl_alloc|apply bl_drewN|apply bl_drew|refine bl_set ?_ (by simp<;>omega) _|refine bl_then ?_ (by assumption))
  have HV := Lib.hid hv
  have HS := Lib.hid hs
  obtain ⟨A, c, rfl, _⟩ := hv
  generalize hl1 : ex1.v.length = n1 at *
  have HN1 := Lib.hid hl1
  clear hl1 hs hb0 hfv hfs
  unfold flC
  go_wp2_with fail
  have hX := bk_new w0 (.cells #[.slice A n1 c, .int .i64 ex1.lv, .int .i64 ex1.er, .int .i64 ex1.wl, .int .i64 ex1.wh, .slice A2 1 1] 30)
  have hC : Below w0.heap.size w0 (w0.alloc (.cells #[.slice A n1 c, .int .i64 ex1.lv, .int .i64 ex1.er, .int .i64 ex1.wl, .int .i64 ex1.wh, .slice A2 1 1] 30)) := bl_alloc (Below.refl _ _) _
  refine (s_poss _ _ ⟨_, _, rfl, HV.out.below (by (repeat' with_reducible first|assumption|exact Below.refl _ _|apply bl_alloc|apply bl_drewN|apply bl_drew|refine bl_set ?_ (by simp<;>omega) _|refine bl_then ?_ (by assumption))), HS.out.below (by (repeat' with_reducible first|assumption|exact Below.refl _ _|apply bl_alloc|apply bl_drewN|apply bl_drew|refine bl_set ?_ (by simp<;>omega) _|refine bl_then ?_ (by assumption)))⟩).mono ?_
  rintro e1 w1 ⟨rfl, hb⟩
  replace hX := bk_below hX hb
  replace hC := bl_then hC hb
  clear hb
  have hy := blk6 hX
  obtain ⟨y0, y1, y2, y3, y4, y5⟩ := hy
  have hlx := bk_lt hX
  have HX := Lib.hid hX
  clear hX
  go_wp2_with fail
  clear y0 y1 y2 y3 y4 y5 hlx
  have hX := HX.out
  clear HX
  refine (s_bounds _ _ ⟨_, _, rfl, HV.out.below (by (repeat' with_reducible first|assumption|exact Below.refl _ _|apply bl_alloc|apply bl_drewN|apply bl_drew|refine bl_set ?_ (by simp<;>omega) _|refine bl_then ?_ (by assumption))), HS.out.below (by (repeat' with_reducible first|assumption|exact Below.refl _ _|apply bl_alloc|apply bl_drewN|apply bl_drew|refine bl_set ?_ (by simp<;>omega) _|refine bl_then ?_ (by assumption)))⟩).mono ?_
  rintro e2 w2 ⟨rfl, hb⟩
  replace hX := bk_below hX hb
  replace hC := bl_then hC hb
  clear hb
  have hy := blk6 hX
  obtain ⟨y0, y1, y2, y3, y4, y5⟩ := hy
  have hlx := bk_lt hX
  have HX := Lib.hid hX
  clear hX
  go_wp2_with fail
  clear y0 y1 y2 y3 y4 y5 hlx
  have hX := HX.out
  clear HX
  replace hX := bk_alloc hX (.cells #[.int .i64 900, .int .i64 1] 41)
  replace hC := bl_alloc hC (.cells #[.int .i64 900, .int .i64 1] 41)
  have G2_0_ := bk_new w2 (.cells #[.int .i64 900, .int .i64 1] 41)
  have G2_0 := Lib.hid G2_0_
  clear G2_0_
  replace G2_0 := Lib.hid (bk_alloc G2_0.out (.cells #[.int .i64 1000, .int .i64 1] 41))
  replace hX := bk_alloc hX (.cells #[.int .i64 1000, .int .i64 1] 41)
  replace hC := bl_alloc hC (.cells #[.int .i64 1000, .int .i64 1] 41)
  have G2_1_ := bk_new (w2.alloc (.cells #[.int .i64 900, .int .i64 1] 41)) (.cells #[.int .i64 1000, .int .i64 1] 41)
  rw [World.size_alloc] at G2_1_
  have G2_1 := Lib.hid G2_1_
  clear G2_1_
  refine (s_reached _ _ ⟨_, _, rfl, HV.out.below (by (repeat' with_reducible first|assumption|exact Below.refl _ _|apply bl_alloc|apply bl_drewN|apply bl_drew|refine bl_set ?_ (by simp<;>omega) _|refine bl_then ?_ (by assumption))), HS.out.below (by (repeat' with_reducible first|assumption|exact Below.refl _ _|apply bl_alloc|apply bl_drewN|apply bl_drew|refine bl_set ?_ (by simp<;>omega) _|refine bl_then ?_ (by assumption)))⟩).mono ?_
  rintro e3 w3 ⟨rfl, hb⟩
  replace hX := bk_below hX hb
  replace G2_0 := Lib.hid (bk_below G2_0.out hb)
  replace G2_1 := Lib.hid (bk_below G2_1.out hb)
  replace hC := bl_then hC hb
  clear hb
  have hy := blk6 hX
  obtain ⟨y0, y1, y2, y3, y4, y5⟩ := hy
  have hlx := bk_lt hX
  have HX := Lib.hid hX
  clear hX
  go_wp2_with fail
  clear y0 y1 y2 y3 y4 y5 hlx
  have hX := HX.out
  clear HX
  replace G2_0 := Lib.hid (bk_alloc G2_0.out (.cells #[.int .i64 135, .int .i64 150] 27))
  replace G2_1 := Lib.hid (bk_alloc G2_1.out (.cells #[.int .i64 135, .int .i64 150] 27))
  replace hX := bk_alloc hX (.cells #[.int .i64 135, .int .i64 150] 27)
  replace hC := bl_alloc hC (.cells #[.int .i64 135, .int .i64 150] 27)
  have G3_0_ := bk_new w3 (.cells #[.int .i64 135, .int .i64 150] 27)
  have G3_0 := Lib.hid G3_0_
  clear G3_0_
  refine (s_level _ _ ⟨_, _, rfl, HV.out.below (by (repeat' with_reducible first|assumption|exact Below.refl _ _|apply bl_alloc|apply bl_drewN|apply bl_drew|refine bl_set ?_ (by simp<;>omega) _|refine bl_then ?_ (by assumption))), HS.out.below (by (repeat' with_reducible first|assumption|exact Below.refl _ _|apply bl_alloc|apply bl_drewN|apply bl_drew|refine bl_set ?_ (by simp<;>omega) _|refine bl_then ?_ (by assumption)))⟩).mono ?_
  rintro e4 w4 ⟨rfl, hb⟩
  replace hX := bk_below hX hb
  replace G2_0 := Lib.hid (bk_below G2_0.out hb)
  replace G2_1 := Lib.hid (bk_below G2_1.out hb)
  replace G3_0 := Lib.hid (bk_below G3_0.out hb)
  replace hC := bl_then hC hb
  clear hb
  have hy := blk6 hX
  obtain ⟨y0, y1, y2, y3, y4, y5⟩ := hy
  have hlx := bk_lt hX
  have HX := Lib.hid hX
  clear hX
  go_wp2_with fail
  clear y0 y1 y2 y3 y4 y5 hlx
  have hX := HX.out
  clear HX
  replace G2_0 := Lib.hid (bk_alloc G2_0.out (.cells #[.int .i64 50, .int .i64 55] 27))
  replace G2_1 := Lib.hid (bk_alloc G2_1.out (.cells #[.int .i64 50, .int .i64 55] 27))
  replace G3_0 := Lib.hid (bk_alloc G3_0.out (.cells #[.int .i64 50, .int .i64 55] 27))
  replace hX := bk_alloc hX (.cells #[.int .i64 50, .int .i64 55] 27)
  replace hC := bl_alloc hC (.cells #[.int .i64 50, .int .i64 55] 27)
  have G4_0_ := bk_new w4 (.cells #[.int .i64 50, .int .i64 55] 27)
  have G4_0 := Lib.hid G4_0_
  clear G4_0_
  refine (s_seen _ _ ⟨_, _, rfl, HV.out.below (by (repeat' with_reducible first|assumption|exact Below.refl _ _|apply bl_alloc|apply bl_drewN|apply bl_drew|refine bl_set ?_ (by simp<;>omega) _|refine bl_then ?_ (by assumption))), HS.out.below (by (repeat' with_reducible first|assumption|exact Below.refl _ _|apply bl_alloc|apply bl_drewN|apply bl_drew|refine bl_set ?_ (by simp<;>omega) _|refine bl_then ?_ (by assumption)))⟩).mono ?_
  rintro e5 w5 ⟨rfl, hb⟩
  replace hX := bk_below hX hb
  replace G2_0 := Lib.hid (bk_below G2_0.out hb)
  replace G2_1 := Lib.hid (bk_below G2_1.out hb)
  replace G3_0 := Lib.hid (bk_below G3_0.out hb)
  replace G4_0 := Lib.hid (bk_below G4_0.out hb)
  replace hC := bl_then hC hb
  clear hb
  have hy := blk6 hX
  obtain ⟨y0, y1, y2, y3, y4, y5⟩ := hy
  have hlx := bk_lt hX
  have HX := Lib.hid hX
  clear hX
  go_wp2_with fail
  clear y0 y1 y2 y3 y4 y5 hlx
  have hX := HX.out
  clear HX
  replace G2_0 := Lib.hid (bk_alloc G2_0.out (.cells #[.int .i64 90, .int .i64 100] 27))
  replace G2_1 := Lib.hid (bk_alloc G2_1.out (.cells #[.int .i64 90, .int .i64 100] 27))
  replace G3_0 := Lib.hid (bk_alloc G3_0.out (.cells #[.int .i64 90, .int .i64 100] 27))
  replace G4_0 := Lib.hid (bk_alloc G4_0.out (.cells #[.int .i64 90, .int .i64 100] 27))
  replace hX := bk_alloc hX (.cells #[.int .i64 90, .int .i64 100] 27)
  replace hC := bl_alloc hC (.cells #[.int .i64 90, .int .i64 100] 27)
  have G5_0_ := bk_new w5 (.cells #[.int .i64 90, .int .i64 100] 27)
  have G5_0 := Lib.hid G5_0_
  clear G5_0_
  refine (s_sinks _ _ ⟨_, _, rfl, HV.out.below (by (repeat' with_reducible first|assumption|exact Below.refl _ _|apply bl_alloc|apply bl_drewN|apply bl_drew|refine bl_set ?_ (by simp<;>omega) _|refine bl_then ?_ (by assumption))), HS.out.below (by (repeat' with_reducible first|assumption|exact Below.refl _ _|apply bl_alloc|apply bl_drewN|apply bl_drew|refine bl_set ?_ (by simp<;>omega) _|refine bl_then ?_ (by assumption)))⟩).mono ?_
  rintro e6 w6 ⟨rfl, hb⟩
  replace hX := bk_below hX hb
  replace G2_0 := Lib.hid (bk_below G2_0.out hb)
  replace G2_1 := Lib.hid (bk_below G2_1.out hb)
  replace G3_0 := Lib.hid (bk_below G3_0.out hb)
  replace G4_0 := Lib.hid (bk_below G4_0.out hb)
  replace G5_0 := Lib.hid (bk_below G5_0.out hb)
  replace hC := bl_then hC hb
  clear hb
  have hy := blk6 hX
  obtain ⟨y0, y1, y2, y3, y4, y5⟩ := hy
  have hlx := bk_lt hX
  have HX := Lib.hid hX
  clear hX
  go_wp2_with fail
  clear y0 y1 y2 y3 y4 y5 hlx
  have hX := HX.out
  clear HX
  replace G2_0 := Lib.hid (bk_alloc G2_0.out (.cells #[.int .i64 18, .int .i64 20] 27))
  replace G2_1 := Lib.hid (bk_alloc G2_1.out (.cells #[.int .i64 18, .int .i64 20] 27))
  replace G3_0 := Lib.hid (bk_alloc G3_0.out (.cells #[.int .i64 18, .int .i64 20] 27))
  replace G4_0 := Lib.hid (bk_alloc G4_0.out (.cells #[.int .i64 18, .int .i64 20] 27))
  replace G5_0 := Lib.hid (bk_alloc G5_0.out (.cells #[.int .i64 18, .int .i64 20] 27))
  replace hX := bk_alloc hX (.cells #[.int .i64 18, .int .i64 20] 27)
  replace hC := bl_alloc hC (.cells #[.int .i64 18, .int .i64 20] 27)
  have G6_0_ := bk_new w6 (.cells #[.int .i64 18, .int .i64 20] 27)
  have G6_0 := Lib.hid G6_0_
  clear G6_0_
  refine (s_surely _ _ ⟨_, _, rfl, HV.out.below (by (repeat' with_reducible first|assumption|exact Below.refl _ _|apply bl_alloc|apply bl_drewN|apply bl_drew|refine bl_set ?_ (by simp<;>omega) _|refine bl_then ?_ (by assumption))), HS.out.below (by (repeat' with_reducible first|assumption|exact Below.refl _ _|apply bl_alloc|apply bl_drewN|apply bl_drew|refine bl_set ?_ (by simp<;>omega) _|refine bl_then ?_ (by assumption)))⟩).mono ?_
  rintro e7 w7 ⟨rfl, hb⟩
  replace hX := bk_below hX hb
  replace G2_0 := Lib.hid (bk_below G2_0.out hb)
  replace G2_1 := Lib.hid (bk_below G2_1.out hb)
  replace G3_0 := Lib.hid (bk_below G3_0.out hb)
  replace G4_0 := Lib.hid (bk_below G4_0.out hb)
  replace G5_0 := Lib.hid (bk_below G5_0.out hb)
  replace G6_0 := Lib.hid (bk_below G6_0.out hb)
  replace hC := bl_then hC hb
  clear hb
  have hy := blk6 hX
  obtain ⟨y0, y1, y2, y3, y4, y5⟩ := hy
  have hlx := bk_lt hX
  have HX := Lib.hid hX
  clear hX
  go_wp2_with fail
  clear y0 y1 y2 y3 y4 y5 hlx
  have hX := HX.out
  clear HX
  refine (s_ever _ _ ⟨_, _, rfl, HV.out.below (by (repeat' with_reducible first|assumption|exact Below.refl _ _|apply bl_alloc|apply bl_drewN|apply bl_drew|refine bl_set ?_ (by simp<;>omega) _|refine bl_then ?_ (by assumption))), HS.out.below (by (repeat' with_reducible first|assumption|exact Below.refl _ _|apply bl_alloc|apply bl_drewN|apply bl_drew|refine bl_set ?_ (by simp<;>omega) _|refine bl_then ?_ (by assumption)))⟩).mono ?_
  rintro e8 w8 ⟨rfl, hb⟩
  replace hX := bk_below hX hb
  replace G2_0 := Lib.hid (bk_below G2_0.out hb)
  replace G2_1 := Lib.hid (bk_below G2_1.out hb)
  replace G3_0 := Lib.hid (bk_below G3_0.out hb)
  replace G4_0 := Lib.hid (bk_below G4_0.out hb)
  replace G5_0 := Lib.hid (bk_below G5_0.out hb)
  replace G6_0 := Lib.hid (bk_below G6_0.out hb)
  replace hC := bl_then hC hb
  clear hb
  have hy := blk6 hX
  obtain ⟨y0, y1, y2, y3, y4, y5⟩ := hy
  have hlx := bk_lt hX
  have HX := Lib.hid hX
  clear hX
  obtain ⟨⟨p0, q0⟩, _, _⟩ := blk2 G2_0.out
  have hlt0 := bk_lt G2_0.out
  obtain ⟨⟨p1, q1⟩, _, _⟩ := blk2 G2_1.out
  have hlt1 := bk_lt G2_1.out
  obtain ⟨⟨p2, q2⟩, _, _⟩ := blk2 G3_0.out
  have hlt2 := bk_lt G3_0.out
  obtain ⟨⟨p3, q3⟩, _, _⟩ := blk2 G4_0.out
  have hlt3 := bk_lt G4_0.out
  obtain ⟨⟨p4, q4⟩, _, _⟩ := blk2 G5_0.out
  have hlt4 := bk_lt G5_0.out
  obtain ⟨⟨p5, q5⟩, _, _⟩ := blk2 G6_0.out
  have hlt5 := bk_lt G6_0.out
  go_wp2_with fail
  refine (s_case _ _ ⟨_, _, rfl, HV.out.below (by (repeat' with_reducible first|assumption|exact Below.refl _ _|apply bl_alloc|apply bl_drewN|apply bl_drew|refine bl_set ?_ (by simp<;>omega) _|refine bl_then ?_ (by assumption))), HS.out.below (by (repeat' with_reducible first|assumption|exact Below.refl _ _|apply bl_alloc|apply bl_drewN|apply bl_drew|refine bl_set ?_ (by simp<;>omega) _|refine bl_then ?_ (by assumption)))⟩).mono ?_
  rintro e9 w9 ⟨rfl, hb⟩
  have hX := bk_below HX.out hb
  replace hC := bl_then hC hb
  clear hb HX y0 y1 y2 y3 y4 y5 hlx p0 q0 hlt0 p1 q1 hlt1 p2 q2 hlt2 p3 q3 hlt3 p4 q4 hlt4 p5 q5 hlt5 G2_0 G2_1 G3_0 G4_0 G5_0 G6_0
  go_wp2
  have h9 := bk_new w9 (.cells #[.int .i64 0, .int .i64 0, .int .i64 0, .int .i64 0, .int .i64 0, .int .i64 0, .int .i64 0, .int .i64 0, .int .i64 0] 33)
  replace hX := bk_alloc hX (.cells #[.int .i64 0, .int .i64 0, .int .i64 0, .int .i64 0, .int .i64 0, .int .i64 0, .int .i64 0, .int .i64 0, .int .i64 0] 33)
  replace hC := bl_alloc hC (.cells #[.int .i64 0, .int .i64 0, .int .i64 0, .int .i64 0, .int .i64 0, .int .i64 0, .int .i64 0, .int .i64 0, .int .i64 0] 33)
  generalize hW : w9.alloc (.cells #[.int .i64 0, .int .i64 0, .int .i64 0, .int .i64 0, .int .i64 0, .int .i64 0, .int .i64 0, .int .i64 0, .int .i64 0] 33) = W9 at *
  have HX := Lib.hid hX
  have HC := Lib.hid hC
  have H9 := Lib.hid h9
  clear hW hX hC h9
  go_loopw [118] (fun i W => ∃ k : Nat, k ≤ 9 ∧ i = .int .i64 k ∧ Below W9.heap.size W9 W) (fun i _ => 9 - (intOf i).toNat)
  case atStart => exact ⟨0, by omega, rfl, by (repeat' with_reducible first|assumption|exact Below.refl _ _|apply bl_alloc|apply bl_drewN|apply bl_drew|refine bl_set ?_ (by simp<;>omega) _|refine bl_then ?_ (by assumption))⟩
  case round =>
    obtain ⟨k, hk, rfl, hBi⟩ := hrel
    by_cases hlt : k < 9
    · have d0 := cl_below hBi (nine H9.out hlt)
      have hkI : (k : Int) < 9 := by omega
      have ewk : IntKind.i64.wrap ((k : Int) + 1) = (k : Int) + 1 := wrapI (by omega) (by omega)
      go_wp2
      go_roundw
      case rel => exact ⟨k + 1, by omega, by go_num, hBi⟩
      case measure => simp [intOf]; omega
    · obtain rfl : k = 9 := by omega
      have hX := bk_below HX.out hBi
      have hC := bl_then HC.out hBi
      obtain ⟨y0, y1, y2, y3, y4, y5⟩ := blk6 hX
      have hlx := bk_lt hX
      have HX2 := Lib.hid hX
      clear hX HX HC H9 hBi
      go_wp2_with fail
      refine (s_rests _ _ ⟨_, _, rfl, HV.out.below (by (repeat' with_reducible first|assumption|exact Below.refl _ _|apply bl_alloc|apply bl_drewN|apply bl_drew|refine bl_set ?_ (by simp<;>omega) _|refine bl_then ?_ (by assumption))), HS.out.below (by (repeat' with_reducible first|assumption|exact Below.refl _ _|apply bl_alloc|apply bl_drewN|apply bl_drew|refine bl_set ?_ (by simp<;>omega) _|refine bl_then ?_ (by assumption)))⟩).mono ?_
      rintro e10 w10 ⟨lv, rfl, hlv, hb⟩
      have HLV := Lib.hid hlv
      obtain ⟨A3, c3, rfl, _⟩ := id hlv
      replace hX := bk_below HX2.out hb
      replace hC := bl_then hC hb
      clear hlv hb HX2 y0 y1 y2 y3 y4 y5 hlx
      obtain ⟨⟨y0, y1, y2, y3, y4, y5⟩, f0, f1, f2, f3, f4, f5⟩ := agg6 hX
      have hlx := bk_lt hX
      have HX := Lib.hid hX
      clear hX
      go_wp2
      ((refine p_start (by kernel_rfl) ?_); (refine x_enter 4 (fun hX_ => ?_)); (refine x_pure 0 (v := ?_) rfl (by kernel_rfl) (fun _ _ _ h => h) rfl ?_ hX_ ?_; rotate_left; (focus (intro w_ hS_; have y5 := cl_below hS_ y5; go_simp; (try (first | with_reducible rfl | (constructor <;> with_reducible rfl))); done)); (try simp only [Act.put, List.setIfInBounds_toArray, List.set_cons_zero, List.set_cons_succ])); (refine x_pure 1 (v := ?_) rfl (by kernel_rfl) (fun _ _ _ h => h) rfl ?_ hX_ ?_; rotate_left; (focus (intro w_ hS_; have y5 := cl_below hS_ y5; go_simp; (try (first | with_reducible rfl | (constructor <;> with_reducible rfl))); done)); (try simp only [Act.put, List.setIfInBounds_toArray, List.set_cons_zero, List.set_cons_succ])); (refine x_t 3 hX_ ?_); ((refine t_call 2 (v := ?_) rfl (by kernel_rfl) (fun _ _ _ h => h) rfl ?_ ?_ ?_ ?_ ?_; rotate_left 3; (focus (intro w_ hS_; have y5 := cl_below hS_ y5; go_simp; (try (first | with_reducible rfl | (constructor <;> with_reducible rfl))); done)); (focus (intro w_ hS_; have y5 := cl_below hS_ y5; ((go_at_call 84; refine (lawseen_any 100 100 60 1 _).mono ?_; rintro e' w' ⟨rfl, hb⟩)); refine And.intro ?_ ?_; (focus (with_reducible rfl)); (first | exact bl_then hS_ (by assumption) | assumption))); (try simp only [Act.put, List.setIfInBounds_toArray, List.set_cons_zero, List.set_cons_succ]))); (refine t_exitX (by kernel_rfl) (fun W_ hS_ => ?_)); (refine x_only 3 rfl (by kernel_rfl) rfl (fun K hK => ?_); go_simp; refine hK.out _ _ (bl_alloc hS_ _) ?_; clear hK K; (try simp only [Act.put, List.setIfInBounds_toArray, List.set_cons_zero, List.set_cons_succ])); (refine x_exit (by kernel_rfl) ?_))
      have hC2 : Below w0.heap.size w0 W_ := by (repeat' with_reducible first|assumption|exact Below.refl _ _|apply bl_alloc|apply bl_drewN|apply bl_drew|refine bl_set ?_ (by simp<;>omega) _|refine bl_then ?_ (by assumption))
      have hX := bk_below HX.out hS_
      refine p_only 4 rfl (by kernel_rfl) (fun K hK => ?_)
      refine step_app_cut snC_len (by decide) snC_one rfl (.tmp 131) (.tmp 133) 28 rfl 111 _ 32 Tryz.underlying28 snZ rfl w0 (bl_alloc hC2 _) A2 1 ex1.seen [(⟨100, 100, 60, 1⟩ : Sn)] rfl HS.out _ rfl (Sl.new1 snC_len _ _ _ _ rfl) (by decide) (by decide) ?_
      intro v' w' hv' hb' hoff
      refine hK.out _ _ ?_
      clear hK K
      (try simp only [Act.put, List.setIfInBounds_toArray, List.set_cons_zero, List.set_cons_succ])
      have hXa := bk_below (bk_alloc hX (.cells #[.int .i64 100, .int .i64 100, .int .i64 60, .int .i64 1] 111)) hb'
      have hC3 := bl_then (bl_alloc hC2 (.cells #[.int .i64 100, .int .i64 100, .int .i64 60, .int .i64 1] 111)) hb'
      have HLV2 := Lib.hid (((HLV.out.below hS_).below (bl_alloc (Below.refl _ _) (.cells #[.int .i64 100, .int .i64 100, .int .i64 60, .int .i64 1] 111))).below hb')
      have hsw : w0.heap.size < W_.heap.size := bk_lt hX
      have hv2 : Sl snC 4 w' v' ex2.seen := hv'
      have hof : ∀ b, v'.ownBlock = some b → b ≠ w0.heap.size := fun b hb => by
        have := hoff (by simp) b hb
        rw [World.size_alloc] at this
        omega
      obtain ⟨A4, c4, rfl, _⟩ := id hv2
      generalize hl4 : ex2.seen.length = n4 at *
      have HV2 := Lib.hid hv2
      have HOF := Lib.hid hof
      have HN4 := Lib.hid hl4
      clear hv' hv2 hb' hoff hof hl4 hX hC2 hS_ HX HLV y0 y1 y2 y3 y4 y5 f0 f1 f2 f3 f4 f5 hlx hC
      obtain ⟨⟨y0, y1, y2, y3, y4, y5⟩, f0, f1, f2, f3, f4, f5⟩ := agg6 hXa
      have hlx := bk_lt hXa
      have HX := Lib.hid hXa
      clear hXa
      (refine p_only 5 rfl (by kernel_rfl) (fun K hK => ?_); go_simp; refine hK.out _ _ ?_; clear hK K; (try simp only [Act.put, List.setIfInBounds_toArray, List.set_cons_zero, List.set_cons_succ]))
      (refine p_only 6 rfl (by kernel_rfl) (fun K hK => ?_); go_simp; refine hK.out _ _ ?_; clear hK K; (try simp only [Act.put, List.setIfInBounds_toArray, List.set_cons_zero, List.set_cons_succ]))
      refine wpAny_done (by kernel_rfl) ?_ _
      have hX := bk_put1 (cs' := #[.slice A n1 c, .int .i64 ex1.lv, .int .i64 ex1.er, .int .i64 ex1.wl, .int .i64 ex1.wh, .slice A4 n4 c4]) HX.out 5 (.slice A4 n4 c4) rfl
      have hs5 := HV2.out.keep (w1 := w'.setCell ⟨w0.heap.size, 5, none⟩ (.slice A4 n4 c4)) (fun _ b hb => Below.heap_setCell _ _ _ b (HOF.out b hb))
      have hC : Below w0.heap.size w0 (w'.setCell ⟨w0.heap.size, 5, none⟩ (.slice A4 n4 c4)) := by (repeat' with_reducible first|assumption|exact Below.refl _ _|apply bl_alloc|apply bl_drewN|apply bl_drew|refine bl_set ?_ (by simp<;>omega) _|refine bl_then ?_ (by assumption))
      have hlv5 := Sl.setOne HLV2.out (p := ⟨w0.heap.size, 5, none⟩) y5 (fun n h => by cases h) (.slice A4 n4 c4)
      generalize hW5 : w'.setCell ⟨w0.heap.size, 5, none⟩ (.slice A4 n4 c4) = W5 at *
      have HLV5 := Lib.hid hlv5
      have HS5 := Lib.hid hs5
      have HV5 := Lib.hid (HV.out.below hC)
      clear hW5 hlv5 hs5 HX HLV2 y0 y1 y2 y3 y4 y5 f0 f1 f2 f3 f4 f5 hlx
      obtain ⟨y0, y1, y2, y3, y4, y5⟩ := blk6 hX
      have hlx := bk_lt hX
      have HX := Lib.hid hX
      clear hX
      go_wp2_with fail
      refine (s_clash _ _ ⟨_, _, rfl, HV5.out, HS5.out⟩).mono ?_
      rintro e11 w11 ⟨cv, rfl, hcv, hb⟩
      have HLV6 := Lib.hid (HLV5.out.below hb)
      have HS6 := Lib.hid (HS5.out.below hb)
      have HV6 := Lib.hid (HV5.out.below hb)
      have HCV := Lib.hid hcv
      obtain ⟨A5, c5, rfl, _⟩ := id hcv
      have hX := bk_below HX.out hb
      replace hC := bl_then hC hb
      clear hb hcv HX HLV5 HS5 HV5 y0 y1 y2 y3 y4 y5 hlx
      have HX := Lib.hid hX
      clear hX
      go_wp2_with fail
      refine (equal_any _ _ [0] [0] _ (HLV6.out.below (bl_alloc (Below.refl _ _) _)) (Sl.new1 inC_len w11 (0 : Int) _ _ rfl)).mono ?_
      rintro e12 w12 ⟨rfl, hb⟩
      rw [show decide (([0] : List Int) = [0]) = true from rfl]
      have HCV2 := Lib.hid ((HCV.out.below (bl_alloc (Below.refl _ _) _)).below hb)
      have HS7 := Lib.hid ((HS6.out.below (bl_alloc (Below.refl _ _) _)).below hb)
      have HV7 := Lib.hid ((HV6.out.below (bl_alloc (Below.refl _ _) _)).below hb)
      have HX7 := Lib.hid (bk_below (bk_alloc HX.out _) hb)
      have hC7 := bl_then (bl_alloc hC _) hb
      clear hb HX HLV6 HS6 HV6 HCV hC
      go_wp2_with fail
      refine (equal_any _ _ [0, 1] [0, 1] _ (HCV2.out.below (bl_alloc (Below.refl _ _) _)) (Sl.new2 w12 0 1 _)).mono ?_
      rintro e13 w13 ⟨rfl, hb⟩
      rw [show decide (([0, 1] : List Int) = [0, 1]) = true from rfl]
      have HS8 := Lib.hid ((HS7.out.below (bl_alloc (Below.refl _ _) _)).below hb)
      have HV8 := Lib.hid ((HV7.out.below (bl_alloc (Below.refl _ _) _)).below hb)
      have hX := bk_below (bk_alloc HX7.out _) hb
      have hC := bl_then (bl_alloc hC7 _) hb
      clear hb HX7 HS7 HV7 HCV2 hC7
      obtain ⟨y0, y1, y2, y3, y4, y5⟩ := blk6 hX
      have hlx := bk_lt hX
      have HX := Lib.hid hX
      clear hX
      go_wp2_with fail
      refine (s_proof _ _ _ ⟨_, _, rfl, HV8.out.below (bl_alloc (Below.refl _ _) _), HS8.out.below (bl_alloc (Below.refl _ _) _)⟩ (Sl.new2 w13 0 1 _)).mono ?_
      rintro e14 w14 ⟨rfl, hb⟩
      have HS9 := Lib.hid ((HS8.out.below (bl_alloc (Below.refl _ _) _)).below hb)
      have HV9 := Lib.hid ((HV8.out.below (bl_alloc (Below.refl _ _) _)).below hb)
      have hX := bk_below (bk_alloc HX.out _) hb
      have hC9 := bl_then (bl_alloc hC _) hb
      clear hb HX HS8 HV8 hC y0 y1 y2 y3 y4 y5 hlx
      obtain ⟨y0, y1, y2, y3, y4, y5⟩ := blk6 hX
      have hlx := bk_lt hX
      clear hX
      go_wp2_with fail
      refine (s_proof3 _ _ _ ⟨_, _, rfl, HV9.out.below (bl_alloc (Below.refl _ _) _), HS9.out.below (bl_alloc (Below.refl _ _) _)⟩ (Sl.new3 w14 (-1) 0 1 _)).mono ?_
      rintro e15 w15 ⟨rfl, hb⟩
      have hC15 := bl_then (bl_alloc hC9 _) hb
      clear hb y0 y1 y2 y3 y4 y5 hlx
      go_wp2
      go_ret
      exact ⟨rfl, bl_then hB0 hC15⟩
end Go.Proofs.YtjpagpplkldbkaaGreat
