/- Bounds and Wear. Searching by halves. -/
import Derived.Test.YtjpagpplkldbkaaGreatLib14
set_option linter.unusedVariables false
set_option linter.unusedSimpArgs false
namespace Go.Proofs.YtjpagpplkldbkaaGreat
open Go.RowKit Go.Shelf WH
def Fl.bLo (f : Fl) : Ra := if f.rdy true = 0 then f.lo else ⟨0, 0⟩
def Fl.bHi (f : Fl) : Ra := if f.rdy true = 0 then f.hi else ⟨0, 0⟩
def Fl.wLo (f : Fl) : Int := if f.rdy true = 0 then f.bLo.n / f.bLo.d else 0
def Fl.wHi (f : Fl) : Int := if f.rdy true = 0 then (f.bHi.n + f.bHi.d - 1) / f.bHi.d else 0
set_option maxRecDepth 100000 in
set_option maxHeartbeats 1000000 in
theorem bounds_any (v : Value) (f : Fl) (w : World) (hf : Fv w v f) : Calls Tryz.prog 33 #[v] w fun e w' => e = .returned (.tuple #[raV f.bLo, raV f.bHi, .int .i64 (f.rdy true)]) ∧ Below w.heap.size w w' := by
  obtain ⟨vv, sv, rfl, hv, hs⟩ := hf
  have HV := Lib.hid hv
  have HSE := Lib.hid hs
  clear hv hs
  unfold flC
  go_enter Tryz.func33, Tryz.ntmps33
  go_wp2_with fail
  refine (ready_fine _ f _ ⟨vv, sv, rfl, HV.out.below (by (repeat' with_reducible first|assumption|exact Below.refl _ _|apply bl_alloc|apply bl_drewN|apply bl_drew|refine bl_set ?_ (by simp<;>omega) _|refine bl_then ?_ (by assumption))), HSE.out.below (by (repeat' with_reducible first|assumption|exact Below.refl _ _|apply bl_alloc|apply bl_drewN|apply bl_drew|refine bl_set ?_ (by simp<;>omega) _|refine bl_then ?_ (by assumption)))⟩).mono ?_
  intro e1 w1 hrd
  have hA : ∀ {W : World}, Below (((w.alloc (.cells #[vv, .int .i64 f.lv, .int .i64 f.er, .int .i64 f.wl, .int .i64 f.wh, sv] 30)).alloc (.cells #[.int .i64 0, .int .i64 0] 41)).alloc (.cells #[.int .i64 0, .int .i64 0] 41)).heap.size (((w.alloc (.cells #[vv, .int .i64 f.lv, .int .i64 f.er, .int .i64 f.wl, .int .i64 f.wh, sv] 30)).alloc (.cells #[.int .i64 0, .int .i64 0] 41)).alloc (.cells #[.int .i64 0, .int .i64 0] 41)) W →
      W.heap[w.heap.size + 1]? = some (.cells #[.int .i64 0, .int .i64 0] 41 (0, 0)) ∧ W.heap[w.heap.size + 2]? = some (.cells #[.int .i64 0, .int .i64 0] 41 (0, 0)) := fun hb => by
    have h1 := bk_below (bk_alloc (bk_new (w.alloc (.cells #[vv, .int .i64 f.lv, .int .i64 f.er, .int .i64 f.wl, .int .i64 f.wh, sv] 30)) (.cells #[.int .i64 0, .int .i64 0] 41)) _) hb
    have h2 := bk_below (bk_new ((w.alloc (.cells #[vv, .int .i64 f.lv, .int .i64 f.er, .int .i64 f.wl, .int .i64 f.wh, sv] 30)).alloc (.cells #[.int .i64 0, .int .i64 0] 41)) (.cells #[.int .i64 0, .int .i64 0] 41)) hb
    rw [World.size_alloc] at h1
    rw [World.size_alloc, World.size_alloc] at h2
    exact ⟨h1, h2⟩
  rcases hrd with ⟨hno, rfl, hb1⟩ | ⟨h0, hg, _, hem, kv, rfl, hkn, hb1⟩
  · obtain ⟨h1, h2⟩ := hA hb1
    obtain ⟨⟨z0, z1⟩, f0, f1⟩ := blk2 h1
    obtain ⟨⟨z2, z3⟩, f2, f3⟩ := blk2 h2
    have hlt := bk_lt h2
    have hlt1 := bk_lt h1
    have H1 := Lib.hid h1
    have H2 := Lib.hid h2
    have HE : Hid (f.bLo = ⟨0, 0⟩ ∧ f.bHi = ⟨0, 0⟩) := Lib.hid ⟨if_neg hno, if_neg hno⟩
    have hne : (f.rdy true == 0) = false := by simpa using hno
    have hne2 : (f.rdy true != 0) = true := by simpa using hno
    clear h1 h2 hno hA
    unfold knZ
    generalize hn : f.rdy true = n at *
    have HN := Lib.hid hn
    clear hn
    go_wp2
    refine bodyPost_ret (v := .tuple #[raV ⟨0, 0⟩, raV ⟨0, 0⟩, .int .i64 n]) (res_list (vs := [_, _, _]) rfl (by simp) (.cell (w.heap.size + 1) 41 _ (0, 0) _ rfl (bk_alloc (bk_far (bk_far (bk_put2 H1.out) (by simp) _) (by simp) _) _) Tryz.underlying41 rfl (by kernel_rfl) (.cell (w.heap.size + 2) 41 _ (0, 0) _ rfl (bk_alloc (bk_put2 (bk_far (bk_far H2.out (by simp) _) (by simp) _)) _) Tryz.underlying41 rfl (by kernel_rfl) (.tmp rfl .nil)))) rfl ?_
    exact ⟨by rw [HE.out.1, HE.out.2, HN.out], by (repeat' with_reducible first|assumption|exact Below.refl _ _|apply bl_alloc|apply bl_drewN|apply bl_drew|refine bl_set ?_ (by simp<;>omega) _|refine bl_then ?_ (by assumption))⟩
  · obtain ⟨h1, h2⟩ := hA hb1
    have H1 := Lib.hid h1
    have H2 := Lib.hid h2
    have HE : Hid (f.bLo = f.lo ∧ f.bHi = f.hi) := Lib.hid ⟨if_pos h0, if_pos h0⟩
    have HT := Lib.hid (sol_tidy hg)
    obtain ⟨g, va, vb, rfl, _, hka, hkb⟩ := hkn
    obtain ⟨Aa, ka, rfl, _⟩ := hka
    obtain ⟨Ab, kb, rfl, _⟩ := hkb
    have H0 := Lib.hid h0
    clear h1 h2 hA hem hg h0
    unfold knC
    go_wp2_with fail
    refine (wears_any f.sol _ _ _ HT.out.lo HT.out.hi).mono ?_
    rintro e2 w2 ⟨rfl, hb2⟩
    unfold raV
    have h1 := bk_below (bk_alloc H1.out _) hb2
    have h2 := bk_below (bk_alloc H2.out _) hb2
    have hlt := bk_lt h2
    have hlt1 := bk_lt h1
    have H1' := Lib.hid h1
    have H2' := Lib.hid h2
    have hB2 : Below w.heap.size w w2 := by (repeat' with_reducible first|assumption|exact Below.refl _ _|apply bl_alloc|apply bl_drewN|apply bl_drew|refine bl_set ?_ (by simp<;>omega) _|refine bl_then ?_ (by assumption))
    clear h1 h2 H1 H2 hb1 hb2
    go_wp2
    have h1 := bk_alloc (bk_alloc H1'.out (.cells #[.int .i64 (wearR f.sol.hi.r).n, .int .i64 (wearR f.sol.hi.r).d] 41)) (.cells #[.int .i64 (wearR f.sol.lo.r).n, .int .i64 (wearR f.sol.lo.r).d] 41)
    have h2 := bk_alloc (bk_alloc H2'.out (.cells #[.int .i64 (wearR f.sol.hi.r).n, .int .i64 (wearR f.sol.hi.r).d] 41)) (.cells #[.int .i64 (wearR f.sol.lo.r).n, .int .i64 (wearR f.sol.lo.r).d] 41)
    have h3 := bk_alloc (bk_new w2 (.cells #[.int .i64 (wearR f.sol.hi.r).n, .int .i64 (wearR f.sol.hi.r).d] 41)) (.cells #[.int .i64 (wearR f.sol.lo.r).n, .int .i64 (wearR f.sol.lo.r).d] 41)
    have h4 := bk_new (w2.alloc (.cells #[.int .i64 (wearR f.sol.hi.r).n, .int .i64 (wearR f.sol.hi.r).d] 41)) (.cells #[.int .i64 (wearR f.sol.lo.r).n, .int .i64 (wearR f.sol.lo.r).d] 41)
    rw [World.size_alloc] at h4
    have hB5 := bl_alloc (bl_alloc hB2 (.cells #[.int .i64 (wearR f.sol.hi.r).n, .int .i64 (wearR f.sol.hi.r).d] 41)) (.cells #[.int .i64 (wearR f.sol.lo.r).n, .int .i64 (wearR f.sol.lo.r).d] 41)
    generalize hW5 : (w2.alloc (.cells #[.int .i64 (wearR f.sol.hi.r).n, .int .i64 (wearR f.sol.hi.r).d] 41)).alloc (.cells #[.int .i64 (wearR f.sol.lo.r).n, .int .i64 (wearR f.sol.lo.r).d] 41) = W5 at *
    clear hW5
    obtain ⟨⟨z0, z1⟩, f0, f1⟩ := blk2 h1
    obtain ⟨⟨z2, z3⟩, f2, f3⟩ := blk2 h2
    obtain ⟨⟨z4, z5⟩, f4, f5⟩ := blk2 h3
    obtain ⟨⟨z6, z7⟩, f6, f7⟩ := blk2 h4
    have K1 := Lib.hid h1
    have K2 := Lib.hid h2
    clear h1 h2 h3 h4
    go_region
    all_goals (try go_wp2)
    refine bodyPost_ret (v := .tuple #[raV (wearR f.sol.hi.r), raV (wearR f.sol.lo.r), .int .i64 0]) (res_list (vs := [_, _, _]) rfl (by simp) (.cell (w.heap.size + 1) 41 _ (0, 0) _ rfl (bk_drew (bk_far (bk_far (bk_put2 K1.out) (by simp) _) (by simp) _)) Tryz.underlying41 rfl (by kernel_rfl) (.cell (w.heap.size + 2) 41 _ (0, 0) _ rfl (bk_drew (bk_put2 (bk_far (bk_far K2.out (by simp) _) (by simp) _))) Tryz.underlying41 rfl (by kernel_rfl) (.tmp rfl .nil)))) rfl ?_
    exact ⟨by rw [HE.out.1, HE.out.2, H0.out]; rfl, by (repeat' with_reducible first|assumption|exact Below.refl _ _|apply bl_alloc|apply bl_drewN|apply bl_drew|refine bl_set ?_ (by simp<;>omega) _|refine bl_then ?_ (by assumption))⟩
set_option maxRecDepth 100000 in
set_option maxHeartbeats 1000000 in
theorem wear_any (v : Value) (f : Fl) (w : World) (hf : Fv w v f) : Calls Tryz.prog 65 #[v] w fun e w' => e = .returned (.tuple #[.agg #[.int .i64 f.wLo, .int .i64 f.wHi], .int .i64 (f.rdy true)]) ∧ Below w.heap.size w w' := by
  obtain ⟨vv, sv, rfl, hv, hs⟩ := hf
  have HV := Lib.hid hv
  have HSE := Lib.hid hs
  clear hv hs
  unfold flC
  go_enter Tryz.func65, Tryz.ntmps65
  go_wp2_with fail
  refine (bounds_any _ f _ ⟨vv, sv, rfl, HV.out.below (by (repeat' with_reducible first|assumption|exact Below.refl _ _|apply bl_alloc|apply bl_drewN|apply bl_drew|refine bl_set ?_ (by simp<;>omega) _|refine bl_then ?_ (by assumption))), HSE.out.below (by (repeat' with_reducible first|assumption|exact Below.refl _ _|apply bl_alloc|apply bl_drewN|apply bl_drew|refine bl_set ?_ (by simp<;>omega) _|refine bl_then ?_ (by assumption)))⟩).mono ?_
  rintro e1 w1 ⟨rfl, hb1⟩
  have h1 := bk_below (bk_new (w.alloc (.cells #[vv, .int .i64 f.lv, .int .i64 f.er, .int .i64 f.wl, .int .i64 f.wh, sv] 30)) (.cells #[.int .i64 0, .int .i64 0] 27)) hb1
  rw [World.size_alloc] at h1
  have hlt1 := bk_lt h1
  have H1 := Lib.hid h1
  have hB1 : Below w.heap.size w w1 := by (repeat' with_reducible first|assumption|exact Below.refl _ _|apply bl_alloc|apply bl_drewN|apply bl_drew|refine bl_set ?_ (by simp<;>omega) _|refine bl_then ?_ (by assumption))
  clear h1 hb1
  unfold raV
  by_cases h0 : f.rdy true = 0
  · have hg : f.good := by
      rcases @rdy_true f with ⟨h, _⟩ | ⟨h, _⟩ | ⟨_, h, _⟩
      · omega
      · omega
      · exact good_iff.1 h
    have ht := sol_tidy hg
    have HE : Hid (f.wLo = f.bLo.n / f.bLo.d ∧ f.wHi = (f.bHi.n + f.bHi.d - 1) / f.bHi.d) := Lib.hid ⟨if_pos h0, if_pos h0⟩
    have e1 : f.bLo = wearR f.sol.hi.r := if_pos h0
    have e2 : f.bHi = wearR f.sol.lo.r := if_pos h0
    obtain ⟨a1, a2, a3, a4⟩ := wearR_spec ht.hi.n0 ht.hi.d0
    obtain ⟨b1, b2, b3, b4⟩ := wearR_spec ht.lo.n0 ht.lo.d0
    rw [← e1] at a1 a2 a3 a4
    rw [← e2] at b1 b2 b3 b4
    have c1 := ht.hi.d1
    have c2 := ht.lo.d1
    have c3 := ht.hi.n1
    have c4 := ht.lo.n1
    have a5 : f.bLo.n ≤ 2097152000000000 := by omega
    have b5 : f.bHi.n ≤ 2097152000000000 := by omega
    have a6 : f.bLo.d ≤ 480000000000 := by omega
    have b6 : f.bHi.d ≤ 480000000000 := by omega
    clear a2 a4 b2 b4 c1 c2 c3 c4 e1 e2 ht hg
    have H0 := Lib.hid h0
    rw [h0]
    clear h0
    generalize f.bLo = lo at *
    generalize f.bHi = hi at *
    obtain ⟨ln, ld⟩ := lo
    obtain ⟨hn, hd⟩ := hi
    dsimp only at a1 a3 a5 a6 b1 b3 b5 b6 HE ⊢
    have ew1 : IntKind.i64.wrap (hn + hd) = hn + hd := wrapI (by omega) (by omega)
    have ew2 : IntKind.i64.wrap (hn + hd - 1) = hn + hd - 1 := wrapI (by omega) (by omega)
    have g1 : 0 ≤ ln := by omega
    have g2 : 0 < ld := by omega
    have g3 : 0 < hd := by omega
    have g4 : 0 ≤ hn + hd - 1 := by omega
    have g5 : ld ≠ 0 := by omega
    have g6 : hd ≠ 0 := by omega
    have g7 := Int.ediv_le_self ld g1
    have g8 := Int.ediv_nonneg g1 (by omega : 0 ≤ ld)
    have g9 := Int.ediv_le_self hd g4
    have g10 := Int.ediv_nonneg g4 (by omega : 0 ≤ hd)
    have ew3 : IntKind.i64.wrap (ln.tdiv ld) = ln / ld := by rw [Int.tdiv_eq_ediv_of_nonneg g1]; exact wrapI (by omega) (by omega)
    have ew4 : IntKind.i64.wrap ((hn + hd - 1).tdiv hd) = (hn + hd - 1) / hd := by rw [Int.tdiv_eq_ediv_of_nonneg g4]; exact wrapI (by omega) (by omega)
    clear g7 g8 g9 g10
    go_wp2
    have h1 := bk_alloc (bk_alloc H1.out (.cells #[.int .i64 ln, .int .i64 ld] 41)) (.cells #[.int .i64 hn, .int .i64 hd] 41)
    have h3 := bk_alloc (bk_new w1 (.cells #[.int .i64 ln, .int .i64 ld] 41)) (.cells #[.int .i64 hn, .int .i64 hd] 41)
    have h4 := bk_new (w1.alloc (.cells #[.int .i64 ln, .int .i64 ld] 41)) (.cells #[.int .i64 hn, .int .i64 hd] 41)
    rw [World.size_alloc] at h4
    have hB5 := bl_alloc (bl_alloc hB1 (.cells #[.int .i64 ln, .int .i64 ld] 41)) (.cells #[.int .i64 hn, .int .i64 hd] 41)
    generalize hW5 : (w1.alloc (.cells #[.int .i64 ln, .int .i64 ld] 41)).alloc (.cells #[.int .i64 hn, .int .i64 hd] 41) = W5 at *
    clear hW5
    obtain ⟨⟨x4, x5⟩, _⟩ := blk2 h3
    obtain ⟨⟨x6, x7⟩, _⟩ := blk2 h4
    have K1 := Lib.hid h1
    clear h1 h3 h4
    ((refine p_start (by kernel_rfl) ?_); (refine t_enter' 15 ?_); ((refine t_pure 0 (v := ?_) rfl (by kernel_rfl) (fun _ _ _ h => h) rfl ?_ ?_; rotate_left; (focus (intro w_ hS_; have x4 := cl_below hS_ x4; have x5 := cl_below hS_ x5; have x6 := cl_below hS_ x6; have x7 := cl_below hS_ x7; go_simp; (try (first | with_reducible rfl | (constructor <;> with_reducible rfl))); done)); (try simp only [Act.put, List.setIfInBounds_toArray, List.set_cons_zero, List.set_cons_succ]))); ((refine t_pure 1 (v := ?_) rfl (by kernel_rfl) (fun _ _ _ h => h) rfl ?_ ?_; rotate_left; (focus (intro w_ hS_; have x4 := cl_below hS_ x4; have x5 := cl_below hS_ x5; have x6 := cl_below hS_ x6; have x7 := cl_below hS_ x7; go_simp; (try (first | with_reducible rfl | (constructor <;> with_reducible rfl))); done)); (try simp only [Act.put, List.setIfInBounds_toArray, List.set_cons_zero, List.set_cons_succ]))); ((refine t_pure 2 (v := ?_) rfl (by kernel_rfl) (fun _ _ _ h => h) rfl ?_ ?_; rotate_left; (focus (intro w_ hS_; have x4 := cl_below hS_ x4; have x5 := cl_below hS_ x5; have x6 := cl_below hS_ x6; have x7 := cl_below hS_ x7; go_simp; (try (first | with_reducible rfl | (constructor <;> with_reducible rfl))); done)); (try simp only [Act.put, List.setIfInBounds_toArray, List.set_cons_zero, List.set_cons_succ]))); ((refine t_pure 3 (v := ?_) rfl (by kernel_rfl) (fun _ _ _ h => h) rfl ?_ ?_; rotate_left; (focus (intro w_ hS_; have x4 := cl_below hS_ x4; have x5 := cl_below hS_ x5; have x6 := cl_below hS_ x6; have x7 := cl_below hS_ x7; go_simp; (try (first | with_reducible rfl | (constructor <;> with_reducible rfl))); done)); (try simp only [Act.put, List.setIfInBounds_toArray, List.set_cons_zero, List.set_cons_succ]))); ((refine t_pure 4 (v := ?_) rfl (by kernel_rfl) (fun _ _ _ h => h) rfl ?_ ?_; rotate_left; (focus (intro w_ hS_; have x4 := cl_below hS_ x4; have x5 := cl_below hS_ x5; have x6 := cl_below hS_ x6; have x7 := cl_below hS_ x7; go_simp; (try (first | with_reducible rfl | (constructor <;> with_reducible rfl))); done)); (try simp only [Act.put, List.setIfInBounds_toArray, List.set_cons_zero, List.set_cons_succ]))); ((refine t_pure 5 (v := ?_) rfl (by kernel_rfl) (fun _ _ _ h => h) rfl ?_ ?_; rotate_left; (focus (intro w_ hS_; have x4 := cl_below hS_ x4; have x5 := cl_below hS_ x5; have x6 := cl_below hS_ x6; have x7 := cl_below hS_ x7; go_simp; (try (first | with_reducible rfl | (constructor <;> with_reducible rfl))); done)); (try simp only [Act.put, List.setIfInBounds_toArray, List.set_cons_zero, List.set_cons_succ]))); ((refine t_pure 6 (v := ?_) rfl (by kernel_rfl) (fun _ _ _ h => h) rfl ?_ ?_; rotate_left; (focus (intro w_ hS_; have x4 := cl_below hS_ x4; have x5 := cl_below hS_ x5; have x6 := cl_below hS_ x6; have x7 := cl_below hS_ x7; go_simp; (try (first | with_reducible rfl | (constructor <;> with_reducible rfl))); done)); (try simp only [Act.put, List.setIfInBounds_toArray, List.set_cons_zero, List.set_cons_succ]))); ((refine t_pure 7 (v := ?_) rfl (by kernel_rfl) (fun _ _ _ h => h) rfl ?_ ?_; rotate_left; (focus (intro w_ hS_; have x4 := cl_below hS_ x4; have x5 := cl_below hS_ x5; have x6 := cl_below hS_ x6; have x7 := cl_below hS_ x7; go_simp; (try (first | with_reducible rfl | (constructor <;> with_reducible rfl))); done)); (try simp only [Act.put, List.setIfInBounds_toArray, List.set_cons_zero, List.set_cons_succ]))); ((refine t_pure 8 (v := ?_) rfl (by kernel_rfl) (fun _ _ _ h => h) rfl ?_ ?_; rotate_left; (focus (intro w_ hS_; have x4 := cl_below hS_ x4; have x5 := cl_below hS_ x5; have x6 := cl_below hS_ x6; have x7 := cl_below hS_ x7; go_simp; (try (first | with_reducible rfl | (constructor <;> with_reducible rfl))); done)); (try simp only [Act.put, List.setIfInBounds_toArray, List.set_cons_zero, List.set_cons_succ]))); ((refine t_pure 9 (v := ?_) rfl (by kernel_rfl) (fun _ _ _ h => h) rfl ?_ ?_; rotate_left; (focus (intro w_ hS_; have x4 := cl_below hS_ x4; have x5 := cl_below hS_ x5; have x6 := cl_below hS_ x6; have x7 := cl_below hS_ x7; go_simp; (try (first | with_reducible rfl | (constructor <;> with_reducible rfl))); done)); (try simp only [Act.put, List.setIfInBounds_toArray, List.set_cons_zero, List.set_cons_succ]))); ((refine t_pure 10 (v := ?_) rfl (by kernel_rfl) (fun _ _ _ h => h) rfl ?_ ?_; rotate_left; (focus (intro w_ hS_; have x4 := cl_below hS_ x4; have x5 := cl_below hS_ x5; have x6 := cl_below hS_ x6; have x7 := cl_below hS_ x7; go_simp; (try (first | with_reducible rfl | (constructor <;> with_reducible rfl))); done)); (try simp only [Act.put, List.setIfInBounds_toArray, List.set_cons_zero, List.set_cons_succ]))); ((refine t_pure 11 (v := ?_) rfl (by kernel_rfl) (fun _ _ _ h => h) rfl ?_ ?_; rotate_left; (focus (intro w_ hS_; have x4 := cl_below hS_ x4; have x5 := cl_below hS_ x5; have x6 := cl_below hS_ x6; have x7 := cl_below hS_ x7; go_simp; (try (first | with_reducible rfl | (constructor <;> with_reducible rfl))); done)); (try simp only [Act.put, List.setIfInBounds_toArray, List.set_cons_zero, List.set_cons_succ]))); ((refine t_pure 12 (v := ?_) rfl (by kernel_rfl) (fun _ _ _ h => h) rfl ?_ ?_; rotate_left; (focus (intro w_ hS_; have x4 := cl_below hS_ x4; have x5 := cl_below hS_ x5; have x6 := cl_below hS_ x6; have x7 := cl_below hS_ x7; go_simp; (try (first | with_reducible rfl | (constructor <;> with_reducible rfl))); done)); (try simp only [Act.put, List.setIfInBounds_toArray, List.set_cons_zero, List.set_cons_succ]))); ((refine t_pure 13 (v := ?_) rfl (by kernel_rfl) (fun _ _ _ h => h) rfl ?_ ?_; rotate_left; (focus (intro w_ hS_; have x4 := cl_below hS_ x4; have x5 := cl_below hS_ x5; have x6 := cl_below hS_ x6; have x7 := cl_below hS_ x7; go_simp; (try (first | with_reducible rfl | (constructor <;> with_reducible rfl))); done)); (try simp only [Act.put, List.setIfInBounds_toArray, List.set_cons_zero, List.set_cons_succ]))); ((refine t_pure 14 (v := ?_) rfl (by kernel_rfl) (fun _ _ _ h => h) rfl ?_ ?_; rotate_left; (focus (intro w_ hS_; have x4 := cl_below hS_ x4; have x5 := cl_below hS_ x5; have x6 := cl_below hS_ x6; have x7 := cl_below hS_ x7; go_simp; (try (first | with_reducible rfl | (constructor <;> with_reducible rfl))); done)); (try simp only [Act.put, List.setIfInBounds_toArray, List.set_cons_zero, List.set_cons_succ]))); (refine t_exit (by kernel_rfl) (fun W_ hS_ => ?_)))
    have h5 := bk_below K1.out hS_
    obtain ⟨⟨z0, z1⟩, f0, f1⟩ := blk2 h5
    have hB6 : Below w.heap.size w W_ := by (repeat' with_reducible first|assumption|exact Below.refl _ _|apply bl_alloc|apply bl_drewN|apply bl_drew|refine bl_set ?_ (by simp<;>omega) _|refine bl_then ?_ (by assumption))
    have K5 := Lib.hid h5
    clear h5
    (refine p_only 15 rfl (by kernel_rfl) (fun K hK => ?_); go_simp; refine hK.out _ _ ?_; clear hK K; (try simp only [Act.put, List.setIfInBounds_toArray, List.set_cons_zero, List.set_cons_succ]))
    (refine p_only 16 rfl (by kernel_rfl) (fun K hK => ?_); go_simp; refine hK.out _ _ ?_; clear hK K; (try simp only [Act.put, List.setIfInBounds_toArray, List.set_cons_zero, List.set_cons_succ]))
    refine wpAny_done (by kernel_rfl) ?_ _
    go_wp2
    refine bodyPost_ret (v := .tuple #[.agg #[.int .i64 (ln / ld), .int .i64 ((hn + hd - 1) / hd)], .int .i64 0]) (res_list (vs := [_, _]) rfl (by simp) (.cell (w.heap.size + 1) 27 _ (0, 0) _ rfl (bk_put2 K5.out) Tryz.underlying27 rfl (by kernel_rfl) (.tmp rfl .nil))) rfl ?_
    exact ⟨by rw [HE.out.1, HE.out.2, H0.out], by (repeat' with_reducible first|assumption|exact Below.refl _ _|apply bl_alloc|apply bl_drewN|apply bl_drew|refine bl_set ?_ (by simp<;>omega) _|refine bl_then ?_ (by assumption))⟩
  · have HE : Hid (f.wLo = 0 ∧ f.wHi = 0) := Lib.hid ⟨if_neg h0, if_neg h0⟩
    have hne : (f.rdy true == 0) = false := by simpa using h0
    have hne2 : (f.rdy true != 0) = true := by simpa using h0
    obtain ⟨⟨z0, z1⟩, f0, f1⟩ := blk2 (bk_alloc (bk_alloc H1.out (.cells #[.int .i64 f.bLo.n, .int .i64 f.bLo.d] 41)) (.cells #[.int .i64 f.bHi.n, .int .i64 f.bHi.d] 41))
    clear h0
    generalize hn : f.rdy true = n at *
    have HN := Lib.hid hn
    clear hn
    go_wp2
    refine bodyPost_ret (v := .tuple #[.agg #[.int .i64 0, .int .i64 0], .int .i64 n]) (res_list (vs := [_, _]) rfl (by simp) (.cell (w.heap.size + 1) 27 _ (0, 0) _ rfl (bk_put2 (bk_alloc (bk_alloc H1.out _) _)) Tryz.underlying27 rfl (by kernel_rfl) (.tmp rfl .nil))) rfl ?_
    exact ⟨by rw [HE.out.1, HE.out.2, HN.out], by (repeat' with_reducible first|assumption|exact Below.refl _ _|apply bl_alloc|apply bl_drewN|apply bl_drew|refine bl_set ?_ (by simp<;>omega) _|refine bl_then ?_ (by assumption))⟩
end Go.Proofs.YtjpagpplkldbkaaGreat
set_option linter.unusedVariables false
set_option linter.unusedSimpArgs false
namespace Go.Proofs.YtjpagpplkldbkaaGreat
open Go.RowKit Go.Shelf WH
theorem bsLo_lt {p : Int → Bool} {k : Nat} {lo hi : Int} (h : lo < hi) : bsLo p (k + 1) lo hi = if p (lo + (hi - lo + 1) / 2) then bsLo p k lo (lo + (hi - lo + 1) / 2 - 1) else bsLo p k (lo + (hi - lo + 1) / 2) hi := by
  rw [bsLo, if_pos h]
theorem bsHi_lt {p : Int → Bool} {k : Nat} {lo hi : Int} (h : lo < hi) : bsHi p (k + 1) lo hi = if p (lo + (hi - lo) / 2) then bsHi p k (lo + (hi - lo) / 2 + 1) hi else bsHi p k lo (lo + (hi - lo) / 2) := by
  rw [bsHi, if_pos h]
theorem bsLo_ge {p : Int → Bool} {k : Nat} {lo hi : Int} (h : ¬ lo < hi) : bsLo p k lo hi = lo := by
  cases k with
  | zero => rfl
  | succ k => rw [bsLo, if_neg h]
theorem bsHi_ge {p : Int → Bool} {k : Nat} {lo hi : Int} (h : ¬ lo < hi) : bsHi p k lo hi = lo := by
  cases k with
  | zero => rfl
  | succ k => rw [bsHi, if_neg h]
def Asks (fb : Nat) (p q : Value) (pb : Int → Bool) (most : Int) (w : World) : Prop := ∀ n W, 0 ≤ n → n ≤ most → Below w.heap.size w W → Calls Tryz.prog fb #[.int .i64 n, p, q] W fun e w' => e = .returned (.bool (pb n)) ∧ Below W.heap.size W w'
set_option maxRecDepth 100000 in
set_option maxHeartbeats 1000000 in
theorem outward_any (most : Int) (fb fa : Nat) (p q p' q' : Value) (pb pa : Int → Bool) (w : World) (h0 : 0 ≤ most) (h1 : most ≤ 2097152) (eb : Enters Tryz.prog fb) (ea : Enters Tryz.prog fa)
    (hpb : Asks fb p q pb most w) (hpa : Asks fa p' q' pa most w) :
    Calls Tryz.prog 174 #[.int .i64 most, .func (.func fb) #[] #[p, q], .func (.func fa) #[] #[p', q']] w fun e w' => e = .returned (.agg #[.int .i64 (outLo most pb), .int .i64 (outHi most pa)]) ∧ Below w.heap.size w w' := by
  have HPB := Lib.hid hpb
  have HPA := Lib.hid hpa
  clear hpb hpa
  unfold Enters at eb ea
  go_enter Tryz.func174, Tryz.ntmps174
  go_wp2
  go_loopw [7, 8] (fun lo hi W => ∃ (x y : Int) (k : Nat), lo = .int .i64 x ∧ hi = .int .i64 y ∧ 0 ≤ x ∧ x ≤ y ∧ y ≤ most ∧ y - x ≤ k ∧ bsLo pb k x y = outLo most pb ∧ Below w.heap.size w W ∧ W.heap[w.heap.size]? = some (.cells #[.int .i64 0, .int .i64 0] 27 (0, 0))) (fun lo hi _ => (intOf hi - intOf lo).toNat)
  case atStart => exact ⟨0, most, most.toNat + 1, rfl, rfl, by omega, h0, by omega, by omega, rfl, by (repeat' with_reducible first|assumption|exact Below.refl _ _|apply bl_alloc|apply bl_drewN|apply bl_drew|refine bl_set ?_ (by simp<;>omega) _|refine bl_then ?_ (by assumption)), bk_new _ _⟩
  case round =>
    obtain ⟨x, y, k, rfl, rfl, hx, hxy, hy, hk, hbs, hB, hR⟩ := hrel
    have HBS := Lib.hid hbs
    have HR := Lib.hid hR
    clear hbs hR
    by_cases hlt : x < y
    · obtain ⟨k, rfl⟩ : ∃ j, k = j + 1 := ⟨k - 1, by omega⟩
      have hst := bsLo_lt (p := pb) (k := k) hlt
      have b1 : 0 ≤ y - x + 1 := by omega
      have ew1 : IntKind.i64.wrap (y - x) = y - x := wrapI (by omega) (by omega)
      have ew2 : IntKind.i64.wrap (y - x + 1) = y - x + 1 := wrapI (by omega) (by omega)
      have ew3 : IntKind.i64.wrap ((y - x + 1).tdiv 2) = (y - x + 1) / 2 := by rw [Int.tdiv_eq_ediv_of_nonneg b1]; exact wrapI (by omega) (by omega)
      have ew4 : IntKind.i64.wrap (x + (y - x + 1) / 2) = x + (y - x + 1) / 2 := wrapI (by omega) (by omega)
      have hm : Hid (x < x + (y - x + 1) / 2 ∧ x + (y - x + 1) / 2 ≤ y) := Lib.hid (by omega)
      have HST := Lib.hid hst
      clear hst
      go_wp2_with fail
      obtain ⟨m1, m2⟩ := hm.out
      generalize hmm : x + (y - x + 1) / 2 = m at *
      have HMM := Lib.hid hmm
      clear hmm ew1 ew2 ew3 ew4 b1
      have ew5 : IntKind.i64.wrap (m - 1) = m - 1 := wrapI (by omega) (by omega)
      refine (HPB.out m _ (by omega) (by omega) hB).mono ?_
      rintro e1 w1 ⟨rfl, hb1⟩
      have hst := HST.out
      have hbs := HBS.out
      cases hp : pb m with
      | true =>
        rw [hp, if_pos rfl] at hst
        have HN : Hid (bsLo pb k x (m - 1) = outLo most pb) := Lib.hid (hst.symm.trans hbs)
        clear hst hbs hp
        go_wp2
        go_roundw
        case rel => exact ⟨x, m - 1, k, rfl, rfl, hx, by omega, by omega, by omega, HN.out, by (repeat' with_reducible first|assumption|exact Below.refl _ _|apply bl_alloc|apply bl_drewN|apply bl_drew|refine bl_set ?_ (by simp<;>omega) _|refine bl_then ?_ (by assumption)), bk_below HR.out hb1⟩
        case measure => simp [intOf]; omega
      | false =>
        rw [hp, if_neg (by simp)] at hst
        have HN : Hid (bsLo pb k m y = outLo most pb) := Lib.hid (hst.symm.trans hbs)
        clear hst hbs hp
        go_wp2
        go_roundw
        case rel => exact ⟨m, y, k, rfl, rfl, by omega, by omega, by omega, by omega, HN.out, by (repeat' with_reducible first|assumption|exact Below.refl _ _|apply bl_alloc|apply bl_drewN|apply bl_drew|refine bl_set ?_ (by simp<;>omega) _|refine bl_then ?_ (by assumption)), bk_below HR.out hb1⟩
        case measure => simp [intOf]; omega
    · obtain rfl : x = y := by omega
      have hfin := HBS.out
      rw [bsLo_ge hlt] at hfin
      have HFIN := Lib.hid hfin
      have hge : decide (x < x) = false := by simp
      clear hfin HBS hlt
      go_wp2
      go_loopw [7, 8] (fun lo hi W => ∃ (x y : Int) (k : Nat), lo = .int .i64 x ∧ hi = .int .i64 y ∧ 0 ≤ x ∧ x ≤ y ∧ y ≤ most ∧ y - x ≤ k ∧ bsHi pa k x y = outHi most pa ∧ Below w.heap.size w W ∧ W.heap[w.heap.size]? = some (.cells #[.int .i64 0, .int .i64 0] 27 (0, 0))) (fun lo hi _ => (intOf hi - intOf lo).toNat)
      case atStart => exact ⟨0, most, most.toNat + 1, rfl, rfl, by omega, h0, by omega, by omega, rfl, hB, HR.out⟩
      case round =>
        clear hB HR hxy hy hk k hge
        obtain ⟨x2, y, k, rfl, rfl, hx2, hxy, hy, hk, hbs, hB, hR⟩ := hrel
        have HBS := Lib.hid hbs
        have HR := Lib.hid hR
        clear hbs hR
        by_cases hlt : x2 < y
        · obtain ⟨k, rfl⟩ : ∃ j, k = j + 1 := ⟨k - 1, by omega⟩
          have hst := bsHi_lt (p := pa) (k := k) hlt
          have b1 : 0 ≤ y - x2 := by omega
          have ew1 : IntKind.i64.wrap (y - x2) = y - x2 := wrapI (by omega) (by omega)
          have ew3 : IntKind.i64.wrap ((y - x2).tdiv 2) = (y - x2) / 2 := by rw [Int.tdiv_eq_ediv_of_nonneg b1]; exact wrapI (by omega) (by omega)
          have ew4 : IntKind.i64.wrap (x2 + (y - x2) / 2) = x2 + (y - x2) / 2 := wrapI (by omega) (by omega)
          have hm : Hid (x2 ≤ x2 + (y - x2) / 2 ∧ x2 + (y - x2) / 2 < y) := Lib.hid (by omega)
          have HST := Lib.hid hst
          clear hst
          go_wp2_with fail
          obtain ⟨m1, m2⟩ := hm.out
          generalize hmm : x2 + (y - x2) / 2 = m at *
          have HMM := Lib.hid hmm
          clear hmm ew1 ew3 ew4 b1
          have ew5 : IntKind.i64.wrap (m + 1) = m + 1 := wrapI (by omega) (by omega)
          refine (HPA.out m _ (by omega) (by omega) hB).mono ?_
          rintro e1 w1 ⟨rfl, hb1⟩
          have hst := HST.out
          have hbs := HBS.out
          cases hp : pa m with
          | true =>
            rw [hp, if_pos rfl] at hst
            have HN : Hid (bsHi pa k (m + 1) y = outHi most pa) := Lib.hid (hst.symm.trans hbs)
            clear hst hbs hp
            go_wp2
            go_roundw
            case rel => exact ⟨m + 1, y, k, rfl, rfl, by omega, by omega, by omega, by omega, HN.out, by (repeat' with_reducible first|assumption|exact Below.refl _ _|apply bl_alloc|apply bl_drewN|apply bl_drew|refine bl_set ?_ (by simp<;>omega) _|refine bl_then ?_ (by assumption)), bk_below HR.out hb1⟩
            case measure => simp [intOf]; omega
          | false =>
            rw [hp, if_neg (by simp)] at hst
            have HN : Hid (bsHi pa k x2 m = outHi most pa) := Lib.hid (hst.symm.trans hbs)
            clear hst hbs hp
            go_wp2
            go_roundw
            case rel => exact ⟨x2, m, k, rfl, rfl, hx2, by omega, by omega, by omega, HN.out, by (repeat' with_reducible first|assumption|exact Below.refl _ _|apply bl_alloc|apply bl_drewN|apply bl_drew|refine bl_set ?_ (by simp<;>omega) _|refine bl_then ?_ (by assumption)), bk_below HR.out hb1⟩
            case measure => simp [intOf]; omega
        · obtain rfl : x2 = y := by omega
          have hfin := HBS.out
          rw [bsHi_ge hlt] at hfin
          have HFIN2 := Lib.hid hfin
          have hge : decide (x2 < x2) = false := by simp
          obtain ⟨⟨z0, z1⟩, f0, f1⟩ := blk2 HR.out
          have hlt1 := bk_lt HR.out
          clear hfin HBS hlt
          go_wp2
          refine bodyPost_ret (v := .agg #[.int .i64 x, .int .i64 x2]) (res_one rfl (.cell w.heap.size 27 _ (0, 0) _ rfl (bk_put2 HR.out) Tryz.underlying27 rfl (by kernel_rfl) .nil)) rfl ?_
          exact ⟨by rw [HFIN.out, HFIN2.out], by (repeat' with_reducible first|assumption|exact Below.refl _ _|apply bl_alloc|apply bl_drewN|apply bl_drew|refine bl_set ?_ (by simp<;>omega) _|refine bl_then ?_ (by assumption))⟩
end Go.Proofs.YtjpagpplkldbkaaGreat
