/- What is known where a level and minutes are asked about; Surely, Ever. -/
import Derived.Test.YtjpagpplkldbkaaGreatLib17
set_option linter.unusedVariables false
set_option linter.unusedSimpArgs false
namespace Go.Proofs.YtjpagpplkldbkaaGreat
open Go.RowKit Go.Shelf WH
theorem Kn.kept {w w1 : World} {v : Value} {f : Fl} {k : Nat} {t : TypeId} (h : Kn w v f) (hv : vErr f.v = 0) (hk : w.heap[k]? = some (.cells knZ t (0, 0))) (he : ∀ b, b ≠ k → b < w.heap.size → w1.heap[b]? = w.heap[b]?) : Kn w1 v f := by
  obtain ⟨g, va, vb, h1, h2, h3, h4⟩ := h
  exact ⟨g, va, vb, h1, h2.kept hv hk he, h3.keep (fun hne b hb => he b (Sl.far3 lnC_len (by decide) h3 hk (ln3 _) hne b hb) (Sl.lt lnC_len (by decide) h3 hne b hb)),
    h4.keep (fun hne b hb => he b (Sl.far3 lnC_len (by decide) h4 hk (ln3 _) hne b hb) (Sl.lt lnC_len (by decide) h4 hne b hb))⟩
def askB (f : Fl) (x m : Int) : Bool := fromB x 0 f.H && fromB m 0 2097152
set_option maxRecDepth 100000 in
set_option maxHeartbeats 1000000 in
theorem asked_any (v : Value) (f : Fl) (x m : Int) (w : World) (hf : Fv w v f) : Calls Tryz.prog 112 #[v, .int .i64 x, .int .i64 m] w (RdP f (askB f x m) w) := by
  obtain ⟨vv, sv, rfl, hv, hs⟩ := hf
  have HV := Lib.hid hv
  have HSE := Lib.hid hs
  clear hv hs
  unfold flC
  have hq : AskS 188 #[.pointer (some ⟨w.heap.size + 1, 0, none⟩), .pointer (some ⟨w.heap.size + 2, 0, none⟩)] f (askB f x m) ((((w.alloc (.cells #[vv, .int .i64 f.lv, .int .i64 f.er, .int .i64 f.wl, .int .i64 f.wh, sv] 30)).alloc (.cells #[.int .i64 x] 3)).alloc (.cells #[.int .i64 m] 3)).alloc (.cells knZ 125)) := by
    intro _ g W hb hst
    have h1 := bk_alloc (bk_alloc (bk_new (w.alloc (.cells #[vv, .int .i64 f.lv, .int .i64 f.er, .int .i64 f.wl, .int .i64 f.wh, sv] 30)) (.cells #[.int .i64 x] 3)) (.cells #[.int .i64 m] 3)) (.cells knZ 125)
    have h2 := bk_alloc (bk_new ((w.alloc (.cells #[vv, .int .i64 f.lv, .int .i64 f.er, .int .i64 f.wl, .int .i64 f.wh, sv] 30)).alloc (.cells #[.int .i64 x] 3)) (.cells #[.int .i64 m] 3)) (.cells knZ 125)
    rw [World.size_alloc] at h1
    rw [World.size_alloc, World.size_alloc] at h2
    have h0 : W.cell? ⟨w.heap.size + 1, 0, none⟩ = some (.int .i64 x) := cl_below hb (bk_cell h1 0)
    have h3 : W.cell? ⟨w.heap.size + 2, 0, none⟩ = some (.int .i64 m) := cl_below hb (bk_cell h2 0)
    exact qAsked_any g (w.heap.size + 1) (w.heap.size + 2) f x m W hst h0 h3
  have HQ := Lib.hid hq
  clear hq
  go_enter Tryz.func112, Tryz.ntmps112
  go_wp2_with fail
  refine (ready_any _ f 188 _ (askB f x m) _ ⟨vv, sv, rfl, HV.out.below (by (repeat' with_reducible first|assumption|exact Below.refl _ _|apply bl_alloc|apply bl_drewN|apply bl_drew|refine bl_set ?_ (by simp<;>omega) _|refine bl_then ?_ (by assumption))), HSE.out.below (by (repeat' with_reducible first|assumption|exact Below.refl _ _|apply bl_alloc|apply bl_drewN|apply bl_drew|refine bl_set ?_ (by simp<;>omega) _|refine bl_then ?_ (by assumption)))⟩ (enters_of Tryz.func188 (by kernel_rfl) rfl) HQ.out).mono ?_
  intro e1 w1 hrd
  have hA : ∀ {W : World}, Below ((((w.alloc (.cells #[vv, .int .i64 f.lv, .int .i64 f.er, .int .i64 f.wl, .int .i64 f.wh, sv] 30)).alloc (.cells #[.int .i64 x] 3)).alloc (.cells #[.int .i64 m] 3)).alloc (.cells knZ 125)).heap.size ((((w.alloc (.cells #[vv, .int .i64 f.lv, .int .i64 f.er, .int .i64 f.wl, .int .i64 f.wh, sv] 30)).alloc (.cells #[.int .i64 x] 3)).alloc (.cells #[.int .i64 m] 3)).alloc (.cells knZ 125)) W →
      W.heap[w.heap.size + 3]? = some (.cells knZ 125 (0, 0)) := fun hb => by
    have h2 := bk_below (bk_new (((w.alloc (.cells #[vv, .int .i64 f.lv, .int .i64 f.er, .int .i64 f.wl, .int .i64 f.wh, sv] 30)).alloc (.cells #[.int .i64 x] 3)).alloc (.cells #[.int .i64 m] 3)) (.cells knZ 125)) hb
    rw [World.size_alloc, World.size_alloc, World.size_alloc] at h2
    exact h2
  rcases hrd with ⟨hno, rfl, hb1⟩ | ⟨h0, hg, hrb, hem, kv, rfl, hkn, hb1⟩
  · have hkz := hA hb1
    obtain ⟨⟨z0, z1, z2, z3, z4, z5, z6, z7, z8, z9⟩, y0, y1, y2, y3, y4, y5, y6, y7, y8, y9⟩ := agg10 hkz
    have hltz := bk_lt hkz
    have HKZ := Lib.hid hkz
    have HNO := Lib.hid hno
    have hB1 : Below w.heap.size w w1 := by (repeat' with_reducible first|assumption|exact Below.refl _ _|apply bl_alloc|apply bl_drewN|apply bl_drew|refine bl_set ?_ (by simp<;>omega) _|refine bl_then ?_ (by assumption))
    clear hkz hno hA hb1
    generalize hn : f.rdy (askB f x m) = n at *
    have HN := Lib.hid hn
    clear hn
    unfold knZ
    go_wp2
    refine bodyPost_ret (v := .tuple #[.agg knZ, .int .i64 n]) (res_list (vs := [_, _]) rfl (by simp) (.cell (w.heap.size + 3) 125 _ (0, 0) _ rfl (bk_put10 HKZ.out) Tryz.underlying125 rfl (by kernel_rfl) (.tmp rfl .nil))) rfl ?_
    exact RdP.no HN.out HNO.out rfl (by (repeat' with_reducible first|assumption|exact Below.refl _ _|apply bl_alloc|apply bl_drewN|apply bl_drew|refine bl_set ?_ (by simp<;>omega) _|refine bl_then ?_ (by assumption)))
  · have hkz := hA hb1
    obtain ⟨⟨z0, z1, z2, z3, z4, z5, z6, z7, z8, z9⟩, y0, y1, y2, y3, y4, y5, y6, y7, y8, y9⟩ := agg10 hkz
    have hltz := bk_lt hkz
    have HKZ := Lib.hid hkz
    have HK := Lib.hid hkn
    have HG := Lib.hid hg
    have HRB := Lib.hid hrb
    have H0 := Lib.hid h0
    have HEM := Lib.hid hem
    have hB1 : Below w.heap.size w w1 := by (repeat' with_reducible first|assumption|exact Below.refl _ _|apply bl_alloc|apply bl_drewN|apply bl_drew|refine bl_set ?_ (by simp<;>omega) _|refine bl_then ?_ (by assumption))
    obtain ⟨g, va, vb, rfl, _, hka, hkb⟩ := hkn
    obtain ⟨Aa, ka, rfl, _⟩ := hka
    obtain ⟨Ab, kb, rfl, _⟩ := hkb
    clear hkz hA hb1 hg hrb h0 hem
    unfold knC
    unfold knC at HK
    go_wp2
    refine bodyPost_ret (v := .tuple #[.agg (knC g f.sol (.slice Aa f.sol.above.length ka) (.slice Ab f.sol.below.length kb)), .int .i64 0]) (res_list (vs := [_, _]) rfl (by simp) (.cell (w.heap.size + 3) 125 _ (0, 0) _ rfl (bk_put10 HKZ.out) Tryz.underlying125 rfl (by kernel_rfl) (.tmp rfl .nil))) rfl ?_
    have hk2 := Kn.kept HK.out HG.out.v HKZ.out (fun b hb _ => heap_put10 w1 (w.heap.size + 3) (.pointer (some ⟨g, 0, none⟩)) (.int .i64 f.sol.lo.r.n) (.int .i64 f.sol.lo.r.d) (.bool f.sol.lo.strict) (.int .i64 f.sol.hi.r.n) (.int .i64 f.sol.hi.r.d) (.bool f.sol.hi.strict) (.slice Aa f.sol.above.length ka) (.slice Ab f.sol.below.length kb) (.bool f.sol.empty) b hb)
    exact .inr ⟨H0.out, HG.out, HRB.out, HEM.out, _, rfl, hk2, by (repeat' with_reducible first|assumption|exact Below.refl _ _|apply bl_alloc|apply bl_drewN|apply bl_drew|refine bl_set ?_ (by simp<;>omega) _|refine bl_then ?_ (by assumption))⟩
def Fl.asE (f : Fl) (x m : Int) : Int := f.rdy (askB f x m)
def Fl.suB (f : Fl) (x m : Int) : Bool := decide (f.asE x m = 0) && !f.over x m
def Fl.evB (f : Fl) (x m : Int) : Bool := decide (f.asE x m = 0) && f.ever x m
theorem askB_iff {f : Fl} {x m : Int} (h : askB f x m = true) : (0 ≤ x ∧ x ≤ f.H) ∧ 0 ≤ m ∧ m ≤ 2097152 := by
  simpa [askB, fromB, and_assoc] using h
set_option maxRecDepth 100000 in
set_option maxHeartbeats 1000000 in
theorem surely_api (v : Value) (f : Fl) (x m : Int) (w : World) (hf : Fv w v f) : Calls Tryz.prog 29 #[v, .int .i64 x, .int .i64 m] w fun e w' => e = .returned (.tuple #[.bool (f.suB x m), .int .i64 (f.asE x m)]) ∧ Below w.heap.size w w' := by
  obtain ⟨vv, sv, rfl, hv, hs⟩ := hf
  have HV := Lib.hid hv
  have HSE := Lib.hid hs
  clear hv hs
  unfold flC
  go_enter Tryz.func29, Tryz.ntmps29
  go_wp2_with fail
  refine (asked_any _ f x m _ ⟨vv, sv, rfl, HV.out.below (by (repeat' with_reducible first|assumption|exact Below.refl _ _|apply bl_alloc|apply bl_drewN|apply bl_drew|refine bl_set ?_ (by simp<;>omega) _|refine bl_then ?_ (by assumption))), HSE.out.below (by (repeat' with_reducible first|assumption|exact Below.refl _ _|apply bl_alloc|apply bl_drewN|apply bl_drew|refine bl_set ?_ (by simp<;>omega) _|refine bl_then ?_ (by assumption)))⟩).mono ?_
  intro e1 w1 hrd
  rcases hrd with ⟨hno, rfl, hb1⟩ | ⟨h0, hg, hrb, hem, kv, rfl, hkn, hb1⟩
  · have HE : Hid (f.suB x m = false ∧ f.asE x m = f.rdy (askB f x m)) := Lib.hid ⟨by unfold Fl.suB Fl.asE; rw [decide_eq_false hno]; rfl, rfl⟩
    have hne : (f.rdy (askB f x m) == 0) = false := by simpa using hno
    have hne2 : (f.rdy (askB f x m) != 0) = true := by simpa using hno
    clear hno
    generalize hn : f.rdy (askB f x m) = n at *
    have HN := Lib.hid hn
    clear hn
    unfold knZ
    go_wp2
    go_ret2
    exact ⟨by rw [HE.out.1, HE.out.2]; rfl, by (repeat' with_reducible first|assumption|exact Below.refl _ _|apply bl_alloc|apply bl_drewN|apply bl_drew|refine bl_set ?_ (by simp<;>omega) _|refine bl_then ?_ (by assumption))⟩
  · have HE : Hid (f.suB x m = !f.over x m ∧ f.asE x m = 0) := Lib.hid ⟨by unfold Fl.suB Fl.asE; rw [decide_eq_true h0]; rfl, h0⟩
    obtain ⟨⟨b1, b2⟩, b3, b4⟩ := askB_iff hrb
    have HK := Lib.hid hkn
    have HG := Lib.hid hg
    obtain ⟨g, va, vb, rfl, _, hka, hkb⟩ := hkn
    obtain ⟨Aa, ka, rfl, _⟩ := hka
    obtain ⟨Ab, kb, rfl, _⟩ := hkb
    clear h0 hem hg hrb
    unfold knC
    unfold knC at HK
    go_wp2_with fail
    refine (over_any _ f x m _ (HK.out.below (by (repeat' with_reducible first|assumption|exact Below.refl _ _|apply bl_alloc|apply bl_drewN|apply bl_drew|refine bl_set ?_ (by simp<;>omega) _|refine bl_then ?_ (by assumption)))) HG.out b1 b2 b3 b4).mono ?_
    rintro e2 w2 ⟨rfl, hb2⟩
    go_wp2
    go_ret2
    exact ⟨by rw [HE.out.1, HE.out.2]; rfl, by (repeat' with_reducible first|assumption|exact Below.refl _ _|apply bl_alloc|apply bl_drewN|apply bl_drew|refine bl_set ?_ (by simp<;>omega) _|refine bl_then ?_ (by assumption))⟩
set_option maxRecDepth 100000 in
set_option maxHeartbeats 1000000 in
theorem ever_api (v : Value) (f : Fl) (x m : Int) (w : World) (hf : Fv w v f) : Calls Tryz.prog 31 #[v, .int .i64 x, .int .i64 m] w fun e w' => e = .returned (.tuple #[.bool (f.evB x m), .int .i64 (f.asE x m)]) ∧ Below w.heap.size w w' := by
  obtain ⟨vv, sv, rfl, hv, hs⟩ := hf
  have HV := Lib.hid hv
  have HSE := Lib.hid hs
  clear hv hs
  unfold flC
  go_enter Tryz.func31, Tryz.ntmps31
  go_wp2_with fail
  refine (asked_any _ f x m _ ⟨vv, sv, rfl, HV.out.below (by (repeat' with_reducible first|assumption|exact Below.refl _ _|apply bl_alloc|apply bl_drewN|apply bl_drew|refine bl_set ?_ (by simp<;>omega) _|refine bl_then ?_ (by assumption))), HSE.out.below (by (repeat' with_reducible first|assumption|exact Below.refl _ _|apply bl_alloc|apply bl_drewN|apply bl_drew|refine bl_set ?_ (by simp<;>omega) _|refine bl_then ?_ (by assumption)))⟩).mono ?_
  intro e1 w1 hrd
  rcases hrd with ⟨hno, rfl, hb1⟩ | ⟨h0, hg, hrb, hem, kv, rfl, hkn, hb1⟩
  · have HE : Hid (f.evB x m = false ∧ f.asE x m = f.rdy (askB f x m)) := Lib.hid ⟨by unfold Fl.evB Fl.asE; rw [decide_eq_false hno]; rfl, rfl⟩
    have hne : (f.rdy (askB f x m) == 0) = false := by simpa using hno
    have hne2 : (f.rdy (askB f x m) != 0) = true := by simpa using hno
    clear hno
    generalize hn : f.rdy (askB f x m) = n at *
    have HN := Lib.hid hn
    clear hn
    unfold knZ
    go_wp2
    ((refine p_start (by kernel_rfl) ?_); (refine t_enter' 17 ?_); ((refine t_pure 0 (v := ?_) rfl (by kernel_rfl) (fun _ _ _ h => h) rfl ?_ ?_; rotate_left; (focus (intro w_ hS_; go_simp; (try (first | with_reducible rfl | (constructor <;> with_reducible rfl))); done)); (try simp only [Act.put, List.setIfInBounds_toArray, List.set_cons_zero, List.set_cons_succ]))); ((refine t_pure 1 (v := ?_) rfl (by kernel_rfl) (fun _ _ _ h => h) rfl ?_ ?_; rotate_left; (focus (intro w_ hS_; go_simp; (try (first | with_reducible rfl | (constructor <;> with_reducible rfl))); done)); (try simp only [Act.put, List.setIfInBounds_toArray, List.set_cons_zero, List.set_cons_succ]))); ((refine t_pure 2 (v := ?_) rfl (by kernel_rfl) (fun _ _ _ h => h) rfl ?_ ?_; rotate_left; (focus (intro w_ hS_; go_simp; (try (first | with_reducible rfl | (constructor <;> with_reducible rfl))); done)); (try simp only [Act.put, List.setIfInBounds_toArray, List.set_cons_zero, List.set_cons_succ]))); ((refine t_skip 3 rfl (by kernel_rfl) (fun _ _ _ h => h) rfl ?_; (try simp only [Act.put, List.setIfInBounds_toArray, List.set_cons_zero, List.set_cons_succ]))); ((refine t_skip 4 rfl (by kernel_rfl) (fun _ _ _ h => h) rfl ?_; (try simp only [Act.put, List.setIfInBounds_toArray, List.set_cons_zero, List.set_cons_succ]))); ((refine t_skip 5 rfl (by kernel_rfl) (fun _ _ _ h => h) rfl ?_; (try simp only [Act.put, List.setIfInBounds_toArray, List.set_cons_zero, List.set_cons_succ]))); ((refine t_skip 6 rfl (by kernel_rfl) (fun _ _ _ h => h) rfl ?_; (try simp only [Act.put, List.setIfInBounds_toArray, List.set_cons_zero, List.set_cons_succ]))); ((refine t_skip 7 rfl (by kernel_rfl) (fun _ _ _ h => h) rfl ?_; (try simp only [Act.put, List.setIfInBounds_toArray, List.set_cons_zero, List.set_cons_succ]))); ((refine t_skip 8 rfl (by kernel_rfl) (fun _ _ _ h => h) rfl ?_; (try simp only [Act.put, List.setIfInBounds_toArray, List.set_cons_zero, List.set_cons_succ]))); ((refine t_skip 9 rfl (by kernel_rfl) (fun _ _ _ h => h) rfl ?_; (try simp only [Act.put, List.setIfInBounds_toArray, List.set_cons_zero, List.set_cons_succ]))); ((refine t_skip 10 rfl (by kernel_rfl) (fun _ _ _ h => h) rfl ?_; (try simp only [Act.put, List.setIfInBounds_toArray, List.set_cons_zero, List.set_cons_succ]))); ((refine t_skip 11 rfl (by kernel_rfl) (fun _ _ _ h => h) rfl ?_; (try simp only [Act.put, List.setIfInBounds_toArray, List.set_cons_zero, List.set_cons_succ]))); ((refine t_skip 12 rfl (by kernel_rfl) (fun _ _ _ h => h) rfl ?_; (try simp only [Act.put, List.setIfInBounds_toArray, List.set_cons_zero, List.set_cons_succ]))); ((refine t_pure 13 (v := ?_) rfl (by kernel_rfl) (fun _ _ _ h => h) rfl ?_ ?_; rotate_left; (focus (intro w_ hS_; go_simp; (try (first | with_reducible rfl | (constructor <;> with_reducible rfl))); done)); (try simp only [Act.put, List.setIfInBounds_toArray, List.set_cons_zero, List.set_cons_succ]))); ((refine t_pure 14 (v := ?_) rfl (by kernel_rfl) (fun _ _ _ h => h) rfl ?_ ?_; rotate_left; (focus (intro w_ hS_; go_simp; (try (first | with_reducible rfl | (constructor <;> with_reducible rfl))); done)); (try simp only [Act.put, List.setIfInBounds_toArray, List.set_cons_zero, List.set_cons_succ]))); ((refine t_pure 15 (v := ?_) rfl (by kernel_rfl) (fun _ _ _ h => h) rfl ?_ ?_; rotate_left; (focus (intro w_ hS_; go_simp; (try (first | with_reducible rfl | (constructor <;> with_reducible rfl))); done)); (try simp only [Act.put, List.setIfInBounds_toArray, List.set_cons_zero, List.set_cons_succ]))); ((refine t_pure 16 (v := ?_) rfl (by kernel_rfl) (fun _ _ _ h => h) rfl ?_ ?_; rotate_left; (focus (intro w_ hS_; go_simp; (try (first | with_reducible rfl | (constructor <;> with_reducible rfl))); done)); (try simp only [Act.put, List.setIfInBounds_toArray, List.set_cons_zero, List.set_cons_succ]))); (refine t_done (by kernel_rfl) (fun W_ hS_ => ?_)))
    go_wp2
    go_ret2
    exact ⟨by rw [HE.out.1, HE.out.2]; rfl, by (repeat' with_reducible first|assumption|exact Below.refl _ _|apply bl_alloc|apply bl_drewN|apply bl_drew|refine bl_set ?_ (by simp<;>omega) _|refine bl_then ?_ (by assumption))⟩
  · have HE : Hid (f.evB x m = f.ever x m ∧ f.asE x m = 0) := Lib.hid ⟨by unfold Fl.evB Fl.asE; rw [decide_eq_true h0]; rfl, h0⟩
    obtain ⟨⟨b1, b2⟩, b3, b4⟩ := askB_iff hrb
    have HT := Lib.hid (sol_tidy hg)
    have HL := Lib.hid (T_ln hg.v b1 b2 b3 b4 false)
    obtain ⟨l1, l2⟩ := sol_len hg
    have HG := Lib.hid hg
    obtain ⟨g, va, vb, rfl, hst, hka, hkb⟩ := hkn
    have HST := Lib.hid hst
    have HA := Lib.hid hka
    have HBb := Lib.hid hkb
    obtain ⟨Aa, ka, rfl, _⟩ := hka
    obtain ⟨Ab, kb, rfl, _⟩ := hkb
    clear h0 hem hg hrb hst
    have hB1 : Below w.heap.size w w1 := by (repeat' with_reducible first|assumption|exact Below.refl _ _|apply bl_alloc|apply bl_drewN|apply bl_drew|refine bl_set ?_ (by simp<;>omega) _|refine bl_then ?_ (by assumption))
    unfold knC
    go_wp2
    obtain ⟨⟨x0, x1, x2, x3, x4, x5, x6, x7, x8, x9⟩, _⟩ := agg10 (bk_new w1 (.cells #[.pointer (some ⟨g, 0, none⟩), .int .i64 f.sol.lo.r.n, .int .i64 f.sol.lo.r.d, .bool f.sol.lo.strict, .int .i64 f.sol.hi.r.n, .int .i64 f.sol.hi.r.d, .bool f.sol.hi.strict, .slice Aa f.sol.above.length ka, .slice Ab f.sol.below.length kb, .bool f.sol.empty] 125))
    ((refine p_start (by kernel_rfl) ?_); (refine p_pure 14 (v := ?_) rfl (by kernel_rfl) (by kernel_rfl) (by kernel_rfl) (fun _ _ _ h => h) rfl ?_ ?_; rotate_left; (focus (intro w_; go_simp; (try with_reducible rfl); done)); (try simp only [Act.put, List.setIfInBounds_toArray, List.set_cons_zero, List.set_cons_succ])); (refine x_enter 12 (fun hX_ => ?_)); (refine x_pure 0 (v := ?_) rfl (by kernel_rfl) (fun _ _ _ h => h) rfl ?_ hX_ ?_; rotate_left; (focus (intro w_ hS_; have x0 := cl_below hS_ x0; have x1 := cl_below hS_ x1; have x2 := cl_below hS_ x2; have x3 := cl_below hS_ x3; have x4 := cl_below hS_ x4; have x5 := cl_below hS_ x5; have x6 := cl_below hS_ x6; have x7 := cl_below hS_ x7; have x8 := cl_below hS_ x8; have x9 := cl_below hS_ x9; go_simp; (try (first | with_reducible rfl | (constructor <;> with_reducible rfl))); done)); (try simp only [Act.put, List.setIfInBounds_toArray, List.set_cons_zero, List.set_cons_succ])); (refine x_pure 1 (v := ?_) rfl (by kernel_rfl) (fun _ _ _ h => h) rfl ?_ hX_ ?_; rotate_left; (focus (intro w_ hS_; have x0 := cl_below hS_ x0; have x1 := cl_below hS_ x1; have x2 := cl_below hS_ x2; have x3 := cl_below hS_ x3; have x4 := cl_below hS_ x4; have x5 := cl_below hS_ x5; have x6 := cl_below hS_ x6; have x7 := cl_below hS_ x7; have x8 := cl_below hS_ x8; have x9 := cl_below hS_ x9; go_simp; (try (first | with_reducible rfl | (constructor <;> with_reducible rfl))); done)); (try simp only [Act.put, List.setIfInBounds_toArray, List.set_cons_zero, List.set_cons_succ])); (refine x_pure 2 (v := ?_) rfl (by kernel_rfl) (fun _ _ _ h => h) rfl ?_ hX_ ?_; rotate_left; (focus (intro w_ hS_; have x0 := cl_below hS_ x0; have x1 := cl_below hS_ x1; have x2 := cl_below hS_ x2; have x3 := cl_below hS_ x3; have x4 := cl_below hS_ x4; have x5 := cl_below hS_ x5; have x6 := cl_below hS_ x6; have x7 := cl_below hS_ x7; have x8 := cl_below hS_ x8; have x9 := cl_below hS_ x9; go_simp; (try (first | with_reducible rfl | (constructor <;> with_reducible rfl))); done)); (try simp only [Act.put, List.setIfInBounds_toArray, List.set_cons_zero, List.set_cons_succ])); (refine x_pure 3 (v := ?_) rfl (by kernel_rfl) (fun _ _ _ h => h) rfl ?_ hX_ ?_; rotate_left; (focus (intro w_ hS_; have x0 := cl_below hS_ x0; have x1 := cl_below hS_ x1; have x2 := cl_below hS_ x2; have x3 := cl_below hS_ x3; have x4 := cl_below hS_ x4; have x5 := cl_below hS_ x5; have x6 := cl_below hS_ x6; have x7 := cl_below hS_ x7; have x8 := cl_below hS_ x8; have x9 := cl_below hS_ x9; go_simp; (try (first | with_reducible rfl | (constructor <;> with_reducible rfl))); done)); (try simp only [Act.put, List.setIfInBounds_toArray, List.set_cons_zero, List.set_cons_succ])); (refine x_pure 4 (v := ?_) rfl (by kernel_rfl) (fun _ _ _ h => h) rfl ?_ hX_ ?_; rotate_left; (focus (intro w_ hS_; have x0 := cl_below hS_ x0; have x1 := cl_below hS_ x1; have x2 := cl_below hS_ x2; have x3 := cl_below hS_ x3; have x4 := cl_below hS_ x4; have x5 := cl_below hS_ x5; have x6 := cl_below hS_ x6; have x7 := cl_below hS_ x7; have x8 := cl_below hS_ x8; have x9 := cl_below hS_ x9; go_simp; (try (first | with_reducible rfl | (constructor <;> with_reducible rfl))); done)); (try simp only [Act.put, List.setIfInBounds_toArray, List.set_cons_zero, List.set_cons_succ])); (refine x_t 11 hX_ ?_); ((refine t_pure 5 (v := ?_) rfl (by kernel_rfl) (fun _ _ _ h => h) rfl ?_ ?_; rotate_left; (focus (intro w_ hS_; have x0 := cl_below hS_ x0; have x1 := cl_below hS_ x1; have x2 := cl_below hS_ x2; have x3 := cl_below hS_ x3; have x4 := cl_below hS_ x4; have x5 := cl_below hS_ x5; have x6 := cl_below hS_ x6; have x7 := cl_below hS_ x7; have x8 := cl_below hS_ x8; have x9 := cl_below hS_ x9; go_simp; (try (first | with_reducible rfl | (constructor <;> with_reducible rfl))); done)); (try simp only [Act.put, List.setIfInBounds_toArray, List.set_cons_zero, List.set_cons_succ]))); ((refine t_pure 6 (v := ?_) rfl (by kernel_rfl) (fun _ _ _ h => h) rfl ?_ ?_; rotate_left; (focus (intro w_ hS_; have x0 := cl_below hS_ x0; have x1 := cl_below hS_ x1; have x2 := cl_below hS_ x2; have x3 := cl_below hS_ x3; have x4 := cl_below hS_ x4; have x5 := cl_below hS_ x5; have x6 := cl_below hS_ x6; have x7 := cl_below hS_ x7; have x8 := cl_below hS_ x8; have x9 := cl_below hS_ x9; go_simp; (try (first | with_reducible rfl | (constructor <;> with_reducible rfl))); done)); (try simp only [Act.put, List.setIfInBounds_toArray, List.set_cons_zero, List.set_cons_succ]))); ((refine t_pure 7 (v := ?_) rfl (by kernel_rfl) (fun _ _ _ h => h) rfl ?_ ?_; rotate_left; (focus (intro w_ hS_; have x0 := cl_below hS_ x0; have x1 := cl_below hS_ x1; have x2 := cl_below hS_ x2; have x3 := cl_below hS_ x3; have x4 := cl_below hS_ x4; have x5 := cl_below hS_ x5; have x6 := cl_below hS_ x6; have x7 := cl_below hS_ x7; have x8 := cl_below hS_ x8; have x9 := cl_below hS_ x9; go_simp; (try (first | with_reducible rfl | (constructor <;> with_reducible rfl))); done)); (try simp only [Act.put, List.setIfInBounds_toArray, List.set_cons_zero, List.set_cons_succ]))); ((refine t_pure 8 (v := ?_) rfl (by kernel_rfl) (fun _ _ _ h => h) rfl ?_ ?_; rotate_left; (focus (intro w_ hS_; have x0 := cl_below hS_ x0; have x1 := cl_below hS_ x1; have x2 := cl_below hS_ x2; have x3 := cl_below hS_ x3; have x4 := cl_below hS_ x4; have x5 := cl_below hS_ x5; have x6 := cl_below hS_ x6; have x7 := cl_below hS_ x7; have x8 := cl_below hS_ x8; have x9 := cl_below hS_ x9; go_simp; (try (first | with_reducible rfl | (constructor <;> with_reducible rfl))); done)); (try simp only [Act.put, List.setIfInBounds_toArray, List.set_cons_zero, List.set_cons_succ]))); ((refine t_call 9 (v := ?_) rfl (by kernel_rfl) (fun _ _ _ h => h) rfl ?_ ?_ ?_ ?_ ?_; rotate_left 3; (focus (intro w_ hS_; have x0 := cl_below hS_ x0; have x1 := cl_below hS_ x1; have x2 := cl_below hS_ x2; have x3 := cl_below hS_ x3; have x4 := cl_below hS_ x4; have x5 := cl_below hS_ x5; have x6 := cl_below hS_ x6; have x7 := cl_below hS_ x7; have x8 := cl_below hS_ x8; have x9 := cl_below hS_ x9; go_simp; (try (first | with_reducible rfl | (constructor <;> with_reducible rfl))); done)); (focus (intro w_ hS_; have x0 := cl_below hS_ x0; have x1 := cl_below hS_ x1; have x2 := cl_below hS_ x2; have x3 := cl_below hS_ x3; have x4 := cl_below hS_ x4; have x5 := cl_below hS_ x5; have x6 := cl_below hS_ x6; have x7 := cl_below hS_ x7; have x8 := cl_below hS_ x8; have x9 := cl_below hS_ x9; ((go_at_call 103; refine (time_agg g f _ _ (HST.out.below (by (repeat' with_reducible first|assumption|exact Below.refl _ _|apply bl_alloc|apply bl_drewN|apply bl_drew|refine bl_set ?_ (by simp<;>omega) _|refine bl_then ?_ (by assumption)))) HG.out.v b1 b2).mono ?_; rintro e' w' ⟨rfl, hb⟩)); refine And.intro ?_ ?_; (focus (with_reducible rfl)); (first | exact bl_then hS_ (by assumption) | assumption))); (try simp only [Act.put, List.setIfInBounds_toArray, List.set_cons_zero, List.set_cons_succ]))); ((refine t_pure 10 (v := ?_) rfl (by kernel_rfl) (fun _ _ _ h => h) rfl ?_ ?_; rotate_left; (focus (intro w_ hS_; have x0 := cl_below hS_ x0; have x1 := cl_below hS_ x1; have x2 := cl_below hS_ x2; have x3 := cl_below hS_ x3; have x4 := cl_below hS_ x4; have x5 := cl_below hS_ x5; have x6 := cl_below hS_ x6; have x7 := cl_below hS_ x7; have x8 := cl_below hS_ x8; have x9 := cl_below hS_ x9; go_simp; (try (first | with_reducible rfl | (constructor <;> with_reducible rfl))); done)); (try simp only [Act.put, List.setIfInBounds_toArray, List.set_cons_zero, List.set_cons_succ]))); (refine t_exitX (by kernel_rfl) (fun W_ hS_ => ?_)); (refine x_only 11 rfl (by kernel_rfl) rfl (fun K hK => ?_); go_simp; refine hK.out _ _ (bl_alloc hS_ _) ?_; clear hK K; (try simp only [Act.put, List.setIfInBounds_toArray, List.set_cons_zero, List.set_cons_succ])); (refine x_exit (by kernel_rfl) ?_))
    have hB : Below w1.heap.size w1 W_ := by (repeat' with_reducible first|assumption|exact Below.refl _ _|apply bl_alloc|apply bl_drewN|apply bl_drew|refine bl_set ?_ (by simp<;>omega) _|refine bl_then ?_ (by assumption))
    refine p_only 12 rfl (by kernel_rfl) (fun K hK => ?_)
    go_simp
    refine (can_any f.sol (.slice Aa f.sol.above.length ka) (.slice Ab f.sol.below.length kb) _ _ [] [⟨m, f.T x, false⟩] _ ((HA.out.below hB).below (bl_alloc (Below.refl _ _) _)) ((HBb.out.below hB).below (bl_alloc (Below.refl _ _) _)) (Sl.nil _ _ _) (Sl.new1 lnC_len _ _ _ _ rfl) HT.out.lo HT.out.hi HT.out.above HT.out.below (by simp) (by intro l hl; rw [List.mem_singleton.1 hl]; exact HL.out) (by simp; omega) (by simp; omega)).mono ?_
    rintro e' W' ⟨rfl, hb'⟩
    refine hK.out _ _ ?_
    clear hK K
    (try simp only [Act.put, List.setIfInBounds_toArray, List.set_cons_zero, List.set_cons_succ])
    (refine p_only 13 rfl (by kernel_rfl) (fun K hK => ?_); go_simp; refine hK.out _ _ ?_; clear hK K; (try simp only [Act.put, List.setIfInBounds_toArray, List.set_cons_zero, List.set_cons_succ]))
    (refine p_only 15 rfl (by kernel_rfl) (fun K hK => ?_); go_simp; refine hK.out _ _ ?_; clear hK K; (try simp only [Act.put, List.setIfInBounds_toArray, List.set_cons_zero, List.set_cons_succ]))
    (refine p_only 16 rfl (by kernel_rfl) (fun K hK => ?_); go_simp; refine hK.out _ _ ?_; clear hK K; (try simp only [Act.put, List.setIfInBounds_toArray, List.set_cons_zero, List.set_cons_succ]))
    refine wpAny_done (by kernel_rfl) ?_ _
    go_wp2
    go_ret2
    exact ⟨by rw [HE.out.1, HE.out.2]; rfl, by (repeat' with_reducible first|assumption|exact Below.refl _ _|apply bl_alloc|apply bl_drewN|apply bl_drew|refine bl_set ?_ (by simp<;>omega) _|refine bl_then ?_ (by assumption))⟩
end Go.Proofs.YtjpagpplkldbkaaGreat
