/- Under, over; levels and minutes. The levels at some minutes; the minutes at which a level is reached. -/
import Derived.Test.YtjpagpplkldbkaaGreatLib15
set_option linter.unusedVariables false
set_option linter.unusedSimpArgs false
namespace Go.Proofs.YtjpagpplkldbkaaGreat
open Go.RowKit Go.Shelf WH
theorem sol_len {f : Fl} (hf : f.good) : f.sol.above.length ≤ 100 ∧ f.sol.below.length ≤ 100 := by
  obtain ⟨_, h2, h3, _⟩ := solved_spec (reg_spec hf f.all).1.whole
  have h4 := reg_len f f.all
  have h5 := all_len f
  have h6 := hf.len
  have e1 : f.sol.above = (f.reg f.all).above := h2
  have e2 : f.sol.below = (f.reg f.all).below := h3
  rw [e1, e2]
  omega
set_option maxRecDepth 100000 in
set_option maxHeartbeats 1000000 in
theorem under_any (kv : Value) (f : Fl) (x m : Int) (w : World) (hk : Kn w kv f) (hf : f.good) (h0 : 0 ≤ x) (h1 : x ≤ f.H) (m0 : 0 ≤ m) (m1 : m ≤ 2097152) :
    Calls Tryz.prog 176 #[kv, .int .i64 x, .int .i64 m] w fun e w' => e = .returned (.bool (f.under x m)) ∧ Below w.heap.size w w' := by
  obtain ⟨g, va, vb, rfl, hs, ha, hb⟩ := hk
  obtain ⟨Aa, ka, rfl, _⟩ := id ha
  obtain ⟨Ab, kb, rfl, _⟩ := id hb
  have HS := Lib.hid hs
  have HA := Lib.hid ha
  have HB := Lib.hid hb
  have HF := Lib.hid hf
  have HT := Lib.hid (sol_tidy hf)
  have HL := Lib.hid (T_ln hf.v h0 h1 m0 m1 true)
  obtain ⟨l1, l2⟩ := sol_len hf
  clear hs ha hb hf
  unfold knC
  go_enter Tryz.func176, Tryz.ntmps176
  go_wp2
  obtain ⟨⟨x0, x1, x2, x3, x4, x5, x6, x7, x8, x9⟩, _⟩ := agg10 (bk_new w (.cells #[.pointer (some ⟨g, 0, none⟩), .int .i64 f.sol.lo.r.n, .int .i64 f.sol.lo.r.d, .bool f.sol.lo.strict, .int .i64 f.sol.hi.r.n, .int .i64 f.sol.hi.r.d, .bool f.sol.hi.strict, .slice Aa f.sol.above.length ka, .slice Ab f.sol.below.length kb, .bool f.sol.empty] 125))
  ((refine p_start (by kernel_rfl) ?_); (refine x_enter 9 (fun hX_ => ?_)); (refine x_pure 0 (v := ?_) rfl (by kernel_rfl) (fun _ _ _ h => h) rfl ?_ hX_ ?_; rotate_left; (focus (intro w_ hS_; have x0 := cl_below hS_ x0; have x1 := cl_below hS_ x1; have x2 := cl_below hS_ x2; have x3 := cl_below hS_ x3; have x4 := cl_below hS_ x4; have x5 := cl_below hS_ x5; have x6 := cl_below hS_ x6; have x7 := cl_below hS_ x7; have x8 := cl_below hS_ x8; have x9 := cl_below hS_ x9; go_simp; (try (first | with_reducible rfl | (constructor <;> with_reducible rfl))); done)); (try simp only [Act.put, List.setIfInBounds_toArray, List.set_cons_zero, List.set_cons_succ])); (refine x_pure 1 (v := ?_) rfl (by kernel_rfl) (fun _ _ _ h => h) rfl ?_ hX_ ?_; rotate_left; (focus (intro w_ hS_; have x0 := cl_below hS_ x0; have x1 := cl_below hS_ x1; have x2 := cl_below hS_ x2; have x3 := cl_below hS_ x3; have x4 := cl_below hS_ x4; have x5 := cl_below hS_ x5; have x6 := cl_below hS_ x6; have x7 := cl_below hS_ x7; have x8 := cl_below hS_ x8; have x9 := cl_below hS_ x9; go_simp; (try (first | with_reducible rfl | (constructor <;> with_reducible rfl))); done)); (try simp only [Act.put, List.setIfInBounds_toArray, List.set_cons_zero, List.set_cons_succ])); (refine x_t 8 hX_ ?_); ((refine t_pure 2 (v := ?_) rfl (by kernel_rfl) (fun _ _ _ h => h) rfl ?_ ?_; rotate_left; (focus (intro w_ hS_; have x0 := cl_below hS_ x0; have x1 := cl_below hS_ x1; have x2 := cl_below hS_ x2; have x3 := cl_below hS_ x3; have x4 := cl_below hS_ x4; have x5 := cl_below hS_ x5; have x6 := cl_below hS_ x6; have x7 := cl_below hS_ x7; have x8 := cl_below hS_ x8; have x9 := cl_below hS_ x9; go_simp; (try (first | with_reducible rfl | (constructor <;> with_reducible rfl))); done)); (try simp only [Act.put, List.setIfInBounds_toArray, List.set_cons_zero, List.set_cons_succ]))); ((refine t_pure 3 (v := ?_) rfl (by kernel_rfl) (fun _ _ _ h => h) rfl ?_ ?_; rotate_left; (focus (intro w_ hS_; have x0 := cl_below hS_ x0; have x1 := cl_below hS_ x1; have x2 := cl_below hS_ x2; have x3 := cl_below hS_ x3; have x4 := cl_below hS_ x4; have x5 := cl_below hS_ x5; have x6 := cl_below hS_ x6; have x7 := cl_below hS_ x7; have x8 := cl_below hS_ x8; have x9 := cl_below hS_ x9; go_simp; (try (first | with_reducible rfl | (constructor <;> with_reducible rfl))); done)); (try simp only [Act.put, List.setIfInBounds_toArray, List.set_cons_zero, List.set_cons_succ]))); ((refine t_pure 4 (v := ?_) rfl (by kernel_rfl) (fun _ _ _ h => h) rfl ?_ ?_; rotate_left; (focus (intro w_ hS_; have x0 := cl_below hS_ x0; have x1 := cl_below hS_ x1; have x2 := cl_below hS_ x2; have x3 := cl_below hS_ x3; have x4 := cl_below hS_ x4; have x5 := cl_below hS_ x5; have x6 := cl_below hS_ x6; have x7 := cl_below hS_ x7; have x8 := cl_below hS_ x8; have x9 := cl_below hS_ x9; go_simp; (try (first | with_reducible rfl | (constructor <;> with_reducible rfl))); done)); (try simp only [Act.put, List.setIfInBounds_toArray, List.set_cons_zero, List.set_cons_succ]))); ((refine t_pure 5 (v := ?_) rfl (by kernel_rfl) (fun _ _ _ h => h) rfl ?_ ?_; rotate_left; (focus (intro w_ hS_; have x0 := cl_below hS_ x0; have x1 := cl_below hS_ x1; have x2 := cl_below hS_ x2; have x3 := cl_below hS_ x3; have x4 := cl_below hS_ x4; have x5 := cl_below hS_ x5; have x6 := cl_below hS_ x6; have x7 := cl_below hS_ x7; have x8 := cl_below hS_ x8; have x9 := cl_below hS_ x9; go_simp; (try (first | with_reducible rfl | (constructor <;> with_reducible rfl))); done)); (try simp only [Act.put, List.setIfInBounds_toArray, List.set_cons_zero, List.set_cons_succ]))); ((refine t_call 6 (v := ?_) rfl (by kernel_rfl) (fun _ _ _ h => h) rfl ?_ ?_ ?_ ?_ ?_; rotate_left 3; (focus (intro w_ hS_; have x0 := cl_below hS_ x0; have x1 := cl_below hS_ x1; have x2 := cl_below hS_ x2; have x3 := cl_below hS_ x3; have x4 := cl_below hS_ x4; have x5 := cl_below hS_ x5; have x6 := cl_below hS_ x6; have x7 := cl_below hS_ x7; have x8 := cl_below hS_ x8; have x9 := cl_below hS_ x9; go_simp; (try (first | with_reducible rfl | (constructor <;> with_reducible rfl))); done)); (focus (intro w_ hS_; have x0 := cl_below hS_ x0; have x1 := cl_below hS_ x1; have x2 := cl_below hS_ x2; have x3 := cl_below hS_ x3; have x4 := cl_below hS_ x4; have x5 := cl_below hS_ x5; have x6 := cl_below hS_ x6; have x7 := cl_below hS_ x7; have x8 := cl_below hS_ x8; have x9 := cl_below hS_ x9; ((go_at_call 103; refine (time_agg g f _ _ (HS.out.below (by (repeat' with_reducible first|assumption|exact Below.refl _ _|apply bl_alloc|apply bl_drewN|apply bl_drew|refine bl_set ?_ (by simp<;>omega) _|refine bl_then ?_ (by assumption)))) HF.out.v h0 h1).mono ?_; rintro e' w' ⟨rfl, hb⟩)); refine And.intro ?_ ?_; (focus (with_reducible rfl)); (first | exact bl_then hS_ (by assumption) | assumption))); (try simp only [Act.put, List.setIfInBounds_toArray, List.set_cons_zero, List.set_cons_succ]))); ((refine t_pure 7 (v := ?_) rfl (by kernel_rfl) (fun _ _ _ h => h) rfl ?_ ?_; rotate_left; (focus (intro w_ hS_; have x0 := cl_below hS_ x0; have x1 := cl_below hS_ x1; have x2 := cl_below hS_ x2; have x3 := cl_below hS_ x3; have x4 := cl_below hS_ x4; have x5 := cl_below hS_ x5; have x6 := cl_below hS_ x6; have x7 := cl_below hS_ x7; have x8 := cl_below hS_ x8; have x9 := cl_below hS_ x9; go_simp; (try (first | with_reducible rfl | (constructor <;> with_reducible rfl))); done)); (try simp only [Act.put, List.setIfInBounds_toArray, List.set_cons_zero, List.set_cons_succ]))); (refine t_exitX (by kernel_rfl) (fun W_ hS_ => ?_)); (refine x_only 8 rfl (by kernel_rfl) rfl (fun K hK => ?_); go_simp; refine hK.out _ _ (bl_alloc hS_ _) ?_; clear hK K; (try simp only [Act.put, List.setIfInBounds_toArray, List.set_cons_zero, List.set_cons_succ])); (refine x_exit (by kernel_rfl) ?_))
  have hB : Below w.heap.size w W_ := by (repeat' with_reducible first|assumption|exact Below.refl _ _|apply bl_alloc|apply bl_drewN|apply bl_drew|refine bl_set ?_ (by simp<;>omega) _|refine bl_then ?_ (by assumption))
  refine p_only 9 rfl (by kernel_rfl) (fun K hK => ?_)
  go_simp
  refine (can_any f.sol (.slice Aa f.sol.above.length ka) (.slice Ab f.sol.below.length kb) _ _ [] [⟨m, f.T x, true⟩] _ ((HA.out.below hB).below (bl_alloc (Below.refl _ _) _)) ((HB.out.below hB).below (bl_alloc (Below.refl _ _) _)) (Sl.nil _ _ _) (Sl.new1 lnC_len _ _ _ _ rfl) HT.out.lo HT.out.hi HT.out.above HT.out.below (by simp) (by intro l hl; rw [List.mem_singleton.1 hl]; exact HL.out) (by simp; omega) (by simp; omega)).mono ?_
  rintro e' W' ⟨rfl, hb'⟩
  refine hK.out _ _ ?_
  clear hK K
  (try simp only [Act.put, List.setIfInBounds_toArray, List.set_cons_zero, List.set_cons_succ])
  (refine p_only 10 rfl (by kernel_rfl) (fun K hK => ?_); go_simp; refine hK.out _ _ ?_; clear hK K; (try simp only [Act.put, List.setIfInBounds_toArray, List.set_cons_zero, List.set_cons_succ]))
  refine wpAny_done (by kernel_rfl) ?_ _
  go_wp2
  go_ret
  exact ⟨rfl, by (repeat' with_reducible first|assumption|exact Below.refl _ _|apply bl_alloc|apply bl_drewN|apply bl_drew|refine bl_set ?_ (by simp<;>omega) _|refine bl_then ?_ (by assumption))⟩
set_option maxRecDepth 100000 in
set_option maxHeartbeats 1000000 in
theorem over_any (kv : Value) (f : Fl) (x m : Int) (w : World) (hk : Kn w kv f) (hf : f.good) (h0 : 0 ≤ x) (h1 : x ≤ f.H) (m0 : 0 ≤ m) (m1 : m ≤ 2097152) :
    Calls Tryz.prog 113 #[kv, .int .i64 x, .int .i64 m] w fun e w' => e = .returned (.bool (f.over x m)) ∧ Below w.heap.size w w' := by
  obtain ⟨g, va, vb, rfl, hs, ha, hb⟩ := hk
  obtain ⟨Aa, ka, rfl, _⟩ := id ha
  obtain ⟨Ab, kb, rfl, _⟩ := id hb
  have HS := Lib.hid hs
  have HA := Lib.hid ha
  have HB := Lib.hid hb
  have HF := Lib.hid hf
  have HT := Lib.hid (sol_tidy hf)
  have HL := Lib.hid (T_ln hf.v h0 h1 m0 m1 true)
  obtain ⟨l1, l2⟩ := sol_len hf
  clear hs ha hb hf
  unfold knC
  go_enter Tryz.func113, Tryz.ntmps113
  go_wp2
  obtain ⟨⟨x0, x1, x2, x3, x4, x5, x6, x7, x8, x9⟩, _⟩ := agg10 (bk_new w (.cells #[.pointer (some ⟨g, 0, none⟩), .int .i64 f.sol.lo.r.n, .int .i64 f.sol.lo.r.d, .bool f.sol.lo.strict, .int .i64 f.sol.hi.r.n, .int .i64 f.sol.hi.r.d, .bool f.sol.hi.strict, .slice Aa f.sol.above.length ka, .slice Ab f.sol.below.length kb, .bool f.sol.empty] 125))
  ((refine p_start (by kernel_rfl) ?_); (refine x_enter 9 (fun hX_ => ?_)); (refine x_pure 0 (v := ?_) rfl (by kernel_rfl) (fun _ _ _ h => h) rfl ?_ hX_ ?_; rotate_left; (focus (intro w_ hS_; have x0 := cl_below hS_ x0; have x1 := cl_below hS_ x1; have x2 := cl_below hS_ x2; have x3 := cl_below hS_ x3; have x4 := cl_below hS_ x4; have x5 := cl_below hS_ x5; have x6 := cl_below hS_ x6; have x7 := cl_below hS_ x7; have x8 := cl_below hS_ x8; have x9 := cl_below hS_ x9; go_simp; (try (first | with_reducible rfl | (constructor <;> with_reducible rfl))); done)); (try simp only [Act.put, List.setIfInBounds_toArray, List.set_cons_zero, List.set_cons_succ])); (refine x_pure 1 (v := ?_) rfl (by kernel_rfl) (fun _ _ _ h => h) rfl ?_ hX_ ?_; rotate_left; (focus (intro w_ hS_; have x0 := cl_below hS_ x0; have x1 := cl_below hS_ x1; have x2 := cl_below hS_ x2; have x3 := cl_below hS_ x3; have x4 := cl_below hS_ x4; have x5 := cl_below hS_ x5; have x6 := cl_below hS_ x6; have x7 := cl_below hS_ x7; have x8 := cl_below hS_ x8; have x9 := cl_below hS_ x9; go_simp; (try (first | with_reducible rfl | (constructor <;> with_reducible rfl))); done)); (try simp only [Act.put, List.setIfInBounds_toArray, List.set_cons_zero, List.set_cons_succ])); (refine x_t 8 hX_ ?_); ((refine t_pure 2 (v := ?_) rfl (by kernel_rfl) (fun _ _ _ h => h) rfl ?_ ?_; rotate_left; (focus (intro w_ hS_; have x0 := cl_below hS_ x0; have x1 := cl_below hS_ x1; have x2 := cl_below hS_ x2; have x3 := cl_below hS_ x3; have x4 := cl_below hS_ x4; have x5 := cl_below hS_ x5; have x6 := cl_below hS_ x6; have x7 := cl_below hS_ x7; have x8 := cl_below hS_ x8; have x9 := cl_below hS_ x9; go_simp; (try (first | with_reducible rfl | (constructor <;> with_reducible rfl))); done)); (try simp only [Act.put, List.setIfInBounds_toArray, List.set_cons_zero, List.set_cons_succ]))); ((refine t_pure 3 (v := ?_) rfl (by kernel_rfl) (fun _ _ _ h => h) rfl ?_ ?_; rotate_left; (focus (intro w_ hS_; have x0 := cl_below hS_ x0; have x1 := cl_below hS_ x1; have x2 := cl_below hS_ x2; have x3 := cl_below hS_ x3; have x4 := cl_below hS_ x4; have x5 := cl_below hS_ x5; have x6 := cl_below hS_ x6; have x7 := cl_below hS_ x7; have x8 := cl_below hS_ x8; have x9 := cl_below hS_ x9; go_simp; (try (first | with_reducible rfl | (constructor <;> with_reducible rfl))); done)); (try simp only [Act.put, List.setIfInBounds_toArray, List.set_cons_zero, List.set_cons_succ]))); ((refine t_pure 4 (v := ?_) rfl (by kernel_rfl) (fun _ _ _ h => h) rfl ?_ ?_; rotate_left; (focus (intro w_ hS_; have x0 := cl_below hS_ x0; have x1 := cl_below hS_ x1; have x2 := cl_below hS_ x2; have x3 := cl_below hS_ x3; have x4 := cl_below hS_ x4; have x5 := cl_below hS_ x5; have x6 := cl_below hS_ x6; have x7 := cl_below hS_ x7; have x8 := cl_below hS_ x8; have x9 := cl_below hS_ x9; go_simp; (try (first | with_reducible rfl | (constructor <;> with_reducible rfl))); done)); (try simp only [Act.put, List.setIfInBounds_toArray, List.set_cons_zero, List.set_cons_succ]))); ((refine t_pure 5 (v := ?_) rfl (by kernel_rfl) (fun _ _ _ h => h) rfl ?_ ?_; rotate_left; (focus (intro w_ hS_; have x0 := cl_below hS_ x0; have x1 := cl_below hS_ x1; have x2 := cl_below hS_ x2; have x3 := cl_below hS_ x3; have x4 := cl_below hS_ x4; have x5 := cl_below hS_ x5; have x6 := cl_below hS_ x6; have x7 := cl_below hS_ x7; have x8 := cl_below hS_ x8; have x9 := cl_below hS_ x9; go_simp; (try (first | with_reducible rfl | (constructor <;> with_reducible rfl))); done)); (try simp only [Act.put, List.setIfInBounds_toArray, List.set_cons_zero, List.set_cons_succ]))); ((refine t_call 6 (v := ?_) rfl (by kernel_rfl) (fun _ _ _ h => h) rfl ?_ ?_ ?_ ?_ ?_; rotate_left 3; (focus (intro w_ hS_; have x0 := cl_below hS_ x0; have x1 := cl_below hS_ x1; have x2 := cl_below hS_ x2; have x3 := cl_below hS_ x3; have x4 := cl_below hS_ x4; have x5 := cl_below hS_ x5; have x6 := cl_below hS_ x6; have x7 := cl_below hS_ x7; have x8 := cl_below hS_ x8; have x9 := cl_below hS_ x9; go_simp; (try (first | with_reducible rfl | (constructor <;> with_reducible rfl))); done)); (focus (intro w_ hS_; have x0 := cl_below hS_ x0; have x1 := cl_below hS_ x1; have x2 := cl_below hS_ x2; have x3 := cl_below hS_ x3; have x4 := cl_below hS_ x4; have x5 := cl_below hS_ x5; have x6 := cl_below hS_ x6; have x7 := cl_below hS_ x7; have x8 := cl_below hS_ x8; have x9 := cl_below hS_ x9; ((go_at_call 103; refine (time_agg g f _ _ (HS.out.below (by (repeat' with_reducible first|assumption|exact Below.refl _ _|apply bl_alloc|apply bl_drewN|apply bl_drew|refine bl_set ?_ (by simp<;>omega) _|refine bl_then ?_ (by assumption)))) HF.out.v h0 h1).mono ?_; rintro e' w' ⟨rfl, hb⟩)); refine And.intro ?_ ?_; (focus (with_reducible rfl)); (first | exact bl_then hS_ (by assumption) | assumption))); (try simp only [Act.put, List.setIfInBounds_toArray, List.set_cons_zero, List.set_cons_succ]))); ((refine t_pure 7 (v := ?_) rfl (by kernel_rfl) (fun _ _ _ h => h) rfl ?_ ?_; rotate_left; (focus (intro w_ hS_; have x0 := cl_below hS_ x0; have x1 := cl_below hS_ x1; have x2 := cl_below hS_ x2; have x3 := cl_below hS_ x3; have x4 := cl_below hS_ x4; have x5 := cl_below hS_ x5; have x6 := cl_below hS_ x6; have x7 := cl_below hS_ x7; have x8 := cl_below hS_ x8; have x9 := cl_below hS_ x9; go_simp; (try (first | with_reducible rfl | (constructor <;> with_reducible rfl))); done)); (try simp only [Act.put, List.setIfInBounds_toArray, List.set_cons_zero, List.set_cons_succ]))); (refine t_exitX (by kernel_rfl) (fun W_ hS_ => ?_)); (refine x_only 8 rfl (by kernel_rfl) rfl (fun K hK => ?_); go_simp; refine hK.out _ _ (bl_alloc hS_ _) ?_; clear hK K; (try simp only [Act.put, List.setIfInBounds_toArray, List.set_cons_zero, List.set_cons_succ])); (refine x_exit (by kernel_rfl) ?_))
  have hB : Below w.heap.size w W_ := by (repeat' with_reducible first|assumption|exact Below.refl _ _|apply bl_alloc|apply bl_drewN|apply bl_drew|refine bl_set ?_ (by simp<;>omega) _|refine bl_then ?_ (by assumption))
  refine p_only 9 rfl (by kernel_rfl) (fun K hK => ?_)
  go_simp
  refine (can_any f.sol (.slice Aa f.sol.above.length ka) (.slice Ab f.sol.below.length kb) _ _ [⟨m, f.T x, true⟩] [] _ ((HA.out.below hB).below (bl_alloc (Below.refl _ _) _)) ((HB.out.below hB).below (bl_alloc (Below.refl _ _) _)) (Sl.new1 lnC_len _ _ _ _ rfl) (Sl.nil _ _ _) HT.out.lo HT.out.hi HT.out.above HT.out.below (by intro l hl; rw [List.mem_singleton.1 hl]; exact HL.out) (by simp) (by simp; omega) (by simp; omega)).mono ?_
  rintro e' W' ⟨rfl, hb'⟩
  refine hK.out _ _ ?_
  clear hK K
  (try simp only [Act.put, List.setIfInBounds_toArray, List.set_cons_zero, List.set_cons_succ])
  (refine p_only 10 rfl (by kernel_rfl) (fun K hK => ?_); go_simp; refine hK.out _ _ ?_; clear hK K; (try simp only [Act.put, List.setIfInBounds_toArray, List.set_cons_zero, List.set_cons_succ]))
  refine wpAny_done (by kernel_rfl) ?_ _
  go_wp2
  go_ret
  exact ⟨rfl, by (repeat' with_reducible first|assumption|exact Below.refl _ _|apply bl_alloc|apply bl_drewN|apply bl_drew|refine bl_set ?_ (by simp<;>omega) _|refine bl_then ?_ (by assumption))⟩
end Go.Proofs.YtjpagpplkldbkaaGreat
set_option linter.unusedVariables false
set_option linter.unusedSimpArgs false
namespace Go.Proofs.YtjpagpplkldbkaaGreat
open Go.RowKit Go.Shelf WH
/-- What the closures capture: what is known, and a number. -/
structure Cap (w : World) (kb mb : Nat) (f : Fl) (m : Int) : Prop where
  k : ∃ g va vb, w.heap[kb]? = some (.cells (knC g f.sol va vb) 125 (0, 0)) ∧ Kn w (.agg (knC g f.sol va vb)) f
  m : w.heap[mb]? = some (.cells #[.int .i64 m] 3 (0, 0))
theorem Cap.below {w w1 : World} {kb mb : Nat} {f : Fl} {m : Int} (h : Cap w kb mb f m) (hb : Below w.heap.size w w1) : Cap w1 kb mb f m := by
  obtain ⟨⟨g, va, vb, h1, h2⟩, h3⟩ := h
  exact ⟨⟨g, va, vb, bk_below h1 hb, h2.below hb⟩, bk_below h3 hb⟩
theorem Kn.shape {w : World} {f : Fl} {g : Nat} {va vb : Value} (h : Kn w (.agg (knC g f.sol va vb)) f) : ∃ A c A2 c2, va = .slice A f.sol.above.length c ∧ vb = .slice A2 f.sol.below.length c2 := by
  obtain ⟨g', va', vb', e, _, ⟨A, c, e2, _⟩, ⟨A2, c2, e3, _⟩⟩ := h
  have h1 : va = va' := by have := congrArg (fun v => match v with | .agg cs => cs.getD 7 undef | _ => undef) e; simpa [knC] using this
  have h2 : vb = vb' := by have := congrArg (fun v => match v with | .agg cs => cs.getD 8 undef | _ => undef) e; simpa [knC] using this
  exact ⟨A, c, A2, c2, h1.trans e2, h2.trans e3⟩
set_option maxRecDepth 100000 in
set_option maxHeartbeats 1000000 in
theorem level1_any (kb mb : Nat) (f : Fl) (m n : Int) (w : World) (hc : Cap w kb mb f m) (hf : f.good) (n0 : 0 ≤ n) (n1 : n ≤ f.H) (m0 : 0 ≤ m) (m1 : m ≤ 2097152) :
    Calls Tryz.prog 180 #[.int .i64 n, .pointer (some ⟨kb, 0, none⟩), .pointer (some ⟨mb, 0, none⟩)] w fun e w' => e = .returned (.bool (decide (0 < n) && f.under n m)) ∧ Below w.heap.size w w' := by
  obtain ⟨⟨g, va, vb, h1, h2⟩, h3⟩ := hc
  obtain ⟨Aa, ka, Ab, kb', hva, hvb⟩ := h2.shape
  subst hva
  subst hvb
  have HK := Lib.hid h2
  obtain ⟨⟨x0, x1, x2, x3, x4, x5, x6, x7, x8, x9⟩, _⟩ := agg10 h1
  have y0 := bk_cell h3 0
  simp at y0
  clear h1 h2 h3
  go_enter Tryz.func180, Tryz.ntmps180
  by_cases hn : 0 < n
  · have hd : decide (0 < n) = true := by simpa using hn
    have hu : (decide (0 < n) && f.under n m) = f.under n m := by rw [hd]; rfl
    have HU := Lib.hid hu
    clear hu hn
    go_wp2_with (go_at_call 176; refine (under_any _ f n m _ HK.out hf n0 n1 m0 m1).mono ?_; rintro e1 w1 ⟨rfl, hb1⟩)
    go_ret
    exact ⟨by rw [HU.out]; rfl, by (repeat' with_reducible first|assumption|exact Below.refl _ _|apply bl_alloc|apply bl_drewN|apply bl_drew|refine bl_set ?_ (by simp<;>omega) _|refine bl_then ?_ (by assumption))⟩
  · have hd : decide (0 < n) = false := by simpa using hn
    have hu : (decide (0 < n) && f.under n m) = false := by rw [hd]; rfl
    have HU := Lib.hid hu
    clear hu hn
    go_wp2
    go_ret
    exact ⟨by rw [HU.out]; rfl, by (repeat' with_reducible first|assumption|exact Below.refl _ _|apply bl_alloc|apply bl_drewN|apply bl_drew|refine bl_set ?_ (by simp<;>omega) _|refine bl_then ?_ (by assumption))⟩
set_option maxRecDepth 100000 in
set_option maxHeartbeats 1000000 in
theorem level2_any (kb mb : Nat) (f : Fl) (m n : Int) (w : World) (hc : Cap w kb mb f m) (hf : f.good) (n0 : 0 ≤ n) (n1 : n ≤ f.H) (m0 : 0 ≤ m) (m1 : m ≤ 2097152) :
    Calls Tryz.prog 181 #[.int .i64 n, .pointer (some ⟨kb, 0, none⟩), .pointer (some ⟨mb, 0, none⟩)] w fun e w' => e = .returned (.bool (f.over n m)) ∧ Below w.heap.size w w' := by
  obtain ⟨⟨g, va, vb, h1, h2⟩, h3⟩ := hc
  obtain ⟨Aa, ka, Ab, kb', hva, hvb⟩ := h2.shape
  subst hva
  subst hvb
  have HK := Lib.hid h2
  obtain ⟨⟨x0, x1, x2, x3, x4, x5, x6, x7, x8, x9⟩, _⟩ := agg10 h1
  have y0 := bk_cell h3 0
  simp at y0
  clear h1 h2 h3
  go_enter Tryz.func181, Tryz.ntmps181
  go_wp2_with (go_at_call 113; refine (over_any _ f n m _ HK.out hf n0 n1 m0 m1).mono ?_; rintro e1 w1 ⟨rfl, hb1⟩)
  go_ret
  exact ⟨rfl, by (repeat' with_reducible first|assumption|exact Below.refl _ _|apply bl_alloc|apply bl_drewN|apply bl_drew|refine bl_set ?_ (by simp<;>omega) _|refine bl_then ?_ (by assumption))⟩
set_option maxRecDepth 100000 in
set_option maxHeartbeats 1000000 in
theorem reached1_any (kb mb : Nat) (f : Fl) (m n : Int) (w : World) (hc : Cap w kb mb f m) (hf : f.good) (n0 : 0 ≤ n) (n1 : n ≤ 2097152) (m0 : 0 ≤ m) (m1 : m ≤ f.H) :
    Calls Tryz.prog 175 #[.int .i64 n, .pointer (some ⟨kb, 0, none⟩), .pointer (some ⟨mb, 0, none⟩)] w fun e w' => e = .returned (.bool (decide (0 < n) && f.under m n)) ∧ Below w.heap.size w w' := by
  obtain ⟨⟨g, va, vb, h1, h2⟩, h3⟩ := hc
  obtain ⟨Aa, ka, Ab, kb', hva, hvb⟩ := h2.shape
  subst hva
  subst hvb
  have HK := Lib.hid h2
  obtain ⟨⟨x0, x1, x2, x3, x4, x5, x6, x7, x8, x9⟩, _⟩ := agg10 h1
  have y0 := bk_cell h3 0
  simp at y0
  clear h1 h2 h3
  go_enter Tryz.func175, Tryz.ntmps175
  by_cases hn : 0 < n
  · have hd : decide (0 < n) = true := by simpa using hn
    have hu : (decide (0 < n) && f.under m n) = f.under m n := by rw [hd]; rfl
    have HU := Lib.hid hu
    clear hu hn
    go_wp2_with (go_at_call 176; refine (under_any _ f m n _ HK.out hf m0 m1 n0 n1).mono ?_; rintro e1 w1 ⟨rfl, hb1⟩)
    go_ret
    exact ⟨by rw [HU.out]; rfl, by (repeat' with_reducible first|assumption|exact Below.refl _ _|apply bl_alloc|apply bl_drewN|apply bl_drew|refine bl_set ?_ (by simp<;>omega) _|refine bl_then ?_ (by assumption))⟩
  · have hd : decide (0 < n) = false := by simpa using hn
    have hu : (decide (0 < n) && f.under m n) = false := by rw [hd]; rfl
    have HU := Lib.hid hu
    clear hu hn
    go_wp2
    go_ret
    exact ⟨by rw [HU.out]; rfl, by (repeat' with_reducible first|assumption|exact Below.refl _ _|apply bl_alloc|apply bl_drewN|apply bl_drew|refine bl_set ?_ (by simp<;>omega) _|refine bl_then ?_ (by assumption))⟩
set_option maxRecDepth 100000 in
set_option maxHeartbeats 1000000 in
theorem reached2_any (kb mb : Nat) (f : Fl) (m n : Int) (w : World) (hc : Cap w kb mb f m) (hf : f.good) (n0 : 0 ≤ n) (n1 : n ≤ 2097152) (m0 : 0 ≤ m) (m1 : m ≤ f.H) :
    Calls Tryz.prog 177 #[.int .i64 n, .pointer (some ⟨kb, 0, none⟩), .pointer (some ⟨mb, 0, none⟩)] w fun e w' => e = .returned (.bool (f.over m n)) ∧ Below w.heap.size w w' := by
  obtain ⟨⟨g, va, vb, h1, h2⟩, h3⟩ := hc
  obtain ⟨Aa, ka, Ab, kb', hva, hvb⟩ := h2.shape
  subst hva
  subst hvb
  have HK := Lib.hid h2
  obtain ⟨⟨x0, x1, x2, x3, x4, x5, x6, x7, x8, x9⟩, _⟩ := agg10 h1
  have y0 := bk_cell h3 0
  simp at y0
  clear h1 h2 h3
  go_enter Tryz.func177, Tryz.ntmps177
  go_wp2_with (go_at_call 113; refine (over_any _ f m n _ HK.out hf m0 m1 n0 n1).mono ?_; rintro e1 w1 ⟨rfl, hb1⟩)
  go_ret
  exact ⟨rfl, by (repeat' with_reducible first|assumption|exact Below.refl _ _|apply bl_alloc|apply bl_drewN|apply bl_drew|refine bl_set ?_ (by simp<;>omega) _|refine bl_then ?_ (by assumption))⟩
set_option maxRecDepth 100000 in
set_option maxHeartbeats 1000000 in
theorem level_any (kv : Value) (f : Fl) (m : Int) (w : World) (hk : Kn w kv f) (hf : f.good) (m0 : 0 ≤ m) (m1 : m ≤ 2097152) :
    Calls Tryz.prog 95 #[kv, .int .i64 m] w fun e w' => e = .returned (.agg #[.int .i64 (f.levelLo m), .int .i64 (f.levelHi m)]) ∧ Below w.heap.size w w' := by
  obtain ⟨g, va, vb, rfl, hrest⟩ := id hk
  obtain ⟨Aa, ka, Ab, kb', hva, hvb⟩ := hk.shape
  subst hva
  subst hvb
  obtain ⟨hs, _, _⟩ := hrest
  have hH := H_bd hf.v
  obtain ⟨v1, v2, v3, hst, _⟩ := hs
  have c7 := bk_cell hst 7
  simp [stC] at c7
  have hgw := bk_lt hst
  have HK := Lib.hid hk
  clear hk hst
  have hcap : Cap (((w.alloc (.cells (knC g f.sol (.slice Aa f.sol.above.length ka) (.slice Ab f.sol.below.length kb')) 125)).alloc (.cells #[.int .i64 m] 3)).alloc (.cells #[.int .i64 0, .int .i64 0] 27)) w.heap.size (w.heap.size + 1) f m := by
    refine ⟨⟨g, _, _, bk_alloc (bk_alloc (bk_new w _) _) _, HK.out.below (by (repeat' with_reducible first|assumption|exact Below.refl _ _|apply bl_alloc|apply bl_drewN|apply bl_drew|refine bl_set ?_ (by simp<;>omega) _|refine bl_then ?_ (by assumption)))⟩, ?_⟩
    have := bk_alloc (bk_new (w.alloc (.cells (knC g f.sol (.slice Aa f.sol.above.length ka) (.slice Ab f.sol.below.length kb')) 125)) (.cells #[.int .i64 m] 3)) (.cells #[.int .i64 0, .int .i64 0] 27)
    rwa [World.size_alloc] at this
  have HC := Lib.hid hcap
  have c7' := cl_alloc (cl_alloc (cl_alloc c7 (.cells (knC g f.sol (.slice Aa f.sol.above.length ka) (.slice Ab f.sol.below.length kb')) 125)) (.cells #[.int .i64 m] 3)) (.cells #[.int .i64 0, .int .i64 0] 27)
  clear hcap
  unfold knC
  unfold knC at HC c7'
  go_enter Tryz.func95, Tryz.ntmps95
  go_wp2_with fail
  refine (outward_any f.H 180 181 _ _ _ _ (fun n => decide (0 < n) && f.under n m) (fun n => f.over n m) _ (by omega) (by omega) (enters_of Tryz.func180 (by kernel_rfl) rfl) (enters_of Tryz.func181 (by kernel_rfl) rfl)
    (fun n W h0 h1 hb => level1_any _ _ f m n W (HC.out.below hb) hf (by omega) (by omega) (by omega) (by omega)) (fun n W h0 h1 hb => level2_any _ _ f m n W (HC.out.below hb) hf (by omega) (by omega) (by omega) (by omega))).mono ?_
  rintro e1 w1 ⟨rfl, hb1⟩
  have h1 := bk_below (bk_new ((w.alloc (.cells #[.pointer (some ⟨g, 0, none⟩), .int .i64 f.sol.lo.r.n, .int .i64 f.sol.lo.r.d, .bool f.sol.lo.strict, .int .i64 f.sol.hi.r.n, .int .i64 f.sol.hi.r.d, .bool f.sol.hi.strict, .slice Aa f.sol.above.length ka, .slice Ab f.sol.below.length kb', .bool f.sol.empty] 125)).alloc (.cells #[.int .i64 m] 3)) (.cells #[.int .i64 0, .int .i64 0] 27)) hb1
  rw [World.size_alloc, World.size_alloc] at h1
  obtain ⟨⟨z0, z1⟩, f0, f1⟩ := blk2 h1
  have hlt := bk_lt h1
  have H1 := Lib.hid h1
  have hB1 : Below w.heap.size w w1 := by (repeat' with_reducible first|assumption|exact Below.refl _ _|apply bl_alloc|apply bl_drewN|apply bl_drew|refine bl_set ?_ (by simp<;>omega) _|refine bl_then ?_ (by assumption))
  clear h1 hb1 HC
  go_wp2
  refine bodyPost_ret (v := .agg #[.int .i64 (f.levelLo m), .int .i64 (f.levelHi m)]) (res_one rfl (.cell (w.heap.size + 2) 27 _ (0, 0) _ rfl (bk_put2 H1.out) Tryz.underlying27 rfl (by kernel_rfl) .nil)) rfl ?_
  exact ⟨rfl, by (repeat' with_reducible first|assumption|exact Below.refl _ _|apply bl_alloc|apply bl_drewN|apply bl_drew|refine bl_set ?_ (by simp<;>omega) _|refine bl_then ?_ (by assumption))⟩
set_option maxRecDepth 100000 in
set_option maxHeartbeats 1000000 in
theorem reached_any (kv : Value) (f : Fl) (m : Int) (w : World) (hk : Kn w kv f) (hf : f.good) (m0 : 0 ≤ m) (m1 : m ≤ f.H) :
    Calls Tryz.prog 88 #[kv, .int .i64 m] w fun e w' => e = .returned (.agg #[.int .i64 (f.reachLo m), .int .i64 (f.reachHi m)]) ∧ Below w.heap.size w w' := by
  obtain ⟨g, va, vb, rfl, hrest⟩ := id hk
  obtain ⟨Aa, ka, Ab, kb', hva, hvb⟩ := hk.shape
  subst hva
  subst hvb
  obtain ⟨hs, _, _⟩ := hrest
  have hH := H_bd hf.v
  obtain ⟨v1, v2, v3, hst, _⟩ := hs
  have c7 := bk_cell hst 7
  simp [stC] at c7
  have hgw := bk_lt hst
  have HK := Lib.hid hk
  clear hk hst
  have hcap : Cap (((w.alloc (.cells (knC g f.sol (.slice Aa f.sol.above.length ka) (.slice Ab f.sol.below.length kb')) 125)).alloc (.cells #[.int .i64 m] 3)).alloc (.cells #[.int .i64 0, .int .i64 0] 27)) w.heap.size (w.heap.size + 1) f m := by
    refine ⟨⟨g, _, _, bk_alloc (bk_alloc (bk_new w _) _) _, HK.out.below (by (repeat' with_reducible first|assumption|exact Below.refl _ _|apply bl_alloc|apply bl_drewN|apply bl_drew|refine bl_set ?_ (by simp<;>omega) _|refine bl_then ?_ (by assumption)))⟩, ?_⟩
    have := bk_alloc (bk_new (w.alloc (.cells (knC g f.sol (.slice Aa f.sol.above.length ka) (.slice Ab f.sol.below.length kb')) 125)) (.cells #[.int .i64 m] 3)) (.cells #[.int .i64 0, .int .i64 0] 27)
    rwa [World.size_alloc] at this
  have HC := Lib.hid hcap
  have c7' := cl_alloc (cl_alloc (cl_alloc c7 (.cells (knC g f.sol (.slice Aa f.sol.above.length ka) (.slice Ab f.sol.below.length kb')) 125)) (.cells #[.int .i64 m] 3)) (.cells #[.int .i64 0, .int .i64 0] 27)
  clear hcap
  unfold knC
  unfold knC at HC c7'
  go_enter Tryz.func88, Tryz.ntmps88
  go_wp2_with fail
  refine (outward_any 2097152 175 177 _ _ _ _ (fun n => decide (0 < n) && f.under m n) (fun n => f.over m n) _ (by omega) (by omega) (enters_of Tryz.func175 (by kernel_rfl) rfl) (enters_of Tryz.func177 (by kernel_rfl) rfl)
    (fun n W h0 h1 hb => reached1_any _ _ f m n W (HC.out.below hb) hf (by omega) (by omega) (by omega) (by omega)) (fun n W h0 h1 hb => reached2_any _ _ f m n W (HC.out.below hb) hf (by omega) (by omega) (by omega) (by omega))).mono ?_
  rintro e1 w1 ⟨rfl, hb1⟩
  have h1 := bk_below (bk_new ((w.alloc (.cells #[.pointer (some ⟨g, 0, none⟩), .int .i64 f.sol.lo.r.n, .int .i64 f.sol.lo.r.d, .bool f.sol.lo.strict, .int .i64 f.sol.hi.r.n, .int .i64 f.sol.hi.r.d, .bool f.sol.hi.strict, .slice Aa f.sol.above.length ka, .slice Ab f.sol.below.length kb', .bool f.sol.empty] 125)).alloc (.cells #[.int .i64 m] 3)) (.cells #[.int .i64 0, .int .i64 0] 27)) hb1
  rw [World.size_alloc, World.size_alloc] at h1
  obtain ⟨⟨z0, z1⟩, f0, f1⟩ := blk2 h1
  have hlt := bk_lt h1
  have H1 := Lib.hid h1
  have hB1 : Below w.heap.size w w1 := by (repeat' with_reducible first|assumption|exact Below.refl _ _|apply bl_alloc|apply bl_drewN|apply bl_drew|refine bl_set ?_ (by simp<;>omega) _|refine bl_then ?_ (by assumption))
  clear h1 hb1 HC
  go_wp2
  refine bodyPost_ret (v := .agg #[.int .i64 (f.reachLo m), .int .i64 (f.reachHi m)]) (res_one rfl (.cell (w.heap.size + 2) 27 _ (0, 0) _ rfl (bk_put2 H1.out) Tryz.underlying27 rfl (by kernel_rfl) .nil)) rfl ?_
  exact ⟨rfl, by (repeat' with_reducible first|assumption|exact Below.refl _ _|apply bl_alloc|apply bl_drewN|apply bl_drew|refine bl_set ?_ (by simp<;>omega) _|refine bl_then ?_ (by assumption))⟩
end Go.Proofs.YtjpagpplkldbkaaGreat
