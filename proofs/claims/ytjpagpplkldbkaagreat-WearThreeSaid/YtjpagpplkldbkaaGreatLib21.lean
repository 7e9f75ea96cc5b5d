/- The line by which the first level is known; two lines compared at a wear. -/
import Derived.Test.YtjpagpplkldbkaaGreatLib12
import Derived.Test.YtjpagpplkldbkaaGreatLib20
set_option linter.unusedVariables false
set_option linter.unusedSimpArgs false
namespace Go.Proofs.YtjpagpplkldbkaaGreat
open Go.RowKit Go.Shelf WH
attribute [local go_sem] field_lo field_hi
set_option maxRecDepth 100000 in
set_option maxHeartbeats 1000000 in
theorem first_any (g : Nat) (f : Fl) (k : Int) (w : World) (hs : St w g f) (hf : f.good) (k0 : -1 ≤ k) (k1 : k < f.seen.length) :
    Calls Tryz.prog 122 #[.pointer (some ⟨g, 0, none⟩), .int .i64 k] w fun e w' => e = .returned (lnV (f.first k)) ∧ Below w.heap.size w w' := by
  have HST := Lib.hid hs
  have HF := Lib.hid hf
  obtain ⟨vv, sv, tv, hst, _, hss, _⟩ := hs
  have hgl := bk_lt hst
  have hH := H_bd hf.v
  by_cases hk : k = -1
  · subst hk
    have he : f.first (-1) = ⟨0, f.T (lvLo f.lv f.er), false⟩ := by unfold Fl.first; rw [if_pos rfl]
    obtain ⟨a1, a2, a3, a4⟩ := lv_bd hf.look
    obtain ⟨b1, b2, b3, b4⟩ := look_bd hf.look
    have c1 := bk_cell hst 1
    have c2 := bk_cell hst 2
    simp [stC] at c1 c2
    rw [he]
    clear hst hss he
    unfold lnV
    go_enter Tryz.func122, Tryz.ntmps122
    go_wp2_with fail
    refine (levels_any g f f.lv f.er _ (HST.out.below (by (repeat' with_reducible first|assumption|exact Below.refl _ _|apply bl_alloc|apply bl_drewN|apply bl_drew|refine bl_set ?_ (by simp<;>omega) _|refine bl_then ?_ (by assumption)))) HF.out.v ⟨b1, by omega⟩ ⟨b3, b4⟩).mono ?_
    rintro e1 w1 ⟨rfl, hb1⟩
    go_wp2_with fail
    refine (time_agg g f _ _ (HST.out.below (by (repeat' with_reducible first|assumption|exact Below.refl _ _|apply bl_alloc|apply bl_drewN|apply bl_drew|refine bl_set ?_ (by simp<;>omega) _|refine bl_then ?_ (by assumption)))) HF.out.v (by omega) (by omega)).mono ?_
    rintro e2 w2 ⟨rfl, hb2⟩
    have hR := bk_below (bk_below (bk_new w (.cells #[.int .i64 0, .int .i64 0, .int .i64 0, .bool false] 164)) hb1) hb2
    have hB : Below w.heap.size w w2 := by (repeat' with_reducible first|assumption|exact Below.refl _ _|apply bl_alloc|apply bl_drewN|apply bl_drew|refine bl_set ?_ (by simp<;>omega) _|refine bl_then ?_ (by assumption))
    obtain ⟨⟨r0, r1, r2, r3⟩, f0, f1, f2, f3⟩ := blk4 hR
    have hl := bk_lt hR
    have HR := Lib.hid hR
    clear hR hb1 hb2
    go_wp2
    refine bodyPost_ret (v := lnV ⟨0, f.T (lvLo f.lv f.er), false⟩) (res_one rfl (.cell w.heap.size 164 _ (0, 0) _ rfl (bk_put4 HR.out) Tryz.underlying164 rfl (by kernel_rfl) .nil)) rfl ?_
    exact ⟨rfl, by (repeat' with_reducible first|assumption|exact Below.refl _ _|apply bl_alloc|apply bl_drewN|apply bl_drew|refine bl_set ?_ (by simp<;>omega) _|refine bl_then ?_ (by assumption))⟩
  · obtain ⟨j, rfl⟩ : ∃ j : Nat, k = (j : Int) := ⟨k.toNat, by omega⟩
    have hj : j < f.seen.length := by omega
    have he : f.first j = ⟨f.seen[j].lo, f.T (lvLo f.seen[j].lv f.seen[j].er), false⟩ := by
      unfold Fl.first
      rw [if_neg hk, Int.toNat_natCast, List.getElem?_eq_getElem hj]
    obtain ⟨hlk, hwi⟩ := ok_seen hf hj
    obtain ⟨a1, a2, a3, a4⟩ := lv_bd hlk
    obtain ⟨b1, b2, b3, b4⟩ := look_bd hlk
    obtain ⟨As, cs, rfl, hl, hc, hcs⟩ := hss
    obtain ⟨b, off, rfl, hcell⟩ := hcs (by intro h; simp [h] at hj)
    obtain ⟨n0, n1, n2, n3⟩ := sn_cells hcell hj
    have c5 := bk_cell hst 5
    simp [stC] at c5
    have hne : ((j : Int) == -1) = false := by simp
    have hj63 : (j : Int) < 9223372036854775807 := by omega
    have hjl : (j : Int) < (f.seen.length : Int) := by omega
    rw [he]
    clear hst he hcs hcell hk
    go_enter Tryz.func122, Tryz.ntmps122
    go_wp2
    have c5 := cl_alloc c5 (.cells #[.int .i64 0, .int .i64 0, .int .i64 0, .bool false] 164)
    have n0 := cl_alloc n0 (.cells #[.int .i64 0, .int .i64 0, .int .i64 0, .bool false] 164)
    have n2 := cl_alloc n2 (.cells #[.int .i64 0, .int .i64 0, .int .i64 0, .bool false] 164)
    have n3 := cl_alloc n3 (.cells #[.int .i64 0, .int .i64 0, .int .i64 0, .bool false] 164)
    ((refine p_start (by kernel_rfl) ?_); (refine t_enter' 25 ?_); ((refine t_pure 0 (v := ?_) rfl (by kernel_rfl) (fun _ _ _ h => h) rfl ?_ ?_; rotate_left; (focus (intro w_ hS_; have c5 := cl_below hS_ c5; have n0 := cl_below hS_ n0; have n2 := cl_below hS_ n2; have n3 := cl_below hS_ n3; go_simp; (try (first | with_reducible rfl | (constructor <;> with_reducible rfl))); done)); (try simp only [Act.put, List.setIfInBounds_toArray, List.set_cons_zero, List.set_cons_succ]))); ((refine t_pure 1 (v := ?_) rfl (by kernel_rfl) (fun _ _ _ h => h) rfl ?_ ?_; rotate_left; (focus (intro w_ hS_; have c5 := cl_below hS_ c5; have n0 := cl_below hS_ n0; have n2 := cl_below hS_ n2; have n3 := cl_below hS_ n3; go_simp; (try (first | with_reducible rfl | (constructor <;> with_reducible rfl))); done)); (try simp only [Act.put, List.setIfInBounds_toArray, List.set_cons_zero, List.set_cons_succ]))); ((refine t_pure 2 (v := ?_) rfl (by kernel_rfl) (fun _ _ _ h => h) rfl ?_ ?_; rotate_left; (focus (intro w_ hS_; have c5 := cl_below hS_ c5; have n0 := cl_below hS_ n0; have n2 := cl_below hS_ n2; have n3 := cl_below hS_ n3; go_simp; (try (first | with_reducible rfl | (constructor <;> with_reducible rfl))); done)); (try simp only [Act.put, List.setIfInBounds_toArray, List.set_cons_zero, List.set_cons_succ]))); ((refine t_pure 3 (v := ?_) rfl (by kernel_rfl) (fun _ _ _ h => h) rfl ?_ ?_; rotate_left; (focus (intro w_ hS_; have c5 := cl_below hS_ c5; have n0 := cl_below hS_ n0; have n2 := cl_below hS_ n2; have n3 := cl_below hS_ n3; go_simp; (try (first | with_reducible rfl | (constructor <;> with_reducible rfl))); done)); (try simp only [Act.put, List.setIfInBounds_toArray, List.set_cons_zero, List.set_cons_succ]))); ((refine t_pure 4 (v := ?_) rfl (by kernel_rfl) (fun _ _ _ h => h) rfl ?_ ?_; rotate_left; (focus (intro w_ hS_; have c5 := cl_below hS_ c5; have n0 := cl_below hS_ n0; have n2 := cl_below hS_ n2; have n3 := cl_below hS_ n3; go_simp; (try (first | with_reducible rfl | (constructor <;> with_reducible rfl))); done)); (try simp only [Act.put, List.setIfInBounds_toArray, List.set_cons_zero, List.set_cons_succ]))); ((refine t_pure 5 (v := ?_) rfl (by kernel_rfl) (fun _ _ _ h => h) rfl ?_ ?_; rotate_left; (focus (intro w_ hS_; have c5 := cl_below hS_ c5; have n0 := cl_below hS_ n0; have n2 := cl_below hS_ n2; have n3 := cl_below hS_ n3; go_simp; (try (first | with_reducible rfl | (constructor <;> with_reducible rfl))); done)); (try simp only [Act.put, List.setIfInBounds_toArray, List.set_cons_zero, List.set_cons_succ]))); ((refine t_pure 6 (v := ?_) rfl (by kernel_rfl) (fun _ _ _ h => h) rfl ?_ ?_; rotate_left; (focus (intro w_ hS_; have c5 := cl_below hS_ c5; have n0 := cl_below hS_ n0; have n2 := cl_below hS_ n2; have n3 := cl_below hS_ n3; go_simp; (try (first | with_reducible rfl | (constructor <;> with_reducible rfl))); done)); (try simp only [Act.put, List.setIfInBounds_toArray, List.set_cons_zero, List.set_cons_succ]))); ((refine t_pure 7 (v := ?_) rfl (by kernel_rfl) (fun _ _ _ h => h) rfl ?_ ?_; rotate_left; (focus (intro w_ hS_; have c5 := cl_below hS_ c5; have n0 := cl_below hS_ n0; have n2 := cl_below hS_ n2; have n3 := cl_below hS_ n3; go_simp; (try (first | with_reducible rfl | (constructor <;> with_reducible rfl))); done)); (try simp only [Act.put, List.setIfInBounds_toArray, List.set_cons_zero, List.set_cons_succ]))); ((refine t_pure 8 (v := ?_) rfl (by kernel_rfl) (fun _ _ _ h => h) rfl ?_ ?_; rotate_left; (focus (intro w_ hS_; have c5 := cl_below hS_ c5; have n0 := cl_below hS_ n0; have n2 := cl_below hS_ n2; have n3 := cl_below hS_ n3; go_simp; (try (first | with_reducible rfl | (constructor <;> with_reducible rfl))); done)); (try simp only [Act.put, List.setIfInBounds_toArray, List.set_cons_zero, List.set_cons_succ]))); ((refine t_pure 9 (v := ?_) rfl (by kernel_rfl) (fun _ _ _ h => h) rfl ?_ ?_; rotate_left; (focus (intro w_ hS_; have c5 := cl_below hS_ c5; have n0 := cl_below hS_ n0; have n2 := cl_below hS_ n2; have n3 := cl_below hS_ n3; go_simp; (try (first | with_reducible rfl | (constructor <;> with_reducible rfl))); done)); (try simp only [Act.put, List.setIfInBounds_toArray, List.set_cons_zero, List.set_cons_succ]))); ((refine t_pure 10 (v := ?_) rfl (by kernel_rfl) (fun _ _ _ h => h) rfl ?_ ?_; rotate_left; (focus (intro w_ hS_; have c5 := cl_below hS_ c5; have n0 := cl_below hS_ n0; have n2 := cl_below hS_ n2; have n3 := cl_below hS_ n3; go_simp; (try (first | with_reducible rfl | (constructor <;> with_reducible rfl))); done)); (try simp only [Act.put, List.setIfInBounds_toArray, List.set_cons_zero, List.set_cons_succ]))); ((refine t_pure 11 (v := ?_) rfl (by kernel_rfl) (fun _ _ _ h => h) rfl ?_ ?_; rotate_left; (focus (intro w_ hS_; have c5 := cl_below hS_ c5; have n0 := cl_below hS_ n0; have n2 := cl_below hS_ n2; have n3 := cl_below hS_ n3; go_simp; (try (first | with_reducible rfl | (constructor <;> with_reducible rfl))); done)); (try simp only [Act.put, List.setIfInBounds_toArray, List.set_cons_zero, List.set_cons_succ]))); ((refine t_pure 12 (v := ?_) rfl (by kernel_rfl) (fun _ _ _ h => h) rfl ?_ ?_; rotate_left; (focus (intro w_ hS_; have c5 := cl_below hS_ c5; have n0 := cl_below hS_ n0; have n2 := cl_below hS_ n2; have n3 := cl_below hS_ n3; go_simp; (try (first | with_reducible rfl | (constructor <;> with_reducible rfl))); done)); (try simp only [Act.put, List.setIfInBounds_toArray, List.set_cons_zero, List.set_cons_succ]))); ((refine t_pure 13 (v := ?_) rfl (by kernel_rfl) (fun _ _ _ h => h) rfl ?_ ?_; rotate_left; (focus (intro w_ hS_; have c5 := cl_below hS_ c5; have n0 := cl_below hS_ n0; have n2 := cl_below hS_ n2; have n3 := cl_below hS_ n3; go_simp; (try (first | with_reducible rfl | (constructor <;> with_reducible rfl))); done)); (try simp only [Act.put, List.setIfInBounds_toArray, List.set_cons_zero, List.set_cons_succ]))); ((refine t_pure 14 (v := ?_) rfl (by kernel_rfl) (fun _ _ _ h => h) rfl ?_ ?_; rotate_left; (focus (intro w_ hS_; have c5 := cl_below hS_ c5; have n0 := cl_below hS_ n0; have n2 := cl_below hS_ n2; have n3 := cl_below hS_ n3; go_simp; (try (first | with_reducible rfl | (constructor <;> with_reducible rfl))); done)); (try simp only [Act.put, List.setIfInBounds_toArray, List.set_cons_zero, List.set_cons_succ]))); ((refine t_pure 15 (v := ?_) rfl (by kernel_rfl) (fun _ _ _ h => h) rfl ?_ ?_; rotate_left; (focus (intro w_ hS_; have c5 := cl_below hS_ c5; have n0 := cl_below hS_ n0; have n2 := cl_below hS_ n2; have n3 := cl_below hS_ n3; go_simp; (try (first | with_reducible rfl | (constructor <;> with_reducible rfl))); done)); (try simp only [Act.put, List.setIfInBounds_toArray, List.set_cons_zero, List.set_cons_succ]))); ((refine t_pure 16 (v := ?_) rfl (by kernel_rfl) (fun _ _ _ h => h) rfl ?_ ?_; rotate_left; (focus (intro w_ hS_; have c5 := cl_below hS_ c5; have n0 := cl_below hS_ n0; have n2 := cl_below hS_ n2; have n3 := cl_below hS_ n3; go_simp; (try (first | with_reducible rfl | (constructor <;> with_reducible rfl))); done)); (try simp only [Act.put, List.setIfInBounds_toArray, List.set_cons_zero, List.set_cons_succ]))); ((refine t_pure 17 (v := ?_) rfl (by kernel_rfl) (fun _ _ _ h => h) rfl ?_ ?_; rotate_left; (focus (intro w_ hS_; have c5 := cl_below hS_ c5; have n0 := cl_below hS_ n0; have n2 := cl_below hS_ n2; have n3 := cl_below hS_ n3; go_simp; (try (first | with_reducible rfl | (constructor <;> with_reducible rfl))); done)); (try simp only [Act.put, List.setIfInBounds_toArray, List.set_cons_zero, List.set_cons_succ]))); ((refine t_pure 18 (v := ?_) rfl (by kernel_rfl) (fun _ _ _ h => h) rfl ?_ ?_; rotate_left; (focus (intro w_ hS_; have c5 := cl_below hS_ c5; have n0 := cl_below hS_ n0; have n2 := cl_below hS_ n2; have n3 := cl_below hS_ n3; go_simp; (try (first | with_reducible rfl | (constructor <;> with_reducible rfl))); done)); (try simp only [Act.put, List.setIfInBounds_toArray, List.set_cons_zero, List.set_cons_succ]))); ((refine t_pure 19 (v := ?_) rfl (by kernel_rfl) (fun _ _ _ h => h) rfl ?_ ?_; rotate_left; (focus (intro w_ hS_; have c5 := cl_below hS_ c5; have n0 := cl_below hS_ n0; have n2 := cl_below hS_ n2; have n3 := cl_below hS_ n3; go_simp; (try (first | with_reducible rfl | (constructor <;> with_reducible rfl))); done)); (try simp only [Act.put, List.setIfInBounds_toArray, List.set_cons_zero, List.set_cons_succ]))); ((refine t_pure 20 (v := ?_) rfl (by kernel_rfl) (fun _ _ _ h => h) rfl ?_ ?_; rotate_left; (focus (intro w_ hS_; have c5 := cl_below hS_ c5; have n0 := cl_below hS_ n0; have n2 := cl_below hS_ n2; have n3 := cl_below hS_ n3; go_simp; (try (first | with_reducible rfl | (constructor <;> with_reducible rfl))); done)); (try simp only [Act.put, List.setIfInBounds_toArray, List.set_cons_zero, List.set_cons_succ]))); ((refine t_call 21 (v := ?_) rfl (by kernel_rfl) (fun _ _ _ h => h) rfl ?_ ?_ ?_ ?_ ?_; rotate_left 3; (focus (intro w_ hS_; have c5 := cl_below hS_ c5; have n0 := cl_below hS_ n0; have n2 := cl_below hS_ n2; have n3 := cl_below hS_ n3; go_simp; (try (first | with_reducible rfl | (constructor <;> with_reducible rfl))); done)); (focus (intro w_ hS_; have c5 := cl_below hS_ c5; have n0 := cl_below hS_ n0; have n2 := cl_below hS_ n2; have n3 := cl_below hS_ n3; (first | (go_at_call 99; refine (levels_any g f _ _ _ (HST.out.below (by (repeat' with_reducible first|assumption|exact Below.refl _ _|apply bl_alloc|apply bl_drewN|apply bl_drew|refine bl_set ?_ (by simp<;>omega) _|refine bl_then ?_ (by assumption)))) HF.out.v ⟨b1, by omega⟩ ⟨b3, b4⟩).mono ?_; rintro e' w' ⟨rfl, hb⟩) | (go_at_call 103; refine (time_agg g f _ _ (HST.out.below (by (repeat' with_reducible first|assumption|exact Below.refl _ _|apply bl_alloc|apply bl_drewN|apply bl_drew|refine bl_set ?_ (by simp<;>omega) _|refine bl_then ?_ (by assumption)))) HF.out.v (by omega) (by omega)).mono ?_; rintro e' w' ⟨rfl, hb⟩)); refine And.intro ?_ ?_; (focus (with_reducible rfl)); (first | exact bl_then hS_ (by assumption) | assumption))); (try simp only [Act.put, List.setIfInBounds_toArray, List.set_cons_zero, List.set_cons_succ]))); ((refine t_pure 22 (v := ?_) rfl (by kernel_rfl) (fun _ _ _ h => h) rfl ?_ ?_; rotate_left; (focus (intro w_ hS_; have c5 := cl_below hS_ c5; have n0 := cl_below hS_ n0; have n2 := cl_below hS_ n2; have n3 := cl_below hS_ n3; go_simp; (try (first | with_reducible rfl | (constructor <;> with_reducible rfl))); done)); (try simp only [Act.put, List.setIfInBounds_toArray, List.set_cons_zero, List.set_cons_succ]))); ((refine t_call 23 (v := ?_) rfl (by kernel_rfl) (fun _ _ _ h => h) rfl ?_ ?_ ?_ ?_ ?_; rotate_left 3; (focus (intro w_ hS_; have c5 := cl_below hS_ c5; have n0 := cl_below hS_ n0; have n2 := cl_below hS_ n2; have n3 := cl_below hS_ n3; go_simp; (try (first | with_reducible rfl | (constructor <;> with_reducible rfl))); done)); (focus (intro w_ hS_; have c5 := cl_below hS_ c5; have n0 := cl_below hS_ n0; have n2 := cl_below hS_ n2; have n3 := cl_below hS_ n3; (first | (go_at_call 99; refine (levels_any g f _ _ _ (HST.out.below (by (repeat' with_reducible first|assumption|exact Below.refl _ _|apply bl_alloc|apply bl_drewN|apply bl_drew|refine bl_set ?_ (by simp<;>omega) _|refine bl_then ?_ (by assumption)))) HF.out.v ⟨b1, by omega⟩ ⟨b3, b4⟩).mono ?_; rintro e' w' ⟨rfl, hb⟩) | (go_at_call 103; refine (time_agg g f _ _ (HST.out.below (by (repeat' with_reducible first|assumption|exact Below.refl _ _|apply bl_alloc|apply bl_drewN|apply bl_drew|refine bl_set ?_ (by simp<;>omega) _|refine bl_then ?_ (by assumption)))) HF.out.v (by omega) (by omega)).mono ?_; rintro e' w' ⟨rfl, hb⟩)); refine And.intro ?_ ?_; (focus (with_reducible rfl)); (first | exact bl_then hS_ (by assumption) | assumption))); (try simp only [Act.put, List.setIfInBounds_toArray, List.set_cons_zero, List.set_cons_succ]))); ((refine t_pure 24 (v := ?_) rfl (by kernel_rfl) (fun _ _ _ h => h) rfl ?_ ?_; rotate_left; (focus (intro w_ hS_; have c5 := cl_below hS_ c5; have n0 := cl_below hS_ n0; have n2 := cl_below hS_ n2; have n3 := cl_below hS_ n3; go_simp; (try (first | with_reducible rfl | (constructor <;> with_reducible rfl))); done)); (try simp only [Act.put, List.setIfInBounds_toArray, List.set_cons_zero, List.set_cons_succ]))); (refine t_exit (by kernel_rfl) (fun W_ hS_ => ?_)))
    have hR := bk_below (bk_new w (.cells #[.int .i64 0, .int .i64 0, .int .i64 0, .bool false] 164)) hS_
    have hB : Below w.heap.size w W_ := by (repeat' with_reducible first|assumption|exact Below.refl _ _|apply bl_alloc|apply bl_drewN|apply bl_drew|refine bl_set ?_ (by simp<;>omega) _|refine bl_then ?_ (by assumption))
    obtain ⟨⟨r0, r1, r2, r3⟩, f0, f1, f2, f3⟩ := blk4 hR
    have hl := bk_lt hR
    have HR := Lib.hid hR
    clear hR hS_
    (refine p_only 25 rfl (by kernel_rfl) (fun K hK => ?_); go_simp; refine hK.out _ _ ?_; clear hK K; (try simp only [Act.put, List.setIfInBounds_toArray, List.set_cons_zero, List.set_cons_succ]))
    refine wpAny_done (by kernel_rfl) ?_ _
    go_wp2
    refine bodyPost_ret (v := lnV ⟨f.seen[j].lo, f.T (lvLo f.seen[j].lv f.seen[j].er), false⟩) (res_one rfl (.cell w.heap.size 164 _ (0, 0) _ rfl (bk_put4 HR.out) Tryz.underlying164 rfl (by kernel_rfl) .nil)) rfl ?_
    exact ⟨rfl, by (repeat' with_reducible first|assumption|exact Below.refl _ _|apply bl_alloc|apply bl_drewN|apply bl_drew|refine bl_set ?_ (by simp<;>omega) _|refine bl_then ?_ (by assumption))⟩
theorem mul_le2 {a b c d : Int} (h1 : a ≤ b) (h2 : c ≤ d) (h3 : 0 ≤ c) (h4 : 0 ≤ b) : a * c ≤ b * d := Int.mul_le_mul h1 h2 h3 h4
def atK (K N D : Int) (r : Ra) : Int :=
  if K ≤ 0 ∧ 0 ≤ N then (if K = 0 ∧ N = 0 then 0 else -1)
  else if 0 ≤ K ∧ N ≤ 0 then 1
  else if 0 < K then cmpI (1000 * K * r.d * D) (N * r.n)
  else cmpI (-N * r.n) (-1000 * K * r.d * D)
theorem tri (n : Int) : n < 0 ∨ n = 0 ∨ 0 < n := by omega
set_option maxRecDepth 100000 in
set_option maxHeartbeats 1000000 in
theorem at_any (l u : Ln) (r : Ra) (w : World) (hl : Ln.ok l) (hu : Ln.ok u) (n0 : 1 ≤ r.n) (n1 : r.n ≤ 1125899906842624) (d0 : 1 ≤ r.d) (d1 : r.d ≤ 1125899906842624) :
    Calls Tryz.prog 123 #[lnV l, lnV u, raV r] w fun e w' => e = .returned (.int .i64 (atL l u r)) ∧ Below w.heap.size w w' := by
  obtain ⟨b1, b2, b3, _⟩ := less_bd hu hl
  obtain ⟨s1, s2, s3, s4, s5, s6⟩ := hl
  obtain ⟨t1, t2, t3, t4, t5, t6⟩ := hu
  have hd : lessD u.t l.t ≤ 1000000 := by have := mul_le2 t6 s6 (by omega) (by omega); unfold lessD; omega
  have eN : u.t.n * l.t.d - l.t.n * u.t.d = lessN u.t l.t := rfl
  have eD : u.t.d * l.t.d = lessD u.t l.t := rfl
  have ewk : IntKind.i64.wrap (l.slope - u.slope) = l.slope - u.slope := wrapI (by omega) (by omega)
  have EN := Lib.hid eN
  have ED := Lib.hid eD
  have hAT : atL l u r = atK (l.slope - u.slope) (lessN u.t l.t) (lessD u.t l.t) r := rfl
  rw [hAT]
  unfold lnV raV
  clear hAT eN eD
  generalize hN : lessN u.t l.t = N at *
  generalize hD : lessD u.t l.t = D at *
  generalize hK : l.slope - u.slope = K at *
  have k1 : K ≤ 2097152 := by omega
  have k2 : -2097152 ≤ K := by omega
  have q0 : 0 ≤ N * r.n ∨ N < 0 := by rcases tri N with h | h | h; exact .inr h; exact .inl (by subst h; simp); exact .inl (Int.mul_nonneg (by omega) (by omega))
  have EK := Lib.hid hK
  clear hN hD hK
  go_enter Tryz.func123, Tryz.ntmps123
  go_wp2_with fail
  refine (less_any u.t.n u.t.d l.t.n l.t.d _ ⟨by omega, by omega⟩ ⟨by omega, by omega⟩ ⟨by omega, by omega⟩ ⟨by omega, by omega⟩).mono ?_
  rintro e1 w1 ⟨rfl, hb1⟩
  rw [EN.out, ED.out, EK.out]
  have hR := bk_below (bk_new ((w.alloc (.cells #[.int .i64 l.slope, .int .i64 l.t.n, .int .i64 l.t.d, .bool l.strict] 164)).alloc (.cells #[.int .i64 u.slope, .int .i64 u.t.n, .int .i64 u.t.d, .bool u.strict] 164)) (.cells #[.int .i64 r.n, .int .i64 r.d] 41)) hb1
  rw [World.size_alloc, World.size_alloc] at hR
  obtain ⟨⟨r0, r1⟩, _, _⟩ := blk2 hR
  have hB : Below w.heap.size w w1 := by (repeat' with_reducible first|assumption|exact Below.refl _ _|apply bl_alloc|apply bl_drewN|apply bl_drew|refine bl_set ?_ (by simp<;>omega) _|refine bl_then ?_ (by assumption))
  clear hR hb1 EN ED EK
  rcases tri K with hk | hk | hk
  · rcases tri N with hn | hn | hn
    · have leK : decide (K ≤ 0) = true := by simp; try omega
      have geN : decide (0 ≤ N) = false := by simp; try omega
      have eqK : (K == 0) = false := by simp; try omega
      have eqN : (N == 0) = false := by simp; try omega
      have geK : decide (0 ≤ K) = false := by simp; try omega
      have leN : decide (N ≤ 0) = true := by simp; try omega
      have gtK : decide (0 < K) = false := by simp; try omega
      have HE : Hid (atK K N D r = cmpI (-N * r.n) (-1000 * K * r.d * D)) := Lib.hid (by unfold atK; repeat' split <;> first | rfl | omega | (exfalso; omega))
      have m1 : 0 ≤ -1000 * K * r.d := Int.mul_nonneg (by omega) (by omega)
      have m2 : -1000 * K * r.d ≤ 2097152000 * 1125899906842624 := mul_le2 (by omega) d1 (by omega) (by omega)
      have m3 : -1000 * K * r.d * D ≤ 2097152000 * 1125899906842624 * 1000000 := mul_le2 m2 hd (by omega) (by omega)
      have ew1 : IntKind.i64.wrap (-1000 * K) = -1000 * K := wrapI (by omega) (by omega)
      have ew2 : IntKind.i64.wrap (-N) = -N := wrapI (by omega) (by omega)
      go_wp2
      ((refine p_start (by kernel_rfl) ?_); (refine t_enter' 14 ?_); ((refine t_pure 0 (v := ?_) rfl (by kernel_rfl) (fun _ _ _ h => h) rfl ?_ ?_; rotate_left; (focus (intro w_ hS_; have r0 := cl_below hS_ r0; have r1 := cl_below hS_ r1; go_simp; (try (first | with_reducible rfl | (constructor <;> with_reducible rfl))); done)); (try simp only [Act.put, List.setIfInBounds_toArray, List.set_cons_zero, List.set_cons_succ]))); ((refine t_pure 1 (v := ?_) rfl (by kernel_rfl) (fun _ _ _ h => h) rfl ?_ ?_; rotate_left; (focus (intro w_ hS_; have r0 := cl_below hS_ r0; have r1 := cl_below hS_ r1; go_simp; (try (first | with_reducible rfl | (constructor <;> with_reducible rfl))); done)); (try simp only [Act.put, List.setIfInBounds_toArray, List.set_cons_zero, List.set_cons_succ]))); ((refine t_pure 2 (v := ?_) rfl (by kernel_rfl) (fun _ _ _ h => h) rfl ?_ ?_; rotate_left; (focus (intro w_ hS_; have r0 := cl_below hS_ r0; have r1 := cl_below hS_ r1; go_simp; (try (first | with_reducible rfl | (constructor <;> with_reducible rfl))); done)); (try simp only [Act.put, List.setIfInBounds_toArray, List.set_cons_zero, List.set_cons_succ]))); ((refine t_pure 3 (v := ?_) rfl (by kernel_rfl) (fun _ _ _ h => h) rfl ?_ ?_; rotate_left; (focus (intro w_ hS_; have r0 := cl_below hS_ r0; have r1 := cl_below hS_ r1; go_simp; (try (first | with_reducible rfl | (constructor <;> with_reducible rfl))); done)); (try simp only [Act.put, List.setIfInBounds_toArray, List.set_cons_zero, List.set_cons_succ]))); ((refine t_call 4 (v := ?_) rfl (by kernel_rfl) (fun _ _ _ h => h) rfl ?_ ?_ ?_ ?_ ?_; rotate_left 3; (focus (intro w_ hS_; have r0 := cl_below hS_ r0; have r1 := cl_below hS_ r1; go_simp; (try (first | with_reducible rfl | (constructor <;> with_reducible rfl))); done)); (focus (intro w_ hS_; have r0 := cl_below hS_ r0; have r1 := cl_below hS_ r1; (first | (go_at_call 104; refine (times_any _ _ _ (by omega) (by omega) (by omega) (by omega)).mono ?_; rintro e' w' ⟨rfl, hb⟩) | (go_at_call 196; refine (by_any _ D _ m1 b3 (by omega) (by omega)).mono ?_; rintro e' w' ⟨rfl, hb⟩) | (go_at_call 121; refine (wcmp_any _ _ _).mono ?_; rintro e' w' ⟨rfl, hb⟩)); refine And.intro ?_ ?_; (focus (with_reducible rfl)); (first | exact bl_then hS_ (by assumption) | assumption))); (try simp only [Act.put, List.setIfInBounds_toArray, List.set_cons_zero, List.set_cons_succ]))); ((refine t_pure 5 (v := ?_) rfl (by kernel_rfl) (fun _ _ _ h => h) rfl ?_ ?_; rotate_left; (focus (intro w_ hS_; have r0 := cl_below hS_ r0; have r1 := cl_below hS_ r1; go_simp; (try (first | with_reducible rfl | (constructor <;> with_reducible rfl))); done)); (try simp only [Act.put, List.setIfInBounds_toArray, List.set_cons_zero, List.set_cons_succ]))); ((refine t_pure 6 (v := ?_) rfl (by kernel_rfl) (fun _ _ _ h => h) rfl ?_ ?_; rotate_left; (focus (intro w_ hS_; have r0 := cl_below hS_ r0; have r1 := cl_below hS_ r1; go_simp; (try (first | with_reducible rfl | (constructor <;> with_reducible rfl))); done)); (try simp only [Act.put, List.setIfInBounds_toArray, List.set_cons_zero, List.set_cons_succ]))); ((refine t_pure 7 (v := ?_) rfl (by kernel_rfl) (fun _ _ _ h => h) rfl ?_ ?_; rotate_left; (focus (intro w_ hS_; have r0 := cl_below hS_ r0; have r1 := cl_below hS_ r1; go_simp; (try (first | with_reducible rfl | (constructor <;> with_reducible rfl))); done)); (try simp only [Act.put, List.setIfInBounds_toArray, List.set_cons_zero, List.set_cons_succ]))); ((refine t_pure 8 (v := ?_) rfl (by kernel_rfl) (fun _ _ _ h => h) rfl ?_ ?_; rotate_left; (focus (intro w_ hS_; have r0 := cl_below hS_ r0; have r1 := cl_below hS_ r1; go_simp; (try (first | with_reducible rfl | (constructor <;> with_reducible rfl))); done)); (try simp only [Act.put, List.setIfInBounds_toArray, List.set_cons_zero, List.set_cons_succ]))); ((refine t_call 9 (v := ?_) rfl (by kernel_rfl) (fun _ _ _ h => h) rfl ?_ ?_ ?_ ?_ ?_; rotate_left 3; (focus (intro w_ hS_; have r0 := cl_below hS_ r0; have r1 := cl_below hS_ r1; go_simp; (try (first | with_reducible rfl | (constructor <;> with_reducible rfl))); done)); (focus (intro w_ hS_; have r0 := cl_below hS_ r0; have r1 := cl_below hS_ r1; (first | (go_at_call 104; refine (times_any _ _ _ (by omega) (by omega) (by omega) (by omega)).mono ?_; rintro e' w' ⟨rfl, hb⟩) | (go_at_call 196; refine (by_any _ D _ m1 b3 (by omega) (by omega)).mono ?_; rintro e' w' ⟨rfl, hb⟩) | (go_at_call 121; refine (wcmp_any _ _ _).mono ?_; rintro e' w' ⟨rfl, hb⟩)); refine And.intro ?_ ?_; (focus (with_reducible rfl)); (first | exact bl_then hS_ (by assumption) | assumption))); (try simp only [Act.put, List.setIfInBounds_toArray, List.set_cons_zero, List.set_cons_succ]))); ((refine t_pure 10 (v := ?_) rfl (by kernel_rfl) (fun _ _ _ h => h) rfl ?_ ?_; rotate_left; (focus (intro w_ hS_; have r0 := cl_below hS_ r0; have r1 := cl_below hS_ r1; go_simp; (try (first | with_reducible rfl | (constructor <;> with_reducible rfl))); done)); (try simp only [Act.put, List.setIfInBounds_toArray, List.set_cons_zero, List.set_cons_succ]))); ((refine t_call 11 (v := ?_) rfl (by kernel_rfl) (fun _ _ _ h => h) rfl ?_ ?_ ?_ ?_ ?_; rotate_left 3; (focus (intro w_ hS_; have r0 := cl_below hS_ r0; have r1 := cl_below hS_ r1; go_simp; (try (first | with_reducible rfl | (constructor <;> with_reducible rfl))); done)); (focus (intro w_ hS_; have r0 := cl_below hS_ r0; have r1 := cl_below hS_ r1; (first | (go_at_call 104; refine (times_any _ _ _ (by omega) (by omega) (by omega) (by omega)).mono ?_; rintro e' w' ⟨rfl, hb⟩) | (go_at_call 196; refine (by_any _ D _ m1 b3 (by omega) (by omega)).mono ?_; rintro e' w' ⟨rfl, hb⟩) | (go_at_call 121; refine (wcmp_any _ _ _).mono ?_; rintro e' w' ⟨rfl, hb⟩)); refine And.intro ?_ ?_; (focus (with_reducible rfl)); (first | exact bl_then hS_ (by assumption) | assumption))); (try simp only [Act.put, List.setIfInBounds_toArray, List.set_cons_zero, List.set_cons_succ]))); ((refine t_call 12 (v := ?_) rfl (by kernel_rfl) (fun _ _ _ h => h) rfl ?_ ?_ ?_ ?_ ?_; rotate_left 3; (focus (intro w_ hS_; have r0 := cl_below hS_ r0; have r1 := cl_below hS_ r1; go_simp; (try (first | with_reducible rfl | (constructor <;> with_reducible rfl))); done)); (focus (intro w_ hS_; have r0 := cl_below hS_ r0; have r1 := cl_below hS_ r1; (first | (go_at_call 104; refine (times_any _ _ _ (by omega) (by omega) (by omega) (by omega)).mono ?_; rintro e' w' ⟨rfl, hb⟩) | (go_at_call 196; refine (by_any _ D _ m1 b3 (by omega) (by omega)).mono ?_; rintro e' w' ⟨rfl, hb⟩) | (go_at_call 121; refine (wcmp_any _ _ _).mono ?_; rintro e' w' ⟨rfl, hb⟩)); refine And.intro ?_ ?_; (focus (with_reducible rfl)); (first | exact bl_then hS_ (by assumption) | assumption))); (try simp only [Act.put, List.setIfInBounds_toArray, List.set_cons_zero, List.set_cons_succ]))); ((refine t_pure 13 (v := ?_) rfl (by kernel_rfl) (fun _ _ _ h => h) rfl ?_ ?_; rotate_left; (focus (intro w_ hS_; have r0 := cl_below hS_ r0; have r1 := cl_below hS_ r1; go_simp; (try (first | with_reducible rfl | (constructor <;> with_reducible rfl))); done)); (try simp only [Act.put, List.setIfInBounds_toArray, List.set_cons_zero, List.set_cons_succ]))); (refine t_done (by kernel_rfl) (fun W_ hS_ => ?_)))
      go_wp2
      go_ret
      exact ⟨by rw [HE.out]; rfl, by (repeat' with_reducible first|assumption|exact Below.refl _ _|apply bl_alloc|apply bl_drewN|apply bl_drew|refine bl_set ?_ (by simp<;>omega) _|refine bl_then ?_ (by assumption))⟩
    · have leK : decide (K ≤ 0) = true := by simp; try omega
      have geN : decide (0 ≤ N) = true := by simp; try omega
      have eqK : (K == 0) = false := by simp; try omega
      have eqN : (N == 0) = true := by simp; try omega
      have geK : decide (0 ≤ K) = false := by simp; try omega
      have leN : decide (N ≤ 0) = true := by simp; try omega
      have gtK : decide (0 < K) = false := by simp; try omega
      have HE : Hid (atK K N D r = -1) := Lib.hid (by unfold atK; repeat' split <;> first | rfl | omega | (exfalso; omega))
      clear hk hn
      go_wp2
      go_ret
      exact ⟨by rw [HE.out]; rfl, by (repeat' with_reducible first|assumption|exact Below.refl _ _|apply bl_alloc|apply bl_drewN|apply bl_drew|refine bl_set ?_ (by simp<;>omega) _|refine bl_then ?_ (by assumption))⟩
    · have leK : decide (K ≤ 0) = true := by simp; try omega
      have geN : decide (0 ≤ N) = true := by simp; try omega
      have eqK : (K == 0) = false := by simp; try omega
      have eqN : (N == 0) = false := by simp; try omega
      have geK : decide (0 ≤ K) = false := by simp; try omega
      have leN : decide (N ≤ 0) = false := by simp; try omega
      have gtK : decide (0 < K) = false := by simp; try omega
      have HE : Hid (atK K N D r = -1) := Lib.hid (by unfold atK; repeat' split <;> first | rfl | omega | (exfalso; omega))
      clear hk hn
      go_wp2
      go_ret
      exact ⟨by rw [HE.out]; rfl, by (repeat' with_reducible first|assumption|exact Below.refl _ _|apply bl_alloc|apply bl_drewN|apply bl_drew|refine bl_set ?_ (by simp<;>omega) _|refine bl_then ?_ (by assumption))⟩
  · subst hk
    rcases tri N with hn | hn | hn
    · have leK : decide ((0 : Int) ≤ 0) = true := by simp; try omega
      have geN : decide (0 ≤ N) = false := by simp; try omega
      have eqK : ((0 : Int) == 0) = true := by simp; try omega
      have eqN : (N == 0) = false := by simp; try omega
      have geK : decide (0 ≤ (0 : Int)) = true := by simp; try omega
      have leN : decide (N ≤ 0) = true := by simp; try omega
      have gtK : decide (0 < (0 : Int)) = false := by simp; try omega
      have HE : Hid (atK 0 N D r = 1) := Lib.hid (by unfold atK; repeat' split <;> first | rfl | omega | (exfalso; omega))
      clear hn
      go_wp2
      go_ret
      exact ⟨by rw [HE.out]; rfl, by (repeat' with_reducible first|assumption|exact Below.refl _ _|apply bl_alloc|apply bl_drewN|apply bl_drew|refine bl_set ?_ (by simp<;>omega) _|refine bl_then ?_ (by assumption))⟩
    · have leK : decide ((0 : Int) ≤ 0) = true := by simp; try omega
      have geN : decide (0 ≤ N) = true := by simp; try omega
      have eqK : ((0 : Int) == 0) = true := by simp; try omega
      have eqN : (N == 0) = true := by simp; try omega
      have geK : decide (0 ≤ (0 : Int)) = true := by simp; try omega
      have leN : decide (N ≤ 0) = true := by simp; try omega
      have gtK : decide (0 < (0 : Int)) = false := by simp; try omega
      have HE : Hid (atK 0 N D r = 0) := Lib.hid (by unfold atK; repeat' split <;> first | rfl | omega | (exfalso; omega))
      clear hn
      go_wp2
      go_ret
      exact ⟨by rw [HE.out]; rfl, by (repeat' with_reducible first|assumption|exact Below.refl _ _|apply bl_alloc|apply bl_drewN|apply bl_drew|refine bl_set ?_ (by simp<;>omega) _|refine bl_then ?_ (by assumption))⟩
    · have leK : decide ((0 : Int) ≤ 0) = true := by simp; try omega
      have geN : decide (0 ≤ N) = true := by simp; try omega
      have eqK : ((0 : Int) == 0) = true := by simp; try omega
      have eqN : (N == 0) = false := by simp; try omega
      have geK : decide (0 ≤ (0 : Int)) = true := by simp; try omega
      have leN : decide (N ≤ 0) = false := by simp; try omega
      have gtK : decide (0 < (0 : Int)) = false := by simp; try omega
      have HE : Hid (atK 0 N D r = -1) := Lib.hid (by unfold atK; repeat' split <;> first | rfl | omega | (exfalso; omega))
      clear hn
      go_wp2
      go_ret
      exact ⟨by rw [HE.out]; rfl, by (repeat' with_reducible first|assumption|exact Below.refl _ _|apply bl_alloc|apply bl_drewN|apply bl_drew|refine bl_set ?_ (by simp<;>omega) _|refine bl_then ?_ (by assumption))⟩
  · rcases tri N with hn | hn | hn
    · have leK : decide (K ≤ 0) = false := by simp; try omega
      have geN : decide (0 ≤ N) = false := by simp; try omega
      have eqK : (K == 0) = false := by simp; try omega
      have eqN : (N == 0) = false := by simp; try omega
      have geK : decide (0 ≤ K) = true := by simp; try omega
      have leN : decide (N ≤ 0) = true := by simp; try omega
      have gtK : decide (0 < K) = true := by simp; try omega
      have HE : Hid (atK K N D r = 1) := Lib.hid (by unfold atK; repeat' split <;> first | rfl | omega | (exfalso; omega))
      clear hk hn
      go_wp2
      go_ret
      exact ⟨by rw [HE.out]; rfl, by (repeat' with_reducible first|assumption|exact Below.refl _ _|apply bl_alloc|apply bl_drewN|apply bl_drew|refine bl_set ?_ (by simp<;>omega) _|refine bl_then ?_ (by assumption))⟩
    · have leK : decide (K ≤ 0) = false := by simp; try omega
      have geN : decide (0 ≤ N) = true := by simp; try omega
      have eqK : (K == 0) = false := by simp; try omega
      have eqN : (N == 0) = true := by simp; try omega
      have geK : decide (0 ≤ K) = true := by simp; try omega
      have leN : decide (N ≤ 0) = true := by simp; try omega
      have gtK : decide (0 < K) = true := by simp; try omega
      have HE : Hid (atK K N D r = 1) := Lib.hid (by unfold atK; repeat' split <;> first | rfl | omega | (exfalso; omega))
      clear hk hn
      go_wp2
      go_ret
      exact ⟨by rw [HE.out]; rfl, by (repeat' with_reducible first|assumption|exact Below.refl _ _|apply bl_alloc|apply bl_drewN|apply bl_drew|refine bl_set ?_ (by simp<;>omega) _|refine bl_then ?_ (by assumption))⟩
    · have leK : decide (K ≤ 0) = false := by simp; try omega
      have geN : decide (0 ≤ N) = true := by simp; try omega
      have eqK : (K == 0) = false := by simp; try omega
      have eqN : (N == 0) = false := by simp; try omega
      have geK : decide (0 ≤ K) = true := by simp; try omega
      have leN : decide (N ≤ 0) = false := by simp; try omega
      have gtK : decide (0 < K) = true := by simp; try omega
      have HE : Hid (atK K N D r = cmpI (1000 * K * r.d * D) (N * r.n)) := Lib.hid (by unfold atK; repeat' split <;> first | rfl | omega | (exfalso; omega))
      have m1 : 0 ≤ 1000 * K * r.d := Int.mul_nonneg (by omega) (by omega)
      have m2 : 1000 * K * r.d ≤ 2097152000 * 1125899906842624 := mul_le2 (by omega) d1 (by omega) (by omega)
      have m3 : 1000 * K * r.d * D ≤ 2097152000 * 1125899906842624 * 1000000 := mul_le2 m2 hd (by omega) (by omega)
      have ew1 : IntKind.i64.wrap (1000 * K) = 1000 * K := wrapI (by omega) (by omega)
      go_wp2
      ((refine p_start (by kernel_rfl) ?_); (refine t_enter' 13 ?_); ((refine t_pure 0 (v := ?_) rfl (by kernel_rfl) (fun _ _ _ h => h) rfl ?_ ?_; rotate_left; (focus (intro w_ hS_; have r0 := cl_below hS_ r0; have r1 := cl_below hS_ r1; go_simp; (try (first | with_reducible rfl | (constructor <;> with_reducible rfl))); done)); (try simp only [Act.put, List.setIfInBounds_toArray, List.set_cons_zero, List.set_cons_succ]))); ((refine t_pure 1 (v := ?_) rfl (by kernel_rfl) (fun _ _ _ h => h) rfl ?_ ?_; rotate_left; (focus (intro w_ hS_; have r0 := cl_below hS_ r0; have r1 := cl_below hS_ r1; go_simp; (try (first | with_reducible rfl | (constructor <;> with_reducible rfl))); done)); (try simp only [Act.put, List.setIfInBounds_toArray, List.set_cons_zero, List.set_cons_succ]))); ((refine t_pure 2 (v := ?_) rfl (by kernel_rfl) (fun _ _ _ h => h) rfl ?_ ?_; rotate_left; (focus (intro w_ hS_; have r0 := cl_below hS_ r0; have r1 := cl_below hS_ r1; go_simp; (try (first | with_reducible rfl | (constructor <;> with_reducible rfl))); done)); (try simp only [Act.put, List.setIfInBounds_toArray, List.set_cons_zero, List.set_cons_succ]))); ((refine t_pure 3 (v := ?_) rfl (by kernel_rfl) (fun _ _ _ h => h) rfl ?_ ?_; rotate_left; (focus (intro w_ hS_; have r0 := cl_below hS_ r0; have r1 := cl_below hS_ r1; go_simp; (try (first | with_reducible rfl | (constructor <;> with_reducible rfl))); done)); (try simp only [Act.put, List.setIfInBounds_toArray, List.set_cons_zero, List.set_cons_succ]))); ((refine t_call 4 (v := ?_) rfl (by kernel_rfl) (fun _ _ _ h => h) rfl ?_ ?_ ?_ ?_ ?_; rotate_left 3; (focus (intro w_ hS_; have r0 := cl_below hS_ r0; have r1 := cl_below hS_ r1; go_simp; (try (first | with_reducible rfl | (constructor <;> with_reducible rfl))); done)); (focus (intro w_ hS_; have r0 := cl_below hS_ r0; have r1 := cl_below hS_ r1; (first | (go_at_call 104; refine (times_any _ _ _ (by omega) (by omega) (by omega) (by omega)).mono ?_; rintro e' w' ⟨rfl, hb⟩) | (go_at_call 196; refine (by_any _ D _ m1 b3 (by omega) (by omega)).mono ?_; rintro e' w' ⟨rfl, hb⟩) | (go_at_call 121; refine (wcmp_any _ _ _).mono ?_; rintro e' w' ⟨rfl, hb⟩)); refine And.intro ?_ ?_; (focus (with_reducible rfl)); (first | exact bl_then hS_ (by assumption) | assumption))); (try simp only [Act.put, List.setIfInBounds_toArray, List.set_cons_zero, List.set_cons_succ]))); ((refine t_pure 5 (v := ?_) rfl (by kernel_rfl) (fun _ _ _ h => h) rfl ?_ ?_; rotate_left; (focus (intro w_ hS_; have r0 := cl_below hS_ r0; have r1 := cl_below hS_ r1; go_simp; (try (first | with_reducible rfl | (constructor <;> with_reducible rfl))); done)); (try simp only [Act.put, List.setIfInBounds_toArray, List.set_cons_zero, List.set_cons_succ]))); ((refine t_call 6 (v := ?_) rfl (by kernel_rfl) (fun _ _ _ h => h) rfl ?_ ?_ ?_ ?_ ?_; rotate_left 3; (focus (intro w_ hS_; have r0 := cl_below hS_ r0; have r1 := cl_below hS_ r1; go_simp; (try (first | with_reducible rfl | (constructor <;> with_reducible rfl))); done)); (focus (intro w_ hS_; have r0 := cl_below hS_ r0; have r1 := cl_below hS_ r1; (first | (go_at_call 104; refine (times_any _ _ _ (by omega) (by omega) (by omega) (by omega)).mono ?_; rintro e' w' ⟨rfl, hb⟩) | (go_at_call 196; refine (by_any _ D _ m1 b3 (by omega) (by omega)).mono ?_; rintro e' w' ⟨rfl, hb⟩) | (go_at_call 121; refine (wcmp_any _ _ _).mono ?_; rintro e' w' ⟨rfl, hb⟩)); refine And.intro ?_ ?_; (focus (with_reducible rfl)); (first | exact bl_then hS_ (by assumption) | assumption))); (try simp only [Act.put, List.setIfInBounds_toArray, List.set_cons_zero, List.set_cons_succ]))); ((refine t_pure 7 (v := ?_) rfl (by kernel_rfl) (fun _ _ _ h => h) rfl ?_ ?_; rotate_left; (focus (intro w_ hS_; have r0 := cl_below hS_ r0; have r1 := cl_below hS_ r1; go_simp; (try (first | with_reducible rfl | (constructor <;> with_reducible rfl))); done)); (try simp only [Act.put, List.setIfInBounds_toArray, List.set_cons_zero, List.set_cons_succ]))); ((refine t_pure 8 (v := ?_) rfl (by kernel_rfl) (fun _ _ _ h => h) rfl ?_ ?_; rotate_left; (focus (intro w_ hS_; have r0 := cl_below hS_ r0; have r1 := cl_below hS_ r1; go_simp; (try (first | with_reducible rfl | (constructor <;> with_reducible rfl))); done)); (try simp only [Act.put, List.setIfInBounds_toArray, List.set_cons_zero, List.set_cons_succ]))); ((refine t_pure 9 (v := ?_) rfl (by kernel_rfl) (fun _ _ _ h => h) rfl ?_ ?_; rotate_left; (focus (intro w_ hS_; have r0 := cl_below hS_ r0; have r1 := cl_below hS_ r1; go_simp; (try (first | with_reducible rfl | (constructor <;> with_reducible rfl))); done)); (try simp only [Act.put, List.setIfInBounds_toArray, List.set_cons_zero, List.set_cons_succ]))); ((refine t_call 10 (v := ?_) rfl (by kernel_rfl) (fun _ _ _ h => h) rfl ?_ ?_ ?_ ?_ ?_; rotate_left 3; (focus (intro w_ hS_; have r0 := cl_below hS_ r0; have r1 := cl_below hS_ r1; go_simp; (try (first | with_reducible rfl | (constructor <;> with_reducible rfl))); done)); (focus (intro w_ hS_; have r0 := cl_below hS_ r0; have r1 := cl_below hS_ r1; (first | (go_at_call 104; refine (times_any _ _ _ (by omega) (by omega) (by omega) (by omega)).mono ?_; rintro e' w' ⟨rfl, hb⟩) | (go_at_call 196; refine (by_any _ D _ m1 b3 (by omega) (by omega)).mono ?_; rintro e' w' ⟨rfl, hb⟩) | (go_at_call 121; refine (wcmp_any _ _ _).mono ?_; rintro e' w' ⟨rfl, hb⟩)); refine And.intro ?_ ?_; (focus (with_reducible rfl)); (first | exact bl_then hS_ (by assumption) | assumption))); (try simp only [Act.put, List.setIfInBounds_toArray, List.set_cons_zero, List.set_cons_succ]))); ((refine t_call 11 (v := ?_) rfl (by kernel_rfl) (fun _ _ _ h => h) rfl ?_ ?_ ?_ ?_ ?_; rotate_left 3; (focus (intro w_ hS_; have r0 := cl_below hS_ r0; have r1 := cl_below hS_ r1; go_simp; (try (first | with_reducible rfl | (constructor <;> with_reducible rfl))); done)); (focus (intro w_ hS_; have r0 := cl_below hS_ r0; have r1 := cl_below hS_ r1; (first | (go_at_call 104; refine (times_any _ _ _ (by omega) (by omega) (by omega) (by omega)).mono ?_; rintro e' w' ⟨rfl, hb⟩) | (go_at_call 196; refine (by_any _ D _ m1 b3 (by omega) (by omega)).mono ?_; rintro e' w' ⟨rfl, hb⟩) | (go_at_call 121; refine (wcmp_any _ _ _).mono ?_; rintro e' w' ⟨rfl, hb⟩)); refine And.intro ?_ ?_; (focus (with_reducible rfl)); (first | exact bl_then hS_ (by assumption) | assumption))); (try simp only [Act.put, List.setIfInBounds_toArray, List.set_cons_zero, List.set_cons_succ]))); ((refine t_pure 12 (v := ?_) rfl (by kernel_rfl) (fun _ _ _ h => h) rfl ?_ ?_; rotate_left; (focus (intro w_ hS_; have r0 := cl_below hS_ r0; have r1 := cl_below hS_ r1; go_simp; (try (first | with_reducible rfl | (constructor <;> with_reducible rfl))); done)); (try simp only [Act.put, List.setIfInBounds_toArray, List.set_cons_zero, List.set_cons_succ]))); (refine t_done (by kernel_rfl) (fun W_ hS_ => ?_)))
      go_wp2
      go_ret
      exact ⟨by rw [HE.out]; rfl, by (repeat' with_reducible first|assumption|exact Below.refl _ _|apply bl_alloc|apply bl_drewN|apply bl_drew|refine bl_set ?_ (by simp<;>omega) _|refine bl_then ?_ (by assumption))⟩
end Go.Proofs.YtjpagpplkldbkaaGreat
