/- The pairing of lines, and the solved region. -/
import Derived.Test.YtjpagpplkldbkaaGreatLib7
set_option linter.unusedVariables false
set_option linter.unusedSimpArgs false
namespace Go.Proofs.YtjpagpplkldbkaaGreat
open Go.RowKit WH
structure Ln.ok (l : Ln) : Prop where
  s0 : 0 ≤ l.slope
  s1 : l.slope ≤ 2097152
  n0 : 0 ≤ l.t.n
  n1 : l.t.n ≤ 480000000
  d0 : 1 ≤ l.t.d
  d1 : l.t.d ≤ 1000
/-- Bounds as the work makes them. -/
structure Bd.fit (b : Bd) : Prop where
  n0 : 1 ≤ b.r.n
  n1 : b.r.n ≤ 480000000000
  d0 : 1 ≤ b.r.d
  d1 : b.r.d ≤ 2097152000000
theorem Bd.fit.ok {b : Bd} (h : Bd.fit b) : Bd.ok b := ⟨by have := h.n0; omega, by have := h.n1; omega, by have := h.d0; omega, by have := h.d1; omega⟩
theorem less_bd {u l : Ln} (hu : Ln.ok u) (hl : Ln.ok l) : -480000000000 ≤ lessN u.t l.t ∧ lessN u.t l.t ≤ 480000000000 ∧ 1 ≤ lessD u.t l.t ∧ lessD u.t l.t ≤ 1000000 := by
  have k1 : 0 ≤ u.t.n * l.t.d := Int.mul_nonneg hu.n0 (by have := hl.d0; omega)
  have k2 : u.t.n * l.t.d ≤ 480000000 * 1000 := Int.mul_le_mul hu.n1 hl.d1 (by have := hl.d0; omega) (by omega)
  have k3 : 0 ≤ l.t.n * u.t.d := Int.mul_nonneg hl.n0 (by have := hu.d0; omega)
  have k4 : l.t.n * u.t.d ≤ 480000000 * 1000 := Int.mul_le_mul hl.n1 hu.d1 (by have := hu.d0; omega) (by omega)
  have k5 : 1 * 1 ≤ u.t.d * l.t.d := Int.mul_le_mul hu.d0 hl.d0 (by omega) (by have := hu.d0; omega)
  have k6 : u.t.d * l.t.d ≤ 1000 * 1000 := Int.mul_le_mul hu.d1 hl.d1 (by have := hl.d0; omega) (by omega)
  unfold lessN lessD
  omega
theorem mul_bd {d k : Int} (h1 : 1 ≤ d) (h2 : d ≤ 1000000) (h3 : 1 ≤ k) (h4 : k ≤ 2097152) : 1 ≤ d * k ∧ d * k ≤ 2097152000000 := by
  have k5 : 1 * 1 ≤ d * k := Int.mul_le_mul h1 h3 (by omega) (by omega)
  have k6 : d * k ≤ 1000000 * 2097152 := Int.mul_le_mul h2 h4 (by omega) (by omega)
  omega
theorem pair_fit {r : Rg} {l u : Ln} (h1 : Bd.fit r.lo) (h2 : Bd.fit r.hi) (hl : Ln.ok l) (hu : Ln.ok u) : Bd.fit (r.pair l u).lo ∧ Bd.fit (r.pair l u).hi := by
  obtain ⟨a1, a2, a3, a4⟩ := less_bd hu hl
  have b1 := hl.s0; have b2 := hl.s1; have b3 := hu.s0; have b4 := hu.s1
  unfold Rg.pair
  split
  · exact ⟨h1, h2⟩
  · split
    · split
      · exact ⟨h1, h2⟩
      · unfold Rg.most
        split
        · obtain ⟨m1, m2⟩ := mul_bd a3 a4 (show 1 ≤ l.slope - u.slope by omega) (by omega)
          exact ⟨h1, ⟨by dsimp only; omega, a2, m1, m2⟩⟩
        · exact ⟨h1, h2⟩
    · split
      · unfold Rg.least
        split
        · obtain ⟨m1, m2⟩ := mul_bd a3 a4 (show 1 ≤ -(l.slope - u.slope) by omega) (by omega)
          exact ⟨⟨by dsimp only; omega, by dsimp only; omega, m1, m2⟩, h2⟩
        · exact ⟨h1, h2⟩
      · exact ⟨h1, h2⟩
def lnV (l : Ln) : Value := .agg #[.int .i64 l.slope, .int .i64 l.t.n, .int .i64 l.t.d, .bool l.strict]
/-- A pair's turn, by its numbers. -/
def pairW (r : Rg) (k n d : Int) (s : Bool) : Rg :=
  if k = 0 then { r with empty := r.empty || decide (n < 0) || (decide (n = 0) && s) }
  else if k > 0 then if n ≤ 0 then { r with empty := true } else r.most ⟨⟨n, d * k⟩, s⟩
  else if n < 0 then r.least ⟨⟨-n, d * -k⟩, s⟩ else r
theorem pair_eq (r : Rg) (l u : Ln) : r.pair l u = pairW r (l.slope - u.slope) (u.t.n * l.t.d - l.t.n * u.t.d) (u.t.d * l.t.d) (l.strict || u.strict) := rfl
set_option maxRecDepth 100000 in
set_option maxHeartbeats 1000000 in
theorem pair_any (g : Nat) (r : Rg) (l u : Ln) (va vb : Value) (w : World) (hk : w.heap[g]? = some (.cells (rgC r va vb) 123 (0, 0))) (h1 : Bd.ok r.lo) (h2 : Bd.ok r.hi) (hl : Ln.ok l) (hu : Ln.ok u) :
    Calls Tryz.prog 228 #[.pointer (some ⟨g, 0, none⟩), lnV l, lnV u] w fun e w' => e = .returned (.tuple #[]) ∧ w'.heap[g]? = some (.cells (rgC (r.pair l u) va vb) 123 (0, 0)) ∧ w.grownBy w' (some g) := by
  rw [pair_eq]
  have a0 := less_bd hu hl
  unfold lessN lessD at a0
  have b1 := hl.s0; have b2 := hl.s1; have b3 := hu.s0; have b4 := hu.s1
  have b5 := hl.n0; have b6 := hl.n1; have b7 := hl.d0; have b8 := hl.d1
  have b9 := hu.n0; have b10 := hu.n1; have b11 := hu.d0; have b12 := hu.d1
  have hg := bk_lt hk
  have HK := Lib.hid hk
  clear hk hl hu
  unfold lnV
  obtain ⟨ls, ⟨ln, ld⟩, lx⟩ := l
  obtain ⟨us, ⟨un, ud⟩, ux⟩ := u
  dsimp only at b1 b2 b3 b4 b5 b6 b7 b8 b9 b10 b11 b12 a0 ⊢
  have A0 := Lib.hid a0
  clear a0
  have k1 : -2097152 ≤ ls - us := by omega
  have k2 : ls - us ≤ 2097152 := by omega
  go_enter Tryz.func228, Tryz.ntmps228
  go_wp2_with fail
  refine (less_any _ _ _ _ _ (by omega) (by omega) (by omega) (by omega)).mono ?_
  rintro e' w1 ⟨rfl, hb1⟩
  have hB : Below w.heap.size w w1 := by (repeat' with_reducible first|assumption|exact Below.refl _ _|apply bl_alloc|apply bl_drewN|apply bl_drew|refine bl_set ?_ (by simp<;>omega) _|refine bl_then ?_ (by assumption))
  have hk2 := bk_below HK.out hB
  have hy := bk_below (bk_new (w.alloc (.cells #[.int .i64 ls, .int .i64 ln, .int .i64 ld, .bool lx] 164)) (.cells #[.int .i64 us, .int .i64 un, .int .i64 ud, .bool ux] 164)) hb1
  have hx := bk_below (bk_alloc (bk_new w (.cells #[.int .i64 ls, .int .i64 ln, .int .i64 ld, .bool lx] 164)) (.cells #[.int .i64 us, .int .i64 un, .int .i64 ud, .bool ux] 164)) hb1
  rw [World.size_alloc] at hy
  have hgl := bk_lt hk2
  have c8 := bk_cell hk2 8
  have f8 := bk_fro hk2 8
  have d3 := bk_cell hx 3
  have d4 := bk_cell hy 3
  simp [rgC] at c8 d3 d4
  have a0 := A0.out
  clear A0 b1 b2 b3 b4 b5 b6 b7 b8 b9 b10 b11 b12 hx hy
  have HK2 := Lib.hid hk2
  clear hk2 HK hb1 hg
  generalize hN : un * ld - ln * ud = n at a0 ⊢
  generalize hD : ud * ld = d at a0 ⊢
  generalize hK : ls - us = k at k1 k2 ⊢
  have HN := Lib.hid hN
  have HD := Lib.hid hD
  have HKk := Lib.hid hK
  clear hN hD hK
  obtain ⟨a1, a2, a3, a4⟩ := a0
  have hsx : (if lx = true then (Value.bool true) else (Value.bool ux)) = .bool (lx || ux) := by cases lx <;> simp
  have m1 : 0 < k → 1 ≤ d * k ∧ d * k ≤ 2097152000000 := fun h => mul_bd a3 a4 (by omega) (by omega)
  have m2 : k < 0 → 1 ≤ d * -k ∧ d * -k ≤ 2097152000000 := fun h => mul_bd a3 a4 (by omega) (by omega)
  rcases Int.lt_trichotomy k 0 with hk | hk | hk
  · obtain ⟨m3, m4⟩ := m2 hk
    clear m1 m2
    by_cases hn : n < 0
    · have hfin : pairW r k n d (lx || ux) = r.least ⟨⟨-n, d * -k⟩, lx || ux⟩ := by unfold pairW; rw [if_neg (by omega), if_neg (by omega), if_pos hn]
      have HF := Lib.hid hfin
      clear hfin
      cases lx <;> go_wp2_with (go_at_call 193; refine (least_any g r ⟨⟨-n, d * -k⟩, _⟩ va vb _ HK2.out ⟨by dsimp only; omega, by dsimp only; omega, by dsimp only; omega, by dsimp only; omega⟩ h1).mono ?_; rintro e' w2 ⟨rfl, hk3, hg3⟩)
      all_goals go_end0
      all_goals rw [HN.out, HD.out, HKk.out]
      all_goals first | rw [HF.out] | (have hf := HF.out; simp only [Bool.false_or, Bool.true_or] at hf; rw [hf])
      all_goals exact ⟨rfl, hk3, (gb_below hB _).trans hg3⟩
    · have hfin : pairW r k n d (lx || ux) = r := by unfold pairW; rw [if_neg (by omega), if_neg (by omega), if_neg hn]
      have HF := Lib.hid hfin
      clear hfin
      cases lx <;> go_wp2
      all_goals go_end0
      all_goals rw [HN.out, HD.out, HKk.out]
      all_goals first | rw [HF.out] | (have hf := HF.out; simp only [Bool.false_or, Bool.true_or] at hf; rw [hf])
      all_goals exact ⟨rfl, HK2.out, gb_below hB _⟩
  · subst hk
    clear m1 m2
    have hfin : pairW r 0 n d (lx || ux) = { r with empty := r.empty || decide (n < 0) || (decide (n = 0) && (lx || ux)) } := by unfold pairW; rw [if_pos rfl]
    have HF := Lib.hid hfin
    clear hfin
    rcases Int.lt_trichotomy n 0 with hn | hn | hn
    · have hn0 : decide (n < 0) = true := by simpa using hn
      cases hre : r.empty <;> rw [hre] at c8 <;> cases lx <;> go_wp2
      all_goals go_end0
      all_goals rw [HN.out, HD.out, HKk.out]
      all_goals first | rw [HF.out] | (have hf := HF.out; simp only [Bool.false_or, Bool.true_or] at hf; rw [hf])
      all_goals exact ⟨rfl, bk_put1 HK2.out _ _ (by simp [rgC, hre, hn]), (gb_below hB _).trans (gb_set _ _ _ _)⟩
    · subst hn
      cases hre : r.empty <;> rw [hre] at c8 <;> cases lx <;> go_wp2
      all_goals go_end0
      all_goals rw [HN.out, HD.out, HKk.out]
      all_goals first | rw [HF.out] | (have hf := HF.out; simp only [Bool.false_or, Bool.true_or] at hf; rw [hf])
      all_goals exact ⟨rfl, bk_put1 HK2.out _ _ (by simp [rgC, hre]), (gb_below hB _).trans (gb_set _ _ _ _)⟩
    · have hn0 : decide (n < 0) = false := by simp; omega
      have hn1 : (n == 0) = false := by simp; omega
      have hn2 : ¬ n = 0 := by omega
      cases hre : r.empty <;> rw [hre] at c8 <;> cases lx <;> go_wp2
      all_goals go_end0
      all_goals rw [HN.out, HD.out, HKk.out]
      all_goals first | rw [HF.out] | (have hf := HF.out; simp only [Bool.false_or, Bool.true_or] at hf; rw [hf])
      all_goals exact ⟨rfl, bk_put1 HK2.out _ _ (by simp [rgC, hre, hn2]; try omega), (gb_below hB _).trans (gb_set _ _ _ _)⟩
  · obtain ⟨m3, m4⟩ := m1 hk
    clear m1 m2
    by_cases hn : n ≤ 0
    · have hfin : pairW r k n d (lx || ux) = { r with empty := true } := by unfold pairW; rw [if_neg (by omega), if_pos hk, if_pos hn]
      have HF := Lib.hid hfin
      clear hfin
      cases lx <;> go_wp2
      all_goals go_end0
      all_goals rw [HN.out, HD.out, HKk.out]
      all_goals first | rw [HF.out] | (have hf := HF.out; simp only [Bool.false_or, Bool.true_or] at hf; rw [hf])
      all_goals exact ⟨rfl, bk_put1 HK2.out _ _ (by simp [rgC]), (gb_below hB _).trans (gb_set _ _ _ _)⟩
    · have hfin : pairW r k n d (lx || ux) = r.most ⟨⟨n, d * k⟩, lx || ux⟩ := by unfold pairW; rw [if_neg (by omega), if_pos hk, if_neg hn]
      have HF := Lib.hid hfin
      clear hfin
      cases lx <;> go_wp2_with (go_at_call 194; refine (most_any g r ⟨⟨n, d * k⟩, _⟩ va vb _ HK2.out ⟨by dsimp only; omega, by dsimp only; omega, by dsimp only; omega, by dsimp only; omega⟩ h2).mono ?_; rintro e' w2 ⟨rfl, hk3, hg3⟩)
      all_goals go_end0
      all_goals rw [HN.out, HD.out, HKk.out]
      all_goals first | rw [HF.out] | (have hf := HF.out; simp only [Bool.false_or, Bool.true_or] at hf; rw [hf])
      all_goals exact ⟨rfl, hk3, (gb_below hB _).trans hg3⟩
end Go.Proofs.YtjpagpplkldbkaaGreat
