/- Ratios compared without products: what each round says. -/
import Derived.Test.YtjpagpplkldbkaaGreatLib12
set_option linter.unusedVariables false
set_option linter.unusedSimpArgs false
namespace Go.Proofs.YtjpagpplkldbkaaGreat
open Go.RowKit WH
/-- Two ratios compared. -/
def cmpR (a b : Ra) : Int := cmpI (a.n * b.d) (b.n * a.d)
section
variable {A B C D : Int}
theorem cq_parts (hB : 0 < B) (hD : 0 < D) : A * D - C * B = (A / B - C / D) * (B * D) + (A % B * D - C % D * B) := by
  have h1 := Int.mul_ediv_add_emod A B
  have h2 := Int.mul_ediv_add_emod C D
  generalize A / B = p at *
  generalize C / D = q at *
  generalize A % B = m at *
  generalize C % D = n at *
  subst h1; subst h2
  grind
theorem rest_bd (hB : 0 < B) (hD : 0 < D) : A % B * D - C % D * B < B * D ∧ -(B * D) < A % B * D - C % D * B ∧ 0 ≤ A % B ∧ 0 ≤ C % D ∧ A % B < B ∧ C % D < D := by
  have m0 := Int.emod_nonneg A (show B ≠ 0 by omega)
  have m1 := Int.emod_lt_of_pos A hB
  have n0 := Int.emod_nonneg C (show D ≠ 0 by omega)
  have n1 := Int.emod_lt_of_pos C hD
  have h1 : A % B * D < B * D := Int.mul_lt_mul_of_pos_right m1 hD
  have h2 : C % D * B < D * B := Int.mul_lt_mul_of_pos_right n1 hB
  have h3 : 0 ≤ A % B * D := Int.mul_nonneg m0 (by omega)
  have h4 : 0 ≤ C % D * B := Int.mul_nonneg n0 (by omega)
  have h5 : D * B = B * D := Int.mul_comm _ _
  exact ⟨by omega, by omega, m0, n0, m1, n1⟩
theorem cq_lt (hB : 0 < B) (hD : 0 < D) (h : A / B < C / D) : cmpI (A * D) (C * B) = -1 := by
  have h1 := cq_parts (A := A) (C := C) hB hD
  obtain ⟨r1, r2, _⟩ := rest_bd (A := A) (C := C) hB hD
  have hp : 0 < B * D := Int.mul_pos hB hD
  have h2 : (A / B - C / D) * (B * D) ≤ (-1) * (B * D) := Int.mul_le_mul_of_nonneg_right (by omega) (by omega)
  unfold cmpI
  rw [if_neg (by omega), if_pos (by omega)]
theorem cq_gt (hB : 0 < B) (hD : 0 < D) (h : C / D < A / B) : cmpI (A * D) (C * B) = 1 := by
  have h1 := cq_parts (A := A) (C := C) hB hD
  obtain ⟨r1, r2, _⟩ := rest_bd (A := A) (C := C) hB hD
  have hp : 0 < B * D := Int.mul_pos hB hD
  have h2 : 1 * (B * D) ≤ (A / B - C / D) * (B * D) := Int.mul_le_mul_of_nonneg_right (by omega) (by omega)
  unfold cmpI
  rw [if_neg (by omega), if_neg (by omega)]
theorem cq_eq (hB : 0 < B) (hD : 0 < D) (h : A / B = C / D) : cmpI (A * D) (C * B) = cmpI (A % B * D) (C % D * B) := by
  have h1 := cq_parts (A := A) (C := C) hB hD
  rw [h, Int.sub_self, Int.zero_mul] at h1
  unfold cmpI
  by_cases e1 : A % B * D = C % D * B
  · rw [if_pos e1, if_pos (by omega)]
  · rw [if_neg e1, if_neg (by omega)]
    by_cases e2 : A % B * D < C % D * B
    · rw [if_pos e2, if_pos (by omega)]
    · rw [if_neg e2, if_neg (by omega)]
theorem cq_00 : cmpI (0 * D) (0 * B) = 0 := by simp [cmpI]
theorem cq_0n {n : Int} (hB : 0 < B) (hn : 0 < n) : cmpI (0 * D) (n * B) = -1 := by
  have := Int.mul_pos hn hB
  unfold cmpI
  rw [if_neg (by omega), if_pos (by omega)]
theorem cq_m0 {m : Int} (hD : 0 < D) (hm : 0 < m) : cmpI (m * D) (0 * B) = 1 := by
  have := Int.mul_pos hm hD
  unfold cmpI
  rw [if_neg (by omega), if_neg (by omega)]
theorem cq_flip {m n : Int} : cmpI (m * D) (n * B) = cmpI (D * m) (B * n) := by rw [Int.mul_comm m, Int.mul_comm n]
end
theorem cmpR_le {a b : Ra} : cmpR a b ≤ 0 ↔ a.n * b.d ≤ b.n * a.d := by
  unfold cmpR cmpI
  split
  · omega
  · split <;> omega
end Go.Proofs.YtjpagpplkldbkaaGreat
