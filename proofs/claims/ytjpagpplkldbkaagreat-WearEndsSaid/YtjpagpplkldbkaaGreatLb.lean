/- WearLater: its walk on every way. -/
import Derived.Test.YtjpagpplkldbkaaGreatLa
set_option linter.unusedVariables false
set_option linter.unusedSimpArgs false
namespace Go.Proofs.YtjpagpplkldbkaaGreat
open Go.RowKit Go.Shelf WH
theorem rc_zero {f : Fl} {x : Int} (h : f.rcE x = 0) : f.good ∧ f.sol.empty = false ∧ (0 ≤ x ∧ x ≤ f.H) ∧ f.rcLo x = f.reachLo x ∧ f.rcHi x = f.reachHi x := by
  obtain ⟨a, b, c⟩ := rdy_yes h
  exact ⟨good_iff.1 a, c, fromB_iff.1 b, if_pos h, if_pos h⟩
theorem rc_of {f : Fl} {x : Int} (hg : f.good) (hn : f.sol.empty = false) (h0 : 0 ≤ x) (h1 : x ≤ f.H) : f.rcE x = 0 ∧ f.rcLo x = f.reachLo x ∧ f.rcHi x = f.reachHi x := by
  have e : f.rcE x = 0 := by unfold Fl.rcE Fl.rdy; rw [good_iff.2 hg, fromB_iff.2 ⟨h0, h1⟩, hn]; rfl
  exact ⟨e, if_pos e, if_pos e⟩
theorem lv_of {f : Fl} {m : Int} (hg : f.good) (hn : f.sol.empty = false) (h0 : 0 ≤ m) (h1 : m ≤ 2097152) : f.lvE m = 0 ∧ f.lv0 m = f.levelLo m ∧ f.lv1 m = f.levelHi m := by
  have e : f.lvE m = 0 := by unfold Fl.lvE Fl.rdy; rw [good_iff.2 hg, fromB_iff.2 ⟨h0, h1⟩, hn]; rfl
  exact ⟨e, if_pos e, if_pos e⟩
theorem as_of {f : Fl} {x m : Int} (hg : f.good) (hn : f.sol.empty = false) (h0 : 0 ≤ x) (h1 : x ≤ f.H) (h2 : 0 ≤ m) (h3 : m ≤ 2097152) : f.asE x m = 0 ∧ f.suB x m = !f.over x m ∧ f.evB x m = f.ever x m := by
  have e : f.asE x m = 0 := by unfold Fl.asE Fl.rdy; rw [good_iff.2 hg, show askB f x m = true from by unfold askB; rw [fromB_iff.2 ⟨h0, h1⟩, fromB_iff.2 ⟨h2, h3⟩]; rfl, hn]; rfl
  unfold Fl.suB Fl.evB
  rw [e]
  exact ⟨rfl, by simp, by simp⟩
theorem later_any {v : Value} {f : Fl} {w : World} (hf : Fv w v f) (x m k : Int) : Calls Tryz.prog 9 #[v, .int .i64 x, .int .i64 m, .int .i64 k] w fun e w' => e = .returned (.bool true) ∧ Below w.heap.size w w' := by
  rcases @possE_rdy f with ⟨hE, _⟩ | ⟨hE, hg, ho, _⟩ | ⟨hE, hg, ho, _⟩
  · exact later_30 hf hE
  all_goals
    by_cases c1 : m < 0
    · exact later_g0 hf hE (by simpa using c1)
    have d1 : decide (m < 0) = false := by simpa using c1
    by_cases c2 : 1048576 < m
    · exact later_g1 hf hE d1 (by simpa using c2)
    have d2 : decide ((1048576 : Int) < m) = false := by simpa using c2
    by_cases c3 : k < 0
    · exact later_g2 hf hE d1 d2 (by simpa using c3)
    have d3 : decide (k < 0) = false := by simpa using c3
    by_cases c4 : 1048576 < k
    · exact later_g3 hf hE d1 d2 d3 (by simpa using c4)
    have d4 : decide ((1048576 : Int) < k) = false := by simpa using c4
    have hcase : f.rcE x = 0 ∨ f.rcE x = 1 ∨ f.rcE x = 31 := by
      unfold Fl.rcE Fl.rdy
      rw [ho]
      split
      · split
        · split <;> simp
        · simp
      · rename_i h; exact absurd rfl h
    have hno : f.rcE x ≠ 0 → f.rcLo x = 0 ∧ f.rcHi x = 0 := fun h => ⟨if_neg h, if_neg h⟩
    rcases hcase with h0 | h1 | h31
    rotate_left
    · obtain ⟨a, b⟩ := hno (by omega); exact later_e1 hf hE d1 d2 d3 d4 a b h1
    · obtain ⟨a, b⟩ := hno (by omega); exact later_e31 hf hE d1 d2 d3 d4 a b h31
    obtain ⟨_, hn, ⟨hx0, hx1⟩, r1, r2⟩ := rc_zero h0
    obtain ⟨l1, l2, l3⟩ := lv_of (m := m) hg hn (by omega) (by omega)
    obtain ⟨l4, l5, l6⟩ := lv_of (m := m + k) hg hn (by omega) (by omega)
    have lt := level_later hg (m := m) (n := m + k) (by omega)
    have ll := level_le hg hn m
    have rl := reach_le hg hn hx0 hx1
    obtain ⟨a1, a2, a3, a4⟩ := reachLo_spec hg hx0 hx1
    obtain ⟨b1, b2, b3, b4⟩ := reachHi_spec hg hx0 hx1
    obtain ⟨s1, s2, s3⟩ := as_of (m := m) hg hn hx0 hx1 (by omega) (by omega)
    obtain ⟨u1, u2, u3⟩ := as_of (m := f.reachHi x) hg hn hx0 hx1 (by omega) (by omega)
    have hsu : f.suB x (f.reachHi x) = true := by rw [u2, b4 _ (Int.le_refl _)]; rfl
    have e1 : IntKind.i64.wrap (m + k) = m + k := wrapI (by omega) (by omega)
    have t1 : decide (f.levelLo m < f.levelLo (m + k)) = false := by simp; omega
    have t2 : decide (f.levelHi m < f.levelHi (m + k)) = false := by simp; omega
    have t3 : decide (f.levelHi m < f.levelLo m) = false := by simp; omega
    have t4 : decide (f.reachHi x < f.reachLo x) = false := by simp; omega
    have hss : SureSo (f.suB x m) (f.evB x m) (f.reachLo x) (f.reachHi x) m := by
      have si := sure_iff hg hx0 hx1 (m := m) (by omega)
      rw [s2, s3]
      refine ⟨fun h => ?_, ?_, fun h => ?_, fun h => ?_⟩
      · exact sure_ever hg hn hx0 hx1 (by simpa using h)
      · cases ho : f.over x m with
        | false => have := si.1 ho; simp; omega
        | true =>
          have : ¬ f.reachHi x ≤ m := fun h => by rw [si.2 h] at ho; cases ho
          simp; omega
      · simp only [decide_eq_false_iff_not]
        intro hlt
        rw [ever_not hg hx0 hx1 hlt (by omega)] at h
        cases h
      · simp only [decide_eq_false_iff_not]
        intro hlt
        rw [ever_yes hg hx0 hx1 hlt (by omega)] at h
        cases h
    by_cases hp : 0 < x
    · have t5 : decide (0 < x) = true := by simpa using hp
      obtain ⟨v1, v2, v3⟩ := rc_of (x := x - 1) hg hn (by omega) (by omega)
      have lo := reach_lower hg (x := x - 1) (y := x) (by omega) (by omega) hx1
      have e2 : IntKind.i64.wrap (x - 1) = x - 1 := wrapI (by omega) (by have := H_bd hg.v; omega)
      have t6 : decide (f.reachLo (x - 1) < f.reachLo x) = false := by simp; omega
      have t7 : decide (f.reachHi (x - 1) < f.reachHi x) = false := by simp; omega
      by_cases hz : f.reachLo x = 0
      · exact later_uz hf hE d1 d2 d3 d4 r1 r2 h0 l2 l3 l1 l5 l6 l4 e1 t1 t2 t3 t4 t5 v2 v3 v1 e2 t6 t7 rfl s1 rfl hss hsu u1 (by simpa using hz)
      · obtain ⟨x1, x2, x3⟩ := as_of (m := f.reachLo x - 1) hg hn hx0 hx1 (by omega) (by omega)
        exact later_um hf hE d1 d2 d3 d4 r1 r2 h0 l2 l3 l1 l5 l6 l4 e1 t1 t2 t3 t4 t5 v2 v3 v1 e2 t6 t7 rfl s1 rfl hss hsu u1 (by simpa using hz) (by rw [x3]; exact ever_not hg hx0 hx1 (by omega) (by omega)) x1 (wrapI (by omega) (by omega))
    · have t5 : decide (0 < x) = false := by simpa using hp
      by_cases hz : f.reachLo x = 0
      · exact later_lz (y0 := 0) (y1 := 0) hf hE d1 d2 d3 d4 r1 r2 h0 l2 l3 l1 l5 l6 l4 e1 t1 t2 t3 t4 t5 rfl s1 rfl hss hsu u1 (by simpa using hz)
      · obtain ⟨x1, x2, x3⟩ := as_of (m := f.reachLo x - 1) hg hn hx0 hx1 (by omega) (by omega)
        exact later_lm (y0 := 0) (y1 := 0) hf hE d1 d2 d3 d4 r1 r2 h0 l2 l3 l1 l5 l6 l4 e1 t1 t2 t3 t4 t5 rfl s1 rfl hss hsu u1 (by simpa using hz) (by rw [x3]; exact ever_not hg hx0 hx1 (by omega) (by omega)) x1 (wrapI (by omega) (by omega))
end Go.Proofs.YtjpagpplkldbkaaGreat
