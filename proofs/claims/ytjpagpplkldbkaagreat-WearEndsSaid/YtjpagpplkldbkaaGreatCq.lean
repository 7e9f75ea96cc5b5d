/- Ratios compared without products: the law's compare. WRITTEN BY wip/tools/gen_cq.py. -/
import Derived.Test.YtjpagpplkldbkaaGreatLib10
import Derived.Test.YtjpagpplkldbkaaGreatPc
set_option linter.unusedVariables false
set_option linter.unusedSimpArgs false
namespace Go.Proofs.YtjpagpplkldbkaaGreat
open Go.RowKit WH
set_option maxRecDepth 100000 in
set_option maxHeartbeats 4000000 in
theorem lcompare_any (a b c d : Int) (w : World) (ha : 0 ≤ a ∧ a ≤ 9223372036854775807) (hb : 0 < b ∧ b ≤ 9223372036854775807) (hc : 0 ≤ c ∧ c ≤ 9223372036854775807) (hd : 0 < d ∧ d ≤ 9223372036854775807) :
    Calls Tryz.prog 35 #[.agg #[.int .i64 a, .int .i64 b], .agg #[.int .i64 c, .int .i64 d]] w fun e w' => e = .returned (.int .i64 (cmpI (a * d) (c * b))) ∧ Below w.heap.size w w' := by
  have hr0 := bk_alloc (bk_new w (.cells #[.int .i64 a, .int .i64 b] 41)) (.cells #[.int .i64 c, .int .i64 d] 41)
  have hs0 := bk_new (w.alloc (.cells #[.int .i64 a, .int .i64 b] 41)) (.cells #[.int .i64 c, .int .i64 d] 41)
  rw [World.size_alloc] at hs0
  have HR0 := Lib.hid hr0
  have HS0 := Lib.hid hs0
  clear hr0 hs0
  go_enter Tryz.func35, Tryz.ntmps35
  go_wp2
  go_loopw [5] (fun _ W => ∃ A B C D : Int, 0 ≤ A ∧ A ≤ 9223372036854775807 ∧ 0 < B ∧ B ≤ 9223372036854775807 ∧ 0 ≤ C ∧ C ≤ 9223372036854775807 ∧ 0 < D ∧ D ≤ 9223372036854775807 ∧ Below w.heap.size w W ∧ W.heap[w.heap.size]? = some (.cells #[.int .i64 A, .int .i64 B] 41 (0, 0)) ∧ W.heap[w.heap.size + 1]? = some (.cells #[.int .i64 C, .int .i64 D] 41 (0, 0)) ∧ cmpI (A * D) (C * B) = cmpI (a * d) (c * b)) (fun _ W => (intOf ((W.cell? ⟨w.heap.size, 1, none⟩).getD undef)).toNat + (intOf ((W.cell? ⟨w.heap.size + 1, 1, none⟩).getD undef)).toNat)
  case atStart => exact ⟨a, b, c, d, ha.1, ha.2, hb.1, hb.2, hc.1, hc.2, hd.1, hd.2, by (repeat' with_reducible first|assumption|exact Below.refl _ _|apply bl_alloc|apply bl_drewN|apply bl_drew|refine bl_set ?_ (by simp<;>omega) _|refine bl_then ?_ (by assumption)), HR0.out, HS0.out, rfl⟩
  case round =>
    clear HR0 HS0
    obtain ⟨A, B, C, D, hA0, hA1, hB0, hB1, hC0, hC1, hD0, hD1, hW, hg1, hg2, hcmp⟩ := hrel
    have hp : IntKind.i64.wrap (A.tdiv B) = A / B := by rw [Int.tdiv_eq_ediv_of_nonneg hA0]; exact wrapI (by have := Int.ediv_nonneg hA0 (show 0 ≤ B by omega); omega) (by have := Int.ediv_le_self B hA0; omega)
    have hq : IntKind.i64.wrap (C.tdiv D) = C / D := by rw [Int.tdiv_eq_ediv_of_nonneg hC0]; exact wrapI (by have := Int.ediv_nonneg hC0 (show 0 ≤ D by omega); omega) (by have := Int.ediv_le_self D hC0; omega)
    obtain ⟨_, _, m0, n0, m1, n1⟩ := rest_bd (A := A) (C := C) hB0 hD0
    have eB : (B == 0) = false := by simp; omega
    have eD : (D == 0) = false := by simp; omega
    obtain ⟨⟨z0, z1⟩, f0, f1⟩ := blk2 hg1
    obtain ⟨⟨z2, z3⟩, f2, f3⟩ := blk2 hg2
    have hl1 := bk_lt hg1
    have hl2 := bk_lt hg2
    have HCL := Lib.hid (@cq_lt A B C D hB0 hD0)
    have HCG := Lib.hid (@cq_gt A B C D hB0 hD0)
    have HCE := Lib.hid (@cq_eq A B C D hB0 hD0)
    have HG1 := Lib.hid hg1
    have HG2 := Lib.hid hg2
    have HCM := Lib.hid hcmp
    clear hg1 hg2 hcmp
    generalize A / B = p at *
    generalize C / D = q at *
    have HM0 := Lib.hid m0
    have HN0 := Lib.hid n0
    rcases Int.lt_trichotomy p q with hlt | heq | hgt
    · have hr : cmpI (a * d) (c * b) = -1 := by rw [← HCM.out]; exact HCL.out hlt
      have e1 : (p != q) = true := by simp; omega
      have e2 : decide (p < q) = true := by simpa using hlt
      have HR := Lib.hid hr
      clear hr
      go_wp2
      go_quiet (fail)
      go_wp2
      go_ret
      exact ⟨congrArg (fun x => Ending.returned (Value.int .i64 x)) HR.out.symm, by (repeat' with_reducible first|assumption|exact Below.refl _ _|apply bl_alloc|apply bl_drewN|apply bl_drew|refine bl_set ?_ (by simp<;>omega) _|refine bl_then ?_ (by assumption))⟩
    · subst heq
      have he : cmpI (a * d) (c * b) = cmpI (A % B * D) (C % D * B) := by rw [← HCM.out]; exact HCE.out rfl
      have HE := Lib.hid he
      clear he

      by_cases hm0 : A % B = 0
      · have em : (A % B == 0) = true := by simpa using hm0
        by_cases hn0 : C % D = 0
        · have en : (C % D == 0) = true := by simpa using hn0
          have hr : cmpI (a * d) (c * b) = 0 := by rw [HE.out, hm0, hn0]; exact cq_00
          clear hm0 hn0
          have HR := Lib.hid hr
          clear hr
          go_wp2
          go_quiet (fail)
          go_wp2
          go_quiet (fail)
          go_wp2
          go_ret
          exact ⟨congrArg (fun x => Ending.returned (Value.int .i64 x)) HR.out.symm, by (repeat' with_reducible first|assumption|exact Below.refl _ _|apply bl_alloc|apply bl_drewN|apply bl_drew|refine bl_set ?_ (by simp<;>omega) _|refine bl_then ?_ (by assumption))⟩
        · have en : (C % D == 0) = false := by simpa using hn0
          have hr : cmpI (a * d) (c * b) = -1 := by rw [HE.out, hm0]; exact cq_0n hB0 (by omega)
          clear hm0 hn0
          have HR := Lib.hid hr
          clear hr
          go_wp2
          go_quiet (fail)
          go_wp2
          go_quiet (fail)
          go_wp2
          go_ret
          exact ⟨congrArg (fun x => Ending.returned (Value.int .i64 x)) HR.out.symm, by (repeat' with_reducible first|assumption|exact Below.refl _ _|apply bl_alloc|apply bl_drewN|apply bl_drew|refine bl_set ?_ (by simp<;>omega) _|refine bl_then ?_ (by assumption))⟩
      · have em : (A % B == 0) = false := by simpa using hm0
        by_cases hn0 : C % D = 0
        · have en : (C % D == 0) = true := by simpa using hn0
          have hr : cmpI (a * d) (c * b) = 1 := by rw [HE.out, hn0]; exact cq_m0 hD0 (by omega)
          clear hm0 hn0
          have HR := Lib.hid hr
          clear hr
          go_wp2
          go_quiet (fail)
          go_wp2
          go_quiet (fail)
          go_wp2
          go_ret
          exact ⟨congrArg (fun x => Ending.returned (Value.int .i64 x)) HR.out.symm, by (repeat' with_reducible first|assumption|exact Below.refl _ _|apply bl_alloc|apply bl_drewN|apply bl_drew|refine bl_set ?_ (by simp<;>omega) _|refine bl_then ?_ (by assumption))⟩
        · have en : (C % D == 0) = false := by simpa using hn0
          have hx : cmpI (D * (A % B)) (B * (C % D)) = cmpI (a * d) (c * b) := by rw [HE.out]; exact cq_flip.symm
          have HX := Lib.hid hx
          have HM1 := Lib.hid hm0
          have HN1 := Lib.hid hn0
          clear hx hm0 hn0
          go_wp2
          go_quiet (fail)
          go_wp2
          go_quiet (fail)
          go_wp2
          go_roundw
          case rel => exact ⟨D, C % D, B, A % B, by omega, hD1, by have := HN0.out; have := HN1.out; omega, by omega, by omega, hB1, by have := HM0.out; have := HM1.out; omega, by omega, by (repeat' with_reducible first|assumption|exact Below.refl _ _|apply bl_alloc|apply bl_drewN|apply bl_drew|refine bl_set ?_ (by simp<;>omega) _|refine bl_then ?_ (by assumption)), bk_far (bk_far (bk_put2 (bk_drewN HG1.out _)) (by simp) _) (by simp) _, bk_put2 (bk_far (bk_far (bk_drewN HG2.out _) (by simp) _) (by simp) _), HX.out⟩
          case measure =>
            have := HM0.out
            have := HN0.out
            have y1 := fun n_ u1 u2 => bk_cell (bk_far (p := ⟨w.heap.size + 1, 1, none⟩) (bk_far (p := ⟨w.heap.size + 1, 0, none⟩) (bk_put2 (a := .int .i64 D) (b := .int .i64 (C % D)) (bk_drewN HG1.out n_)) (by simp) u1) (by simp) u2) 1
            have y2 := fun n_ u1 u2 => bk_cell (bk_put2 (a := .int .i64 B) (b := .int .i64 (A % B)) (bk_far (p := ⟨w.heap.size, 1, none⟩) (bk_far (p := ⟨w.heap.size, 0, none⟩) (bk_drewN HG2.out n_) (by simp) u1) (by simp) u2)) 1
            rw [y1, y2, z1, z3]
            simp [intOf]
            omega
    · have hr : cmpI (a * d) (c * b) = 1 := by rw [← HCM.out]; exact HCG.out hgt
      have e1 : (p != q) = true := by simp; omega
      have e2 : decide (p < q) = false := by simp; omega
      have HR := Lib.hid hr
      clear hr
      go_wp2
      go_quiet (fail)
      go_wp2
      go_ret
      exact ⟨congrArg (fun x => Ending.returned (Value.int .i64 x)) HR.out.symm, by (repeat' with_reducible first|assumption|exact Below.refl _ _|apply bl_alloc|apply bl_drewN|apply bl_drew|refine bl_set ?_ (by simp<;>omega) _|refine bl_then ?_ (by assumption))⟩
end Go.Proofs.YtjpagpplkldbkaaGreat
