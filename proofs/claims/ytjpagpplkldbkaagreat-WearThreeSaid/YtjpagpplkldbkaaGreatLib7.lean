/- Wide numbers and lowest terms. Bounds and regions. -/
import Derived.Laws.ResultCell
import Derived.LoopTactic
import Derived.Deep.RegionHeld3
import Derived.Test.YtjpagpplkldbkaaGreatLib1
import Derived.Test.YtjpagpplkldbkaaGreatLib4
set_option linter.unusedVariables false
set_option linter.unusedSimpArgs false
namespace Go.Proofs.YtjpagpplkldbkaaGreat
open Go.RowKit WH
namespace Mul64
theorem maskN (a : Nat) (ha : a < 18446744073709551616) : bits .and .u64 (a : Int) 4294967295 = ((a % 4294967296 : Nat) : Int) := by
  have h := bits_and_u64_nat a 4294967295 ha (by omega)
  have e : a &&& 4294967295 = a % 4294967296 := Nat.and_two_pow_sub_one_eq_mod a 32
  rw [e] at h
  exact h
theorem divN (a : Nat) : (a : Int) / 4294967296 = ((a / 4294967296 : Nat) : Int) := by omega
theorem mulN (a b : Nat) : (a : Int) * (b : Int) = ((a * b : Nat) : Int) := (Int.natCast_mul a b).symm
theorem addN (a b : Nat) : (a : Int) + (b : Int) = ((a + b : Nat) : Int) := (Int.natCast_add a b).symm
theorem wrapN (a : Nat) (ha : a < 18446744073709551616) : IntKind.u64.wrap (a : Int) = (a : Int) := by rw [IntKind.wrap_u64]; omega
theorem wrapM (a : Nat) : IntKind.u64.wrap (a : Int) = ((a % 18446744073709551616 : Nat) : Int) := by rw [IntKind.wrap_u64]; omega
end Mul64
set_option maxHeartbeats 1000000 in
theorem mul64_any (x y : Nat) (hx : x < 18446744073709551616) (hy : y < 18446744073709551616) (w : World) :
    Calls Tryz.prog 182 #[.int .u64 x, .int .u64 y] w fun e w' => e = .returned (.tuple #[.int .u64 ((x * y / 18446744073709551616 : Nat) : Int), .int .u64 ((x * y % 18446744073709551616 : Nat) : Int)]) ∧ w = w' := by
  obtain ⟨bd, bt, bw, hhi⟩ := Lib.mul64_hi x y hx hy
  have ba := Lib.half_mul_le (a := x / 4294967296) (b := y / 4294967296) (by omega) (by omega)
  have bb := Lib.half_mul_le (a := x / 4294967296) (b := y % 4294967296) (by omega) (by omega)
  have bc := Lib.half_mul_le (a := x % 4294967296) (b := y / 4294967296) (by omega) (by omega)
  have ba' : x / 4294967296 * (y / 4294967296) < 18446744073709551616 := by omega
  have bb' : x / 4294967296 * (y % 4294967296) < 18446744073709551616 := by omega
  have bc' : x % 4294967296 * (y / 4294967296) < 18446744073709551616 := by omega
  have bh1 : x / 4294967296 * (y / 4294967296) + (x / 4294967296 * (y % 4294967296) + x % 4294967296 * (y % 4294967296) / 4294967296) / 4294967296 < 18446744073709551616 := by omega
  have bh : x / 4294967296 * (y / 4294967296) + (x / 4294967296 * (y % 4294967296) + x % 4294967296 * (y % 4294967296) / 4294967296) / 4294967296 + ((x / 4294967296 * (y % 4294967296) + x % 4294967296 * (y % 4294967296) / 4294967296) % 4294967296 + x % 4294967296 * (y / 4294967296)) / 4294967296 < 18446744073709551616 := by omega
  go_enter Tryz.func182, Tryz.ntmps182
  go_wp2
  simp only [Mul64.maskN x hx, Mul64.maskN y hy, Mul64.divN, Mul64.mulN, Mul64.addN, Mul64.wrapN _ bd, Mul64.wrapN _ bb', Mul64.wrapN _ bt, Mul64.maskN _ bt, Mul64.wrapN _ bc', Mul64.wrapN _ bw, Mul64.wrapN _ ba', Mul64.wrapN _ bh1, Mul64.wrapN _ bh, Mul64.wrapM (x * y)]
  rw [hhi]
  go_ret2
  exact ⟨rfl, rfl⟩
/-- The halves of a wide number. -/
def hiW (n : Int) : Int := n / 18446744073709551616
def loW (n : Int) : Int := n % 18446744073709551616
theorem mul64_int (x y : Int) (h0 : 0 ≤ x) (hx : x < 18446744073709551616) (h1 : 0 ≤ y) (hy : y < 18446744073709551616) (w : World) :
    Calls Tryz.prog 182 #[.int .u64 x, .int .u64 y] w fun e w' => e = .returned (.tuple #[.int .u64 (hiW (x * y)), .int .u64 (loW (x * y))]) ∧ w = w' := by
  unfold hiW loW
  obtain ⟨m, rfl⟩ := Int.eq_ofNat_of_zero_le h0
  obtain ⟨n, rfl⟩ := Int.eq_ofNat_of_zero_le h1
  have h := mul64_any m n (by omega) (by omega) w
  rwa [show (((m * n / 18446744073709551616 : Nat) : Int)) = (m : Int) * n / 18446744073709551616 by rw [← Int.natCast_mul]; omega, show (((m * n % 18446744073709551616 : Nat) : Int)) = (m : Int) * n % 18446744073709551616 by rw [← Int.natCast_mul]; omega] at h
theorem hiW_lo {n : Int} (h : 0 ≤ n) : 0 ≤ hiW n := by unfold hiW; omega
theorem hiW_hi {n : Int} (h : n < 340282366920938463463374607431768211456) : hiW n ≤ 18446744073709551615 := by unfold hiW; omega
theorem loW_lo (n : Int) : 0 ≤ loW n := by unfold loW; omega
theorem loW_hi (n : Int) : loW n ≤ 18446744073709551615 := by unfold loW; omega
set_option maxRecDepth 100000 in
set_option maxHeartbeats 1000000 in
theorem times_any (a b : Int) (w : World) (h1 : 0 ≤ a) (h2 : a ≤ 9223372036854775807) (h3 : 0 ≤ b) (h4 : b ≤ 9223372036854775807) :
    Calls Tryz.prog 104 #[.int .i64 a, .int .i64 b] w fun e w' => e = .returned (.agg #[.int .u64 (hiW (a * b)), .int .u64 (loW (a * b))]) ∧ Below w.heap.size w w' := by
  go_enter Tryz.func104, Tryz.ntmps104
  go_wp2_with (go_at_call 182; refine (mul64_int _ _ (by omega) (by omega) (by omega) (by omega) _).mono ?_; rintro e' w' ⟨rfl, rfl⟩)
  refine bodyPost_ret (v := .agg #[.int .u64 (hiW (a * b)), .int .u64 (loW (a * b))]) (by simp [results, Tryz.results104, go_sem, *]) rfl ?_
  exact ⟨rfl, by (repeat' with_reducible first|assumption|exact Below.refl _ _|apply bl_alloc|apply bl_drewN|apply bl_drew|refine bl_set ?_ (by simp<;>omega) _|refine bl_then ?_ (by assumption))⟩
theorem wide_eq (a b : Int) : hiW a = hiW b ∧ loW a = loW b ↔ a = b := by unfold hiW loW; omega
theorem wide_lt (a b : Int) : hiW a < hiW b ∨ hiW a = hiW b ∧ loW a < loW b ↔ a < b := by unfold hiW loW; omega
set_option maxRecDepth 100000 in
set_option maxHeartbeats 1000000 in
theorem wcmp_any (a b : Int) (w : World) :
    Calls Tryz.prog 121 #[.agg #[.int .u64 (hiW a), .int .u64 (loW a)], .agg #[.int .u64 (hiW b), .int .u64 (loW b)]] w fun e w' => e = .returned (.int .i64 (cmpI a b)) ∧ Below w.heap.size w w' := by
  have k1 := Lib.hid (wide_eq a b)
  have k2 := Lib.hid (wide_lt a b)
  go_enter Tryz.func121, Tryz.ntmps121
  go_wp2
  all_goals go_ret
  all_goals refine ⟨?_, by (repeat' with_reducible first|assumption|exact Below.refl _ _|apply bl_alloc|apply bl_drewN|apply bl_drew|refine bl_set ?_ (by simp<;>omega) _|refine bl_then ?_ (by assumption))⟩
  all_goals have j1 := k1.out
  all_goals have j2 := k2.out
  all_goals clear k1 k2
  all_goals simp only [Array.getD, List.size_toArray, List.length_cons, List.length_nil, Array.getInternal, List.getElem_toArray, List.getElem_cons_succ, List.getElem_cons_zero, Nat.reduceAdd, Nat.reduceLT, dite_true, cmpI]
  all_goals congr 2
  all_goals split
  all_goals first | rfl | omega | (split <;> first | rfl | omega)
theorem by_eq (a n : Int) (h1 : 0 ≤ a) (h3 : 0 ≤ n) (hp : a * n < 340282366920938463463374607431768211456) :
    hiW (loW a * n) + hiW a * n = hiW (a * n) ∧ loW (loW a * n) = loW (a * n) ∧ 0 ≤ hiW a * n ∧ hiW (a * n) ≤ 18446744073709551615 ∧ 0 ≤ hiW (loW a * n) := by
  have e : a * n = 18446744073709551616 * (hiW a * n) + loW a * n := by
    have : a = 18446744073709551616 * hiW a + loW a := by unfold hiW loW; omega
    rw [← Int.mul_assoc, ← Int.add_mul, ← this]
  have k1 : 0 ≤ loW a * n := Int.mul_nonneg (loW_lo a) h3
  have k2 : 0 ≤ hiW a * n := Int.mul_nonneg (hiW_lo h1) h3
  generalize loW a * n = p at *
  generalize hiW a * n = q at *
  unfold hiW loW
  omega
set_option maxRecDepth 100000 in
set_option maxHeartbeats 1000000 in
theorem by_any (a n : Int) (w : World) (h1 : 0 ≤ a) (h3 : 1 ≤ n) (h4 : n ≤ 9223372036854775807) (hp : a * n < 340282366920938463463374607431768211456) :
    Calls Tryz.prog 196 #[.agg #[.int .u64 (hiW a), .int .u64 (loW a)], .int .i64 n] w fun e w' => e = .returned (.agg #[.int .u64 (hiW (a * n)), .int .u64 (loW (a * n))]) ∧ Below w.heap.size w w' := by
  have b1 := hiW_lo h1
  have b3 := loW_lo a
  have b4 := loW_hi a
  obtain ⟨e1, e2, b5, b6, b7⟩ := by_eq a n h1 (by omega) hp
  have b8 : hiW (loW a * n) + hiW a * n ≤ 18446744073709551615 := by omega
  have b9 := hiW_hi hp
  have b10 : hiW a ≤ 18446744073709551615 := by
    have : hiW a ≤ hiW a * n := by have := Int.mul_le_mul_of_nonneg_left h3 b1; omega
    omega
  have E1 := Lib.hid e1
  have E2 := Lib.hid e2
  clear e1 e2
  go_enter Tryz.func196, Tryz.ntmps196
  go_wp2_with (go_at_call 182; refine (mul64_int _ _ (by omega) (by omega) (by omega) (by omega) _).mono ?_; rintro e' w' ⟨rfl, rfl⟩)
  rw [← E1.out, ← E2.out]
  refine bodyPost_ret (v := .agg #[.int .u64 (hiW (loW a * n) + hiW a * n), .int .u64 (loW (loW a * n))]) (by simp [results, Tryz.results196, go_sem, *]) rfl ?_
  exact ⟨rfl, by (repeat' with_reducible first|assumption|exact Below.refl _ _|apply bl_alloc|apply bl_drewN|apply bl_drew|refine bl_set ?_ (by simp<;>omega) _|refine bl_then ?_ (by assumption))⟩
/-- A ratio in lowest terms. -/
def lowN (n d : Int) : Int := n / (Int.gcd n d : Int)
def lowD (n d : Int) : Int := d / (Int.gcd n d : Int)
theorem gcd_step (a b : Int) (ha : 0 ≤ a) (hb : 0 < b) : Int.gcd b (a % b) = Int.gcd a b := by
  obtain ⟨m, rfl⟩ := Int.eq_ofNat_of_zero_le ha
  obtain ⟨n, rfl⟩ := Int.eq_ofNat_of_zero_le (Int.le_of_lt hb)
  rw [← Int.natCast_emod]
  simp only [Int.gcd_natCast_natCast]
  rw [Nat.gcd_comm m n, Nat.gcd_comm n (m % n), ← Nat.gcd_rec]
set_option maxRecDepth 100000 in
set_option maxHeartbeats 1000000 in
theorem lowest_any (n d : Int) (w : World) (h1 : 0 ≤ n) (h2 : n ≤ 9223372036854775807) (h3 : 0 < d) (h4 : d ≤ 9223372036854775807) :
    Calls Tryz.prog 189 #[.int .i64 n, .int .i64 d] w fun e w' => e = .returned (.agg #[.int .i64 (lowN n d), .int .i64 (lowD n d)]) ∧ Below w.heap.size w w' := by
  go_enter Tryz.func189, Tryz.ntmps189
  go_wp2
  go_loopw [5, 6] (fun a b W => ∃ x y : Int, a = .int .i64 x ∧ b = .int .i64 y ∧ 0 ≤ x ∧ 0 ≤ y ∧ x ≤ 9223372036854775807 ∧ y ≤ 9223372036854775807 ∧ 0 < x + y ∧ Int.gcd x y = Int.gcd n d ∧ ∃ m, W = (w.alloc (.cells #[.int .i64 0, .int .i64 0] 41)).drewN m) (fun _ b _ => (intOf b).toNat)
  case atStart => exact ⟨n, d, rfl, rfl, h1, by omega, h2, h4, by omega, rfl, 0, rfl⟩
  case round =>
    obtain ⟨x, y, rfl, rfl, hx, hy, hx2, hy2, hxy, hg, m, rfl⟩ := hrel
    have HG := Lib.hid hg
    clear hg
    by_cases hz : y = 0
    · subst hz
      have hx0 : 0 < x := by omega
      go_wp2
      go_region
      go_wp2
      have hG : Int.gcd n d = x.toNat := by rw [← HG.out]; simp; omega
      have e1 : n / x = lowN n d := by unfold lowN; rw [hG]; congr 1; omega
      have e2 : d / x = lowD n d := by unfold lowD; rw [hG]; congr 1; omega
      rw [e1, e2]
      refine bodyPost_ret (v := .agg #[.int .i64 (lowN n d), .int .i64 (lowD n d)]) (by simp [results, Tryz.results189, go_sem, *]) rfl ?_
      exact ⟨rfl, by (repeat' with_reducible first|assumption|exact Below.refl _ _|apply bl_alloc|apply bl_drewN|apply bl_drew|refine bl_set ?_ (by simp<;>omega) _|refine bl_then ?_ (by assumption))⟩
    · have hy0 : 0 < y := by omega
      go_wp2
      go_quiet (fail)
      go_wp2
      go_roundw
      case rel => exact ⟨y, x % y, rfl, rfl, hy, Int.emod_nonneg _ (by omega), hy2, by have := Int.emod_lt_of_pos x hy0; omega, by have := Int.emod_nonneg x (show y ≠ 0 by omega); omega, by rw [gcd_step x y hx hy0]; exact HG.out, _, World.drewN_drewN ..⟩
      case measure => have := Int.emod_nonneg x (show y ≠ 0 by omega); have := Int.emod_lt_of_pos x hy0; simp [intOf]; omega
end Go.Proofs.YtjpagpplkldbkaaGreat
set_option linter.unusedVariables false
set_option linter.unusedSimpArgs false
namespace Go.Proofs.YtjpagpplkldbkaaGreat
open Go.RowKit WH
set_option maxRecDepth 100000 in
set_option maxHeartbeats 1000000 in
theorem ratio_any (n d : Int) (w : World) : Calls Tryz.prog 192 #[.int .i64 n, .int .i64 d] w fun e w' => e = .returned (.agg #[.int .i64 n, .int .i64 d, .bool false]) ∧ Below w.heap.size w w' := by
  go_enter Tryz.func192, Tryz.ntmps192
  go_wp2
  refine bodyPost_ret (v := .agg #[.int .i64 n, .int .i64 d, .bool false]) (by simp [results, Tryz.results192, go_sem, *]) rfl ?_
  exact ⟨rfl, by (repeat' with_reducible first|assumption|exact Below.refl _ _|apply bl_alloc|apply bl_drewN|apply bl_drew|refine bl_set ?_ (by simp<;>omega) _|refine bl_then ?_ (by assumption))⟩
set_option maxRecDepth 100000 in
set_option maxHeartbeats 1000000 in
theorem bcmp_any (a b c d : Int) (s t : Bool) (w : World) (h1 : 0 ≤ a) (h2 : a ≤ 9223372036854775807) (h3 : 0 ≤ b) (h4 : b ≤ 9223372036854775807) (h5 : 0 ≤ c) (h6 : c ≤ 9223372036854775807) (h7 : 0 ≤ d) (h8 : d ≤ 9223372036854775807) :
    Calls Tryz.prog 229 #[.agg #[.int .i64 a, .int .i64 b, .bool s], .agg #[.int .i64 c, .int .i64 d, .bool t]] w fun e w' => e = .returned (.int .i64 (cmpI (a * d) (c * b))) ∧ Below w.heap.size w w' := by
  go_enter Tryz.func229, Tryz.ntmps229
  go_wp2
  go_region_held3 (fun W => Below w.heap.size w W ∧ W.cell? ⟨w.heap.size, 0, none⟩ = some (.int .i64 a) ∧ W.cell? ⟨w.heap.size, 1, none⟩ = some (.int .i64 b) ∧ W.cell? ⟨w.heap.size + 1, 0, none⟩ = some (.int .i64 c) ∧ W.cell? ⟨w.heap.size + 1, 1, none⟩ = some (.int .i64 d)) (first | (with_reducible exact kp1 (by assumption) (by assumption)) | (with_reducible exact kp2 (by assumption) (by assumption)) | (with_reducible exact kp3 (by assumption) (by assumption)) | (with_reducible exact kp4 (by assumption) (by assumption)) | (with_reducible exact kp5 (by assumption) (by assumption)) | (with_reducible exact kp6 (by assumption) (by assumption)) | (with_reducible exact kp7 (by assumption) (by assumption)) | (with_reducible exact kp8 (by assumption) (by assumption)) | (with_reducible exact kp9 (by assumption) (by assumption)) | (with_reducible exact kp10 (by assumption) (by assumption)) | ((repeat' apply And.intro) <;> first | ((repeat' with_reducible first|assumption|exact Below.refl _ _|apply bl_alloc|apply bl_drewN|apply bl_drew|refine bl_set ?_ (by simp<;>omega) _|refine bl_then ?_ (by assumption)); done) | (simp; done) | (simp only [World.cell?_drew, World.cell?_drewN]; first | assumption | (exact cl_alloc (by assumption) _) | (exact cl_alloc (cl_alloc (by assumption) _) _) | (exact cl_alloc (cl_alloc (cl_alloc (by assumption) _) _) _)) | (simp [*, World.cell?_alloc_some, World.cell?_setCell_far]; done))) (first | (go_at_call 104; refine (times_any _ _ _ (by omega) (by omega) (by omega) (by omega)).mono ?_; rintro e' w' ⟨rfl, hb⟩) | (go_at_call 121; refine (wcmp_any _ _ _).mono ?_; rintro e' w' ⟨rfl, hb⟩))
  go_wp2
  go_ret
  exact ⟨rfl, by (repeat' with_reducible first|assumption|exact Below.refl _ _|apply bl_alloc|apply bl_drewN|apply bl_drew|refine bl_set ?_ (by simp<;>omega) _|refine bl_then ?_ (by assumption))⟩
/-- A region's cells; its lines lie elsewhere. -/
def rgC (r : Rg) (va vb : Value) : Array Value := #[.int .i64 r.lo.r.n, .int .i64 r.lo.r.d, .bool r.lo.strict, .int .i64 r.hi.r.n, .int .i64 r.hi.r.d, .bool r.hi.strict, va, vb, .bool r.empty]
structure Bd.ok (b : Bd) : Prop where
  n0 : 0 ≤ b.r.n
  n1 : b.r.n ≤ 9223372036854775807
  d0 : 0 ≤ b.r.d
  d1 : b.r.d ≤ 9223372036854775807
theorem cases3 {p q : Prop} : p ∨ (¬ p ∧ q) ∨ (¬ p ∧ ¬ q) := by
  by_cases h : p
  · exact .inl h
  · by_cases k : q
    · exact .inr (.inl ⟨h, k⟩)
    · exact .inr (.inr ⟨h, k⟩)
set_option maxRecDepth 100000 in
set_option maxHeartbeats 1000000 in
theorem least_any (g : Nat) (r : Rg) (b : Bd) (va vb : Value) (w : World) (hk : w.heap[g]? = some (.cells (rgC r va vb) 123 (0, 0))) (h1 : Bd.ok b) (h2 : Bd.ok r.lo) :
    Calls Tryz.prog 193 #[.pointer (some ⟨g, 0, none⟩), .agg #[.int .i64 b.r.n, .int .i64 b.r.d, .bool b.strict]] w fun e w' => e = .returned (.tuple #[]) ∧ w'.heap[g]? = some (.cells (rgC (r.least b) va vb) 123 (0, 0)) ∧ w.grownBy w' (some g) := by
  have hfin : r.least b = if b.cmp r.lo > 0 then { r with lo := b } else if b.cmp r.lo = 0 ∧ b.strict = true then { r with lo := b } else r := by
    unfold Rg.least; by_cases p : b.cmp r.lo > 0 <;> by_cases q : b.cmp r.lo = 0 ∧ b.strict = true <;> simp [p, q]
  unfold Bd.cmp at hfin
  obtain ⟨⟨⟨ln, ld⟩, ls⟩, ⟨⟨hn, hd⟩, hs⟩, la, lb, em⟩ := r
  obtain ⟨⟨bn, bd⟩, bs⟩ := b
  obtain ⟨a1, a2, a3, a4⟩ := h1
  obtain ⟨a5, a6, a7, a8⟩ := h2
  dsimp only at a1 a2 a3 a4 a5 a6 a7 a8 hfin
  have hg := bk_lt hk
  have c0 := bk_cell hk 0
  have c1 := bk_cell hk 1
  have c2 := bk_cell hk 2
  simp [rgC] at c0 c1 c2
  have HK := Lib.hid hk
  have HF := Lib.hid hfin
  clear hk hfin
  dsimp only
  go_enter Tryz.func193, Tryz.ntmps193
  go_wp2
  go_region_held3 (fun W => Below w.heap.size w W ∧ W.cell? ⟨g, 0, none⟩ = some (.int .i64 ln) ∧ W.cell? ⟨g, 1, none⟩ = some (.int .i64 ld) ∧ W.cell? ⟨g, 2, none⟩ = some (.bool ls) ∧ W.cell? ⟨w.heap.size, 0, none⟩ = some (.int .i64 bn) ∧ W.cell? ⟨w.heap.size, 1, none⟩ = some (.int .i64 bd) ∧ W.cell? ⟨w.heap.size, 2, none⟩ = some (.bool bs)) (first | (with_reducible exact kp1 (by assumption) (by assumption)) | (with_reducible exact kp2 (by assumption) (by assumption)) | (with_reducible exact kp3 (by assumption) (by assumption)) | (with_reducible exact kp4 (by assumption) (by assumption)) | (with_reducible exact kp5 (by assumption) (by assumption)) | (with_reducible exact kp6 (by assumption) (by assumption)) | (with_reducible exact kp7 (by assumption) (by assumption)) | (with_reducible exact kp8 (by assumption) (by assumption)) | (with_reducible exact kp9 (by assumption) (by assumption)) | (with_reducible exact kp10 (by assumption) (by assumption)) | ((repeat' apply And.intro) <;> first | ((repeat' with_reducible first|assumption|exact Below.refl _ _|apply bl_alloc|apply bl_drewN|apply bl_drew|refine bl_set ?_ (by simp<;>omega) _|refine bl_then ?_ (by assumption)); done) | (simp; done) | (simp only [World.cell?_drew, World.cell?_drewN]; first | assumption | (exact cl_alloc (by assumption) _) | (exact cl_alloc (cl_alloc (by assumption) _) _) | (exact cl_alloc (cl_alloc (cl_alloc (by assumption) _) _) _)) | (simp [*, World.cell?_alloc_some, World.cell?_setCell_far]; done))) (first | (go_at_call 229; refine (bcmp_any _ _ _ _ _ _ _ (by omega) (by omega) (by omega) (by omega) (by omega) (by omega) (by omega) (by omega)).mono ?_; rintro e' w' ⟨rfl, hb⟩))
  have hx := bk_below (bk_drew (bk_new w (.cells #[.int .i64 bn, .int .i64 bd, .bool bs] 120))) hb
  have hB : Below w.heap.size w w' := by (repeat' with_reducible first|assumption|exact Below.refl _ _|apply bl_alloc|apply bl_drewN|apply bl_drew|refine bl_set ?_ (by simp<;>omega) _|refine bl_then ?_ (by assumption))
  have hk2 := bk_below HK.out hB
  have hlt : w.heap.size < w'.heap.size := bk_lt hx
  have d0 := bk_cell hx 0
  have d1 := bk_cell hx 1
  have d2 := bk_cell hx 2
  have e0 := bk_cell hk2 0
  have e1 := bk_cell hk2 1
  have e2 := bk_cell hk2 2
  have f0 := bk_fro hk2 0
  have f1 := bk_fro hk2 1
  have f2 := bk_fro hk2 2
  simp [rgC] at d0 d1 d2 e0 e1 e2
  have H2 := Lib.hid hk2
  clear hx hk2 c0 c1 c2 hb
  generalize hc : cmpI (bn * ld) (ln * bd) = c at HF ⊢
  clear hc
  rcases @cases3 (c > 0) (c = 0 ∧ bs = true) with hcc | ⟨hcc, hcd⟩ | ⟨hcc, hcd⟩
  · have HF' := HF.out
    rw [if_pos hcc] at HF'
    have HF2 := Lib.hid HF'
    clear HF' HF
    skip
    go_wp2
    go_end0
    refine ⟨rfl, ?_, (gb_below hB _).trans (gb_set3 _ _ _ _ _ _ _ _)⟩
    rw [HF2.out]
    exact bk_put3 H2.out _ _ _ _ _ _ (by simp [rgC])
  · have HF' := HF.out
    rw [if_neg hcc, if_pos hcd] at HF'
    have HF2 := Lib.hid HF'
    clear HF' HF
    obtain ⟨rfl, rfl⟩ := hcd
    go_wp2
    go_end0
    refine ⟨rfl, ?_, (gb_below hB _).trans (gb_set3 _ _ _ _ _ _ _ _)⟩
    rw [HF2.out]
    exact bk_put3 H2.out _ _ _ _ _ _ (by simp [rgC])
  · have HF' := HF.out
    rw [if_neg hcc, if_neg hcd] at HF'
    have HF2 := Lib.hid HF'
    clear HF' HF
    by_cases hz : c = 0
    · subst hz
      obtain rfl : bs = false := by simpa using hcd
      clear hcd
      go_wp2
      go_end0
      refine ⟨rfl, ?_, gb_below hB _⟩
      rw [HF2.out]
      exact H2.out
    · have hz2 : (c == 0) = false := by simpa using hz
      clear hcd
      go_wp2
      go_end0
      refine ⟨rfl, ?_, gb_below hB _⟩
      rw [HF2.out]
      exact H2.out
set_option maxRecDepth 100000 in
set_option maxHeartbeats 1000000 in
theorem most_any (g : Nat) (r : Rg) (b : Bd) (va vb : Value) (w : World) (hk : w.heap[g]? = some (.cells (rgC r va vb) 123 (0, 0))) (h1 : Bd.ok b) (h2 : Bd.ok r.hi) :
    Calls Tryz.prog 194 #[.pointer (some ⟨g, 0, none⟩), .agg #[.int .i64 b.r.n, .int .i64 b.r.d, .bool b.strict]] w fun e w' => e = .returned (.tuple #[]) ∧ w'.heap[g]? = some (.cells (rgC (r.most b) va vb) 123 (0, 0)) ∧ w.grownBy w' (some g) := by
  have hfin : r.most b = if b.cmp r.hi < 0 then { r with hi := b } else if b.cmp r.hi = 0 ∧ b.strict = true then { r with hi := b } else r := by
    unfold Rg.most; by_cases p : b.cmp r.hi < 0 <;> by_cases q : b.cmp r.hi = 0 ∧ b.strict = true <;> simp [p, q]
  unfold Bd.cmp at hfin
  obtain ⟨⟨⟨ln, ld⟩, ls⟩, ⟨⟨hn, hd⟩, hs⟩, la, lb, em⟩ := r
  obtain ⟨⟨bn, bd⟩, bs⟩ := b
  obtain ⟨a1, a2, a3, a4⟩ := h1
  obtain ⟨a5, a6, a7, a8⟩ := h2
  dsimp only at a1 a2 a3 a4 a5 a6 a7 a8 hfin
  have hg := bk_lt hk
  have c0 := bk_cell hk 3
  have c1 := bk_cell hk 4
  have c2 := bk_cell hk 5
  simp [rgC] at c0 c1 c2
  have HK := Lib.hid hk
  have HF := Lib.hid hfin
  clear hk hfin
  dsimp only
  go_enter Tryz.func194, Tryz.ntmps194
  go_wp2
  go_region_held3 (fun W => Below w.heap.size w W ∧ W.cell? ⟨g, 3, none⟩ = some (.int .i64 hn) ∧ W.cell? ⟨g, 4, none⟩ = some (.int .i64 hd) ∧ W.cell? ⟨g, 5, none⟩ = some (.bool hs) ∧ W.cell? ⟨w.heap.size, 0, none⟩ = some (.int .i64 bn) ∧ W.cell? ⟨w.heap.size, 1, none⟩ = some (.int .i64 bd) ∧ W.cell? ⟨w.heap.size, 2, none⟩ = some (.bool bs)) (first | (with_reducible exact kp1 (by assumption) (by assumption)) | (with_reducible exact kp2 (by assumption) (by assumption)) | (with_reducible exact kp3 (by assumption) (by assumption)) | (with_reducible exact kp4 (by assumption) (by assumption)) | (with_reducible exact kp5 (by assumption) (by assumption)) | (with_reducible exact kp6 (by assumption) (by assumption)) | (with_reducible exact kp7 (by assumption) (by assumption)) | (with_reducible exact kp8 (by assumption) (by assumption)) | (with_reducible exact kp9 (by assumption) (by assumption)) | (with_reducible exact kp10 (by assumption) (by assumption)) | ((repeat' apply And.intro) <;> first | ((repeat' with_reducible first|assumption|exact Below.refl _ _|apply bl_alloc|apply bl_drewN|apply bl_drew|refine bl_set ?_ (by simp<;>omega) _|refine bl_then ?_ (by assumption)); done) | (simp; done) | (simp only [World.cell?_drew, World.cell?_drewN]; first | assumption | (exact cl_alloc (by assumption) _) | (exact cl_alloc (cl_alloc (by assumption) _) _) | (exact cl_alloc (cl_alloc (cl_alloc (by assumption) _) _) _)) | (simp [*, World.cell?_alloc_some, World.cell?_setCell_far]; done))) (first | (go_at_call 229; refine (bcmp_any _ _ _ _ _ _ _ (by omega) (by omega) (by omega) (by omega) (by omega) (by omega) (by omega) (by omega)).mono ?_; rintro e' w' ⟨rfl, hb⟩))
  have hx := bk_below (bk_drew (bk_new w (.cells #[.int .i64 bn, .int .i64 bd, .bool bs] 120))) hb
  have hB : Below w.heap.size w w' := by (repeat' with_reducible first|assumption|exact Below.refl _ _|apply bl_alloc|apply bl_drewN|apply bl_drew|refine bl_set ?_ (by simp<;>omega) _|refine bl_then ?_ (by assumption))
  have hk2 := bk_below HK.out hB
  have hlt : w.heap.size < w'.heap.size := bk_lt hx
  have d0 := bk_cell hx 0
  have d1 := bk_cell hx 1
  have d2 := bk_cell hx 2
  have e0 := bk_cell hk2 3
  have e1 := bk_cell hk2 4
  have e2 := bk_cell hk2 5
  have f0 := bk_fro hk2 3
  have f1 := bk_fro hk2 4
  have f2 := bk_fro hk2 5
  simp [rgC] at d0 d1 d2 e0 e1 e2
  have H5 := Lib.hid hk2
  clear hx hk2 c0 c1 c2 hb
  generalize hc : cmpI (bn * hd) (hn * bd) = c at HF ⊢
  clear hc
  rcases @cases3 (c < 0) (c = 0 ∧ bs = true) with hcc | ⟨hcc, hcd⟩ | ⟨hcc, hcd⟩
  · have HF' := HF.out
    rw [if_pos hcc] at HF'
    have HF2 := Lib.hid HF'
    clear HF' HF
    skip
    go_wp2
    go_end0
    refine ⟨rfl, ?_, (gb_below hB _).trans (gb_set3 _ _ _ _ _ _ _ _)⟩
    rw [HF2.out]
    exact bk_put3 H5.out _ _ _ _ _ _ (by simp [rgC])
  · have HF' := HF.out
    rw [if_neg hcc, if_pos hcd] at HF'
    have HF2 := Lib.hid HF'
    clear HF' HF
    obtain ⟨rfl, rfl⟩ := hcd
    go_wp2
    go_end0
    refine ⟨rfl, ?_, (gb_below hB _).trans (gb_set3 _ _ _ _ _ _ _ _)⟩
    rw [HF2.out]
    exact bk_put3 H5.out _ _ _ _ _ _ (by simp [rgC])
  · have HF' := HF.out
    rw [if_neg hcc, if_neg hcd] at HF'
    have HF2 := Lib.hid HF'
    clear HF' HF
    by_cases hz : c = 0
    · subst hz
      obtain rfl : bs = false := by simpa using hcd
      clear hcd
      go_wp2
      go_end0
      refine ⟨rfl, ?_, gb_below hB _⟩
      rw [HF2.out]
      exact H5.out
    · have hz2 : (c == 0) = false := by simpa using hz
      clear hcd
      go_wp2
      go_end0
      refine ⟨rfl, ?_, gb_below hB _⟩
      rw [HF2.out]
      exact H5.out
end Go.Proofs.YtjpagpplkldbkaaGreat
