/- What a line of a curve is at a place. Fillings: what the program's functions on them come to, in plain Lean. The line of a curve that has a place. What a curve is at a place: asked, Exact. The times of levels: what they are, and how they rise. What a filling's region means: the cases. Searching by halves; the wear; narrower wears. Levels and minutes: under, over, ever; and the spans that are searched. -/
import Derived.Test.YtjpagpplkldbkaaGreatLib1
import Derived.Test.YtjpagpplkldbkaaGreatLib9
set_option linter.unusedVariables false
set_option linter.unusedSimpArgs false
namespace Go.Proofs.YtjpagpplkldbkaaGreat
open Go.RowKit
set_option maxRecDepth 100000 in
set_option maxHeartbeats 1000000 in
theorem lexact_any (a b c d x : Int) (w : World) (q1 : 0 ≤ a ∧ a ≤ 16777216) (q2 : 0 ≤ b ∧ b ≤ 16777216) (q3 : 0 ≤ c ∧ c ≤ 16777216) (q4 : 0 ≤ d ∧ d ≤ 16777216) (q5 : a ≤ x ∧ x ≤ 16777216) (q6 : b ≤ d) (q7 : a < c) :
    Calls Tryz.prog 133 #[.agg #[.int .i64 a, .int .i64 b, .int .i64 c, .int .i64 d], .int .i64 x] w fun e w' => e = .returned (.agg #[.int .i64 (lowN (b * (c - a) + (x - a) * (d - b)) (c - a)), .int .i64 (lowD (b * (c - a) + (x - a) * (d - b)) (c - a))]) ∧ Below w.heap.size w w' := by
  have m1 : (x - a) * (d - b) ≤ 16777216 * 16777216 := Int.mul_le_mul (by omega) (by omega) (by omega) (by omega)
  have m2 : 0 ≤ (x - a) * (d - b) := Int.mul_nonneg (by omega) (by omega)
  have m3 : b * (c - a) ≤ 16777216 * 16777216 := Int.mul_le_mul (by omega) (by omega) (by omega) (by omega)
  have m4 : 0 ≤ b * (c - a) := Int.mul_nonneg (by omega) (by omega)
  have n0 : 0 ≤ b * (c - a) + (x - a) * (d - b) := by omega
  have n1 : b * (c - a) + (x - a) * (d - b) ≤ 9223372036854775807 := by omega
  have n2 : 0 < c - a := by omega
  have n3 : c - a ≤ 9223372036854775807 := by omega
  have hw1 : IntKind.i64.wrap (b * (c - a)) = b * (c - a) := wrapI (by omega) (by omega)
  have hw2 : IntKind.i64.wrap (b * (c - a) + (x - a) * (d - b)) = b * (c - a) + (x - a) * (d - b) := wrapI (by omega) (by omega)
  go_enter Tryz.func133, Tryz.ntmps133
  go_wp2
  obtain ⟨x0, x1, x2, x3⟩ := box4 w (.int .i64 a) (.int .i64 b) (.int .i64 c) (.int .i64 d) 189
  have x0 := cl_alloc x0 (.cells #[.int .i64 0, .int .i64 0] 41)
  have x1 := cl_alloc x1 (.cells #[.int .i64 0, .int .i64 0] 41)
  have x2 := cl_alloc x2 (.cells #[.int .i64 0, .int .i64 0] 41)
  have x3 := cl_alloc x3 (.cells #[.int .i64 0, .int .i64 0] 41)
  ((refine p_start (by kernel_rfl) ?_); (refine t_enter' 13 ?_); ((refine t_pure 0 (v := ?_) rfl (by kernel_rfl) (fun _ _ _ h => h) rfl ?_ ?_; rotate_left; (focus (intro w_ hS_; have x0 := cl_below hS_ x0; have x1 := cl_below hS_ x1; have x2 := cl_below hS_ x2; have x3 := cl_below hS_ x3; go_simp; (try (first | with_reducible rfl | (constructor <;> with_reducible rfl))); done)); (try simp only [Act.put, List.setIfInBounds_toArray, List.set_cons_zero, List.set_cons_succ]))); ((refine t_pure 1 (v := ?_) rfl (by kernel_rfl) (fun _ _ _ h => h) rfl ?_ ?_; rotate_left; (focus (intro w_ hS_; have x0 := cl_below hS_ x0; have x1 := cl_below hS_ x1; have x2 := cl_below hS_ x2; have x3 := cl_below hS_ x3; go_simp; (try (first | with_reducible rfl | (constructor <;> with_reducible rfl))); done)); (try simp only [Act.put, List.setIfInBounds_toArray, List.set_cons_zero, List.set_cons_succ]))); ((refine t_pure 2 (v := ?_) rfl (by kernel_rfl) (fun _ _ _ h => h) rfl ?_ ?_; rotate_left; (focus (intro w_ hS_; have x0 := cl_below hS_ x0; have x1 := cl_below hS_ x1; have x2 := cl_below hS_ x2; have x3 := cl_below hS_ x3; go_simp; (try (first | with_reducible rfl | (constructor <;> with_reducible rfl))); done)); (try simp only [Act.put, List.setIfInBounds_toArray, List.set_cons_zero, List.set_cons_succ]))); ((refine t_pure 3 (v := ?_) rfl (by kernel_rfl) (fun _ _ _ h => h) rfl ?_ ?_; rotate_left; (focus (intro w_ hS_; have x0 := cl_below hS_ x0; have x1 := cl_below hS_ x1; have x2 := cl_below hS_ x2; have x3 := cl_below hS_ x3; go_simp; (try (first | with_reducible rfl | (constructor <;> with_reducible rfl))); done)); (try simp only [Act.put, List.setIfInBounds_toArray, List.set_cons_zero, List.set_cons_succ]))); ((refine t_call 4 (v := ?_) rfl (by kernel_rfl) (fun _ _ _ h => h) rfl ?_ ?_ ?_ ?_ ?_; rotate_left 3; (focus (intro w_ hS_; have x0 := cl_below hS_ x0; have x1 := cl_below hS_ x1; have x2 := cl_below hS_ x2; have x3 := cl_below hS_ x3; go_simp; (try (first | with_reducible rfl | (constructor <;> with_reducible rfl))); done)); (focus (intro w_ hS_; have x0 := cl_below hS_ x0; have x1 := cl_below hS_ x1; have x2 := cl_below hS_ x2; have x3 := cl_below hS_ x3; (first | (go_at_call 204; refine (lwide_any _ _ _ _ _ q1 q3).mono ?_; rintro e' w' ⟨rfl, hb⟩) | (go_at_call 205; refine (lover_any _ _ _ _ _ _ q1 q2 q4 q5 q6).mono ?_; rintro e' w' ⟨rfl, hb⟩) | (go_at_call 203; refine (clowest_any _ _ _ n0 n1 n2 n3).mono ?_; rintro e' w' ⟨rfl, hb⟩)); refine And.intro ?_ ?_; (focus (with_reducible rfl)); (first | exact bl_then hS_ (by assumption) | assumption))); (try simp only [Act.put, List.setIfInBounds_toArray, List.set_cons_zero, List.set_cons_succ]))); ((refine t_pure 5 (v := ?_) rfl (by kernel_rfl) (fun _ _ _ h => h) rfl ?_ ?_; rotate_left; (focus (intro w_ hS_; have x0 := cl_below hS_ x0; have x1 := cl_below hS_ x1; have x2 := cl_below hS_ x2; have x3 := cl_below hS_ x3; go_simp; (try (first | with_reducible rfl | (constructor <;> with_reducible rfl))); done)); (try simp only [Act.put, List.setIfInBounds_toArray, List.set_cons_zero, List.set_cons_succ]))); ((refine t_pure 6 (v := ?_) rfl (by kernel_rfl) (fun _ _ _ h => h) rfl ?_ ?_; rotate_left; (focus (intro w_ hS_; have x0 := cl_below hS_ x0; have x1 := cl_below hS_ x1; have x2 := cl_below hS_ x2; have x3 := cl_below hS_ x3; go_simp; (try (first | with_reducible rfl | (constructor <;> with_reducible rfl))); done)); (try simp only [Act.put, List.setIfInBounds_toArray, List.set_cons_zero, List.set_cons_succ]))); ((refine t_pure 7 (v := ?_) rfl (by kernel_rfl) (fun _ _ _ h => h) rfl ?_ ?_; rotate_left; (focus (intro w_ hS_; have x0 := cl_below hS_ x0; have x1 := cl_below hS_ x1; have x2 := cl_below hS_ x2; have x3 := cl_below hS_ x3; go_simp; (try (first | with_reducible rfl | (constructor <;> with_reducible rfl))); done)); (try simp only [Act.put, List.setIfInBounds_toArray, List.set_cons_zero, List.set_cons_succ]))); ((refine t_call 8 (v := ?_) rfl (by kernel_rfl) (fun _ _ _ h => h) rfl ?_ ?_ ?_ ?_ ?_; rotate_left 3; (focus (intro w_ hS_; have x0 := cl_below hS_ x0; have x1 := cl_below hS_ x1; have x2 := cl_below hS_ x2; have x3 := cl_below hS_ x3; go_simp; (try (first | with_reducible rfl | (constructor <;> with_reducible rfl))); done)); (focus (intro w_ hS_; have x0 := cl_below hS_ x0; have x1 := cl_below hS_ x1; have x2 := cl_below hS_ x2; have x3 := cl_below hS_ x3; (first | (go_at_call 204; refine (lwide_any _ _ _ _ _ q1 q3).mono ?_; rintro e' w' ⟨rfl, hb⟩) | (go_at_call 205; refine (lover_any _ _ _ _ _ _ q1 q2 q4 q5 q6).mono ?_; rintro e' w' ⟨rfl, hb⟩) | (go_at_call 203; refine (clowest_any _ _ _ n0 n1 n2 n3).mono ?_; rintro e' w' ⟨rfl, hb⟩)); refine And.intro ?_ ?_; (focus (with_reducible rfl)); (first | exact bl_then hS_ (by assumption) | assumption))); (try simp only [Act.put, List.setIfInBounds_toArray, List.set_cons_zero, List.set_cons_succ]))); ((refine t_pure 9 (v := ?_) rfl (by kernel_rfl) (fun _ _ _ h => h) rfl ?_ ?_; rotate_left; (focus (intro w_ hS_; have x0 := cl_below hS_ x0; have x1 := cl_below hS_ x1; have x2 := cl_below hS_ x2; have x3 := cl_below hS_ x3; go_simp; (try (first | with_reducible rfl | (constructor <;> with_reducible rfl))); done)); (try simp only [Act.put, List.setIfInBounds_toArray, List.set_cons_zero, List.set_cons_succ]))); ((refine t_pure 10 (v := ?_) rfl (by kernel_rfl) (fun _ _ _ h => h) rfl ?_ ?_; rotate_left; (focus (intro w_ hS_; have x0 := cl_below hS_ x0; have x1 := cl_below hS_ x1; have x2 := cl_below hS_ x2; have x3 := cl_below hS_ x3; go_simp; (try (first | with_reducible rfl | (constructor <;> with_reducible rfl))); done)); (try simp only [Act.put, List.setIfInBounds_toArray, List.set_cons_zero, List.set_cons_succ]))); ((refine t_call 11 (v := ?_) rfl (by kernel_rfl) (fun _ _ _ h => h) rfl ?_ ?_ ?_ ?_ ?_; rotate_left 3; (focus (intro w_ hS_; have x0 := cl_below hS_ x0; have x1 := cl_below hS_ x1; have x2 := cl_below hS_ x2; have x3 := cl_below hS_ x3; go_simp; (try (first | with_reducible rfl | (constructor <;> with_reducible rfl))); done)); (focus (intro w_ hS_; have x0 := cl_below hS_ x0; have x1 := cl_below hS_ x1; have x2 := cl_below hS_ x2; have x3 := cl_below hS_ x3; (first | (go_at_call 204; refine (lwide_any _ _ _ _ _ q1 q3).mono ?_; rintro e' w' ⟨rfl, hb⟩) | (go_at_call 205; refine (lover_any _ _ _ _ _ _ q1 q2 q4 q5 q6).mono ?_; rintro e' w' ⟨rfl, hb⟩) | (go_at_call 203; refine (clowest_any _ _ _ n0 n1 n2 n3).mono ?_; rintro e' w' ⟨rfl, hb⟩)); refine And.intro ?_ ?_; (focus (with_reducible rfl)); (first | exact bl_then hS_ (by assumption) | assumption))); (try simp only [Act.put, List.setIfInBounds_toArray, List.set_cons_zero, List.set_cons_succ]))); ((refine t_call 12 (v := ?_) rfl (by kernel_rfl) (fun _ _ _ h => h) rfl ?_ ?_ ?_ ?_ ?_; rotate_left 3; (focus (intro w_ hS_; have x0 := cl_below hS_ x0; have x1 := cl_below hS_ x1; have x2 := cl_below hS_ x2; have x3 := cl_below hS_ x3; go_simp; (try (first | with_reducible rfl | (constructor <;> with_reducible rfl))); done)); (focus (intro w_ hS_; have x0 := cl_below hS_ x0; have x1 := cl_below hS_ x1; have x2 := cl_below hS_ x2; have x3 := cl_below hS_ x3; (first | (go_at_call 204; refine (lwide_any _ _ _ _ _ q1 q3).mono ?_; rintro e' w' ⟨rfl, hb⟩) | (go_at_call 205; refine (lover_any _ _ _ _ _ _ q1 q2 q4 q5 q6).mono ?_; rintro e' w' ⟨rfl, hb⟩) | (go_at_call 203; refine (clowest_any _ _ _ n0 n1 n2 n3).mono ?_; rintro e' w' ⟨rfl, hb⟩)); refine And.intro ?_ ?_; (focus (with_reducible rfl)); (first | exact bl_then hS_ (by assumption) | assumption))); (try simp only [Act.put, List.setIfInBounds_toArray, List.set_cons_zero, List.set_cons_succ]))); (refine t_exit (by kernel_rfl) (fun W_ hS_ => ?_)))
  have hR := bk_below (bk_new (w.alloc (.cells #[.int .i64 a, .int .i64 b, .int .i64 c, .int .i64 d] 189)) (.cells #[.int .i64 0, .int .i64 0] 41)) hS_
  rw [World.size_alloc] at hR
  have f0 := bk_fro hR 0
  have f1 := bk_fro hR 1
  have z0 := bk_cell hR 0
  have z1 := bk_cell hR 1
  simp at z0 z1
  have hB : Below w.heap.size w W_ := by (repeat' with_reducible first|assumption|exact Below.refl _ _|apply bl_alloc|apply bl_drewN|apply bl_drew|refine bl_set ?_ (by simp<;>omega) _|refine bl_then ?_ (by assumption))
  (refine p_only 13 rfl (by kernel_rfl) (fun K hK => ?_); go_simp; refine hK.out _ _ ?_; clear hK K; (try simp only [Act.put, List.setIfInBounds_toArray, List.set_cons_zero, List.set_cons_succ]))
  refine wpAny_done (by kernel_rfl) ?_ _
  go_wp2
  refine bodyPost_ret (v := .agg #[.int .i64 (lowN (b * (c - a) + (x - a) * (d - b)) (c - a)), .int .i64 (lowD (b * (c - a) + (x - a) * (d - b)) (c - a))]) (res_one rfl (.cell (w.heap.size + 1) 41 _ (0, 0) _ rfl (bk_put1 (bk_put1 hR 0 _ rfl) 1 _ rfl) Tryz.underlying41 rfl (by kernel_rfl) .nil)) rfl ?_
  exact ⟨rfl, by (repeat' with_reducible first|assumption|exact Below.refl _ _|apply bl_alloc|apply bl_drewN|apply bl_drew|refine bl_set ?_ (by simp<;>omega) _|refine bl_then ?_ (by assumption))⟩
end Go.Proofs.YtjpagpplkldbkaaGreat
set_option linter.unusedVariables false
set_option linter.unusedSimpArgs false
namespace Go.Proofs.YtjpagpplkldbkaaGreat
open Go.RowKit WH
/-- A reading. -/
structure Sn where
  lo : Int
  hi : Int
  lv : Int
  er : Int
deriving DecidableEq, Inhabited
/-- A filling. -/
structure Fl where
  v : List Rn
  lv : Int
  er : Int
  wl : Int
  wh : Int
  seen : List Sn
deriving DecidableEq, Inhabited
/-- The straight part of a curve that has a place. -/
def segHas (x : Int) (s : Pt × Pt) : Bool := decide (s.1.x ≤ x) && decide (x ≤ s.2.x)
def segAt (c : List Pt) (x : Int) : Pt × Pt := ((segs c).find? (segHas x)).getD (⟨0, 0⟩, ⟨0, 0⟩)
def segN (s : Pt × Pt) (x : Int) : Int := s.1.y * (s.2.x - s.1.x) + (x - s.1.x) * (s.2.y - s.1.y)
def segR (s : Pt × Pt) (x : Int) : Ra := ⟨lowN (segN s x) (s.2.x - s.1.x), lowD (segN s x) (s.2.x - s.1.x)⟩
def exactC (c : List Pt) (x : Int) : Ra := segR (segAt c x) x
/-- Exact's error. -/
def exErr (c : List Pt) (x : Int) : Int := if cErr c = 0 then (if cWithin c x then 0 else 1) else 10
def Fl.H (f : Fl) : Int := sumTo (f.v.map Rn.h) f.v.length
def okSn (h : Int) (s : Sn) : Bool := withinB s.lo s.hi 0 1048576 && lookB s.lv s.er h
def Fl.okB (f : Fl) : Bool := decide (vErr f.v = 0) && lookB f.lv f.er f.H && withinB f.wl f.wh 1 4000 && decide (f.seen.length ≤ 24) && f.seen.all (okSn f.H)
/-- The time of a level. -/
def Fl.T (f : Fl) (x : Int) : Ra := exactC (drawnL f.v) x
def lvLo (l e : Int) : Int := max 0 (l - e)
def lvHi (h l e : Int) : Int := min h (l + e)
def Fl.reg0 (f : Fl) : Rg := ⟨⟨⟨1, 4⟩, false⟩, ⟨⟨1000, 1⟩, false⟩, [⟨0, ⟨0, 1⟩, false⟩], [⟨0, f.T f.H, false⟩], false⟩
def Fl.regAt (f : Fl) (r : Rg) (k : Int) : Rg :=
  if k = -2 then (r.least ⟨⟨1000, f.wh⟩, false⟩).most ⟨⟨1000, f.wl⟩, false⟩
  else if k = -1 then { r with above := r.above ++ [⟨0, f.T (lvLo f.lv f.er), false⟩], below := r.below ++ [⟨0, f.T (lvHi f.H f.lv f.er), false⟩] }
  else match f.seen[k.toNat]? with
    | none => r
    | some s => { r with below := r.below ++ [⟨s.hi, f.T (lvHi f.H s.lv s.er), false⟩], above := r.above ++ (if 0 < lvLo s.lv s.er then [⟨s.lo, f.T (lvLo s.lv s.er), false⟩] else []) }
def Fl.reg (f : Fl) (items : List Int) : Rg := items.foldl f.regAt f.reg0
def Fl.all (f : Fl) : List Int := (List.range (f.seen.length + 2)).map fun i : Nat => (i : Int) - 2
def Fl.sol (f : Fl) : Rg := (f.reg f.all).solved
/-- The error of ready: not valid, arguments that are not right, no case. -/
def Fl.rdy (f : Fl) (right : Bool) : Int := if f.okB then (if right then (if f.sol.empty then 31 else 0) else 1) else 30
def Fl.possB (f : Fl) : Bool := decide (f.rdy true = 0)
def Fl.possE (f : Fl) : Int := if f.okB then 0 else 30
/-- The wear that belongs to a number g. -/
def wearR (r : Ra) : Ra := ⟨lowN (1000 * r.d) r.n, lowD (1000 * r.d) r.n⟩
/-- The greatest number below which nothing is, by halves. -/
def bsLo (p : Int → Bool) : Nat → Int → Int → Int
  | 0, lo, _ => lo
  | k + 1, lo, hi => if lo < hi then (if p (lo + (hi - lo + 1) / 2) then bsLo p k lo (lo + (hi - lo + 1) / 2 - 1) else bsLo p k (lo + (hi - lo + 1) / 2) hi) else lo
/-- The least number above which nothing is, by halves. -/
def bsHi (p : Int → Bool) : Nat → Int → Int → Int
  | 0, lo, _ => lo
  | k + 1, lo, hi => if lo < hi then (if p (lo + (hi - lo) / 2) then bsHi p k (lo + (hi - lo) / 2 + 1) hi else bsHi p k lo (lo + (hi - lo) / 2)) else lo
def outLo (most : Int) (p : Int → Bool) : Int := bsLo p (most.toNat + 1) 0 most
def outHi (most : Int) (p : Int → Bool) : Int := bsHi p (most.toNat + 1) 0 most
def Fl.under (f : Fl) (level minutes : Int) : Bool := f.sol.can [] [⟨minutes, f.T level, true⟩]
def Fl.over (f : Fl) (level minutes : Int) : Bool := f.sol.can [⟨minutes, f.T level, true⟩] []
def Fl.ever (f : Fl) (level minutes : Int) : Bool := f.sol.can [] [⟨minutes, f.T level, false⟩]
def Fl.levelLo (f : Fl) (minutes : Int) : Int := outLo f.H fun n => decide (0 < n) && f.under n minutes
def Fl.levelHi (f : Fl) (minutes : Int) : Int := outHi f.H fun n => f.over n minutes
def Fl.reachLo (f : Fl) (level : Int) : Int := outLo 2097152 fun m => decide (0 < m) && f.under level m
def Fl.reachHi (f : Fl) (level : Int) : Int := outHi 2097152 fun m => f.over level m
/-- The line by which the first level is known by an item. -/
def Fl.first (f : Fl) (by_ : Int) : Ln := if by_ = -1 then ⟨0, f.T (lvLo f.lv f.er), false⟩ else match f.seen[by_.toNat]? with
  | none => default
  | some s => ⟨s.lo, f.T (lvLo s.lv s.er), false⟩
/-- Two lines compared at 1000 times d divided by n. -/
def atL (l u : Ln) (w : Ra) : Int :=
  if l.slope - u.slope ≤ 0 ∧ 0 ≤ lessN u.t l.t then (if l.slope - u.slope = 0 ∧ lessN u.t l.t = 0 then 0 else -1)
  else if 0 ≤ l.slope - u.slope ∧ lessN u.t l.t ≤ 0 then 1
  else if 0 < l.slope - u.slope then cmpI (1000 * (l.slope - u.slope) * w.d * lessD u.t l.t) (lessN u.t l.t * w.n)
  else cmpI (-lessN u.t l.t * w.n) (-1000 * (l.slope - u.slope) * w.d * lessD u.t l.t)
def Fl.ccB (f : Fl) (w : Ra) (by_ : Int) : Bool :=
  decide (f.wl * w.d ≤ w.n) && decide (w.n ≤ f.wh * w.d) && (f.reg f.all).above.all (fun l => decide (atL l (f.first by_) w ≤ 0)) && (f.reg f.all).below.all (fun u => decide (atL (f.first by_) u w ≤ 0))
def Fl.ccErr (f : Fl) (w : Ra) (by_ : Int) : Int :=
  if f.okB then (if fromB w.n 1 1125899906842624 && fromB w.d 1 1125899906842624 && fromB by_ (-1) ((f.seen.length : Int) - 1) then (if f.ccB w by_ then 0 else 31) else 1) else 30
def Fl.apart (f : Fl) (l : List Int) : Bool := (f.reg l).solved.empty
def but (l : List Int) (i : Nat) : List Int := l.take i ++ l.drop (i + 1)
/-- The list without what can be left out, from place i on. -/
def Fl.less (f : Fl) : Nat → List Int → Nat → List Int
  | 0, l, _ => l
  | k + 1, l, i => if i < l.length then (if f.apart (but l i) then f.less k (but l i) i else f.less k l (i + 1)) else l
def Fl.clash (f : Fl) : List Int := if f.apart f.all then f.less (f.all.length + 1) f.all 0 else []
def rising : List Int → Bool
  | a :: b :: l => decide (a < b) && rising (b :: l)
  | _ => true
def Fl.clB (f : Fl) (l : List Int) : Bool := l.all (fun k => fromB k (-2) ((f.seen.length : Int) - 1)) && rising l && f.apart l && (List.range l.length).all (fun i => !f.apart (but l i))
def Fl.clErr (f : Fl) (l : List Int) : Int := if f.okB then (if f.clB l then 0 else 32) else 30
def Fl.without (f : Fl) (i : Nat) : Fl := { f with seen := f.seen.eraseIdx i }
def Fl.lo (f : Fl) : Ra := wearR f.sol.hi.r
def Fl.hi (f : Fl) : Ra := wearR f.sol.lo.r
def Fl.rests (f : Fl) : List Int := ((List.range f.seen.length).filter fun i => !(decide ((f.without i).lo = f.lo) && decide ((f.without i).hi = f.hi))).map fun i : Nat => (i : Int)
end Go.Proofs.YtjpagpplkldbkaaGreat
set_option linter.unusedVariables false
set_option linter.unusedSimpArgs false
namespace Go.Proofs.YtjpagpplkldbkaaGreat
open Go.RowKit Go.Shelf
attribute [local go_sem] Oper.semAt_some
theorem seg_find {l : List Pt} {x : Int} {pre : List (Pt × Pt)} {s : Pt × Pt} {k : Nat} (h : pre ++ [s] = (segs l).take k) (h1 : ∀ z ∈ pre, segHas x z = false) (h2 : segHas x s = true) : segAt l x = s := by
  have e : segs l = (segs l).take k ++ (segs l).drop k := (List.take_append_drop k _).symm
  unfold segAt
  rw [e, ← h, List.append_assoc, List.find?_append, List.find?_eq_none.2 (fun z hz => by rw [h1 z hz]; simp)]
  simp [h2]
theorem seg_none {l : List Pt} {x : Int} (h1 : ∀ z ∈ segs l, segHas x z = false) : segAt l x = (⟨0, 0⟩, ⟨0, 0⟩) := by
  unfold segAt
  rw [List.find?_eq_none.2 (fun z hz => by rw [h1 z hz]; simp)]
  rfl
theorem kf_below {W W' : World} (hb : Below W.heap.size W W') (B : Nat) : KeepsFrom B W W' := KeepsFrom.of_grownBy (gb_below hb none) (fun _ h => by cases h)
theorem bk_put4 {w : World} {g : Nat} {t : TypeId} {a b c d a' b' c' d' : Value} (h : w.heap[g]? = some (.cells #[a', b', c', d'] t (0, 0))) :
    ((((w.setCell ⟨g, 0, none⟩ a).setCell ⟨g, 1, none⟩ b).setCell ⟨g, 2, none⟩ c).setCell ⟨g, 3, none⟩ d).heap[g]? = some (.cells #[a, b, c, d] t (0, 0)) := by
  have h0 := bk_put1 (cs' := #[a, b', c', d']) h 0 a rfl
  have h1 := bk_put1 (cs' := #[a, b, c', d']) h0 1 b rfl
  have h2 := bk_put1 (cs' := #[a, b, c, d']) h1 2 c rfl
  exact bk_put1 (cs' := #[a, b, c, d]) h2 3 d rfl
def sgV (s : Pt × Pt) : Value := .agg #[.int .i64 s.1.x, .int .i64 s.1.y, .int .i64 s.2.x, .int .i64 s.2.y]
def atI (w W0 : World) (x : Int) (pre : List (Pt × Pt)) (W : World) : Prop := (∀ z ∈ pre, segHas x z = false) ∧ W.heap[w.heap.size]? = some (.cells #[.int .i64 x] 3 (0, 0)) ∧ W.heap[w.heap.size + 1]? = some (.cells #[.int .i64 0, .int .i64 0, .int .i64 0, .int .i64 0] 189 (0, 0)) ∧ Below w.heap.size w W ∧ W0.heap.size ≤ W.heap.size
def atX (w : World) (x : Int) (cd : Code) (pre : List (Pt × Pt)) (W : World) : Prop := cd = .ret ∧ (∃ pre' s, pre = pre' ++ [s] ∧ (∀ z ∈ pre', segHas x z = false) ∧ segHas x s = true ∧ W.heap[w.heap.size + 1]? = some (.cells (sgC' s) 189 (0, 0))) ∧ Below w.heap.size w W
set_option maxRecDepth 100000 in
set_option maxHeartbeats 1000000 in
theorem cat_any (v : Value) (l : List Pt) (x : Int) (w : World) (hv : Sl ptC 2 w v l) (h1 : 2 ≤ l.length) (h2 : l.length ≤ 64) :
    Calls Tryz.prog 202 #[v, .int .i64 x] w fun e w' => e = .returned (sgV (segAt l x)) ∧ Below w.heap.size w w' := by
  obtain ⟨A, c, rfl, hl, hc, hcs⟩ := id hv
  have HV := Lib.hid hv
  clear hv
  refine (callsIn_wide (n := 4)).1 ?_
  refine callsIn_of_wp_marks Tryz.func202 rfl trivial ?_ rfl
  simp only [Tryz.ntmps202, List.size_toArray, List.length_cons, List.length_nil, Nat.reduceAdd, Nat.reduceSub, Array.replicate_succ, Array.replicate_zero, List.push_toArray, List.append_toArray, List.nil_append, List.cons_append]
  gi_wp2_with (first | (refine ⟨trivial, ?_⟩; gi_at_call 207; refine (callsIn_wide.2 (lines_any _ _ _ _)).mono ?_; rintro e2 w2 ⟨rfl, rfl⟩))
  have R0 : (((w.alloc (.cells #[.int .i64 x] 3)).alloc (.cells #[.int .i64 0, .int .i64 0, .int .i64 0, .int .i64 0] 189)).alloc (.cells #[.slice A l.length c] 61)).heap[w.heap.size]? = some (.cells #[.int .i64 x] 3 (0, 0)) := bk_alloc (bk_alloc (bk_new w _) _) _
  have R1 : (((w.alloc (.cells #[.int .i64 x] 3)).alloc (.cells #[.int .i64 0, .int .i64 0, .int .i64 0, .int .i64 0] 189)).alloc (.cells #[.slice A l.length c] 61)).heap[w.heap.size + 1]? = some (.cells #[.int .i64 0, .int .i64 0, .int .i64 0, .int .i64 0] 189 (0, 0)) := by
    have := bk_alloc (bk_new (w.alloc (.cells #[.int .i64 x] 3)) (.cells #[.int .i64 0, .int .i64 0, .int .i64 0, .int .i64 0] 189)) (.cells #[.slice A l.length c] 61)
    rwa [World.size_alloc] at this
  have hBS : (((w.alloc (.cells #[.int .i64 x] 3)).alloc (.cells #[.int .i64 0, .int .i64 0, .int .i64 0, .int .i64 0] 189)).alloc (.cells #[.slice A l.length c] 61)).cell? ⟨w.heap.size + 2, 0, none⟩ = some (.slice A l.length c) := by
    have := bk_cell (bk_new ((w.alloc (.cells #[.int .i64 x] 3)).alloc (.cells #[.int .i64 0, .int .i64 0, .int .i64 0, .int .i64 0] 189)) (.cells #[.slice A l.length c] 61)) 0
    rwa [World.size_alloc, World.size_alloc] at this
  have hB0 : Below w.heap.size w (((w.alloc (.cells #[.int .i64 x] 3)).alloc (.cells #[.int .i64 0, .int .i64 0, .int .i64 0, .int .i64 0] 189)).alloc (.cells #[.slice A l.length c] 61)) := by (repeat' with_reducible first|assumption|exact Below.refl _ _|apply bl_alloc|apply bl_drewN|apply bl_drew|refine bl_set ?_ (by simp<;>omega) _|refine bl_then ?_ (by assumption))
  have hVW := HV.out.below hB0
  have hsz : (((w.alloc (.cells #[.int .i64 x] 3)).alloc (.cells #[.int .i64 0, .int .i64 0, .int .i64 0, .int .i64 0] 189)).alloc (.cells #[.slice A l.length c] 61)).heap.size = w.heap.size + 3 := by rw [World.size_alloc, World.size_alloc, World.size_alloc]
  have hsz2 : w.heap.size + 2 < (((w.alloc (.cells #[.int .i64 x] 3)).alloc (.cells #[.int .i64 0, .int .i64 0, .int .i64 0, .int .i64 0] 189)).alloc (.cells #[.slice A l.length c] 61)).heap.size := by omega
  clear hsz
  generalize hW0 : ((w.alloc (.cells #[.int .i64 x] 3)).alloc (.cells #[.int .i64 0, .int .i64 0, .int .i64 0, .int .i64 0] 189)).alloc (.cells #[.slice A l.length c] 61) = W0 at *
  clear hW0
  refine wpIn_rangeFunc_ownH rfl (by omega) (gf := 242) (lb := #[.pointer (some ⟨w.heap.size + 2, 0, none⟩)]) rfl trivial (enters_of Tryz.func242 (by kernel_rfl) rfl)
    (lines_stops (w.heap.size + 2) W0.heap.size A c l (by omega) W0 (Nat.le_refl _) hBS (by omega) hVW (fun b hb => Sl.lt ptC_len (by decide) hVW (by intro h; simp [h] at h1) b hb)) belowK_t (belowK_b (Nat.le_refl _)) (Below.refl _ _) (fun _ => rfl)
    (atI w W0 x)
    (atX w x)
    (fun pre X Y row hs hg hr => ⟨hs.1, heap_kept hs.2.1 hg (fun r e => (hr r e).2), heap_kept hs.2.2.1 hg (fun r e => (hr r e).2), ownFrom_below (β := Unit) (Nat.le_refl _) (by omega) () X Y row hs.2.2.2.1 hg hr, Nat.le_trans hs.2.2.2.2 hg.size⟩)
    (fun cd pre X Y row hs hg hr => by
      obtain ⟨h1, ⟨p, s, h2, h3, h4, h5⟩, h6⟩ := hs
      exact ⟨h1, ⟨p, s, h2, h3, h4, heap_kept h5 hg (fun r e => (hr r e).2)⟩, ownFrom_below (β := Unit) (Nat.le_refl _) (by omega) () X Y row h6 hg hr⟩)
    ⟨by simp, R0, R1, hB0, Nat.le_refl _⟩
    (fun s a' W => ∃ Bx, w.heap.size + 1 < Bx ∧ W.heap[Bx]? = some (.cells (sgC' s) 189 (0, 0)) ∧ a' = { tmps := #[.slice A l.length c, .int .i64 x, undef, .pointer (some ⟨w.heap.size, 0, none⟩), .pointer (some ⟨w.heap.size + 1, 0, none⟩), .pointer (some ⟨Bx, 0, none⟩), .slice A l.length c, .func (.func 242) #[] #[.pointer (some ⟨w.heap.size + 2, 0, none⟩)], .agg #[.int .i64 s.1.x, .int .i64 s.1.y, .int .i64 s.2.x, .int .i64 s.2.y], undef, undef, undef, undef, undef], defers := [] })
    (fun s a' _ X Y row hs hg hr => by obtain ⟨Bx, h1, h2, h3⟩ := hs; exact ⟨Bx, h1, heap_kept h2 hg (fun r e => (hr r e).2), h3⟩) ?assign ?body ?done ?stop
  case assign =>
    rintro l' pre s W K ⟨hp, hR, hR1, hB, hZ⟩ hK
    dsimp only [sgC]
    gi_wp2
    exact hK _ _ ((KeepsOthers.alloc _ _).from _) (Below.alloc (Below.refl _ _) hZ _) ⟨hp, bk_alloc hR _, bk_alloc hR1 _, hB.alloc hB.size _, by rw [World.size_alloc]; omega⟩ ⟨W.heap.size, bk_lt hR1, bk_new _ _, rfl⟩
  case body =>
    rintro l' pre s a' W hl' ⟨r, hr⟩ ⟨hp, hR, hR1, hB, hZ⟩ ⟨Bx, hBx, hX, rfl⟩ hlt
    have c0 := bk_cell hX 0
    have c1 := bk_cell hX 1
    have c2 := bk_cell hX 2
    have c3 := bk_cell hX 3
    have e0 := bk_cell hR 0
    simp [sgC'] at c0 c1 c2 c3 e0
    have HR := Lib.hid hR
    have HR1 := Lib.hid hR1
    have HX := Lib.hid hX
    have HP := Lib.hid hp
    clear hX hR hR1 hp hr
    cases hs : segHas x s with
    | false =>
      have hs' : (decide (s.1.x ≤ x) && decide (x ≤ s.2.x)) = false := hs
      have HS := Lib.hid hs
      have HS' := Lib.hid hs'
      clear hs hs'
      gi_wp2_with (first | (refine ⟨trivial, ?_⟩; gi_at_call 237; refine (callsIn_wide.2 (lhas_any _ _ _ _ _ _)).mono ?_; rintro e3 w3 ⟨rfl, hb3⟩; rw [HS'.out]))
      refine ⟨kf_below hb3 _, hb3.mono (by omega), fun z hz => ?_, bk_below HR.out hb3, bk_below HR1.out hb3, hB.trans (hb3.mono (by have := hB.size; omega)), by have := hb3.size; omega⟩
      rcases List.mem_append.1 hz with hz | hz
      · exact HP.out z hz
      · rw [List.mem_singleton.1 hz]; exact HS.out
    | true =>
      have hs' : (decide (s.1.x ≤ x) && decide (x ≤ s.2.x)) = true := hs
      have HS := Lib.hid hs
      have HS' := Lib.hid hs'
      clear hs hs'
      gi_wp2_with (first | (refine ⟨trivial, ?_⟩; gi_at_call 237; refine (callsIn_wide.2 (lhas_any _ _ _ _ _ _)).mono ?_; rintro e3 w3 ⟨rfl, hb3⟩; rw [HS'.out]; (have hX3 := bk_below HX.out hb3); (have hR3 := bk_below HR1.out hb3); (have d0 := bk_cell hX3 0); (have d1 := bk_cell hX3 1); (have d2 := bk_cell hX3 2); (have d3 := bk_cell hX3 3); (have f0 := bk_fro hR3 0); (have f1 := bk_fro hR3 1); (have f2 := bk_fro hR3 2); (have f3 := bk_fro hR3 3); (have g0 := bk_cell hR3 0); (have g1 := bk_cell hR3 1); (have g2 := bk_cell hR3 2); (have g3 := bk_cell hR3 3); simp [sgC'] at d0 d1 d2 d3 g0 g1 g2 g3; (have HR3 := Lib.hid hR3); clear hX3 hR3))
      have hB3 : Below w.heap.size w w3 := hB.trans (hb3.mono (by have := hB.size; omega))
      exact ⟨((((kf_below hb3 _).trans ((KeepsOthers.setCell _ _ _).from _)).trans ((KeepsOthers.setCell _ _ _).from _)).trans ((KeepsOthers.setCell _ _ _).from _)).trans ((KeepsOthers.setCell _ _ _).from _), rfl, ⟨pre, s, rfl, HP.out, HS.out, bk_put4 HR3.out⟩,
        bl_set (bl_set (bl_set (bl_set hB3 (by simp) _) (by simp) _) (by simp) _) (by simp) _⟩
  case done =>
    rintro D ys W hD rfl ⟨hp, hR, hR1, hB, hZ⟩ hK
    have e0 := bk_cell hR1 0
    have e1 := bk_cell hR1 1
    have e2 := bk_cell hR1 2
    have e3 := bk_cell hR1 3
    have f0 := bk_fro hR1 0
    have f1 := bk_fro hR1 1
    have f2 := bk_fro hR1 2
    have f3 := bk_fro hR1 3
    simp at e0 e1 e2 e3
    have HR := Lib.hid hR1
    have HP := Lib.hid hp
    clear hR hR1 hp
    gi_wp2
    have hK' := ((((KeepsOthers.setCell W ⟨w.heap.size + 1, 0, none⟩ (.int .i64 0)).trans (KeepsOthers.setCell _ ⟨w.heap.size + 1, 1, none⟩ (.int .i64 0))).trans (KeepsOthers.setCell _ ⟨w.heap.size + 1, 2, none⟩ (.int .i64 0))).trans (KeepsOthers.setCell _ ⟨w.heap.size + 1, 3, none⟩ (.int .i64 0))).same D _ hK rfl
    refine ⟨by simp, .inl ⟨_, _, rfl, run_takeDeferred hK', ?_⟩⟩
    have hR2 := heap_kept (bk_put4 (a := .int .i64 0) (b := .int .i64 0) (c := .int .i64 0) (d := .int .i64 0) HR.out) (grownBy_putObj' _ D (.deferred none)) (fun r e => by cases e; exact ⟨_, hK', rfl⟩)
    refine ⟨sgV (⟨0, 0⟩, ⟨0, 0⟩), res_one rfl (.cell (w.heap.size + 1) 189 _ (0, 0) _ rfl hR2 Tryz.underlying189 rfl (by kernel_rfl) .nil), ?_, (bl_set (bl_set (bl_set (bl_set hB (by simp) _) (by simp) _) (by simp) _) (by simp) _).trans (belowK_b (w := w) (Nat.le_refl _) _ D _ _ (by omega) hK' rfl rfl)⟩
    rw [seg_none HP.out]
  case stop =>
    rintro D cd pre W hD ⟨k, hk, hpre⟩ ⟨rfl, ⟨p, s, rfl, hp, hs, hR⟩, hB⟩ hK
    have HE := Lib.hid (seg_find hpre hp hs)
    clear hpre hp hs
    have hR2 := heap_kept hR (grownBy_putObj' _ D (.deferred none)) (fun r e => by cases e; exact ⟨_, hK, rfl⟩)
    have HR2 := Lib.hid hR2
    clear hR2 hR
    gi_wp2
    refine ⟨by simp, .inl ⟨_, _, rfl, run_takeDeferred hK, ?_⟩⟩
    refine ⟨sgV s, res_one rfl (.cell (w.heap.size + 1) 189 _ (0, 0) _ rfl HR2.out Tryz.underlying189 rfl (by kernel_rfl) .nil), ?_, hB.trans (belowK_b (w := w) (Nat.le_refl _) W D _ _ (by omega) hK rfl rfl)⟩
    rw [HE.out]
end Go.Proofs.YtjpagpplkldbkaaGreat
set_option linter.unusedVariables false
set_option linter.unusedSimpArgs false
namespace Go.Proofs.YtjpagpplkldbkaaGreat
open Go.RowKit
theorem cErr_two (l : List Pt) : cErr l = 0 ∨ cErr l = 10 := by unfold cErr; split <;> simp
theorem cErr_zero {l : List Pt} (h : cErr l = 0) : 2 ≤ l.length ∧ l.length ≤ 64 ∧ l.any badP = false ∧ ∀ s ∈ segs l, rises s = true := by
  unfold cErr at h
  split at h
  · rename_i hc
    unfold curveB at hc
    simp only [Bool.and_eq_true, decide_eq_true_eq, Bool.not_eq_true', List.all_eq_true] at hc
    exact ⟨hc.1.1.1, hc.1.1.2, hc.1.2, hc.2⟩
  · cases h
theorem blk4 {w : World} {g : Nat} {t : TypeId} {a b c d : Value} (h : w.heap[g]? = some (.cells #[a, b, c, d] t (0, 0))) :
    (w.cell? ⟨g, 0, none⟩ = some a ∧ w.cell? ⟨g, 1, none⟩ = some b ∧ w.cell? ⟨g, 2, none⟩ = some c ∧ w.cell? ⟨g, 3, none⟩ = some d) ∧ (w.frozen? ⟨g, 0, none⟩ = false ∧ w.frozen? ⟨g, 1, none⟩ = false ∧ w.frozen? ⟨g, 2, none⟩ = false ∧ w.frozen? ⟨g, 3, none⟩ = false) :=
  ⟨⟨bk_cell h 0, bk_cell h 1, bk_cell h 2, bk_cell h 3⟩, bk_fro h 0, bk_fro h 1, bk_fro h 2, bk_fro h 3⟩
theorem blk2 {w : World} {g : Nat} {t : TypeId} {a b : Value} (h : w.heap[g]? = some (.cells #[a, b] t (0, 0))) :
    (w.cell? ⟨g, 0, none⟩ = some a ∧ w.cell? ⟨g, 1, none⟩ = some b) ∧ (w.frozen? ⟨g, 0, none⟩ = false ∧ w.frozen? ⟨g, 1, none⟩ = false) :=
  ⟨⟨bk_cell h 0, bk_cell h 1⟩, bk_fro h 0, bk_fro h 1⟩
theorem bk_put2 {w : World} {g : Nat} {t : TypeId} {a b a' b' : Value} (h : w.heap[g]? = some (.cells #[a', b'] t (0, 0))) :
    ((w.setCell ⟨g, 0, none⟩ a).setCell ⟨g, 1, none⟩ b).heap[g]? = some (.cells #[a, b] t (0, 0)) := by
  have h0 := bk_put1 (cs' := #[a, b']) h 0 a rfl
  exact bk_put1 (cs' := #[a, b]) h0 1 b rfl
def zSeg : Pt × Pt := (⟨0, 0⟩, ⟨0, 0⟩)
set_option maxRecDepth 100000 in
set_option maxHeartbeats 1000000 in
theorem casked_bad (v : Value) (l : List Pt) (x : Int) (w : World) (hv : Sl ptC 2 w v l) (h0 : cErr l = 10) :
    Calls Tryz.prog 132 #[v, .int .i64 x] w fun e w' => e = .returned (.tuple #[sgV zSeg, .int .i64 10]) ∧ Below w.heap.size w w' := by
  have HV := Lib.hid hv
  clear hv
  go_enter Tryz.func132, Tryz.ntmps132
  go_wp2_with fail
  refine (ccheck_any v l _ (HV.out.below (by (repeat' with_reducible first|assumption|exact Below.refl _ _|apply bl_alloc|apply bl_drewN|apply bl_drew|refine bl_set ?_ (by simp<;>omega) _|refine bl_then ?_ (by assumption))))).mono ?_
  rintro e1 w1 ⟨rfl, hb1⟩
  rw [h0]
  have hR := bk_below (bk_new w (.cells #[.int .i64 0, .int .i64 0, .int .i64 0, .int .i64 0] 189)) hb1
  obtain ⟨⟨c0, c1, c2, c3⟩, f0, f1, f2, f3⟩ := blk4 hR
  have HR := Lib.hid hR
  clear hR
  go_wp2
  refine bodyPost_ret (v := .tuple #[sgV zSeg, .int .i64 10]) (res_list (vs := [_, _]) rfl (by simp) (.cell w.heap.size 189 _ (0, 0) _ rfl (bk_put4 HR.out) Tryz.underlying189 rfl (by kernel_rfl) (.tmp rfl .nil))) rfl ?_
  exact ⟨rfl, by (repeat' with_reducible first|assumption|exact Below.refl _ _|apply bl_alloc|apply bl_drewN|apply bl_drew|refine bl_set ?_ (by simp<;>omega) _|refine bl_then ?_ (by assumption))⟩
set_option maxRecDepth 100000 in
set_option maxHeartbeats 1000000 in
theorem casked_out (v : Value) (l : List Pt) (x : Int) (w : World) (hv : Sl ptC 2 w v l) (h0 : cErr l = 0) (hx : cWithin l x = false) :
    Calls Tryz.prog 132 #[v, .int .i64 x] w fun e w' => e = .returned (.tuple #[sgV zSeg, .int .i64 1]) ∧ Below w.heap.size w w' := by
  have HV := Lib.hid hv
  clear hv
  have hlen := (cErr_zero h0).1
  go_enter Tryz.func132, Tryz.ntmps132
  go_wp2_with fail
  refine (ccheck_any v l _ (HV.out.below (by (repeat' with_reducible first|assumption|exact Below.refl _ _|apply bl_alloc|apply bl_drewN|apply bl_drew|refine bl_set ?_ (by simp<;>omega) _|refine bl_then ?_ (by assumption))))).mono ?_
  rintro e1 w1 ⟨rfl, hb1⟩
  rw [h0]
  have hR := bk_below (bk_new w (.cells #[.int .i64 0, .int .i64 0, .int .i64 0, .int .i64 0] 189)) hb1
  obtain ⟨⟨c0, c1, c2, c3⟩, f0, f1, f2, f3⟩ := blk4 hR
  have HR := Lib.hid hR
  clear hR
  go_wp2_with fail
  refine (cwithin_any v l x _ (HV.out.below (by (repeat' with_reducible first|assumption|exact Below.refl _ _|apply bl_alloc|apply bl_drewN|apply bl_drew|refine bl_set ?_ (by simp<;>omega) _|refine bl_then ?_ (by assumption)))) (by omega)).mono ?_
  rintro e2 w2 ⟨rfl, rfl⟩
  rw [hx]
  go_wp2
  refine bodyPost_ret (v := .tuple #[sgV zSeg, .int .i64 1]) (res_list (vs := [_, _]) rfl (by simp) (.cell w.heap.size 189 _ (0, 0) _ rfl (bk_put4 HR.out) Tryz.underlying189 rfl (by kernel_rfl) (.tmp rfl .nil))) rfl ?_
  exact ⟨rfl, by (repeat' with_reducible first|assumption|exact Below.refl _ _|apply bl_alloc|apply bl_drewN|apply bl_drew|refine bl_set ?_ (by simp<;>omega) _|refine bl_then ?_ (by assumption))⟩
set_option maxRecDepth 100000 in
set_option maxHeartbeats 1000000 in
theorem casked_ok (v : Value) (l : List Pt) (x : Int) (w : World) (hv : Sl ptC 2 w v l) (h0 : cErr l = 0) (hx : cWithin l x = true) :
    Calls Tryz.prog 132 #[v, .int .i64 x] w fun e w' => e = .returned (.tuple #[sgV (segAt l x), .int .i64 0]) ∧ Below w.heap.size w w' := by
  have HV := Lib.hid hv
  clear hv
  obtain ⟨hlen, hlen2, _⟩ := cErr_zero h0
  go_enter Tryz.func132, Tryz.ntmps132
  go_wp2_with fail
  refine (ccheck_any v l _ (HV.out.below (by (repeat' with_reducible first|assumption|exact Below.refl _ _|apply bl_alloc|apply bl_drewN|apply bl_drew|refine bl_set ?_ (by simp<;>omega) _|refine bl_then ?_ (by assumption))))).mono ?_
  rintro e1 w1 ⟨rfl, hb1⟩
  rw [h0]
  have hR := bk_below (bk_new w (.cells #[.int .i64 0, .int .i64 0, .int .i64 0, .int .i64 0] 189)) hb1
  have HR := Lib.hid hR
  clear hR
  go_wp2_with fail
  refine (cwithin_any v l x _ (HV.out.below (by (repeat' with_reducible first|assumption|exact Below.refl _ _|apply bl_alloc|apply bl_drewN|apply bl_drew|refine bl_set ?_ (by simp<;>omega) _|refine bl_then ?_ (by assumption)))) (by omega)).mono ?_
  rintro e2 w2 ⟨rfl, rfl⟩
  rw [hx]
  go_wp2_with fail
  refine (cat_any v l x _ (HV.out.below (by (repeat' with_reducible first|assumption|exact Below.refl _ _|apply bl_alloc|apply bl_drewN|apply bl_drew|refine bl_set ?_ (by simp<;>omega) _|refine bl_then ?_ (by assumption)))) hlen hlen2).mono ?_
  rintro e3 w3 ⟨rfl, hb3⟩
  have hR3 := bk_below HR.out hb3
  obtain ⟨⟨c0, c1, c2, c3⟩, f0, f1, f2, f3⟩ := blk4 hR3
  have HR3 := Lib.hid hR3
  clear hR3
  unfold sgV
  go_wp2
  refine bodyPost_ret (v := .tuple #[sgV (segAt l x), .int .i64 0]) (res_list (vs := [_, _]) rfl (by simp) (.cell w.heap.size 189 _ (0, 0) _ rfl (bk_put4 HR3.out) Tryz.underlying189 rfl (by kernel_rfl) (.tmp rfl .nil))) rfl ?_
  exact ⟨rfl, by (repeat' with_reducible first|assumption|exact Below.refl _ _|apply bl_alloc|apply bl_drewN|apply bl_drew|refine bl_set ?_ (by simp<;>omega) _|refine bl_then ?_ (by assumption))⟩
def raV (r : WH.Ra) : Value := .agg #[.int .i64 r.n, .int .i64 r.d]
set_option maxRecDepth 100000 in
set_option maxHeartbeats 1000000 in
theorem cexact_no (v : Value) (l : List Pt) (x : Int) (w : World) (hv : Sl ptC 2 w v l) (h0 : exErr l x ≠ 0) :
    Calls Tryz.prog 45 #[v, .int .i64 x] w fun e w' => e = .returned (.tuple #[raV ⟨0, 0⟩, .int .i64 (exErr l x)]) ∧ Below w.heap.size w w' := by
  have HV := Lib.hid hv
  clear hv
  unfold exErr at h0 ⊢
  rcases cErr_two l with hc | hc
  · rw [if_pos hc] at h0 ⊢
    cases hx : cWithin l x with
    | true => rw [hx] at h0; simp at h0
    | false =>
      simp only [Bool.false_eq_true, if_false]
      go_enter Tryz.func45, Tryz.ntmps45
      go_wp2_with fail
      refine (casked_out v l x _ (HV.out.below (by (repeat' with_reducible first|assumption|exact Below.refl _ _|apply bl_alloc|apply bl_drewN|apply bl_drew|refine bl_set ?_ (by simp<;>omega) _|refine bl_then ?_ (by assumption)))) hc hx).mono ?_
      rintro e1 w1 ⟨rfl, hb1⟩
      unfold sgV
      have hR := bk_below (bk_new w (.cells #[.int .i64 0, .int .i64 0] 41)) hb1
      obtain ⟨⟨c0, c1⟩, f0, f1⟩ := blk2 (bk_below (bk_new w (.cells #[.int .i64 0, .int .i64 0] 41)) hb1)
      have hsz := bk_lt (bk_below (bk_new w (.cells #[.int .i64 0, .int .i64 0] 41)) hb1)
      have HR := Lib.hid hR
      clear hR
      go_wp2
      refine bodyPost_ret (v := .tuple #[raV ⟨0, 0⟩, .int .i64 1]) (res_list (vs := [_, _]) rfl (by simp) (.cell w.heap.size 41 _ (0, 0) _ rfl (bk_alloc (bk_put2 HR.out) _) Tryz.underlying41 rfl (by kernel_rfl) (.tmp rfl .nil))) rfl ?_
      exact ⟨rfl, by (repeat' with_reducible first|assumption|exact Below.refl _ _|apply bl_alloc|apply bl_drewN|apply bl_drew|refine bl_set ?_ (by simp<;>omega) _|refine bl_then ?_ (by assumption))⟩
  · rw [if_neg (show ¬ cErr l = 0 by omega)] at h0 ⊢
    go_enter Tryz.func45, Tryz.ntmps45
    go_wp2_with fail
    refine (casked_bad v l x _ (HV.out.below (by (repeat' with_reducible first|assumption|exact Below.refl _ _|apply bl_alloc|apply bl_drewN|apply bl_drew|refine bl_set ?_ (by simp<;>omega) _|refine bl_then ?_ (by assumption)))) hc).mono ?_
    rintro e1 w1 ⟨rfl, hb1⟩
    unfold sgV
    have hR := bk_below (bk_new w (.cells #[.int .i64 0, .int .i64 0] 41)) hb1
    obtain ⟨⟨c0, c1⟩, f0, f1⟩ := blk2 (bk_below (bk_new w (.cells #[.int .i64 0, .int .i64 0] 41)) hb1)
    have HR := Lib.hid hR
    have hsz := bk_lt (bk_below (bk_new w (.cells #[.int .i64 0, .int .i64 0] 41)) hb1)
    clear hR
    go_wp2
    refine bodyPost_ret (v := .tuple #[raV ⟨0, 0⟩, .int .i64 10]) (res_list (vs := [_, _]) rfl (by simp) (.cell w.heap.size 41 _ (0, 0) _ rfl (bk_alloc (bk_put2 HR.out) _) Tryz.underlying41 rfl (by kernel_rfl) (.tmp rfl .nil))) rfl ?_
    exact ⟨rfl, by (repeat' with_reducible first|assumption|exact Below.refl _ _|apply bl_alloc|apply bl_drewN|apply bl_drew|refine bl_set ?_ (by simp<;>omega) _|refine bl_then ?_ (by assumption))⟩
theorem zip_tail_mem {l : List Pt} {s : Pt × Pt} (h : s ∈ segs l) : s.1 ∈ l ∧ s.2 ∈ l := by
  unfold segs at h
  have := List.of_mem_zip (a := s.1) (b := s.2) h
  exact ⟨this.1, List.mem_of_mem_tail this.2⟩
/-- Within the range of a valid curve a line has each place. -/
theorem seg_some : ∀ (l : List Pt) (x : Int), 2 ≤ l.length → (l.head?.map Pt.x).getD 0 ≤ x → x ≤ (l.getLast?.map Pt.x).getD 0 → ∃ s ∈ segs l, segHas x s = true
  | [], _, h, _, _ => absurd h (by simp)
  | [_], _, h, _, _ => absurd h (by simp)
  | a :: b :: l, x, _, h1, h2 => by
    by_cases hb : x ≤ b.x
    · exact ⟨(a, b), by simp [segs], by simp at h1; simp [segHas, h1, hb]⟩
    · cases l with
      | nil => simp at h2; omega
      | cons c l =>
        obtain ⟨s, hs, hp⟩ := seg_some (b :: c :: l) x (by simp) (by simp; omega) (by simpa using h2)
        exact ⟨s, by simp only [segs, List.tail_cons] at hs ⊢; exact List.mem_cons_of_mem _ hs, hp⟩
theorem seg_right {l : List Pt} {x : Int} (h0 : cErr l = 0) (hx : cWithin l x = true) : segHas x (segAt l x) = true ∧ segAt l x ∈ segs l := by
  obtain ⟨h1, h2, h3, h4⟩ := cErr_zero h0
  unfold cWithin at hx
  simp only [Bool.and_eq_true, decide_eq_true_eq] at hx
  obtain ⟨s, hs, hp⟩ := seg_some l x h1 hx.1 hx.2
  have hsome : ((segs l).find? (segHas x)).isSome := by rw [List.find?_isSome]; exact ⟨s, hs, hp⟩
  obtain ⟨t, ht⟩ := Option.isSome_iff_exists.1 hsome
  have e : segAt l x = t := by unfold segAt; rw [ht]; rfl
  rw [e]
  exact ⟨List.find?_some ht, List.mem_of_find?_eq_some ht⟩
theorem badP_bd {p : Pt} (h : badP p = false) : (0 ≤ p.x ∧ p.x ≤ 16777216) ∧ (0 ≤ p.y ∧ p.y ≤ 16777216) := by
  simp [badP, coordB] at h
  omega
set_option maxRecDepth 100000 in
set_option maxHeartbeats 1000000 in
theorem cexact_ok (v : Value) (l : List Pt) (x : Int) (w : World) (hv : Sl ptC 2 w v l) (h0 : cErr l = 0) (hx : cWithin l x = true) :
    Calls Tryz.prog 45 #[v, .int .i64 x] w fun e w' => e = .returned (.tuple #[raV (exactC l x), .int .i64 0]) ∧ Below w.heap.size w w' := by
  have HV := Lib.hid hv
  clear hv
  obtain ⟨s1, s2⟩ := seg_right h0 hx
  obtain ⟨_, _, hbad, hrise⟩ := cErr_zero h0
  have hr := hrise _ s2
  obtain ⟨m1, m2⟩ := zip_tail_mem s2
  have b1 := badP_bd (by simpa using List.any_eq_false.1 hbad _ m1)
  have b2 := badP_bd (by simpa using List.any_eq_false.1 hbad _ m2)
  simp [rises] at hr
  simp [segHas] at s1
  clear s2 m1 m2 hbad hrise
  unfold exactC segR segN
  generalize hs : segAt l x = s at *
  have HS := Lib.hid hs
  clear hs
  have q6 : s.1.y ≤ s.2.y := by omega
  have q5 : s.1.x ≤ x ∧ x ≤ 16777216 := by omega
  obtain ⟨b11, b12⟩ := b1
  obtain ⟨b21, b22⟩ := b2
  obtain ⟨q7, _⟩ := hr
  go_enter Tryz.func45, Tryz.ntmps45
  go_wp2_with fail
  refine (casked_ok v l x _ (HV.out.below (by (repeat' with_reducible first|assumption|exact Below.refl _ _|apply bl_alloc|apply bl_drewN|apply bl_drew|refine bl_set ?_ (by simp<;>omega) _|refine bl_then ?_ (by assumption)))) h0 hx).mono ?_
  rintro e1 w1 ⟨rfl, hb1⟩
  rw [HS.out]
  unfold sgV
  have hsz := hb1.size
  have hR := bk_below (bk_new w (.cells #[.int .i64 0, .int .i64 0] 41)) hb1
  have HR := Lib.hid hR
  clear hR
  go_wp2_with fail
  refine (lexact_any _ _ _ _ x _ b11 b12 b21 b22 q5 q6 q7).mono ?_
  rintro e2 w2 ⟨rfl, hb2⟩
  have hB : Below w.heap.size w w2 := by (repeat' with_reducible first|assumption|exact Below.refl _ _|apply bl_alloc|apply bl_drewN|apply bl_drew|refine bl_set ?_ (by simp<;>omega) _|refine bl_then ?_ (by assumption))
  have hR2 := bk_below (bk_alloc HR.out (.cells #[.int .i64 s.1.x, .int .i64 s.1.y, .int .i64 s.2.x, .int .i64 s.2.y] 189)) hb2
  obtain ⟨⟨c0, c1⟩, f0, f1⟩ := blk2 hR2
  have HR2 := Lib.hid hR2
  clear hR2
  go_wp2
  refine bodyPost_ret (v := .tuple #[raV ⟨lowN (s.1.y * (s.2.x - s.1.x) + (x - s.1.x) * (s.2.y - s.1.y)) (s.2.x - s.1.x), lowD (s.1.y * (s.2.x - s.1.x) + (x - s.1.x) * (s.2.y - s.1.y)) (s.2.x - s.1.x)⟩, .int .i64 0]) (res_list (vs := [_, _]) rfl (by simp) (.cell w.heap.size 41 _ (0, 0) _ rfl (bk_put2 HR2.out) Tryz.underlying41 rfl (by kernel_rfl) (.tmp rfl .nil))) rfl ?_
  exact ⟨rfl, by (repeat' with_reducible first|assumption|exact Below.refl _ _|apply bl_alloc|apply bl_drewN|apply bl_drew|refine bl_set ?_ (by simp<;>omega) _|refine bl_then ?_ (by assumption))⟩
end Go.Proofs.YtjpagpplkldbkaaGreat
set_option linter.unusedVariables false
set_option linter.unusedSimpArgs false
namespace Go.Proofs.YtjpagpplkldbkaaGreat
open Go.RowKit WH
theorem low_pos {n d : Int} (h1 : 0 ≤ n) (h2 : 0 < d) : 0 ≤ lowN n d ∧ lowN n d ≤ n ∧ 0 < lowD n d ∧ lowD n d ≤ d ∧ lowN n d * d = n * lowD n d ∧ Int.gcd (lowN n d) (lowD n d) = 1 := by
  have hg : 0 < Int.gcd n d := Int.gcd_pos_of_ne_zero_right _ (by omega)
  have hgi : (0 : Int) < (Int.gcd n d : Int) := by omega
  obtain ⟨a, ha⟩ := Int.gcd_dvd_left n d
  obtain ⟨b, hb⟩ := Int.gcd_dvd_right n d
  have ea : lowN n d = a := by unfold lowN; exact Int.ediv_eq_of_eq_mul_right (by omega) ha
  have eb : lowD n d = b := by unfold lowD; exact Int.ediv_eq_of_eq_mul_right (by omega) hb
  have hc : Int.gcd a b = 1 := by
    have h := Int.gcd_mul_left (Int.gcd n d : Int) a b
    rw [← ha, ← hb] at h
    have h' : Int.gcd n d * 1 = Int.gcd n d * Int.gcd a b := by simpa using h
    exact (Nat.eq_of_mul_eq_mul_left hg h').symm
  rw [ea, eb]
  generalize (Int.gcd n d : Int) = g at *
  have p1 : 0 ≤ a := by
    refine Int.not_lt.1 fun hn => ?_
    have := Int.mul_neg_of_pos_of_neg hgi hn
    omega
  have p2 : 0 < b := by
    refine Int.not_le.1 fun hn => ?_
    have := Int.mul_nonpos_of_nonneg_of_nonpos (Int.le_of_lt hgi) hn
    omega
  have p3 : a ≤ g * a := by have := Int.mul_le_mul_of_nonneg_right (show 1 ≤ g by omega) p1; omega
  have p4 : b ≤ g * b := by have := Int.mul_le_mul_of_nonneg_right (show 1 ≤ g by omega) (Int.le_of_lt p2); omega
  refine ⟨p1, by omega, p2, by omega, ?_, hc⟩
  rw [ha, hb]
  grind
theorem low_same {a b c d : Int} (h1 : 0 ≤ a) (h2 : 0 < b) (h3 : 0 ≤ c) (h4 : 0 < d) (hab : Int.gcd a b = 1) (hcd : Int.gcd c d = 1) (h : a * d = c * b) : a = c ∧ b = d := by
  obtain ⟨a, rfl⟩ := Int.eq_ofNat_of_zero_le h1
  obtain ⟨b, rfl⟩ := Int.eq_ofNat_of_zero_le (Int.le_of_lt h2)
  obtain ⟨c, rfl⟩ := Int.eq_ofNat_of_zero_le h3
  obtain ⟨d, rfl⟩ := Int.eq_ofNat_of_zero_le (Int.le_of_lt h4)
  simp only [Int.gcd_natCast_natCast] at hab hcd
  have h' : a * d = c * b := by exact_mod_cast h
  have e1 : b ∣ d := (Nat.Coprime.symm hab).dvd_of_dvd_mul_left ⟨c, by rw [h', Nat.mul_comm]⟩
  have e2 : d ∣ b := (Nat.Coprime.symm hcd).dvd_of_dvd_mul_left ⟨a, by rw [← h', Nat.mul_comm]⟩
  obtain rfl : b = d := Nat.dvd_antisymm e1 e2
  have : a = c := Nat.eq_of_mul_eq_mul_right (by omega) h'
  subst this
  exact ⟨rfl, rfl⟩
/-- Ratios in lowest terms that are the same number are the same. -/
theorem ra_same {a b : Ra} (h1 : 0 ≤ a.n) (h2 : 0 < a.d) (h3 : 0 ≤ b.n) (h4 : 0 < b.d) (ha : Int.gcd a.n a.d = 1) (hb : Int.gcd b.n b.d = 1) (h : a.n * b.d = b.n * a.d) : a = b := by
  obtain ⟨e1, e2⟩ := low_same h1 h2 h3 h4 ha hb h
  cases a; cases b
  simp at e1 e2
  rw [e1, e2]
/-- The height and the time below each ring. -/
def Fl.hh (f : Fl) (k : Nat) : Int := sumTo (f.v.map Rn.h) k
def Fl.dd (f : Fl) (k : Nat) : Int := sumTo (f.v.map Rn.d) k
section
variable {f : Fl}
theorem v_good (hv : vErr f.v = 0) : 1 ≤ f.v.length ∧ f.v.length ≤ 24 ∧ ∀ r ∈ f.v, 1 ≤ r.h ∧ r.h ≤ 1000 ∧ 1 ≤ r.v ∧ r.v ≤ 100000 ∧ 1 ≤ r.d ∧ r.d ≤ 20000 := by
  obtain ⟨h1, h2, h3⟩ := vErr_zero hv
  exact ⟨h1, h2, ring_bds h3⟩
theorem hh_zero : f.hh 0 = 0 := rfl
theorem dd_zero : f.dd 0 = 0 := rfl
theorem hh_succ {k : Nat} (h : k < f.v.length) : f.hh (k + 1) = f.hh k + f.v[k].h := by
  have := sumTo_succ (f.v.map Rn.h) k (by simpa using h)
  unfold Fl.hh
  simpa using this
theorem dd_succ {k : Nat} (h : k < f.v.length) : f.dd (k + 1) = f.dd k + f.v[k].d := by
  have := sumTo_succ (f.v.map Rn.d) k (by simpa using h)
  unfold Fl.dd
  simpa using this
theorem hh_mono (hv : vErr f.v = 0) {i j : Nat} (h : i ≤ j) : f.hh i ≤ f.hh j :=
  sumTo_mono (by intro x hx; obtain ⟨r, hr, rfl⟩ := List.mem_map.1 hx; exact ((v_good hv).2.2 r hr).1) h
theorem hh_bd (hv : vErr f.v = 0) (k : Nat) (hk : k ≤ f.v.length) : 0 ≤ f.hh k ∧ f.hh k ≤ 24000 := by
  have := sumTo_bd (f.v.map Rn.h) k 1000 (by decide) (by intro x hx; obtain ⟨r, hr, rfl⟩ := List.mem_map.1 hx; have := (v_good hv).2.2 r hr; omega)
  have h2 := (v_good hv).2.1
  unfold Fl.hh
  omega
theorem dd_bd (hv : vErr f.v = 0) (k : Nat) (hk : k ≤ f.v.length) : 0 ≤ f.dd k ∧ f.dd k ≤ 480000 := by
  have := sumTo_bd (f.v.map Rn.d) k 20000 (by decide) (by intro x hx; obtain ⟨r, hr, rfl⟩ := List.mem_map.1 hx; have := (v_good hv).2.2 r hr; omega)
  have h2 := (v_good hv).2.1
  unfold Fl.dd
  omega
theorem seg_drawn {k : Nat} (hk : k < f.v.length) : ∃ h : k < (segs (drawnL f.v)).length, (segs (drawnL f.v))[k] = (⟨f.hh k, f.dd k⟩, ⟨f.hh (k + 1), f.dd (k + 1)⟩) := by
  have hl := segs_len (drawnL f.v)
  rw [drawnL_len] at hl
  refine ⟨by omega, ?_⟩
  rw [segs_get (drawnL f.v) k (by omega) (by rw [drawnL_len]; omega) (by rw [drawnL_len]; omega), drawnL_get, drawnL_get]
  rfl
theorem ring_of (x : Int) : ∀ m, m ≤ f.v.length → 0 < m → 0 ≤ x → x ≤ f.hh m → ∃ k, k < m ∧ f.hh k ≤ x ∧ x ≤ f.hh (k + 1)
  | 0, _, h, _, _ => absurd h (by omega)
  | 1, _, _, h0, h1 => ⟨0, by omega, h0, h1⟩
  | m + 2, hm, _, h0, h1 => by
    by_cases h : x ≤ f.hh (m + 1)
    · obtain ⟨k, a, b, c⟩ := ring_of x (m + 1) (by omega) (by omega) h0 h
      exact ⟨k, by omega, b, c⟩
    · exact ⟨m + 1, by omega, by omega, h1⟩
theorem ring_in (hv : vErr f.v = 0) {x : Int} (h0 : 0 ≤ x) (h1 : x ≤ f.H) : ∃ k, k < f.v.length ∧ f.hh k ≤ x ∧ x ≤ f.hh (k + 1) :=
  ring_of x f.v.length (Nat.le_refl _) (v_good hv).1 h0 h1
theorem segAt_in (hv : vErr f.v = 0) {x : Int} (h0 : 0 ≤ x) (h1 : x ≤ f.H) : ∃ k, k < f.v.length ∧ f.hh k ≤ x ∧ x ≤ f.hh (k + 1) ∧ segAt (drawnL f.v) x = (⟨f.hh k, f.dd k⟩, ⟨f.hh (k + 1), f.dd (k + 1)⟩) := by
  obtain ⟨k, hk, a, b⟩ := ring_in hv h0 h1
  obtain ⟨hl, he⟩ := seg_drawn hk
  have hs : ((segs (drawnL f.v)).find? (segHas x)).isSome := by
    rw [List.find?_isSome]
    exact ⟨_, List.getElem_mem hl, by rw [he]; simp [segHas, a, b]⟩
  obtain ⟨s, hs⟩ := Option.isSome_iff_exists.1 hs
  have hp := List.find?_some hs
  obtain ⟨j, hj, hje⟩ := List.getElem_of_mem (List.mem_of_find?_eq_some hs)
  have hj' : j < f.v.length := by have := segs_len (drawnL f.v); rw [drawnL_len] at this; omega
  obtain ⟨hl2, he2⟩ := seg_drawn hj'
  rw [he2] at hje
  subst hje
  simp [segHas] at hp
  exact ⟨j, hj', hp.1, hp.2, by unfold segAt; rw [hs]; rfl⟩
/-- What a time is, within each ring that has the level. -/
theorem T_spec (hv : vErr f.v = 0) {x : Int} (h0 : 0 ≤ x) (h1 : x ≤ f.H) :
    0 ≤ (f.T x).n ∧ (f.T x).n ≤ 480000000 ∧ 1 ≤ (f.T x).d ∧ (f.T x).d ≤ 1000 ∧ Int.gcd (f.T x).n (f.T x).d = 1 ∧
    ∀ k (hk : k < f.v.length), f.hh k ≤ x → x ≤ f.hh (k + 1) → (f.T x).n * f.v[k].h = (f.dd k * f.v[k].h + (x - f.hh k) * f.v[k].d) * (f.T x).d := by
  obtain ⟨j, hj, a, b, e⟩ := segAt_in hv h0 h1
  have hg := (v_good hv).2.2 _ (List.getElem_mem hj)
  have hs := hh_succ hj
  have ds := dd_succ hj
  have d0 := dd_bd hv j (by omega)
  have d1 := dd_bd hv (j + 1) (by omega)
  have eT : f.T x = ⟨lowN (f.dd j * f.v[j].h + (x - f.hh j) * f.v[j].d) f.v[j].h, lowD (f.dd j * f.v[j].h + (x - f.hh j) * f.v[j].d) f.v[j].h⟩ := by
    unfold Fl.T exactC segR segN
    rw [e]
    simp only
    rw [show f.hh (j + 1) - f.hh j = f.v[j].h by omega, show f.dd (j + 1) - f.dd j = f.v[j].d by omega]
  have q1 : 0 ≤ f.dd j * f.v[j].h := Int.mul_nonneg d0.1 (by omega)
  have q2 : 0 ≤ (x - f.hh j) * f.v[j].d := Int.mul_nonneg (by omega) (by omega)
  have q3 : (x - f.hh j) * f.v[j].d ≤ f.v[j].h * f.v[j].d := Int.mul_le_mul_of_nonneg_right (by omega) (by omega)
  have q4 : f.dd j * f.v[j].h + f.v[j].h * f.v[j].d = f.dd (j + 1) * f.v[j].h := by rw [ds]; grind
  have q5 : f.dd (j + 1) * f.v[j].h ≤ 480000 * 1000 := Int.mul_le_mul d1.2 (by omega) (by omega) (by omega)
  obtain ⟨l1, l2, l3, l4, l5, l6⟩ := low_pos (n := f.dd j * f.v[j].h + (x - f.hh j) * f.v[j].d) (d := f.v[j].h) (by omega) (by omega)
  rw [eT]
  refine ⟨l1, by dsimp only; omega, by dsimp only; omega, by dsimp only; omega, l6, ?_⟩
  intro k hk c1 c2
  dsimp only
  rcases Nat.lt_trichotomy k j with h | h | h
  · have m1 := hh_mono hv (show k + 1 ≤ j from h)
    have hkg := (v_good hv).2.2 _ (List.getElem_mem hk)
    have ex : x = f.hh j := by omega
    have ek : k + 1 = j := by
      rcases Nat.lt_or_ge (k + 1) j with h' | h'
      · have m2 := hh_mono hv (show k + 1 + 1 ≤ j from h')
        have m3 := hh_succ (f := f) (k := k + 1) (by omega)
        have := (v_good hv).2.2 _ (List.getElem_mem (show k + 1 < f.v.length by omega))
        omega
      · omega
    subst ek
    have dk := dd_succ hk
    have hk' := hh_succ hk
    have e1 : f.dd k * f.v[k].h + (x - f.hh k) * f.v[k].d = f.dd (k + 1) * f.v[k].h := by rw [dk, show x - f.hh k = f.v[k].h by omega]; grind
    rw [e1]
    have e2 : f.dd (k + 1) * f.v[k + 1].h + (x - f.hh (k + 1)) * f.v[k + 1].d = f.dd (k + 1) * f.v[k + 1].h := by rw [show x - f.hh (k + 1) = 0 by omega]; simp
    rw [e2] at l5 ⊢
    generalize lowN (f.dd (k + 1) * f.v[k + 1].h) f.v[k + 1].h = N at *
    generalize lowD (f.dd (k + 1) * f.v[k + 1].h) f.v[k + 1].h = D at *
    have e3 : N = f.dd (k + 1) * D := by
      have : N * f.v[k + 1].h = (f.dd (k + 1) * D) * f.v[k + 1].h := by rw [l5]; grind
      exact Int.eq_of_mul_eq_mul_right (by omega) this
    rw [e3]; grind
  · subst h; exact l5
  · have m1 := hh_mono hv (show j + 1 ≤ k from h)
    have hkg := (v_good hv).2.2 _ (List.getElem_mem hk)
    have ek : j + 1 = k := by
      rcases Nat.lt_or_ge (j + 1) k with h' | h'
      · have m2 := hh_mono hv (show j + 1 + 1 ≤ k from h')
        have m3 := hh_succ (f := f) (k := j + 1) (by omega)
        have := (v_good hv).2.2 _ (List.getElem_mem (show j + 1 < f.v.length by omega))
        omega
      · omega
    subst ek
    have e1 : f.dd (j + 1) * f.v[j + 1].h + (x - f.hh (j + 1)) * f.v[j + 1].d = f.dd (j + 1) * f.v[j + 1].h := by rw [show x - f.hh (j + 1) = 0 by omega]; simp
    rw [e1]
    have e2 : f.dd j * f.v[j].h + (x - f.hh j) * f.v[j].d = f.dd (j + 1) * f.v[j].h := by rw [ds, show x - f.hh j = f.v[j].h by omega]; grind
    rw [e2] at l5 ⊢
    generalize lowN (f.dd (j + 1) * f.v[j].h) f.v[j].h = N at *
    generalize lowD (f.dd (j + 1) * f.v[j].h) f.v[j].h = D at *
    have e3 : N = f.dd (j + 1) * D := by
      have : N * f.v[j].h = (f.dd (j + 1) * D) * f.v[j].h := by rw [l5]; grind
      exact Int.eq_of_mul_eq_mul_right (by omega) this
    rw [e3]; grind
/-- A time as a number. -/
def Fl.tv (f : Fl) (x : Int) : Rat := (f.T x).v
theorem tv_at (hv : vErr f.v = 0) {x : Int} {k : Nat} (hk : k < f.v.length) (a : f.hh k ≤ x) (b : x ≤ f.hh (k + 1)) :
    f.tv x = (f.dd k : Rat) + ((x - f.hh k : Int) : Rat) * (f.v[k].d : Rat) / (f.v[k].h : Rat) := by
  have h0 := (hh_bd hv k (by omega)).1
  have h1 : x ≤ f.H := Int.le_trans b (hh_mono hv (show k + 1 ≤ f.v.length from hk))
  obtain ⟨t1, t2, t3, t4, t5, t6⟩ := T_spec hv (x := x) (by omega) h1
  have h := t6 k hk a b
  have hg := (v_good hv).2.2 _ (List.getElem_mem hk)
  have p1 := cast_pos (show 0 < (f.T x).d by omega)
  have p2 := cast_pos (show 0 < f.v[k].h by omega)
  unfold Fl.tv Ra.v
  have hq : ((f.T x).n : Rat) * (f.v[k].h : Rat) = ((f.dd k : Rat) * (f.v[k].h : Rat) + ((x - f.hh k : Int) : Rat) * (f.v[k].d : Rat)) * ((f.T x).d : Rat) := by exact_mod_cast h
  generalize ((f.T x).n : Rat) = N at *
  generalize ((f.T x).d : Rat) = D at *
  generalize (f.v[k].h : Rat) = H at *
  generalize (f.v[k].d : Rat) = E at *
  generalize (f.dd k : Rat) = M at *
  generalize ((x - f.hh k : Int) : Rat) = X at *
  grind
theorem tv_zero (hv : vErr f.v = 0) : f.tv 0 = 0 := by
  have h := tv_at hv (x := 0) (k := 0) (v_good hv).1 (by rw [hh_zero]; omega) (hh_bd hv 1 (v_good hv).1).1
  rw [h, dd_zero, hh_zero]
  simp
  grind
theorem tv_top (hv : vErr f.v = 0) : f.tv f.H = (f.dd f.v.length : Rat) := by
  have h1 := (v_good hv).1
  obtain ⟨m, hm⟩ : ∃ m, f.v.length = m + 1 := ⟨f.v.length - 1, by omega⟩
  have hk : m < f.v.length := by omega
  have hH : f.H = f.hh (m + 1) := by unfold Fl.H Fl.hh; rw [hm]
  have hs := hh_succ hk
  have ds := dd_succ hk
  have hg := (v_good hv).2.2 _ (List.getElem_mem hk)
  have h := tv_at hv (x := f.H) hk (by rw [hH]; omega) (by rw [hH]; exact Int.le_refl _)
  rw [h, hm, ds, hH, show f.hh (m + 1) - f.hh m = f.v[m].h by omega]
  have p2 := cast_pos (show 0 < f.v[m].h by omega)
  push_cast
  grind
theorem tv_step (hv : vErr f.v = 0) {x : Int} (h0 : 0 ≤ x) (h1 : x + 1 ≤ f.H) : f.tv x < f.tv (x + 1) := by
  have key : ∀ m, m ≤ f.v.length → 0 < m → x + 1 ≤ f.hh m → ∃ k, k < m ∧ f.hh k ≤ x ∧ x + 1 ≤ f.hh (k + 1) := by
    intro m
    induction m with
    | zero => intro _ h; omega
    | succ m ih =>
      intro hm _ h
      by_cases h' : x + 1 ≤ f.hh m
      · rcases Nat.eq_zero_or_pos m with rfl | hp
        · rw [hh_zero] at h'; omega
        · obtain ⟨k, a, b, c⟩ := ih (by omega) hp h'
          exact ⟨k, by omega, b, c⟩
      · exact ⟨m, by omega, by omega, h⟩
  obtain ⟨k, hk, a, b⟩ := key f.v.length (Nat.le_refl _) (v_good hv).1 h1
  have hg := (v_good hv).2.2 _ (List.getElem_mem hk)
  rw [tv_at hv hk a (by omega), tv_at hv hk (by omega) b]
  have p1 := cast_pos (show 0 < f.v[k].d by omega)
  have p2 := cast_pos (show 0 < f.v[k].h by omega)
  have e : ((x + 1 - f.hh k : Int) : Rat) = ((x - f.hh k : Int) : Rat) + 1 := by push_cast; grind
  rw [e]
  generalize (f.v[k].h : Rat) = H at *
  generalize (f.v[k].d : Rat) = E at *
  generalize (f.dd k : Rat) = M at *
  generalize ((x - f.hh k : Int) : Rat) = X at *
  have h3 : 0 < E / H := by rw [lt_div_iff p2]; grind
  have h4 : (X + 1) * E / H = X * E / H + E / H := by grind
  grind
theorem tv_mono (hv : vErr f.v = 0) {x y : Int} (h0 : 0 ≤ x) (h : x ≤ y) (h1 : y ≤ f.H) : f.tv x ≤ f.tv y := by
  obtain ⟨n, rfl⟩ : ∃ n : Nat, y = x + n := ⟨(y - x).toNat, by omega⟩
  clear h
  induction n with
  | zero => simp
  | succ n ih =>
    have h2 := ih (by omega)
    have h3 := tv_step hv (x := x + n) (by omega) (by omega)
    rw [show x + ((n + 1 : Nat) : Int) = x + n + 1 by omega]
    grind
theorem tv_lt (hv : vErr f.v = 0) {x y : Int} (h0 : 0 ≤ x) (h : x < y) (h1 : y ≤ f.H) : f.tv x < f.tv y := by
  have h2 := tv_step hv h0 (show x + 1 ≤ f.H by omega)
  have h3 := tv_mono hv (x := x + 1) (y := y) (by omega) (by omega) h1
  grind
theorem H_bd (hv : vErr f.v = 0) : 1 ≤ f.H ∧ f.H ≤ 24000 := by
  have h1 := (v_good hv).1
  have h2 := hh_bd hv f.v.length (Nat.le_refl _)
  have h3 := hh_mono hv (show 1 ≤ f.v.length from h1)
  have h4 := hh_succ (f := f) (k := 0) h1
  have h5 := (v_good hv).2.2 _ (List.getElem_mem h1)
  rw [hh_zero] at h4
  have : f.H = f.hh f.v.length := rfl
  rw [Nat.zero_add] at h4
  omega
theorem T_pos (hv : vErr f.v = 0) {x : Int} (h0 : 0 ≤ x) (h1 : x ≤ f.H) : (f.T x).pos := by
  have := (T_spec hv h0 h1).2.2.1
  show 0 < _
  omega
end
end Go.Proofs.YtjpagpplkldbkaaGreat
set_option linter.unusedVariables false
set_option linter.unusedSimpArgs false
namespace Go.Proofs.YtjpagpplkldbkaaGreat
open Go.RowKit WH
section
variable {f : Fl}
/-- What each case fulfils. -/
def Fl.base (f : Fl) (g e : Rat) : Prop := (1 / 4 : Rat) ≤ g ∧ g ≤ 1000 ∧ 0 ≤ e ∧ e ≤ f.tv f.H
/-- A case fulfils an item. -/
def Fl.item (f : Fl) (k : Int) (g e : Rat) : Prop :=
  if k = -2 then (1000 : Rat) / (f.wh : Rat) ≤ g ∧ g ≤ (1000 : Rat) / (f.wl : Rat)
  else if k = -1 then f.tv (lvLo f.lv f.er) ≤ e ∧ e ≤ f.tv (lvHi f.H f.lv f.er)
  else match f.seen[k.toNat]? with
    | none => True
    | some s => (0 < lvLo s.lv s.er → (s.lo : Rat) * g + f.tv (lvLo s.lv s.er) ≤ e) ∧ e ≤ (s.hi : Rat) * g + f.tv (lvHi f.H s.lv s.er)
/-- A case of some items. -/
def Fl.case_ (f : Fl) (l : List Int) (g e : Rat) : Prop := f.base g e ∧ ∀ k ∈ l, f.item k g e
structure Fl.good (f : Fl) : Prop where
  v : vErr f.v = 0
  look : lookB f.lv f.er f.H = true
  wear : withinB f.wl f.wh 1 4000 = true
  len : f.seen.length ≤ 24
  seen : ∀ s ∈ f.seen, okSn f.H s = true
theorem good_iff : f.okB = true ↔ f.good := by
  unfold Fl.okB
  simp only [Bool.and_eq_true, decide_eq_true_eq, List.all_eq_true]
  constructor
  · rintro ⟨⟨⟨⟨a, b⟩, c⟩, d⟩, e⟩; exact ⟨a, b, c, d, e⟩
  · rintro ⟨a, b, c, d, e⟩; exact ⟨⟨⟨⟨a, b⟩, c⟩, d⟩, e⟩
theorem look_bd {l e h : Int} (hl : lookB l e h = true) : 0 ≤ l ∧ l ≤ h ∧ 0 ≤ e ∧ e ≤ 1000 := by
  unfold lookB fromB at hl
  simp at hl
  omega
theorem within_bd {a b lo hi : Int} (h : withinB a b lo hi = true) : lo ≤ a ∧ a ≤ b ∧ b ≤ hi := by
  unfold withinB at h
  simp at h
  omega
theorem lv_bd {l e h : Int} (hl : lookB l e h = true) : 0 ≤ lvLo l e ∧ lvLo l e ≤ l ∧ l ≤ lvHi h l e ∧ lvHi h l e ≤ h := by
  have := look_bd hl
  unfold lvLo lvHi
  omega
theorem okSn_bd {h : Int} {s : Sn} (hs : okSn h s = true) : (0 ≤ s.lo ∧ s.lo ≤ s.hi ∧ s.hi ≤ 1048576) ∧ lookB s.lv s.er h = true := by
  unfold okSn at hs
  simp only [Bool.and_eq_true] at hs
  exact ⟨within_bd hs.1, hs.2⟩
theorem at_zero (t : Ra) (g : Rat) (s : Bool) : (⟨0, t, s⟩ : Ln).at g = t.v := by unfold Ln.at; push_cast; grind
/-- A region that is as the work makes it. -/
structure _root_.WH.Rg.tidy (r : Rg) : Prop where
  whole : r.whole
  lo : Bd.fit r.lo
  hi : Bd.fit r.hi
  above : ∀ l ∈ r.above, Ln.ok l
  below : ∀ l ∈ r.below, Ln.ok l
  plain : r.lo.strict = false ∧ r.hi.strict = false ∧ (∀ l ∈ r.above, l.strict = false) ∧ ∀ l ∈ r.below, l.strict = false
theorem T_ln (hv : vErr f.v = 0) {x s : Int} (h0 : 0 ≤ x) (h1 : x ≤ f.H) (s0 : 0 ≤ s) (s1 : s ≤ 2097152) (b : Bool) : Ln.ok ⟨s, f.T x, b⟩ := by
  obtain ⟨t1, t2, t3, t4, _⟩ := T_spec hv h0 h1
  exact ⟨s0, s1, t1, t2, t3, t4⟩
theorem fit1 : Bd.fit ⟨⟨1, 4⟩, false⟩ := ⟨by decide, by decide, by decide, by decide⟩
theorem fit2 : Bd.fit ⟨⟨1000, 1⟩, false⟩ := ⟨by decide, by decide, by decide, by decide⟩
theorem ln0 : Ln.ok ⟨0, ⟨0, 1⟩, false⟩ := ⟨by decide, by decide, by decide, by decide, by decide, by decide⟩
theorem pos41 : (0 : Rat) < (⟨1, 4⟩ : Ra).v := by unfold Ra.v; push_cast; grind
theorem reg0_tidy (hv : vErr f.v = 0) : f.reg0.tidy := by
  have hH := H_bd hv
  have hT := T_ln hv (x := f.H) (s := 0) (by omega) (by omega) (by omega) (by omega) false
  refine ⟨⟨⟨show (0 : Int) < 4 by omega, show (0 : Int) < 1 by omega, pos41⟩, ?_, ?_, by simp [Fl.reg0], by simp [Fl.reg0]⟩, fit1, fit2, ?_, ?_, rfl, rfl, ?_, ?_⟩
  · intro l hl; rw [List.mem_singleton.1 hl]; show (0 : Int) < 1; omega
  · intro l hl; rw [List.mem_singleton.1 hl]; exact T_pos hv (by omega) (by omega)
  · intro l hl; rw [List.mem_singleton.1 hl]; exact ln0
  · intro l hl; rw [List.mem_singleton.1 hl]; exact hT
  · intro l hl; rw [List.mem_singleton.1 hl]
  · intro l hl; rw [List.mem_singleton.1 hl]
theorem least_pick (r : Rg) (b : Bd) : (r.least b).lo = r.lo ∨ (r.least b).lo = b := by unfold Rg.least; split <;> simp
theorem most_pick (r : Rg) (b : Bd) : (r.most b).hi = r.hi ∨ (r.most b).hi = b := by unfold Rg.most; split <;> simp
theorem least_rest (r : Rg) (b : Bd) : (r.least b).hi = r.hi ∧ (r.least b).above = r.above ∧ (r.least b).below = r.below ∧ (r.least b).empty = r.empty := by unfold Rg.least; split <;> simp
theorem most_rest (r : Rg) (b : Bd) : (r.most b).lo = r.lo ∧ (r.most b).above = r.above ∧ (r.most b).below = r.below ∧ (r.most b).empty = r.empty := by unfold Rg.most; split <;> simp
theorem least_tidy {r : Rg} {b : Bd} (hr : r.tidy) (hb : Bd.fit b) (hs : b.strict = false) : (r.least b).tidy := by
  have hp : b.r.pos := by have := hb.d0; show 0 < _; omega
  obtain ⟨e1, e2, e3, e4⟩ := least_rest r b
  refine ⟨⟨least_fine hr.whole.fine hp, by rw [e2]; exact hr.whole.above, by rw [e3]; exact hr.whole.below, by rw [e2]; exact hr.whole.some1, by rw [e3]; exact hr.whole.some2⟩, ?_, by rw [e1]; exact hr.hi, by rw [e2]; exact hr.above, by rw [e3]; exact hr.below, ?_, by rw [e1]; exact hr.plain.2.1, by rw [e2]; exact hr.plain.2.2.1, by rw [e3]; exact hr.plain.2.2.2⟩
  · rcases least_pick r b with h | h <;> rw [h]
    · exact hr.lo
    · exact hb
  · rcases least_pick r b with h | h <;> rw [h]
    · exact hr.plain.1
    · exact hs
theorem most_tidy {r : Rg} {b : Bd} (hr : r.tidy) (hb : Bd.fit b) (hs : b.strict = false) : (r.most b).tidy := by
  have hp : b.r.pos := by have := hb.d0; show 0 < _; omega
  obtain ⟨e1, e2, e3, e4⟩ := most_rest r b
  refine ⟨⟨most_fine hr.whole.fine hp, by rw [e2]; exact hr.whole.above, by rw [e3]; exact hr.whole.below, by rw [e2]; exact hr.whole.some1, by rw [e3]; exact hr.whole.some2⟩, by rw [e1]; exact hr.lo, ?_, by rw [e2]; exact hr.above, by rw [e3]; exact hr.below, by rw [e1]; exact hr.plain.1, ?_, by rw [e2]; exact hr.plain.2.2.1, by rw [e3]; exact hr.plain.2.2.2⟩
  · rcases most_pick r b with h | h <;> rw [h]
    · exact hr.hi
    · exact hb
  · rcases most_pick r b with h | h <;> rw [h]
    · exact hr.plain.2.1
    · exact hs
theorem more_tidy {r : Rg} {A B : List Ln} (hr : r.tidy) (hA : ∀ l ∈ A, Ln.ok l ∧ l.strict = false) (hB : ∀ l ∈ B, Ln.ok l ∧ l.strict = false) : ({ r with above := r.above ++ A, below := r.below ++ B } : Rg).tidy := by
  have hp : ∀ {l : Ln}, Ln.ok l → l.t.pos := fun h => by have := h.d0; show 0 < _; omega
  refine ⟨⟨⟨hr.whole.fine.lo, hr.whole.fine.hi, hr.whole.fine.low⟩, ?_, ?_, by simp [hr.whole.some1], by simp [hr.whole.some2]⟩, hr.lo, hr.hi, ?_, ?_, hr.plain.1, hr.plain.2.1, ?_, ?_⟩
  all_goals intro l hl; rcases List.mem_append.1 hl with hl | hl
  · exact hr.whole.above l hl
  · exact hp (hA l hl).1
  · exact hr.whole.below l hl
  · exact hp (hB l hl).1
  · exact hr.above l hl
  · exact (hA l hl).1
  · exact hr.below l hl
  · exact (hB l hl).1
  · exact hr.plain.2.2.1 l hl
  · exact (hA l hl).2
  · exact hr.plain.2.2.2 l hl
  · exact (hB l hl).2
theorem more_sat (r : Rg) (A B : List Ln) (g e : Rat) : ({ r with above := r.above ++ A, below := r.below ++ B } : Rg).sat g e ↔ r.sat g e ∧ (∀ l ∈ A, lq l.strict (l.at g) e) ∧ ∀ u ∈ B, lq u.strict e (u.at g) := by
  simp only [Rg.sat, Rg.within, List.mem_append, or_imp, forall_and]
  grind
theorem wear_fit {n : Int} (h1 : 1 ≤ n) (h2 : n ≤ 4000) : Bd.fit ⟨⟨1000, n⟩, false⟩ := ⟨by dsimp only; omega, by dsimp only; omega, h1, by dsimp only; omega⟩
theorem regAt_none {r : Rg} {k : Int} (h1 : k ≠ -2) (h2 : k ≠ -1) (h3 : f.seen[k.toNat]? = none) : f.regAt r k = r := by
  unfold Fl.regAt; rw [if_neg h1, if_neg h2, h3]
theorem regAt_some {r : Rg} {k : Int} {s : Sn} (h1 : k ≠ -2) (h2 : k ≠ -1) (h3 : f.seen[k.toNat]? = some s) :
    f.regAt r k = { r with below := r.below ++ [⟨s.hi, f.T (lvHi f.H s.lv s.er), false⟩], above := r.above ++ (if 0 < lvLo s.lv s.er then [⟨s.lo, f.T (lvLo s.lv s.er), false⟩] else []) } := by
  unfold Fl.regAt; rw [if_neg h1, if_neg h2, h3]
theorem regAt_spec (hf : f.good) {r : Rg} (hr : r.tidy) (k : Int) : (f.regAt r k).tidy ∧ ∀ g e, (f.regAt r k).sat g e ↔ r.sat g e ∧ f.item k g e := by
  obtain ⟨hv, hlk, hwr, hln, hsn⟩ := hf
  obtain ⟨w1, w2, w3⟩ := within_bd hwr
  by_cases h2 : k = -2
  · subst h2
    have f1 := wear_fit (n := f.wh) (by omega) w3
    have f2 := wear_fit (n := f.wl) w1 (by omega)
    have t1 := least_tidy hr f1 rfl
    have t2 := most_tidy t1 f2 rfl
    refine ⟨t2, fun g e => ?_⟩
    have e1 := most_within (b := ⟨⟨1000, f.wl⟩, false⟩) t1.whole.fine (show (0 : Int) < f.wl by omega) g
    have e2 := least_within (b := ⟨⟨1000, f.wh⟩, false⟩) hr.whole.fine (show (0 : Int) < f.wh by omega) g
    obtain ⟨_, a1, a2, _⟩ := least_rest r ⟨⟨1000, f.wh⟩, false⟩
    obtain ⟨_, b1, b2, _⟩ := most_rest (r.least ⟨⟨1000, f.wh⟩, false⟩) ⟨⟨1000, f.wl⟩, false⟩
    have er : f.regAt r (-2) = (r.least ⟨⟨1000, f.wh⟩, false⟩).most ⟨⟨1000, f.wl⟩, false⟩ := rfl
    unfold Rg.sat
    rw [er, e1, e2, b1, b2, a1, a2]
    unfold Fl.item
    rw [if_pos rfl]
    simp only [lq_false, Ra.v]
    push_cast
    grind
  · by_cases h1 : k = -1
    · subst h1
      obtain ⟨a1, a2, a3, a4⟩ := lv_bd hlk
      have hbd := look_bd hlk
      have k1 := T_ln hv (x := lvLo f.lv f.er) (s := 0) a1 (by omega) (by omega) (by omega) false
      have k2 := T_ln hv (x := lvHi f.H f.lv f.er) (s := 0) (by omega) a4 (by omega) (by omega) false
      have er : f.regAt r (-1) = { r with above := r.above ++ [⟨0, f.T (lvLo f.lv f.er), false⟩], below := r.below ++ [⟨0, f.T (lvHi f.H f.lv f.er), false⟩] } := rfl
      rw [er]
      refine ⟨more_tidy hr (by intro l hl; rw [List.mem_singleton.1 hl]; exact ⟨k1, rfl⟩) (by intro l hl; rw [List.mem_singleton.1 hl]; exact ⟨k2, rfl⟩), fun g e => ?_⟩
      rw [more_sat]
      simp only [List.mem_singleton, forall_eq, lq_false, at_zero]
      unfold Fl.item Fl.tv
      rw [if_neg (by decide), if_pos rfl]
    · cases h3 : f.seen[k.toNat]? with
      | none =>
        rw [regAt_none h2 h1 h3]
        refine ⟨hr, fun g e => ?_⟩
        unfold Fl.item
        rw [if_neg h2, if_neg h1, h3]
        simp
      | some s =>
        rw [regAt_some h2 h1 h3]
        have hs := hsn s (List.mem_of_getElem? h3)
        obtain ⟨⟨s1, s2, s3⟩, hl⟩ := okSn_bd hs
        obtain ⟨a1, a2, a3, a4⟩ := lv_bd hl
        have hbd := look_bd hl
        have k1 := T_ln hv (x := lvLo s.lv s.er) (s := s.lo) a1 (by omega) (by omega) (by omega) false
        have k2 := T_ln hv (x := lvHi f.H s.lv s.er) (s := s.hi) (by omega) a4 (by omega) (by omega) false
        have hA : ∀ l ∈ (if 0 < lvLo s.lv s.er then [(⟨s.lo, f.T (lvLo s.lv s.er), false⟩ : Ln)] else []), Ln.ok l ∧ l.strict = false := by
          intro l hl
          split at hl
          · rw [List.mem_singleton.1 hl]; exact ⟨k1, rfl⟩
          · cases hl
        refine ⟨more_tidy hr hA (by intro l hl; rw [List.mem_singleton.1 hl]; exact ⟨k2, rfl⟩), fun g e => ?_⟩
        rw [more_sat r (if 0 < lvLo s.lv s.er then [⟨s.lo, f.T (lvLo s.lv s.er), false⟩] else [])]
        unfold Fl.item
        rw [if_neg h2, if_neg h1, h3]
        unfold Fl.tv
        refine and_congr Iff.rfl (and_congr ?_ ?_)
        · split
          · rename_i h; simp [h, lq_false, Ln.at]
          · rename_i h; simp [h]
        · simp [lq_false, Ln.at]
theorem reg_spec (hf : f.good) (l : List Int) : (f.reg l).tidy ∧ ∀ g e, (f.reg l).sat g e ↔ f.case_ l g e := by
  have key : ∀ (l : List Int) (r : Rg), r.tidy → (l.foldl f.regAt r).tidy ∧ ∀ g e, (l.foldl f.regAt r).sat g e ↔ r.sat g e ∧ ∀ k ∈ l, f.item k g e := by
    intro l
    induction l with
    | nil => intro r hr; exact ⟨hr, fun g e => by simp⟩
    | cons k l ih =>
      intro r hr
      obtain ⟨h1, h2⟩ := regAt_spec hf hr k
      obtain ⟨h3, h4⟩ := ih _ h1
      refine ⟨h3, fun g e => ?_⟩
      rw [List.foldl_cons, h4, h2]
      simp only [List.mem_cons, forall_eq_or_imp, and_assoc]
  obtain ⟨h1, h2⟩ := key l f.reg0 (reg0_tidy hf.v)
  refine ⟨h1, fun g e => ?_⟩
  have h3 := h2 g e
  unfold Fl.reg
  rw [h3]
  unfold Fl.case_ Fl.base
  refine and_congr ?_ Iff.rfl
  unfold Rg.sat Rg.within Fl.reg0
  simp only [List.mem_singleton, forall_eq, lq_false, at_zero, Ra.v, Fl.tv]
  push_cast
  grind
theorem pair_strict {r : Rg} {l u : Ln} (h1 : r.lo.strict = false) (h2 : r.hi.strict = false) (hl : l.strict = false) (hu : u.strict = false) : (r.pair l u).lo.strict = false ∧ (r.pair l u).hi.strict = false := by
  unfold Rg.pair
  rw [hl, hu]
  split
  · exact ⟨h1, h2⟩
  · split
    · split
      · exact ⟨h1, h2⟩
      · refine ⟨by rw [(most_rest _ _).1]; exact h1, ?_⟩
        rcases most_pick r ⟨⟨lessN u.t l.t, lessD u.t l.t * (l.slope - u.slope)⟩, false || false⟩ with h | h <;> rw [h]
        · exact h2
        · rfl
    · split
      · refine ⟨?_, by rw [(least_rest _ _).1]; exact h2⟩
        rcases least_pick r ⟨⟨-lessN u.t l.t, lessD u.t l.t * -(l.slope - u.slope)⟩, false || false⟩ with h | h <;> rw [h]
        · exact h1
        · rfl
      · exact ⟨h1, h2⟩
theorem row_strict {l : Ln} (hl : l.strict = false) : ∀ (us : List Ln) (r : Rg), (∀ u ∈ us, u.strict = false) → r.lo.strict = false → r.hi.strict = false → (r.row l us).lo.strict = false ∧ (r.row l us).hi.strict = false
  | [], _, _, h1, h2 => ⟨h1, h2⟩
  | u :: us, r, hu, h1, h2 => by
    obtain ⟨h3, h4⟩ := pair_strict h1 h2 hl (hu u List.mem_cons_self)
    exact row_strict hl us (r.pair l u) (fun x hx => hu x (List.mem_cons_of_mem _ hx)) h3 h4
theorem pairs_strict : ∀ (ls us : List Ln) (r : Rg), (∀ l ∈ ls, l.strict = false) → (∀ u ∈ us, u.strict = false) → r.lo.strict = false → r.hi.strict = false → (r.pairs ls us).lo.strict = false ∧ (r.pairs ls us).hi.strict = false
  | [], _, _, _, _, h1, h2 => ⟨h1, h2⟩
  | l :: ls, us, r, hl, hu, h1, h2 => by
    obtain ⟨h3, h4⟩ := row_strict (hl l List.mem_cons_self) us r hu h1 h2
    exact pairs_strict ls us (r.row l us) (fun x hx => hl x (List.mem_cons_of_mem _ hx)) hu h3 h4
theorem pairs_fit : ∀ (ls us : List Ln) (r : Rg), Bd.fit r.lo → Bd.fit r.hi → (∀ l ∈ ls, Ln.ok l) → (∀ u ∈ us, Ln.ok u) → Bd.fit (r.pairs ls us).lo ∧ Bd.fit (r.pairs ls us).hi
  | [], _, _, h1, h2, _, _ => ⟨h1, h2⟩
  | l :: ls, us, r, h1, h2, hl, hu => by
    have key : ∀ (us : List Ln) (r : Rg), Bd.fit r.lo → Bd.fit r.hi → (∀ u ∈ us, Ln.ok u) → Bd.fit (r.row l us).lo ∧ Bd.fit (r.row l us).hi := by
      intro us
      induction us with
      | nil => intro r h1 h2 _; exact ⟨h1, h2⟩
      | cons u us ih =>
        intro r h1 h2 hu
        obtain ⟨h3, h4⟩ := pair_fit h1 h2 (hl l List.mem_cons_self) (hu u List.mem_cons_self)
        exact ih (r.pair l u) h3 h4 (fun x hx => hu x (List.mem_cons_of_mem _ hx))
    obtain ⟨h3, h4⟩ := key us r h1 h2 hu
    exact pairs_fit ls us (r.row l us) h3 h4 (fun x hx => hl x (List.mem_cons_of_mem _ hx)) hu
/-- What is solved: tidy, the same cases, the ends of g. -/
theorem solved_tidy {r : Rg} (hr : r.tidy) : r.solved.tidy := by
  obtain ⟨h1, h2, h3, h4, h5⟩ := solved_spec hr.whole
  obtain ⟨a1, a2⟩ := pairs_fit r.above r.below r hr.lo hr.hi hr.above hr.below
  obtain ⟨b1, b2⟩ := pairs_strict r.above r.below r hr.plain.2.2.1 hr.plain.2.2.2 hr.plain.1 hr.plain.2.1
  exact ⟨solved_whole hr.whole, a1, a2, by rw [h2]; exact hr.above, by rw [h3]; exact hr.below, b1, b2, by rw [h2]; exact hr.plain.2.2.1, by rw [h3]; exact hr.plain.2.2.2⟩
theorem apart_iff (hf : f.good) (l : List Int) : f.apart l = true ↔ ¬ ∃ g e, f.case_ l g e := by
  obtain ⟨h1, h2⟩ := reg_spec hf l
  have h3 := (solved_spec h1.whole).2.2.2.2
  unfold Fl.apart
  rw [← Bool.not_eq_false, h3]
  simp only [h2]
/-- A possible case. -/
def Fl.poss (f : Fl) (g e : Rat) : Prop := f.case_ f.all g e
theorem sol_tidy (hf : f.good) : f.sol.tidy := solved_tidy (reg_spec hf f.all).1
theorem sol_sat (hf : f.good) (g e : Rat) : f.sol.sat g e ↔ f.poss g e := by
  obtain ⟨h1, h2⟩ := reg_spec hf f.all
  unfold Fl.sol
  rw [solved_sat h1.whole, h2]
  rfl
theorem sol_empty (hf : f.good) : f.sol.empty = false ↔ ∃ g e, f.poss g e := by
  obtain ⟨h1, h2⟩ := reg_spec hf f.all
  unfold Fl.sol
  rw [(solved_spec h1.whole).2.2.2.2]
  simp only [h2]
  rfl
/-- The numbers g of the possible cases are those between the ends. -/
theorem sol_span (hf : f.good) (hn : f.sol.empty = false) (g : Rat) : (∃ e, f.poss g e) ↔ f.sol.lo.r.v ≤ g ∧ g ≤ f.sol.hi.r.v := by
  obtain ⟨h1, h2⟩ := reg_spec hf f.all
  have h3 := (solved_spec h1.whole).2.2.2.1 g
  have h4 := (sol_tidy hf).plain
  simp only [h2] at h3
  have h5 : f.sol.within g ↔ ∃ e, f.poss g e := h3
  rw [← h5]
  unfold Rg.within
  rw [h4.1, h4.2.1, lq_false, lq_false]
  simp [hn]
theorem sol_can (hf : f.good) {A B : List Ln} (hA : ∀ l ∈ A, l.t.pos) (hB : ∀ l ∈ B, l.t.pos) :
    f.sol.can A B = true ↔ ∃ g e, f.poss g e ∧ (∀ l ∈ A, lq l.strict (l.at g) e) ∧ ∀ u ∈ B, lq u.strict e (u.at g) := by
  rw [can_spec (sol_tidy hf).whole hA hB]
  simp only [sol_sat hf]
theorem mem_all {k : Int} : k ∈ f.all ↔ -2 ≤ k ∧ k < f.seen.length := by
  unfold Fl.all
  simp only [List.mem_map, List.mem_range]
  constructor
  · rintro ⟨a, h, rfl⟩; omega
  · rintro ⟨h1, h2⟩; exact ⟨(k + 2).toNat, by omega, by omega⟩
theorem poss_iff (g e : Rat) : f.poss g e ↔ f.base g e ∧ f.item (-2) g e ∧ f.item (-1) g e ∧ ∀ i : Nat, i < f.seen.length → f.item i g e := by
  unfold Fl.poss Fl.case_
  simp only [mem_all]
  refine and_congr Iff.rfl ?_
  constructor
  · intro h; exact ⟨h _ (by omega), h _ (by omega), fun i hi => h i (by omega)⟩
  · rintro ⟨h1, h2, h3⟩ k ⟨a, b⟩
    by_cases e1 : k = -2
    · rw [e1]; exact h1
    · by_cases e2 : k = -1
      · rw [e2]; exact h2
      · have := h3 k.toNat (by omega)
        rwa [show ((k.toNat : Nat) : Int) = k by omega] at this
theorem item_nat (i : Nat) (h : i < f.seen.length) (g e : Rat) : f.item i g e ↔ (0 < lvLo f.seen[i].lv f.seen[i].er → (f.seen[i].lo : Rat) * g + f.tv (lvLo f.seen[i].lv f.seen[i].er) ≤ e) ∧ e ≤ (f.seen[i].hi : Rat) * g + f.tv (lvHi f.H f.seen[i].lv f.seen[i].er) := by
  unfold Fl.item
  rw [if_neg (by omega), if_neg (by omega)]
  simp only [Int.toNat_natCast, List.getElem?_eq_getElem h]
end
end Go.Proofs.YtjpagpplkldbkaaGreat
set_option linter.unusedVariables false
set_option linter.unusedSimpArgs false
namespace Go.Proofs.YtjpagpplkldbkaaGreat
open Go.RowKit WH
theorem bsLo_spec (p : Int → Bool) : ∀ (k : Nat) (lo hi : Int), lo ≤ hi → hi - lo ≤ k → (∀ a b, lo < a → a ≤ b → b ≤ hi → p a = true → p b = true) →
    lo ≤ bsLo p k lo hi ∧ bsLo p k lo hi ≤ hi ∧ (∀ m, lo < m → m ≤ bsLo p k lo hi → p m = false) ∧ ∀ m, bsLo p k lo hi < m → m ≤ hi → p m = true
  | 0, lo, hi, h1, h2, _ => by
    unfold bsLo
    exact ⟨Int.le_refl _, h1, fun m a b => by omega, fun m a b => by omega⟩
  | k + 1, lo, hi, h1, h2, hm => by
    unfold bsLo
    split
    · rename_i hlt
      generalize hmm : lo + (hi - lo + 1) / 2 = m
      have a1 : lo < m := by omega
      have a2 : m ≤ hi := by omega
      split
      · rename_i hp
        obtain ⟨b1, b2, b3, b4⟩ := bsLo_spec p k lo (m - 1) (by omega) (by omega) (fun a b x y z => hm a b x y (by omega))
        refine ⟨b1, by omega, b3, fun j c d => ?_⟩
        by_cases e : j ≤ m - 1
        · exact b4 j c e
        · exact hm m j a1 (by omega) d hp
      · rename_i hp
        obtain ⟨b1, b2, b3, b4⟩ := bsLo_spec p k m hi a2 (by omega) (fun a b x y z => hm a b (by omega) y z)
        refine ⟨by omega, b2, fun j c d => ?_, b4⟩
        by_cases e : m < j
        · exact b3 j e d
        · cases hj : p j with
          | false => rfl
          | true => exact absurd (hm j m c (by omega) a2 hj) hp
    · exact ⟨Int.le_refl _, h1, fun m a b => by omega, fun m a b => by omega⟩
theorem bsHi_spec (p : Int → Bool) : ∀ (k : Nat) (lo hi : Int), lo ≤ hi → hi - lo ≤ k → (∀ a b, lo ≤ a → a ≤ b → b < hi → p b = true → p a = true) →
    lo ≤ bsHi p k lo hi ∧ bsHi p k lo hi ≤ hi ∧ (∀ m, lo ≤ m → m < bsHi p k lo hi → p m = true) ∧ ∀ m, bsHi p k lo hi ≤ m → m < hi → p m = false
  | 0, lo, hi, h1, h2, _ => by
    unfold bsHi
    exact ⟨Int.le_refl _, h1, fun m a b => by omega, fun m a b => by omega⟩
  | k + 1, lo, hi, h1, h2, hm => by
    unfold bsHi
    split
    · rename_i hlt
      generalize hmm : lo + (hi - lo) / 2 = m
      have a1 : lo ≤ m := by omega
      have a2 : m < hi := by omega
      split
      · rename_i hp
        obtain ⟨b1, b2, b3, b4⟩ := bsHi_spec p k (m + 1) hi (by omega) (by omega) (fun a b x y z => hm a b (by omega) y z)
        refine ⟨by omega, b2, fun j c d => ?_, b4⟩
        by_cases e : m + 1 ≤ j
        · exact b3 j e d
        · exact hm j m c (by omega) a2 hp
      · rename_i hp
        obtain ⟨b1, b2, b3, b4⟩ := bsHi_spec p k lo m a1 (by omega) (fun a b x y z => hm a b x y (by omega))
        refine ⟨b1, by omega, b3, fun j c d => ?_⟩
        by_cases e : j < m
        · exact b4 j c e
        · cases hj : p j with
          | false => rfl
          | true => exact absurd (hm m j a1 (by omega) d hj) hp
    · exact ⟨Int.le_refl _, h1, fun m a b => by omega, fun m a b => by omega⟩
/-- What outward's two numbers are. -/
theorem outLo_spec {p : Int → Bool} {most : Int} (h0 : 0 ≤ most) (hm : ∀ a b, 0 < a → a ≤ b → b ≤ most → p a = true → p b = true) :
    0 ≤ outLo most p ∧ outLo most p ≤ most ∧ (∀ m, 0 < m → m ≤ outLo most p → p m = false) ∧ ∀ m, outLo most p < m → m ≤ most → p m = true :=
  bsLo_spec p _ 0 most h0 (by omega) hm
theorem outHi_spec {p : Int → Bool} {most : Int} (h0 : 0 ≤ most) (hm : ∀ a b, 0 ≤ a → a ≤ b → b < most → p b = true → p a = true) :
    0 ≤ outHi most p ∧ outHi most p ≤ most ∧ (∀ m, 0 ≤ m → m < outHi most p → p m = true) ∧ ∀ m, outHi most p ≤ m → m < most → p m = false :=
  bsHi_spec p _ 0 most h0 (by omega) hm
theorem wearR_spec {r : Ra} (h1 : 1 ≤ r.n) (h2 : 1 ≤ r.d) : 1 ≤ (wearR r).n ∧ (wearR r).n ≤ 1000 * r.d ∧ 1 ≤ (wearR r).d ∧ (wearR r).d ≤ r.n ∧ (wearR r).n * r.n = 1000 * r.d * (wearR r).d ∧ Int.gcd (wearR r).n (wearR r).d = 1 := by
  obtain ⟨a1, a2, a3, a4, a5, a6⟩ := low_pos (n := 1000 * r.d) (d := r.n) (by omega) (by omega)
  unfold wearR
  dsimp only
  refine ⟨?_, a2, by omega, a4, a5, a6⟩
  refine Int.not_lt.1 fun h => ?_
  have h0 : lowN (1000 * r.d) r.n = 0 := by omega
  rw [h0] at a5
  have : 0 < 1000 * r.d * lowD (1000 * r.d) r.n := Int.mul_pos (by omega) a3
  omega
theorem cast4 {a b c d : Int} (h : a * c = 1000 * d * b) : (a : Rat) * (c : Rat) = 1000 * (d : Rat) * (b : Rat) := by
  have h2 : ((a * c : Int) : Rat) = ((1000 * d * b : Int) : Rat) := by rw [h]
  rw [Rat.intCast_mul, Rat.intCast_mul, Rat.intCast_mul] at h2
  exact h2
theorem wearR_v {r : Ra} (h1 : 1 ≤ r.n) (h2 : 1 ≤ r.d) : (wearR r).v = 1000 / r.v ∧ 0 < r.v ∧ 0 < (wearR r).v := by
  obtain ⟨a1, a2, a3, a4, a5, a6⟩ := wearR_spec h1 h2
  have p1 := cast_pos (show 0 < r.n by omega)
  have p2 := cast_pos (show 0 < r.d by omega)
  have p3 := cast_pos (show 0 < (wearR r).n by omega)
  have p4 := cast_pos (show 0 < (wearR r).d by omega)
  have e : ((wearR r).n : Rat) * (r.n : Rat) = 1000 * (r.d : Rat) * ((wearR r).d : Rat) := cast4 a5
  unfold Ra.v
  generalize ((wearR r).n : Rat) = A at *
  generalize ((wearR r).d : Rat) = B at *
  generalize (r.n : Rat) = C at *
  generalize (r.d : Rat) = D at *
  refine ⟨?_, ?_, ?_⟩
  · grind
  · rw [lt_div_iff p2]; grind
  · rw [lt_div_iff p4]; grind
end Go.Proofs.YtjpagpplkldbkaaGreat
set_option linter.unusedVariables false
set_option linter.unusedSimpArgs false
namespace Go.Proofs.YtjpagpplkldbkaaGreat
open Go.RowKit WH
section
variable {f : Fl}
theorem poss_g {g e : Rat} (h : f.poss g e) : 0 < g ∧ (1 / 4 : Rat) ≤ g := by
  have := h.1.1
  exact ⟨by grind, this⟩
theorem ln_pos (hf : f.good) {x : Int} (h0 : 0 ≤ x) (h1 : x ≤ f.H) (m : Int) (s : Bool) : (⟨m, f.T x, s⟩ : Ln).t.pos := T_pos hf.v h0 h1
theorem under_iff (hf : f.good) {x : Int} (h0 : 0 ≤ x) (h1 : x ≤ f.H) (m : Int) : f.under x m = true ↔ ∃ g e, f.poss g e ∧ e < (m : Rat) * g + f.tv x := by
  unfold Fl.under
  rw [sol_can hf (A := []) (by simp) (by intro l hl; rw [List.mem_singleton.1 hl]; exact ln_pos hf h0 h1 m true)]
  simp [lq_true, Ln.at, Fl.tv]
theorem over_iff (hf : f.good) {x : Int} (h0 : 0 ≤ x) (h1 : x ≤ f.H) (m : Int) : f.over x m = true ↔ ∃ g e, f.poss g e ∧ (m : Rat) * g + f.tv x < e := by
  unfold Fl.over
  rw [sol_can hf (B := []) (by intro l hl; rw [List.mem_singleton.1 hl]; exact ln_pos hf h0 h1 m true) (by simp)]
  simp [lq_true, Ln.at, Fl.tv]
theorem ever_iff (hf : f.good) {x : Int} (h0 : 0 ≤ x) (h1 : x ≤ f.H) (m : Int) : f.ever x m = true ↔ ∃ g e, f.poss g e ∧ e ≤ (m : Rat) * g + f.tv x := by
  unfold Fl.ever
  rw [sol_can hf (A := []) (by simp) (by intro l hl; rw [List.mem_singleton.1 hl]; exact ln_pos hf h0 h1 m false)]
  simp [lq_false, Ln.at, Fl.tv]
theorem cast_le' {a b : Int} (h : a ≤ b) : (a : Rat) ≤ (b : Rat) := by exact_mod_cast h
theorem cast_lt' {a b : Int} (h : a < b) : (a : Rat) < (b : Rat) := by exact_mod_cast h
theorem line_mono {m m' : Int} {g t t' : Rat} (hg : 0 < g) (h : m ≤ m') (ht : t ≤ t') : (m : Rat) * g + t ≤ (m' : Rat) * g + t' := by
  have := Rat.mul_le_mul_of_nonneg_right (cast_le' h) (Rat.le_of_lt hg)
  grind
theorem line_lt {m m' : Int} {g t : Rat} (hg : 0 < g) (h : m < m') : (m : Rat) * g + t < (m' : Rat) * g + t := by
  have := Rat.mul_lt_mul_of_pos_right (cast_lt' h) hg
  grind
theorem under_mono (hf : f.good) {x x' m m' : Int} (h0 : 0 ≤ x) (hx : x ≤ x') (h1 : x' ≤ f.H) (hm : m ≤ m') (h : f.under x m = true) : f.under x' m' = true := by
  obtain ⟨g, e, hp, hl⟩ := (under_iff hf h0 (by omega) m).1 h
  have := line_mono (poss_g hp).1 hm (tv_mono hf.v h0 hx h1)
  exact (under_iff hf (by omega) h1 m').2 ⟨g, e, hp, by grind⟩
theorem over_anti (hf : f.good) {x x' m m' : Int} (h0 : 0 ≤ x) (hx : x ≤ x') (h1 : x' ≤ f.H) (hm : m ≤ m') (h : f.over x' m' = true) : f.over x m = true := by
  obtain ⟨g, e, hp, hl⟩ := (over_iff hf (by omega) h1 m').1 h
  have := line_mono (poss_g hp).1 hm (tv_mono hf.v h0 hx h1)
  exact (over_iff hf h0 (by omega) m).2 ⟨g, e, hp, by grind⟩
theorem out_lo_anti {p q : Int → Bool} {most : Int} (h0 : 0 ≤ most) (hp : ∀ a b, 0 < a → a ≤ b → b ≤ most → p a = true → p b = true) (hq : ∀ a b, 0 < a → a ≤ b → b ≤ most → q a = true → q b = true)
    (h : ∀ n, 0 < n → n ≤ most → p n = true → q n = true) : outLo most q ≤ outLo most p := by
  obtain ⟨a1, a2, a3, a4⟩ := outLo_spec h0 hp
  obtain ⟨b1, b2, b3, b4⟩ := outLo_spec h0 hq
  refine Int.not_lt.1 fun hlt => ?_
  have e1 := a4 _ hlt b2
  have e2 := h _ (by omega) b2 e1
  rw [b3 _ (by omega) (Int.le_refl _)] at e2
  cases e2
theorem out_hi_mono {p q : Int → Bool} {most : Int} (h0 : 0 ≤ most) (hp : ∀ a b, 0 ≤ a → a ≤ b → b < most → p b = true → p a = true) (hq : ∀ a b, 0 ≤ a → a ≤ b → b < most → q b = true → q a = true)
    (h : ∀ n, 0 ≤ n → n < most → p n = true → q n = true) : outHi most p ≤ outHi most q := by
  obtain ⟨a1, a2, a3, a4⟩ := outHi_spec h0 hp
  obtain ⟨b1, b2, b3, b4⟩ := outHi_spec h0 hq
  refine Int.not_lt.1 fun hlt => ?_
  have e1 := a3 _ b1 hlt
  have e2 := h _ b1 (by omega) e1
  rw [b4 _ (Int.le_refl _) (by omega)] at e2
  cases e2
/-- What Level's search asks rises with the levels; what Reached's asks, with the minutes. -/
theorem lvl_lo_mono (hf : f.good) (m : Int) : ∀ a b, 0 < a → a ≤ b → b ≤ f.H → (decide (0 < a) && f.under a m) = true → (decide (0 < b) && f.under b m) = true := by
  intro a b h0 h1 h2 h
  simp only [Bool.and_eq_true, decide_eq_true_eq] at h ⊢
  exact ⟨by omega, under_mono hf (by omega) h1 h2 (Int.le_refl m) h.2⟩
theorem lvl_hi_mono (hf : f.good) (m : Int) : ∀ a b, 0 ≤ a → a ≤ b → b < f.H → f.over b m = true → f.over a m = true :=
  fun a b h0 h1 h2 h => over_anti hf h0 h1 (by omega) (Int.le_refl m) h
theorem rch_lo_mono (hf : f.good) {x : Int} (h0 : 0 ≤ x) (h1 : x ≤ f.H) : ∀ a b, 0 < a → a ≤ b → b ≤ 2097152 → (decide (0 < a) && f.under x a) = true → (decide (0 < b) && f.under x b) = true := by
  intro a b g0 g1 g2 h
  simp only [Bool.and_eq_true, decide_eq_true_eq] at h ⊢
  exact ⟨by omega, under_mono hf h0 (Int.le_refl x) h1 g1 h.2⟩
theorem rch_hi_mono (hf : f.good) {x : Int} (h0 : 0 ≤ x) (h1 : x ≤ f.H) : ∀ a b, 0 ≤ a → a ≤ b → b < 2097152 → f.over x b = true → f.over x a = true :=
  fun a b g0 g1 g2 h => over_anti hf h0 (Int.le_refl x) h1 g1 h
theorem levelLo_spec (hf : f.good) (m : Int) : 0 ≤ f.levelLo m ∧ f.levelLo m ≤ f.H ∧ (∀ n, 0 < n → n ≤ f.levelLo m → f.under n m = false) ∧ ∀ n, f.levelLo m < n → n ≤ f.H → f.under n m = true := by
  obtain ⟨a, b, c, d⟩ := outLo_spec (p := fun n => decide (0 < n) && f.under n m) (by have := H_bd hf.v; omega) (lvl_lo_mono hf m)
  refine ⟨a, b, fun n h1 h2 => ?_, fun n h1 h2 => ?_⟩
  · have h := c n h1 h2
    simpa [h1] using h
  · have h := d n h1 h2
    simp at h
    exact h.2
theorem levelHi_spec (hf : f.good) (m : Int) : 0 ≤ f.levelHi m ∧ f.levelHi m ≤ f.H ∧ (∀ n, 0 ≤ n → n < f.levelHi m → f.over n m = true) ∧ ∀ n, f.levelHi m ≤ n → n < f.H → f.over n m = false :=
  outHi_spec (p := fun n => f.over n m) (by have := H_bd hf.v; omega) (lvl_hi_mono hf m)
theorem reachLo_spec (hf : f.good) {x : Int} (h0 : 0 ≤ x) (h1 : x ≤ f.H) : 0 ≤ f.reachLo x ∧ f.reachLo x ≤ 2097152 ∧ (∀ m, 0 < m → m ≤ f.reachLo x → f.under x m = false) ∧ ∀ m, f.reachLo x < m → m ≤ 2097152 → f.under x m = true := by
  obtain ⟨a, b, c, d⟩ := outLo_spec (p := fun m => decide (0 < m) && f.under x m) (most := 2097152) (by omega) (rch_lo_mono hf h0 h1)
  refine ⟨a, b, fun n h1 h2 => ?_, fun n h1 h2 => ?_⟩
  · have h := c n h1 h2
    simpa [h1] using h
  · have h := d n h1 h2
    simp at h
    exact h.2
theorem over_far (hf : f.good) {x m : Int} (h0 : 0 ≤ x) (h1 : x ≤ f.H) (hm : 1920000 ≤ m) : f.over x m = false := by
  refine Bool.eq_false_iff.2 fun h => ?_
  obtain ⟨g, e, hp, hl⟩ := (over_iff hf h0 h1 m).1 h
  have h2 := hp.1.2.2.2
  rw [tv_top hf.v] at h2
  have h3 := (dd_bd hf.v f.v.length (Nat.le_refl _)).2
  have h4 : (f.dd f.v.length : Rat) ≤ ((480000 : Int) : Rat) := cast_le' h3
  rw [show ((480000 : Int) : Rat) = 480000 from rfl] at h4
  have h5 : (0 : Rat) ≤ f.tv x := by have := tv_mono hf.v (Int.le_refl 0) h0 h1; rw [tv_zero hf.v] at this; exact this
  have h6 : ((1920000 : Int) : Rat) ≤ (m : Rat) := cast_le' hm
  rw [show ((1920000 : Int) : Rat) = 1920000 from rfl] at h6
  have h7 := (poss_g hp).2
  have h8 : (1920000 : Rat) * (1 / 4) ≤ (m : Rat) * g := by
    have k1 := Rat.mul_le_mul_of_nonneg_right h6 (show (0 : Rat) ≤ 1 / 4 by grind)
    have k2 := Rat.mul_le_mul_of_nonneg_left h7 (show (0 : Rat) ≤ (m : Rat) by grind)
    grind
  grind
theorem reachHi_spec (hf : f.good) {x : Int} (h0 : 0 ≤ x) (h1 : x ≤ f.H) : 0 ≤ f.reachHi x ∧ f.reachHi x ≤ 2097152 ∧ (∀ m, 0 ≤ m → m < f.reachHi x → f.over x m = true) ∧ ∀ m, f.reachHi x ≤ m → f.over x m = false := by
  obtain ⟨a, b, c, d⟩ := outHi_spec (p := fun m => f.over x m) (most := 2097152) (by omega) (rch_hi_mono hf h0 h1)
  refine ⟨a, b, c, fun m h => ?_⟩
  rcases Int.lt_or_le m 2097152 with h2 | h2
  · exact d m h h2
  · exact over_far hf h0 h1 (by omega)
end
end Go.Proofs.YtjpagpplkldbkaaGreat
