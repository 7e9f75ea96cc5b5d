/- The solved region. Further lines. A line of a curve: over, lowest. -/
import Derived.LoopTactic
import Derived.Test.YtjpagpplkldbkaaGreatLib1
import Derived.Test.YtjpagpplkldbkaaGreatLib6
import Derived.Test.YtjpagpplkldbkaaGreatLib8
set_option linter.unusedVariables false
set_option linter.unusedSimpArgs false
namespace Go.Proofs.YtjpagpplkldbkaaGreat
open Go.RowKit WH
def lnC (l : Ln) : List Value := [.int .i64 l.slope, .int .i64 l.t.n, .int .i64 l.t.d, .bool l.strict]
theorem ln_cells {w : World} {b off : Nat} {xs : List Ln} (h : ∀ j i u, j < xs.length → (xs[j]?.bind fun x => (lnC x)[i]?) = some u → i < 4 → w.cell? ⟨b, off + j * 4 + i, none⟩ = some u) {k : Nat} (hk : k < xs.length) :
    w.cell? ⟨b, off + k * 4, none⟩ = some (.int .i64 xs[k].slope) ∧ w.cell? ⟨b, off + k * 4 + 1, none⟩ = some (.int .i64 xs[k].t.n) ∧ w.cell? ⟨b, off + k * 4 + 2, none⟩ = some (.int .i64 xs[k].t.d) ∧ w.cell? ⟨b, off + k * 4 + 3, none⟩ = some (.bool xs[k].strict) :=
  ⟨Sl.cells h hk (i := 0) (by omega) rfl, Sl.cells h hk (i := 1) (by omega) rfl, Sl.cells h hk (i := 2) (by omega) rfl, Sl.cells h hk (i := 3) (by omega) rfl⟩
theorem pairs_snoc (r : Rg) (ls us : List Ln) (k : Nat) (hk : k < ls.length) : r.pairs (ls.take (k + 1)) us = (r.pairs (ls.take k) us).row ls[k] us := by
  unfold Rg.pairs; rw [List.take_succ_eq_append_getElem hk, List.foldl_append]; rfl
theorem row_snoc (r : Rg) (l : Ln) (us : List Ln) (k : Nat) (hk : k < us.length) : r.row l (us.take (k + 1)) = (r.row l (us.take k)).pair l us[k] := by
  unfold Rg.row; rw [List.take_succ_eq_append_getElem hk, List.foldl_append]; rfl
/-- An empty region's cells. -/
def rgZ : Array Value := #[.int .i64 0, .int .i64 0, .bool false, .int .i64 0, .int .i64 0, .bool false, .slice none 0 0, .slice none 0 0, .bool false]
theorem agg9 {w : World} {g : Nat} {a b c d e f v x y : Value} {t : TypeId} (h : w.heap[g]? = some (.cells #[a, b, c, d, e, f, v, x, y] t (0, 0))) :
    (w.cell? ⟨g, 0, none⟩ = some a ∧ w.cell? ⟨g, 1, none⟩ = some b ∧ w.cell? ⟨g, 2, none⟩ = some c ∧ w.cell? ⟨g, 3, none⟩ = some d ∧ w.cell? ⟨g, 4, none⟩ = some e ∧ w.cell? ⟨g, 5, none⟩ = some f ∧ w.cell? ⟨g, 6, none⟩ = some v ∧ w.cell? ⟨g, 7, none⟩ = some x ∧ w.cell? ⟨g, 8, none⟩ = some y) ∧
    (w.frozen? ⟨g, 0, none⟩ = false ∧ w.frozen? ⟨g, 1, none⟩ = false ∧ w.frozen? ⟨g, 2, none⟩ = false ∧ w.frozen? ⟨g, 3, none⟩ = false ∧ w.frozen? ⟨g, 4, none⟩ = false ∧ w.frozen? ⟨g, 5, none⟩ = false ∧ w.frozen? ⟨g, 6, none⟩ = false ∧ w.frozen? ⟨g, 7, none⟩ = false ∧ w.frozen? ⟨g, 8, none⟩ = false) :=
  ⟨⟨bk_cell h 0, bk_cell h 1, bk_cell h 2, bk_cell h 3, bk_cell h 4, bk_cell h 5, bk_cell h 6, bk_cell h 7, bk_cell h 8⟩, bk_fro h 0, bk_fro h 1, bk_fro h 2, bk_fro h 3, bk_fro h 4, bk_fro h 5, bk_fro h 6, bk_fro h 7, bk_fro h 8⟩
/-- What closing a region comes to. -/
def closeB (e : Bool) (c : Int) (s t : Bool) : Bool := e || decide (c > 0) || (decide (c = 0) && (s || t))
theorem solved_cells (r : Rg) (va vb : Value) : rgC r.solved va vb = #[.int .i64 (r.pairs r.above r.below).lo.r.n, .int .i64 (r.pairs r.above r.below).lo.r.d, .bool (r.pairs r.above r.below).lo.strict, .int .i64 (r.pairs r.above r.below).hi.r.n, .int .i64 (r.pairs r.above r.below).hi.r.d, .bool (r.pairs r.above r.below).hi.strict, va, vb,
    .bool (closeB (r.pairs r.above r.below).empty (cmpI ((r.pairs r.above r.below).lo.r.n * (r.pairs r.above r.below).hi.r.d) ((r.pairs r.above r.below).hi.r.n * (r.pairs r.above r.below).lo.r.d)) (r.pairs r.above r.below).lo.strict (r.pairs r.above r.below).hi.strict)] := rfl
set_option maxRecDepth 100000 in
set_option maxHeartbeats 1000000 in
theorem solved_any (r : Rg) (va vb : Value) (w : World) (ha : Sl lnC 4 w va r.above) (hb : Sl lnC 4 w vb r.below) (h1 : Bd.fit r.lo) (h2 : Bd.fit r.hi) (h3 : ∀ l ∈ r.above, Ln.ok l) (h4 : ∀ l ∈ r.below, Ln.ok l) :
    Calls Tryz.prog 172 #[.agg (rgC r va vb)] w fun e w' => e = .returned (.agg (rgC r.solved va vb)) ∧ Below w.heap.size w w' := by
  obtain ⟨A1, c1, rfl, hl1, hc1, hr1⟩ := ha
  obtain ⟨A2, c2, rfl, hl2, hc2, hr2⟩ := hb
  rw [solved_cells]
  unfold rgC
  go_enter Tryz.func172, Tryz.ntmps172
  go_wp2
  go_loopw [11] (fun i W => ∃ k : Nat, k ≤ r.above.length ∧ i = .int .i64 k ∧ Below w.heap.size w W ∧ w.heap.size + 1 < W.heap.size ∧
      W.heap[w.heap.size]? = some (.cells (rgC (r.pairs (r.above.take k) r.below) (.slice A1 r.above.length c1) (.slice A2 r.below.length c2)) 123 (0, 0)) ∧
      W.heap[w.heap.size + 1]? = some (.cells rgZ 123 (0, 0)) ∧ Bd.fit (r.pairs (r.above.take k) r.below).lo ∧ Bd.fit (r.pairs (r.above.take k) r.below).hi) (fun i _ => r.above.length - (intOf i).toNat)
  case atStart => exact ⟨0, by omega, rfl, by (repeat' with_reducible first|assumption|exact Below.refl _ _|apply bl_alloc|apply bl_drewN|apply bl_drew|refine bl_set ?_ (by simp<;>omega) _|refine bl_then ?_ (by assumption)), by simp, bk_alloc (bk_new _ _) _, by rw [← World.size_alloc]; exact bk_new (w.alloc _) _, h1, h2⟩
  case round =>
    obtain ⟨wo, rfl⟩ : ∃ wo : World, wo = wr := ⟨_, rfl⟩
    obtain ⟨k, hk, rfl, hB, hsz, hreg, hres, hf1, hf2⟩ := hrel
    by_cases hlt : k < r.above.length
    · obtain ⟨b, off, rfl, hcs⟩ := hr1 (by intro h; simp [h] at hlt)
      obtain ⟨c0, c1', c2', c3⟩ := ln_cells hcs hlt
      have d0 := cl_below hB c0
      have d1 := cl_below hB c1'
      have d2 := cl_below hB c2'
      have d3 := cl_below hB c3
      clear c0 c1' c2' c3
      have hsz0 : w.heap.size < wo.heap.size := by omega
      have e7 := bk_cell hreg 7
      simp [rgC] at e7
      have HR := Lib.hid hreg
      have HS := Lib.hid hres
      clear hreg hres
      go_wp2
      go_loopw [18] (fun i W => ∃ q : Nat, q ≤ r.below.length ∧ i = .int .i64 q ∧ Below w.heap.size w W ∧ wo.heap.size < W.heap.size ∧
          W.heap[w.heap.size]? = some (.cells (rgC ((r.pairs (r.above.take k) r.below).row r.above[k] (r.below.take q)) (.slice (some ⟨b, off, none⟩) r.above.length c1) (.slice A2 r.below.length c2)) 123 (0, 0)) ∧
          W.heap[w.heap.size + 1]? = some (.cells rgZ 123 (0, 0)) ∧
          W.heap[wo.heap.size]? = some (.cells #[.int .i64 r.above[k].slope, .int .i64 r.above[k].t.n, .int .i64 r.above[k].t.d, .bool r.above[k].strict] 164 (0, 0)) ∧
          Bd.fit ((r.pairs (r.above.take k) r.below).row r.above[k] (r.below.take q)).lo ∧ Bd.fit ((r.pairs (r.above.take k) r.below).row r.above[k] (r.below.take q)).hi) (fun i _ => r.below.length - (intOf i).toNat)
      case atStart => exact ⟨0, by omega, rfl, by (repeat' with_reducible first|assumption|exact Below.refl _ _|apply bl_alloc|apply bl_drewN|apply bl_drew|refine bl_set ?_ (by simp<;>omega) _|refine bl_then ?_ (by assumption)), by simp, bk_alloc HR.out _, bk_alloc HS.out _, bk_new _ _, hf1, hf2⟩
      case round =>
        obtain ⟨q, hq, rfl, hBi, hszi, hregi, hresi, hbox, hfi1, hfi2⟩ := hrel
        clear hB d0 d1 d2 d3 e7 HR HS
        have hszr : w.heap.size < wr.heap.size := by omega
        have HR := Lib.hid hregi
        have HS := Lib.hid hresi
        have HX := Lib.hid hbox
        clear hregi hresi
        by_cases hltq : q < r.below.length
        · obtain ⟨b2, off2, rfl, hcs2⟩ := hr2 (by intro h; simp [h] at hltq)
          obtain ⟨g0, g1, g2, g3⟩ := ln_cells hcs2 hltq
          have d0 := cl_below hBi g0
          have d1 := cl_below hBi g1
          have d2 := cl_below hBi g2
          have d3 := cl_below hBi g3
          clear g0 g1 g2 g3
          have x0 := bk_cell hbox 0
          have x1 := bk_cell hbox 1
          have x2 := bk_cell hbox 2
          have x3 := bk_cell hbox 3
          simp at x0 x1 x2 x3
          clear hbox
          go_wp2_with (go_at_call 228; refine (pair_any w.heap.size _ r.above[k] r.below[q] _ _ _ (bk_alloc HR.out _) hfi1.ok hfi2.ok (h3 _ (List.getElem_mem _)) (h4 _ (List.getElem_mem _))).mono ?_; rintro e' w2 ⟨rfl, hk3, hg3⟩)
          have hB2 : Below w.heap.size w w2 := (bl_alloc hBi _).grown hg3 (by simp; omega) (fun z hz => by cases hz; exact Nat.le_refl _)
          have hz2 := hg3.size
          rw [World.size_alloc] at hz2
          go_roundw
          case rel =>
            have hfit := pair_fit hfi1 hfi2 (h3 _ (List.getElem_mem hlt)) (h4 _ (List.getElem_mem hltq))
            rw [← row_snoc _ _ _ _ hltq] at hfit hk3
            exact ⟨q + 1, by omega, by go_num, hB2, by omega, hk3, bk_grown (bk_alloc HS.out _) hg3 (by simp), bk_grown (bk_alloc HX.out _) hg3 (by simp; omega), hfit.1, hfit.2⟩
          case measure => simp [intOf]; omega
        · obtain rfl : q = r.below.length := by omega
          have hh := HR.out
          rw [List.take_of_length_le (Nat.le_refl _), ← pairs_snoc _ _ _ _ hlt] at hh
          rw [List.take_of_length_le (Nat.le_refl _), ← pairs_snoc _ _ _ _ hlt] at hfi1 hfi2
          have HR2 := Lib.hid hh
          clear hh HR
          go_wp2
          go_roundw
          case rel => exact ⟨k + 1, by omega, by go_num, hBi, by omega, HR2.out, HS.out, hfi1, hfi2⟩
          case measure => simp [intOf]; omega
    · obtain rfl : k = r.above.length := by omega
      rw [List.take_of_length_le (Nat.le_refl _)] at hreg hf1 hf2
      have HR := Lib.hid hreg
      have HS := Lib.hid hres
      have hszr : w.heap.size < wo.heap.size := by omega
      have q1 := hf1.n0; have q2 := hf1.n1; have q3 := hf1.d0; have q4 := hf1.d1
      have q5 := hf2.n0; have q6 := hf2.n1; have q7 := hf2.d0; have q8 := hf2.d1
      clear hreg hres hf1 hf2
      generalize hP : r.pairs r.above r.below = R at *
      have HP := Lib.hid hP
      clear hP
      obtain ⟨⟨⟨an, ad⟩, asx⟩, ⟨⟨bn, bd⟩, bsx⟩, la, lb, em⟩ := R
      dsimp only at q1 q2 q3 q4 q5 q6 q7 q8
      obtain ⟨⟨j0, j1, j2, j3, j4, j5, j6, j7, j8⟩, f0, f1, f2, f3, f4, f5, f6, f7, f8⟩ := agg9 HR.out
      go_wp2_with fail
      refine (bcmp_any _ _ _ _ _ _ _ (by omega) (by omega) (by omega) (by omega) (by omega) (by omega) (by omega) (by omega)).mono ?_
      rintro e' w2 ⟨rfl, hb2⟩
      clear j0 j1 j2 j3 j4 j5 j6 j7 j8 f0 f1 f2 f3 f4 f5 f6 f7 f8
      have HR2 := Lib.hid (bk_below HR.out hb2)
      have HS2 := Lib.hid (bk_below HS.out hb2)
      obtain ⟨⟨j0, j1, j2, j3, j4, j5, j6, j7, j8⟩, f0, f1, f2, f3, f4, f5, f6, f7, f8⟩ := agg9 HR2.out
      obtain ⟨⟨i0, i1, i2, i3, i4, i5, i6, i7, i8⟩, g0, g1, g2, g3, g4, g5, g6, g7, g8⟩ := agg9 HS2.out
      have hB2 : Below w.heap.size w w2 := by (repeat' with_reducible first|assumption|exact Below.refl _ _|apply bl_alloc|apply bl_drewN|apply bl_drew|refine bl_set ?_ (by simp<;>omega) _|refine bl_then ?_ (by assumption))
      generalize hC : cmpI (an * bd) (bn * ad) = c
      have HC := Lib.hid hC
      clear hC hb2 HR HS HR2
      rcases Int.lt_trichotomy c 0 with hc | hc | hc
      · have HF : Hid (closeB em c asx bsx = em) := Lib.hid (by unfold closeB; rw [decide_eq_false (by omega), decide_eq_false (by omega)]; simp)
        have hc0 : (c == 0) = false := by simp; omega
        have hc1 : decide (0 < c) = false := by simp; omega
        cases em <;> go_wp2
        · refine bodyPost_ret (v := .agg #[.int .i64 an, .int .i64 ad, .bool asx, .int .i64 bn, .int .i64 bd, .bool bsx, .slice A1 r.above.length c1, .slice A2 r.below.length c2, .bool false]) (res_one rfl (.cell (w.heap.size + 1) 123 _ (0, 0) _ rfl (bk_put9 (bk_far HS2.out (p := ⟨w.heap.size, 8, none⟩) (by simp) _)) Tryz.underlying123 rfl (by kernel_rfl) .nil)) rfl ?_
          refine ⟨?_, by (repeat' with_reducible first|assumption|exact Below.refl _ _|apply bl_alloc|apply bl_drewN|apply bl_drew|refine bl_set ?_ (by simp<;>omega) _|refine bl_then ?_ (by assumption))⟩
          rw [HP.out]; dsimp only; rw [HC.out, HF.out]
        · refine bodyPost_ret (v := .agg #[.int .i64 an, .int .i64 ad, .bool asx, .int .i64 bn, .int .i64 bd, .bool bsx, .slice A1 r.above.length c1, .slice A2 r.below.length c2, .bool true]) (res_one rfl (.cell (w.heap.size + 1) 123 _ (0, 0) _ rfl (bk_put9 (bk_far HS2.out (p := ⟨w.heap.size, 8, none⟩) (by simp) _)) Tryz.underlying123 rfl (by kernel_rfl) .nil)) rfl ?_
          refine ⟨?_, by (repeat' with_reducible first|assumption|exact Below.refl _ _|apply bl_alloc|apply bl_drewN|apply bl_drew|refine bl_set ?_ (by simp<;>omega) _|refine bl_then ?_ (by assumption))⟩
          rw [HP.out]; dsimp only; rw [HC.out, HF.out]
      · have HF : Hid (closeB em 0 asx bsx = (em || (asx || bsx))) := Lib.hid (by unfold closeB; simp)
        subst hc
        cases em <;> cases asx <;> go_wp2
        · refine bodyPost_ret (v := .agg #[.int .i64 an, .int .i64 ad, .bool false, .int .i64 bn, .int .i64 bd, .bool bsx, .slice A1 r.above.length c1, .slice A2 r.below.length c2, .bool bsx]) (res_one rfl (.cell (w.heap.size + 1) 123 _ (0, 0) _ rfl (bk_put9 (bk_far HS2.out (p := ⟨w.heap.size, 8, none⟩) (by simp) _)) Tryz.underlying123 rfl (by kernel_rfl) .nil)) rfl ?_
          refine ⟨?_, by (repeat' with_reducible first|assumption|exact Below.refl _ _|apply bl_alloc|apply bl_drewN|apply bl_drew|refine bl_set ?_ (by simp<;>omega) _|refine bl_then ?_ (by assumption))⟩
          rw [HP.out]; dsimp only; rw [HC.out, HF.out]; rfl
        · refine bodyPost_ret (v := .agg #[.int .i64 an, .int .i64 ad, .bool true, .int .i64 bn, .int .i64 bd, .bool bsx, .slice A1 r.above.length c1, .slice A2 r.below.length c2, .bool true]) (res_one rfl (.cell (w.heap.size + 1) 123 _ (0, 0) _ rfl (bk_put9 (bk_far HS2.out (p := ⟨w.heap.size, 8, none⟩) (by simp) _)) Tryz.underlying123 rfl (by kernel_rfl) .nil)) rfl ?_
          refine ⟨?_, by (repeat' with_reducible first|assumption|exact Below.refl _ _|apply bl_alloc|apply bl_drewN|apply bl_drew|refine bl_set ?_ (by simp<;>omega) _|refine bl_then ?_ (by assumption))⟩
          rw [HP.out]; dsimp only; rw [HC.out, HF.out]; rfl
        · refine bodyPost_ret (v := .agg #[.int .i64 an, .int .i64 ad, .bool false, .int .i64 bn, .int .i64 bd, .bool bsx, .slice A1 r.above.length c1, .slice A2 r.below.length c2, .bool true]) (res_one rfl (.cell (w.heap.size + 1) 123 _ (0, 0) _ rfl (bk_put9 (bk_far HS2.out (p := ⟨w.heap.size, 8, none⟩) (by simp) _)) Tryz.underlying123 rfl (by kernel_rfl) .nil)) rfl ?_
          refine ⟨?_, by (repeat' with_reducible first|assumption|exact Below.refl _ _|apply bl_alloc|apply bl_drewN|apply bl_drew|refine bl_set ?_ (by simp<;>omega) _|refine bl_then ?_ (by assumption))⟩
          rw [HP.out]; dsimp only; rw [HC.out, HF.out]; rfl
        · refine bodyPost_ret (v := .agg #[.int .i64 an, .int .i64 ad, .bool true, .int .i64 bn, .int .i64 bd, .bool bsx, .slice A1 r.above.length c1, .slice A2 r.below.length c2, .bool true]) (res_one rfl (.cell (w.heap.size + 1) 123 _ (0, 0) _ rfl (bk_put9 (bk_far HS2.out (p := ⟨w.heap.size, 8, none⟩) (by simp) _)) Tryz.underlying123 rfl (by kernel_rfl) .nil)) rfl ?_
          refine ⟨?_, by (repeat' with_reducible first|assumption|exact Below.refl _ _|apply bl_alloc|apply bl_drewN|apply bl_drew|refine bl_set ?_ (by simp<;>omega) _|refine bl_then ?_ (by assumption))⟩
          rw [HP.out]; dsimp only; rw [HC.out, HF.out]; rfl
      · have HF : Hid (closeB em c asx bsx = true) := Lib.hid (by unfold closeB; rw [decide_eq_true hc]; simp)
        have hc1 : decide (0 < c) = true := by simp; omega
        cases em <;> go_wp2
        all_goals refine bodyPost_ret (v := .agg #[.int .i64 an, .int .i64 ad, .bool asx, .int .i64 bn, .int .i64 bd, .bool bsx, .slice A1 r.above.length c1, .slice A2 r.below.length c2, .bool true]) (res_one rfl (.cell (w.heap.size + 1) 123 _ (0, 0) _ rfl (bk_put9 (bk_far HS2.out (p := ⟨w.heap.size, 8, none⟩) (by simp) _)) Tryz.underlying123 rfl (by kernel_rfl) .nil)) rfl ?_
        all_goals refine ⟨?_, by (repeat' with_reducible first|assumption|exact Below.refl _ _|apply bl_alloc|apply bl_drewN|apply bl_drew|refine bl_set ?_ (by simp<;>omega) _|refine bl_then ?_ (by assumption))⟩
        all_goals (rw [HP.out]; dsimp only; rw [HC.out, HF.out])
end Go.Proofs.YtjpagpplkldbkaaGreat
set_option linter.unusedVariables false
set_option linter.unusedSimpArgs false
namespace Go.Proofs.YtjpagpplkldbkaaGreat
open Go.RowKit WH
theorem lnC_len (l : Ln) : (lnC l).length = 4 := rfl
theorem lnC_one (l : Ln) : ∀ u ∈ lnC l, u.oneCell' = true := by intro u hu; simp [lnC] at hu; rcases hu with rfl | rfl | rfl | rfl <;> rfl
theorem fld_region (a b c d e f g h i : Value) (w : World) : (Instr.field 123 (.agg #[a, b, c, d, e, f, g, h, i]) 4).run Tryz.prog w = .ok i w := by kernel_rfl
set_option maxRecDepth 100000 in
set_option maxHeartbeats 1000000 in
theorem can_any (r : Rg) (va vb vx vy : Value) (X Y : List Ln) (w : World) (ha : Sl lnC 4 w va r.above) (hb : Sl lnC 4 w vb r.below) (hx : Sl lnC 4 w vx X) (hy : Sl lnC 4 w vy Y) (h1 : Bd.fit r.lo) (h2 : Bd.fit r.hi)
    (h3 : ∀ l ∈ r.above, Ln.ok l) (h4 : ∀ l ∈ r.below, Ln.ok l) (h5 : ∀ l ∈ X, Ln.ok l) (h6 : ∀ l ∈ Y, Ln.ok l) (hn : r.above.length + X.length ≤ 1000000) (hm : r.below.length + Y.length ≤ 1000000) :
    Calls Tryz.prog 115 #[.agg (rgC r va vb), vx, vy] w fun e w' => e = .returned (.bool (r.can X Y)) ∧ Below w.heap.size w w' := by
  obtain ⟨A1, c1, rfl, hl1, hc1, hr1⟩ := id ha
  obtain ⟨A2, c2, rfl, hl2, hc2, hr2⟩ := id hb
  unfold rgC
  go_enter Tryz.func115, Tryz.ntmps115
  have hfld := fld_region
  have hI1 : (Tryz.prog.info? 164).map (fun i => (i.zero, i.size, i.bytes)) = some (some (.agg #[.int .i64 0, .int .i64 0, .int .i64 0, .bool false]), 4, 32) := by kernel_rfl
  go_wp2_with (first
    | (at_builtin; refine app_cut lnC_len (by decide) lnC_one rfl (.tmp 15) (.tmp 16) 121 rfl 164 _ 32 Tryz.underlying121 hI1 rfl w (by (repeat' with_reducible first|assumption|exact Below.refl _ _|apply bl_alloc|apply bl_drewN|apply bl_drew|refine bl_set ?_ (by simp<;>omega) _|refine bl_then ?_ (by assumption))) A1 r.above.length r.above X rfl ha.cutcap vx rfl (hx.below (by (repeat' with_reducible first|assumption|exact Below.refl _ _|apply bl_alloc|apply bl_drewN|apply bl_drew|refine bl_set ?_ (by simp<;>omega) _|refine bl_then ?_ (by assumption)))) (by omega) (by omega) ?_; intro v1 w1 hs1 hb1 ho1; obtain ⟨A3, c3, rfl, hl3, hc3, hr3⟩ := id hs1; simp only [List.length_append] at hs1 ho1; have hbx := bk_below (bk_new w (.cells #[.int .i64 r.lo.r.n, .int .i64 r.lo.r.d, .bool r.lo.strict, .int .i64 r.hi.r.n, .int .i64 r.hi.r.d, .bool r.hi.strict, .slice A1 r.above.length c1, .slice A2 r.below.length c2, .bool r.empty] 123)) hb1; obtain ⟨⟨j0, j1, j2, j3, j4, j5, j6, j7, j8⟩, f0, f1, f2, f3, f4, f5, f6, f7, f8⟩ := agg9 hbx; (have hlt1 := bk_lt hbx); (have HX1 := Lib.hid hbx); (have hB1 : Below w.heap.size w w1 := by (repeat' with_reducible first|assumption|exact Below.refl _ _|apply bl_alloc|apply bl_drewN|apply bl_drew|refine bl_set ?_ (by simp<;>omega) _|refine bl_then ?_ (by assumption))); clear hbx hb1)
    | (at_builtin; refine app_cut lnC_len (by decide) lnC_one rfl (.tmp 27) (.tmp 28) 121 rfl 164 _ 32 Tryz.underlying121 hI1 rfl w (by (repeat' with_reducible first|assumption|exact Below.refl _ _|apply bl_alloc|apply bl_drewN|apply bl_drew|refine bl_set ?_ (by simp<;>omega) _|refine bl_then ?_ (by assumption))) A2 r.below.length r.below Y rfl hb.cutcap vy rfl (hy.below (by (repeat' with_reducible first|assumption|exact Below.refl _ _|apply bl_alloc|apply bl_drewN|apply bl_drew|refine bl_set ?_ (by simp<;>omega) _|refine bl_then ?_ (by assumption)))) (by omega) (by omega) ?_; intro v2 w2 hs2 hb2 ho2; obtain ⟨A4, c4, rfl, hl4, hc4, hr4⟩ := id hs2; simp only [List.length_append] at hs2 ho2; (have hx1 := bk_set HX1.out 6 (.slice A3 (r.above.length + X.length) c3)); have hbx := bk_below hx1 hb2; simp at hbx; clear j0 j1 j2 j3 j4 j5 j6 j7 j8 f0 f1 f2 f3 f4 f5 f6 f7 f8; obtain ⟨⟨j0, j1, j2, j3, j4, j5, j6, j7, j8⟩, f0, f1, f2, f3, f4, f5, f6, f7, f8⟩ := agg9 hbx; (have hlt2 := bk_lt hbx); (have hB2 : Below w.heap.size w w2 := by (repeat' with_reducible first|assumption|exact Below.refl _ _|apply bl_alloc|apply bl_drewN|apply bl_drew|refine bl_set ?_ (by simp<;>omega) _|refine bl_then ?_ (by assumption))); (have hS1 := (hs1.set ho1 (p := ⟨w.heap.size, 6, none⟩) (Nat.le_refl _) (by simp) (.slice A3 (r.above.length + X.length) c3)).below hb2); have HS1 := Lib.hid hS1; have HS2 := Lib.hid hs2; have HO1 := Lib.hid ho1; have HO2 := Lib.hid ho2; clear hbx hb2 hx1 hs1 hs2 ho1 ho2 hS1))
  have FA := HS1.out.set HO1.out (p := ⟨w.heap.size, 7, none⟩) (Nat.le_refl _) (by simp) (.slice A4 (r.below.length + Y.length) c4)
  have FB := HS2.out.set HO2.out (p := ⟨w.heap.size, 7, none⟩) (Nat.le_refl _) (by simp; omega) (.slice A4 (r.below.length + Y.length) c4)
  refine (solved_any ⟨r.lo, r.hi, r.above ++ X, r.below ++ Y, r.empty⟩ _ _ _ FA FB h1 h2 (fun l hl => (List.mem_append.1 hl).elim (h3 l) (h5 l)) (fun l hl => (List.mem_append.1 hl).elim (h4 l) (h6 l))).mono ?_
  rintro e' w3 ⟨rfl, hb3⟩
  simp only [rgC]
  clear FA FB HS1 HS2 HO1 HO2
  go_wp2
  go_ret
  exact ⟨rfl, by (repeat' with_reducible first|assumption|exact Below.refl _ _|apply bl_alloc|apply bl_drewN|apply bl_drew|refine bl_set ?_ (by simp<;>omega) _|refine bl_then ?_ (by assumption))⟩
end Go.Proofs.YtjpagpplkldbkaaGreat
set_option linter.unusedVariables false
set_option linter.unusedSimpArgs false
namespace Go.Proofs.YtjpagpplkldbkaaGreat
open Go.RowKit
theorem box4 (w : World) (a b c d : Value) (t : TypeId) : (w.alloc (.cells #[a, b, c, d] t)).cell? ⟨w.heap.size, 0, none⟩ = some a ∧ (w.alloc (.cells #[a, b, c, d] t)).cell? ⟨w.heap.size, 1, none⟩ = some b ∧ (w.alloc (.cells #[a, b, c, d] t)).cell? ⟨w.heap.size, 2, none⟩ = some c ∧ (w.alloc (.cells #[a, b, c, d] t)).cell? ⟨w.heap.size, 3, none⟩ = some d :=
  ⟨bk_cell (bk_new w _) 0, bk_cell (bk_new w _) 1, bk_cell (bk_new w _) 2, bk_cell (bk_new w _) 3⟩
set_option maxRecDepth 100000 in
set_option maxHeartbeats 1000000 in
theorem lover_any (a b c d x : Int) (w : World) (h1 : 0 ≤ a ∧ a ≤ 16777216) (h2 : 0 ≤ b ∧ b ≤ 16777216) (h3 : 0 ≤ d ∧ d ≤ 16777216) (h4 : a ≤ x ∧ x ≤ 16777216) (h5 : b ≤ d) :
    Calls Tryz.prog 205 #[.agg #[.int .i64 a, .int .i64 b, .int .i64 c, .int .i64 d], .int .i64 x] w fun e w' => e = .returned (.int .i64 ((x - a) * (d - b))) ∧ Below w.heap.size w w' := by
  obtain ⟨k1, k2⟩ := h1
  obtain ⟨k3, k4⟩ := h2
  obtain ⟨k5, k6⟩ := h3
  obtain ⟨k7, k8⟩ := h4
  have m1 : (x - a) * (d - b) ≤ 16777216 * 16777216 := Int.mul_le_mul (by omega) (by omega) (by omega) (by omega)
  have m2 : 0 ≤ (x - a) * (d - b) := Int.mul_nonneg (by omega) (by omega)
  have hw : IntKind.i64.wrap (x - a) = x - a := wrapI (by omega) (by omega)
  have hw2 : IntKind.i64.wrap ((x - a) * (d - b)) = (x - a) * (d - b) := wrapI (by omega) (by omega)
  go_enter Tryz.func205, Tryz.ntmps205
  go_wp2
  obtain ⟨x0, x1, x2, x3⟩ := box4 w (.int .i64 a) (.int .i64 b) (.int .i64 c) (.int .i64 d) 189
  go_region_held3 (fun W => Below w.heap.size w W ∧ W.cell? ⟨w.heap.size, 0, none⟩ = some (.int .i64 a) ∧ W.cell? ⟨w.heap.size, 1, none⟩ = some (.int .i64 b) ∧ W.cell? ⟨w.heap.size, 2, none⟩ = some (.int .i64 c) ∧ W.cell? ⟨w.heap.size, 3, none⟩ = some (.int .i64 d)) (first | (with_reducible exact kp1 (by assumption) (by assumption)) | (with_reducible exact kp2 (by assumption) (by assumption)) | (with_reducible exact kp3 (by assumption) (by assumption)) | (with_reducible exact kp4 (by assumption) (by assumption)) | (with_reducible exact kp5 (by assumption) (by assumption)) | (with_reducible exact kp6 (by assumption) (by assumption)) | (with_reducible exact kp7 (by assumption) (by assumption)) | (with_reducible exact kp8 (by assumption) (by assumption)) | (with_reducible exact kp9 (by assumption) (by assumption)) | (with_reducible exact kp10 (by assumption) (by assumption)) | ((repeat' apply And.intro) <;> first | ((repeat' with_reducible first|assumption|exact Below.refl _ _|apply bl_alloc|apply bl_drewN|apply bl_drew|refine bl_set ?_ (by simp<;>omega) _|refine bl_then ?_ (by assumption)); done) | (simp; done) | (simp only [World.cell?_drew, World.cell?_drewN]; first | assumption | (exact cl_alloc (by assumption) _) | (exact cl_alloc (cl_alloc (by assumption) _) _) | (exact cl_alloc (cl_alloc (cl_alloc (by assumption) _) _) _)) | (simp [*, World.cell?_alloc_some, World.cell?_setCell_far]; done))) (first | (go_at_call 238; refine (lhigh_any _ _ _ _ _ ⟨k3, k4⟩ ⟨k5, k6⟩).mono ?_; rintro e' w' ⟨rfl, hb⟩))
  go_wp2
  go_ret
  exact ⟨rfl, by (repeat' with_reducible first|assumption|exact Below.refl _ _|apply bl_alloc|apply bl_drewN|apply bl_drew|refine bl_set ?_ (by simp<;>omega) _|refine bl_then ?_ (by assumption))⟩
set_option maxRecDepth 100000 in
set_option maxHeartbeats 1000000 in
theorem clowest_any (n d : Int) (w : World) (h1 : 0 ≤ n) (h2 : n ≤ 9223372036854775807) (h3 : 0 < d) (h4 : d ≤ 9223372036854775807) :
    Calls Tryz.prog 203 #[.int .i64 n, .int .i64 d] w fun e w' => e = .returned (.agg #[.int .i64 (lowN n d), .int .i64 (lowD n d)]) ∧ Below w.heap.size w w' := by
  go_enter Tryz.func203, Tryz.ntmps203
  go_wp2
  go_loopw [5, 6] (fun a b W => ∃ x y : Int, a = .int .i64 x ∧ b = .int .i64 y ∧ 0 ≤ x ∧ 0 ≤ y ∧ x ≤ 9223372036854775807 ∧ y ≤ 9223372036854775807 ∧ 0 < x + y ∧ Int.gcd x y = Int.gcd n d ∧ ∃ m, W = (w.alloc (.cells #[.int .i64 0, .int .i64 0] 41)).drewN m) (fun _ b _ => (intOf b).toNat)
  case atStart => exact ⟨n, d, rfl, rfl, h1, by omega, h2, h4, by omega, rfl, 0, rfl⟩
  case round =>
    obtain ⟨x, y, rfl, rfl, hx, hy, hx2, hy2, hxy, hg, m, rfl⟩ := hrel
    have HG := Lib.hid hg
    clear hg
    by_cases hz : y = 0
    · subst hz
      have hx0 : 0 < x := by omega
      go_wp2
      go_region
      go_wp2
      have hG : Int.gcd n d = x.toNat := by rw [← HG.out]; simp; omega
      have e1 : n / x = lowN n d := by unfold lowN; rw [hG]; congr 1; omega
      have e2 : d / x = lowD n d := by unfold lowD; rw [hG]; congr 1; omega
      rw [e1, e2]
      refine bodyPost_ret (v := .agg #[.int .i64 (lowN n d), .int .i64 (lowD n d)]) (by simp [results, Tryz.results203, go_sem, *]) rfl ?_
      exact ⟨rfl, by (repeat' with_reducible first|assumption|exact Below.refl _ _|apply bl_alloc|apply bl_drewN|apply bl_drew|refine bl_set ?_ (by simp<;>omega) _|refine bl_then ?_ (by assumption))⟩
    · have hy0 : 0 < y := by omega
      go_wp2
      go_quiet (fail)
      go_wp2
      go_roundw
      case rel => exact ⟨y, x % y, rfl, rfl, hy, Int.emod_nonneg _ (by omega), hy2, by have := Int.emod_lt_of_pos x hy0; omega, by have := Int.emod_nonneg x (show y ≠ 0 by omega); omega, by rw [gcd_step x y hx hy0]; exact HG.out, _, World.drewN_drewN ..⟩
      case measure => have := Int.emod_nonneg x (show y ≠ 0 by omega); have := Int.emod_lt_of_pos x hy0; simp [intOf]; omega
end Go.Proofs.YtjpagpplkldbkaaGreat
