/- Scales' sums, open and Sizes. Curves: coordinates. Plain facts on rational numbers: bounds, midpoints, and when lines from below and lines from above leave room. The program's regions: lines, bounds, and what is solved; and what they mean. Four points of the plane: there is one that lies in each triangle of three of them. Convex sets of which any three meet. -/
import Derived.Test.YtjpagpplkldbkaaGreatLib3
set_option linter.unusedVariables false
set_option linter.unusedSimpArgs false
namespace Go.Proofs.YtjpagpplkldbkaaGreat
open Go.RowKit
/-- A scale of some numbers. -/
def Sc (t : TypeId) (w : World) (g : Nat) (xs : List Int) : Prop := ∃ v1 v2, w.heap[g]? = some (.cells #[v1, v2] t (0, 0)) ∧ Sl inC 1 w v1 xs ∧ Sl inC 1 w v2 (sums xs (xs.length + 1))
theorem Sc.below {t : TypeId} {w w1 : World} {g : Nat} {xs : List Int} (h : Sc t w g xs) (hb : Below w.heap.size w w1) : Sc t w1 g xs := by
  obtain ⟨v1, v2, h1, h2, h3⟩ := h
  exact ⟨v1, v2, bk_below h1 hb, h2.below hb, h3.below hb⟩
theorem Sl.apart {w : World} {v : Value} {xs : List Int} {g : Nat} {cs : Array Value} {t : TypeId} (h : Sl inC 1 w v xs) (hg : w.heap[g]? = some (.cells cs t (0, 0))) (hn : ∀ (i : Nat) (n : Int), cs[i]? ≠ some (Value.int .i64 n)) (hne : xs ≠ []) (b : Nat) (hb : v.ownBlock = some b) : b ≠ g := by
  obtain ⟨A, c, rfl, _, _, hr⟩ := h
  obtain ⟨b', off, rfl, hc⟩ := hr hne
  obtain rfl : b' = b := by simpa [Value.ownBlock] using hb
  rintro rfl
  have hz := Sl.cells hc (k := 0) (List.length_pos_iff.2 hne) (i := 0) (by omega) rfl
  rw [bk_cell hg] at hz
  exact hn _ _ hz
theorem Sl.setFar {w : World} {v : Value} {xs : List Int} {g : Nat} {cs : Array Value} {t : TypeId} (h : Sl inC 1 w v xs) (hg : w.heap[g]? = some (.cells cs t (0, 0))) (hn : ∀ (i : Nat) (n : Int), cs[i]? ≠ some (Value.int .i64 n)) (i : Nat) (u : Value) : Sl inC 1 (w.setCell ⟨g, i, none⟩ u) v xs :=
  h.keep (fun hne b hb => Below.heap_setCell w _ u b (h.apart hg hn hne b hb))
theorem Sc.setFar {t t' : TypeId} {w : World} {g g' : Nat} {xs : List Int} (h : Sc t w g xs) {cs : Array Value} (hg : w.heap[g']? = some (.cells cs t' (0, 0))) (hn : ∀ (i : Nat) (n : Int), cs[i]? ≠ some (Value.int .i64 n)) (ht : t ≠ t') (i : Nat) (u : Value) : Sc t (w.setCell ⟨g', i, none⟩ u) g xs := by
  obtain ⟨v1, v2, h1, h2, h3⟩ := h
  refine ⟨v1, v2, bk_far h1 (fun e => ?_) u, h2.setFar hg hn i u, h3.setFar hg hn i u⟩
  have e' : g = g' := e
  subst e'
  rw [h1] at hg
  cases hg
  exact ht rfl
theorem noInt3 {a b c : Value} (ha : ∀ n, a ≠ Value.int .i64 n) (hb : ∀ n, b ≠ Value.int .i64 n) (hc : ∀ n, c ≠ Value.int .i64 n) (i : Nat) (n : Int) : (#[a, b, c] : Array Value)[i]? ≠ some (Value.int .i64 n) := by
  match i with
  | 0 => simpa using ha n
  | 1 => simpa using hb n
  | 2 => simpa using hc n
  | i + 3 => simp
theorem Sc.put3 {t t' : TypeId} {w : World} {g g' : Nat} {xs : List Int} (h : Sc t w g xs) {p q r : Option Addr} (hg : w.heap[g']? = some (.cells #[.pointer none, .pointer none, .pointer none] t' (0, 0))) (ht : t ≠ t') :
    Sc t (((w.setCell ⟨g', 0, none⟩ (.pointer p)).setCell ⟨g', 1, none⟩ (.pointer q)).setCell ⟨g', 2, none⟩ (.pointer r)) g xs := by
  have hp : ∀ (x : Option Addr) n, Value.pointer x ≠ Value.int .i64 n := fun _ _ h => by cases h
  exact ((h.setFar hg (noInt3 (hp _) (hp _) (hp _)) ht 0 _).setFar (bk_put1 hg 0 _ rfl) (noInt3 (hp _) (hp _) (hp _)) ht 1 _).setFar (bk_put1 (bk_put1 hg 0 _ rfl) 1 _ rfl) (noInt3 (hp _) (hp _) (hp _)) ht 2 _
theorem sums_len (xs : List Int) (k : Nat) : (sums xs k).length = k := by simp [sums]
theorem sums_get (xs : List Int) (k j : Nat) (h : j < (sums xs k).length) : (sums xs k)[j] = sumTo xs j := by simp [sums]
theorem in_cell {w : World} {b off : Nat} {xs : List Int} (h : ∀ j i u, j < xs.length → (xs[j]?.bind fun x => (inC x)[i]?) = some u → i < 1 → w.cell? ⟨b, off + j * 1 + i, none⟩ = some u) {k : Nat} (hk : k < xs.length) :
    w.cell? ⟨b, off + k, none⟩ = some (.int .i64 xs[k]) := by have := Sl.cells h hk (i := 0) (by omega) rfl; simpa using this
set_option maxRecDepth 100000 in
set_option maxHeartbeats 1000000 in
theorem allH_any (g : Nat) (xs : List Int) (w : World) (hs : Sc 254 w g xs) :
    Calls Tryz.prog 156 #[.pointer (some ⟨g, 0, none⟩)] w fun e w' => e = .returned (.int .i64 (sumTo xs xs.length)) ∧ Below w.heap.size w w' := by
  obtain ⟨v1, v2, hk, h1, h2⟩ := hs
  obtain ⟨A1, k1, rfl, hl1, hc1, hr1⟩ := id h1
  obtain ⟨A2, k2, rfl, hl2, hc2, hr2⟩ := id h2
  obtain ⟨b, off, rfl, hcell⟩ := hr2 (by simp [sums])
  have hz := in_cell hcell (k := xs.length) (by rw [sums_len]; omega)
  rw [sums_get] at hz
  have z0 := bk_cell hk 0
  have z1 := bk_cell hk 1
  simp at z0 z1
  rw [sums_len] at z1 hl2
  have hg := bk_lt hk
  clear hk h1 h2 hr1 hr2 hcell
  go_enter Tryz.func156, Tryz.ntmps156
  go_wp2
  go_quiet (fail)
  go_wp2
  go_ret
  exact ⟨rfl, by (repeat' with_reducible first|assumption|exact Below.refl _ _|apply bl_alloc|apply bl_drewN|apply bl_drew|refine bl_set ?_ (by simp<;>omega) _|refine bl_then ?_ (by assumption))⟩
set_option maxRecDepth 100000 in
set_option maxHeartbeats 1000000 in
theorem allV_any (g : Nat) (xs : List Int) (w : World) (hs : Sc 279 w g xs) :
    Calls Tryz.prog 157 #[.pointer (some ⟨g, 0, none⟩)] w fun e w' => e = .returned (.int .i64 (sumTo xs xs.length)) ∧ Below w.heap.size w w' := by
  obtain ⟨v1, v2, hk, h1, h2⟩ := hs
  obtain ⟨A1, k1, rfl, hl1, hc1, hr1⟩ := id h1
  obtain ⟨A2, k2, rfl, hl2, hc2, hr2⟩ := id h2
  obtain ⟨b, off, rfl, hcell⟩ := hr2 (by simp [sums])
  have hz := in_cell hcell (k := xs.length) (by rw [sums_len]; omega)
  rw [sums_get] at hz
  have z0 := bk_cell hk 0
  have z1 := bk_cell hk 1
  simp at z0 z1
  rw [sums_len] at z1 hl2
  have hg := bk_lt hk
  clear hk h1 h2 hr1 hr2 hcell
  go_enter Tryz.func157, Tryz.ntmps157
  go_wp2
  go_quiet (fail)
  go_wp2
  go_ret
  exact ⟨rfl, by (repeat' with_reducible first|assumption|exact Below.refl _ _|apply bl_alloc|apply bl_drewN|apply bl_drew|refine bl_set ?_ (by simp<;>omega) _|refine bl_then ?_ (by assumption))⟩
set_option maxRecDepth 100000 in
set_option maxHeartbeats 1000000 in
theorem allD_any (g : Nat) (xs : List Int) (w : World) (hs : Sc 257 w g xs) :
    Calls Tryz.prog 158 #[.pointer (some ⟨g, 0, none⟩)] w fun e w' => e = .returned (.int .i64 (sumTo xs xs.length)) ∧ Below w.heap.size w w' := by
  obtain ⟨v1, v2, hk, h1, h2⟩ := hs
  obtain ⟨A1, k1, rfl, hl1, hc1, hr1⟩ := id h1
  obtain ⟨A2, k2, rfl, hl2, hc2, hr2⟩ := id h2
  obtain ⟨b, off, rfl, hcell⟩ := hr2 (by simp [sums])
  have hz := in_cell hcell (k := xs.length) (by rw [sums_len]; omega)
  rw [sums_get] at hz
  have z0 := bk_cell hk 0
  have z1 := bk_cell hk 1
  simp at z0 z1
  rw [sums_len] at z1 hl2
  have hg := bk_lt hk
  clear hk h1 h2 hr1 hr2 hcell
  go_enter Tryz.func158, Tryz.ntmps158
  go_wp2
  go_quiet (fail)
  go_wp2
  go_ret
  exact ⟨rfl, by (repeat' with_reducible first|assumption|exact Below.refl _ _|apply bl_alloc|apply bl_drewN|apply bl_drew|refine bl_set ?_ (by simp<;>omega) _|refine bl_then ?_ (by assumption))⟩
set_option maxRecDepth 100000 in
set_option maxHeartbeats 1000000 in
theorem open_any (v : Value) (l : List Rn) (w : World) (hv : Sl rnC 3 w v l) (hn : l.length ≤ 30) (hr : ∀ k, k < l.length → ringOk l k = true) :
    Calls Tryz.prog 155 #[v] w fun e w' => ∃ g1 g2 g3, e = .returned (.agg #[.pointer (some ⟨g1, 0, none⟩), .pointer (some ⟨g2, 0, none⟩), .pointer (some ⟨g3, 0, none⟩)]) ∧ Sc 254 w' g1 (l.map Rn.h) ∧ Sc 279 w' g2 (l.map Rn.v) ∧ Sc 257 w' g3 (l.map Rn.d) ∧ Below w.heap.size w w' := by
  have hb : ∀ r ∈ l, 1 ≤ r.h ∧ r.h ≤ 1000 ∧ 1 ≤ r.v ∧ r.v ≤ 100000 ∧ 1 ≤ r.d ∧ r.d ≤ 20000 := by
    intro r hm
    obtain ⟨k, hk, rfl⟩ := List.getElem_of_mem hm
    have := hr k hk
    rw [ringOk_eq hk] at this
    simp only [Bool.and_eq_true] at this
    exact ringB_bd this.1
  have b1 : ∀ r ∈ l, 0 ≤ r.h ∧ r.h ≤ 1000000 := fun r hm => by have := hb r hm; omega
  have b2 : ∀ r ∈ l, 0 ≤ r.v ∧ r.v ≤ 1000000 := fun r hm => by have := hb r hm; omega
  have b3 : ∀ r ∈ l, 0 ≤ r.d ∧ r.d ≤ 1000000 := fun r hm => by have := hb r hm; omega
  have B1 := Lib.hid b1
  have B2 := Lib.hid b2
  have B3 := Lib.hid b3
  have HV := Lib.hid hv
  clear b1 b2 b3 hb hr
  go_enter Tryz.func155, Tryz.ntmps155
  go_wp2_with fail
  refine (scaledH_any _ l _ (HV.out.below (by (repeat' with_reducible first|assumption|exact Below.refl _ _|apply bl_alloc|apply bl_drewN|apply bl_drew|refine bl_set ?_ (by simp<;>omega) _|refine bl_then ?_ (by assumption)))) hn B1.out).mono ?_
  rintro e1 w1 ⟨g1, x1, y1, rfl, k1, s1, t1, hb1⟩
  have S1 : Hid (Sc 254 w1 g1 (l.map Rn.h)) := Lib.hid ⟨x1, y1, k1, s1, by simpa using t1⟩
  have HB1 : Below w.heap.size w w1 := by (repeat' with_reducible first|assumption|exact Below.refl _ _|apply bl_alloc|apply bl_drewN|apply bl_drew|refine bl_set ?_ (by simp<;>omega) _|refine bl_then ?_ (by assumption))
  have Z1 := Lib.hid (bk_below (bk_new w _) hb1)
  clear k1 s1 t1 hb1
  go_wp2_with fail
  refine (scaledV_any _ l _ (HV.out.below (by (repeat' with_reducible first|assumption|exact Below.refl _ _|apply bl_alloc|apply bl_drewN|apply bl_drew|refine bl_set ?_ (by simp<;>omega) _|refine bl_then ?_ (by assumption)))) hn B2.out).mono ?_
  rintro e2 w2 ⟨g2, x2, y2, rfl, k2, s2, t2, hb2⟩
  have S2 : Hid (Sc 279 w2 g2 (l.map Rn.v)) := Lib.hid ⟨x2, y2, k2, s2, by simpa using t2⟩
  have S1' := Lib.hid (S1.out.below hb2)
  have HB2 : Below w.heap.size w w2 := by (repeat' with_reducible first|assumption|exact Below.refl _ _|apply bl_alloc|apply bl_drewN|apply bl_drew|refine bl_set ?_ (by simp<;>omega) _|refine bl_then ?_ (by assumption))
  have Z2 := Lib.hid (bk_below Z1.out hb2)
  clear k2 s2 t2 hb2 S1 Z1
  go_wp2_with fail
  refine (scaledD_any _ l _ (HV.out.below (by (repeat' with_reducible first|assumption|exact Below.refl _ _|apply bl_alloc|apply bl_drewN|apply bl_drew|refine bl_set ?_ (by simp<;>omega) _|refine bl_then ?_ (by assumption)))) hn B3.out).mono ?_
  rintro e3 w3 ⟨g3, x3, y3, rfl, k3, s3, t3, hb3⟩
  have S3 : Hid (Sc 257 w3 g3 (l.map Rn.d)) := Lib.hid ⟨x3, y3, k3, s3, by simpa using t3⟩
  have S1 := Lib.hid (S1'.out.below hb3)
  have S2' := Lib.hid (S2.out.below hb3)
  have HB3 : Below w.heap.size w w3 := by (repeat' with_reducible first|assumption|exact Below.refl _ _|apply bl_alloc|apply bl_drewN|apply bl_drew|refine bl_set ?_ (by simp<;>omega) _|refine bl_then ?_ (by assumption))
  have Z3 := Lib.hid (bk_below Z2.out hb3)
  clear k3 s3 t3 hb3 S2 S1' Z2
  have z0 := bk_cell Z3.out 0
  have z1 := bk_cell Z3.out 1
  have z2 := bk_cell Z3.out 2
  simp at z0 z1 z2
  have f0 := bk_fro Z3.out 0
  have f1 := bk_fro Z3.out 1
  have f2 := bk_fro Z3.out 2
  go_wp2_with fail
  refine bodyPost_ret (v := .agg #[.pointer (some ⟨g1, 0, none⟩), .pointer (some ⟨g2, 0, none⟩), .pointer (some ⟨g3, 0, none⟩)]) (res_one rfl (.cell w.heap.size 205 _ (0, 0) _ rfl (bk_put3 Z3.out 0 1 2 _ _ _ rfl) Tryz.underlying205 rfl (by kernel_rfl) .nil)) rfl ?_
  refine ⟨g1, g2, g3, rfl, S1.out.put3 Z3.out (by decide), S2'.out.put3 Z3.out (by decide), S3.out.put3 Z3.out (by decide), bl_set (bl_set (bl_set HB3 (Nat.le_refl _) _) (Nat.le_refl _) _) (Nat.le_refl _) _⟩
theorem vErr_zero {l : List Rn} (h : vErr l = 0) : 1 ≤ l.length ∧ l.length ≤ 24 ∧ ∀ k, k < l.length → ringOk l k = true := by
  unfold vErr at h
  split at h
  · rename_i hv
    unfold vesselB at hv
    simp at hv
    exact ⟨hv.1.1, hv.1.2, hv.2⟩
  · simp at h
theorem vErr_two (l : List Rn) : vErr l = 0 ∨ vErr l = 20 := by unfold vErr; split <;> simp
set_option maxRecDepth 100000 in
set_option maxHeartbeats 1000000 in
theorem sizes_any (v : Value) (l : List Rn) (w : World) (hv : Sl rnC 3 w v l) :
    Calls Tryz.prog 57 #[v] w fun e w' => e = .returned (.tuple (if vErr l = 0 then #[.int .i64 (sumTo (l.map Rn.h) l.length), .int .i64 (sumTo (l.map Rn.v) l.length), .int .i64 (sumTo (l.map Rn.d) l.length), .int .i64 0] else #[.int .i64 0, .int .i64 0, .int .i64 0, .int .i64 20])) ∧ Below w.heap.size w w' := by
  have HV := Lib.hid hv
  rcases vErr_two l with h0 | h0
  · rw [if_pos h0]
    obtain ⟨h1, h2, h3⟩ := vErr_zero h0
    have H3 := Lib.hid h3
    clear h3
    go_enter Tryz.func57, Tryz.ntmps57
    go_wp2_with fail
    refine (vcheck_any v l _ HV.out).mono ?_
    rintro e1 w1 ⟨rfl, hb1⟩
    rw [h0]
    go_wp2_with fail
    refine (open_any v l _ (HV.out.below (by (repeat' with_reducible first|assumption|exact Below.refl _ _|apply bl_alloc|apply bl_drewN|apply bl_drew|refine bl_set ?_ (by simp<;>omega) _|refine bl_then ?_ (by assumption)))) (by omega) H3.out).mono ?_
    rintro e2 w2 ⟨g1, g2, g3, rfl, s1, s2, s3, hb2⟩
    have S1 := Lib.hid (s1.below (bl_alloc (Below.refl _ _) (.cells #[.pointer (some ⟨g1, 0, none⟩), .pointer (some ⟨g2, 0, none⟩), .pointer (some ⟨g3, 0, none⟩)] 205)))
    have S2 := Lib.hid (s2.below (bl_alloc (Below.refl _ _) (.cells #[.pointer (some ⟨g1, 0, none⟩), .pointer (some ⟨g2, 0, none⟩), .pointer (some ⟨g3, 0, none⟩)] 205)))
    have S3 := Lib.hid (s3.below (bl_alloc (Below.refl _ _) (.cells #[.pointer (some ⟨g1, 0, none⟩), .pointer (some ⟨g2, 0, none⟩), .pointer (some ⟨g3, 0, none⟩)] 205)))
    have HB2 : Below w.heap.size w w2 := by (repeat' with_reducible first|assumption|exact Below.refl _ _|apply bl_alloc|apply bl_drewN|apply bl_drew|refine bl_set ?_ (by simp<;>omega) _|refine bl_then ?_ (by assumption))
    clear s1 s2 s3 hb2 hb1
    go_wp2_with fail
    obtain ⟨x0, x1, x2⟩ := box3 w2 (.pointer (some ⟨g1, 0, none⟩)) (.pointer (some ⟨g2, 0, none⟩)) (.pointer (some ⟨g3, 0, none⟩)) 205
    go_region_held3 (fun W => Below (w2.alloc (.cells #[.pointer (some ⟨g1, 0, none⟩), .pointer (some ⟨g2, 0, none⟩), .pointer (some ⟨g3, 0, none⟩)] 205)).heap.size (w2.alloc (.cells #[.pointer (some ⟨g1, 0, none⟩), .pointer (some ⟨g2, 0, none⟩), .pointer (some ⟨g3, 0, none⟩)] 205)) W ∧ W.cell? ⟨w2.heap.size, 0, none⟩ = some (.pointer (some ⟨g1, 0, none⟩)) ∧ W.cell? ⟨w2.heap.size, 1, none⟩ = some (.pointer (some ⟨g2, 0, none⟩)) ∧ W.cell? ⟨w2.heap.size, 2, none⟩ = some (.pointer (some ⟨g3, 0, none⟩))) (first | (with_reducible exact kp1 (by assumption) (by assumption)) | (with_reducible exact kp2 (by assumption) (by assumption)) | (with_reducible exact kp3 (by assumption) (by assumption)) | (with_reducible exact kp4 (by assumption) (by assumption)) | (with_reducible exact kp5 (by assumption) (by assumption)) | (with_reducible exact kp6 (by assumption) (by assumption)) | (with_reducible exact kp7 (by assumption) (by assumption)) | (with_reducible exact kp8 (by assumption) (by assumption)) | (with_reducible exact kp9 (by assumption) (by assumption)) | (with_reducible exact kp10 (by assumption) (by assumption)) | ((repeat' apply And.intro) <;> first | ((repeat' with_reducible first|assumption|exact Below.refl _ _|apply bl_alloc|apply bl_drewN|apply bl_drew|refine bl_set ?_ (by simp<;>omega) _|refine bl_then ?_ (by assumption)); done) | (simp; done) | (simp only [World.cell?_drew, World.cell?_drewN]; first | assumption | (exact cl_alloc (by assumption) _) | (exact cl_alloc (cl_alloc (by assumption) _) _) | (exact cl_alloc (cl_alloc (cl_alloc (by assumption) _) _) _)) | (simp [*, World.cell?_alloc_some, World.cell?_setCell_far]; done))) (first
      | (go_at_call 156; refine (allH_any _ _ _ (S1.out.below (by (repeat' with_reducible first|assumption|exact Below.refl _ _|apply bl_alloc|apply bl_drewN|apply bl_drew|refine bl_set ?_ (by simp<;>omega) _|refine bl_then ?_ (by assumption))))).mono ?_; rintro e' w' ⟨rfl, hb⟩)
      | (go_at_call 157; refine (allV_any _ _ _ (S2.out.below (by (repeat' with_reducible first|assumption|exact Below.refl _ _|apply bl_alloc|apply bl_drewN|apply bl_drew|refine bl_set ?_ (by simp<;>omega) _|refine bl_then ?_ (by assumption))))).mono ?_; rintro e' w' ⟨rfl, hb⟩)
      | (go_at_call 158; refine (allD_any _ _ _ (S3.out.below (by (repeat' with_reducible first|assumption|exact Below.refl _ _|apply bl_alloc|apply bl_drewN|apply bl_drew|refine bl_set ?_ (by simp<;>omega) _|refine bl_then ?_ (by assumption))))).mono ?_; rintro e' w' ⟨rfl, hb⟩))
    all_goals go_wp2
    all_goals refine bodyPost_ret (v := .tuple #[.int .i64 (sumTo (l.map Rn.h) l.length), .int .i64 (sumTo (l.map Rn.v) l.length), .int .i64 (sumTo (l.map Rn.d) l.length), .int .i64 0]) (res_list (vs := [_, _, _, _]) rfl (by simp) (.tmp rfl (.tmp rfl (.tmp rfl (.tmp rfl .nil))))) rfl ?_
    all_goals exact ⟨rfl, by (repeat' with_reducible first|assumption|exact Below.refl _ _|apply bl_alloc|apply bl_drewN|apply bl_drew|refine bl_set ?_ (by simp<;>omega) _|refine bl_then ?_ (by assumption))⟩
  · rw [if_neg (show ¬ vErr l = 0 by omega)]
    go_enter Tryz.func57, Tryz.ntmps57
    go_wp2_with fail
    refine (vcheck_any v l _ HV.out).mono ?_
    rintro e1 w1 ⟨rfl, hb1⟩
    rw [h0]
    go_wp2
    refine bodyPost_ret (v := .tuple #[.int .i64 0, .int .i64 0, .int .i64 0, .int .i64 20]) (res_list (vs := [_, _, _, _]) rfl (by simp) (.tmp rfl (.tmp rfl (.tmp rfl (.tmp rfl .nil))))) rfl ?_
    exact ⟨rfl, by (repeat' with_reducible first|assumption|exact Below.refl _ _|apply bl_alloc|apply bl_drewN|apply bl_drew|refine bl_set ?_ (by simp<;>omega) _|refine bl_then ?_ (by assumption))⟩
end Go.Proofs.YtjpagpplkldbkaaGreat
set_option linter.unusedVariables false
set_option linter.unusedSimpArgs false
namespace Go.Proofs.YtjpagpplkldbkaaGreat
open Go.RowKit
structure Pt where
  x : Int
  y : Int
deriving DecidableEq, Inhabited
def ptC (p : Pt) : List Value := [.int .i64 p.x, .int .i64 p.y]
theorem ptC_len (l : Pt) : (ptC l).length = 2 := rfl
theorem ptC_one (l : Pt) : ∀ u ∈ ptC l, u.oneCell' = true := by intro u hu; simp [ptC] at hu; rcases hu with rfl | rfl <;> rfl
theorem pt_cells {w : World} {b off : Nat} {xs : List Pt} (h : ∀ j i u, j < xs.length → (xs[j]?.bind fun x => (ptC x)[i]?) = some u → i < 2 → w.cell? ⟨b, off + j * 2 + i, none⟩ = some u) {k : Nat} (hk : k < xs.length) :
    w.cell? ⟨b, off + k * 2, none⟩ = some (.int .i64 xs[k].x) ∧ w.cell? ⟨b, off + k * 2 + 1, none⟩ = some (.int .i64 xs[k].y) :=
  ⟨Sl.cells h hk (i := 0) (by omega) rfl, Sl.cells h hk (i := 1) (by omega) rfl⟩
def coordB (n : Int) : Bool := decide (0 ≤ n) && decide (n ≤ 16777216)
set_option maxRecDepth 100000 in
set_option maxHeartbeats 1000000 in
theorem coord_any (n : Int) (w : World) : Calls Tryz.prog 241 #[.int .i64 n] w fun e w' => e = .returned (.bool (coordB n)) ∧ w = w' := by
  go_enter Tryz.func241, Tryz.ntmps241
  go_wp2
  all_goals go_ret
  all_goals refine ⟨?_, rfl⟩
  all_goals simp [coordB, *]
  all_goals omega
def badP (p : Pt) : Bool := !coordB p.x || !coordB p.y
set_option maxRecDepth 100000 in
set_option maxHeartbeats 1000000 in
theorem right1_any (p : Pt) (w : World) : Calls Tryz.prog 240 #[.agg #[.int .i64 p.x, .int .i64 p.y]] w fun e w' => e = .returned (.bool (badP p)) ∧ Below w.heap.size w w' := by
  go_enter Tryz.func240, Tryz.ntmps240
  cases h1 : coordB p.x <;> cases h2 : coordB p.y
  all_goals go_wp2_with (go_at_call 241; refine (coord_any _ _).mono ?_; rintro e' w' ⟨rfl, rfl⟩)
  all_goals go_ret
  all_goals exact ⟨by simp [badP, h1, h2], by (repeat' with_reducible first|assumption|exact Below.refl _ _|apply bl_alloc|apply bl_drewN|apply bl_drew|refine bl_set ?_ (by simp<;>omega) _|refine bl_then ?_ (by assumption))⟩
set_option maxRecDepth 100000 in
set_option maxHeartbeats 1000000 in
theorem index_pt_any (v : Value) (l : List Pt) (w : World) (hv : Sl ptC 2 w v l) :
    Calls Tryz.prog 253 #[v, .func (.func 240) #[] #[]] w fun e w' => ∃ r : Int, e = .returned (.int .i64 r) ∧ (decide (0 ≤ r) = l.any badP) ∧ Below w.heap.size w w' := by
  obtain ⟨A, c, rfl, hl, hc, hcs⟩ := id hv
  have hlen : l.length ≤ 9223372036854775807 := by omega
  go_enter Tryz.func253, Tryz.ntmps253
  go_wp2
  go_loopw [8] (fun i W => ∃ k : Nat, k ≤ l.length ∧ i = .int .i64 k ∧ Below w.heap.size w W ∧ ∀ p ∈ l.take k, badP p = false) (fun i _ => l.length - (intOf i).toNat)
  case atStart => exact ⟨0, by omega, rfl, by (repeat' with_reducible first|assumption|exact Below.refl _ _|apply bl_alloc|apply bl_drewN|apply bl_drew|refine bl_set ?_ (by simp<;>omega) _|refine bl_then ?_ (by assumption)), by simp⟩
  case round =>
    obtain ⟨k, hk, rfl, hB, hok⟩ := hrel
    by_cases hlt : k < l.length
    · obtain ⟨b, off, rfl, hcell⟩ := hcs (by intro h; simp [h] at hlt)
      obtain ⟨c0, c1'⟩ := pt_cells hcell hlt
      have d0 := cl_below hB c0
      have d1 := cl_below hB c1'
      clear c0 c1'
      have hk63 : (k : Int) < 9223372036854775807 := by omega
      have HO := Lib.hid hok
      clear hok
      have hr : ∀ w, Calls Tryz.prog 240 #[.agg #[.int .i64 l[k].x, .int .i64 l[k].y]] w fun e w' => e = .returned (.bool (badP l[k])) ∧ Below w.heap.size w w' := right1_any l[k]
      cases hbp : badP l[k] with
      | true =>
        rw [hbp] at hr
        have HR := Lib.hid hr
        clear hr
        go_wp2_with (first | (go_at_call 240; refine (HR.out _).mono ?_; rintro e' w' ⟨rfl, hb⟩))
        go_ret
        refine ⟨k, rfl, ?_, by (repeat' with_reducible first|assumption|exact Below.refl _ _|apply bl_alloc|apply bl_drewN|apply bl_drew|refine bl_set ?_ (by simp<;>omega) _|refine bl_then ?_ (by assumption))⟩
        rw [List.any_eq_true.2 ⟨l[k], List.getElem_mem hlt, hbp⟩]
        simp
      | false =>
        rw [hbp] at hr
        have HR := Lib.hid hr
        clear hr
        have HF := Lib.hid hbp
        go_wp2_with (first | (go_at_call 240; refine (HR.out _).mono ?_; rintro e' w' ⟨rfl, hb⟩))
        go_roundw
        case rel =>
          refine ⟨k + 1, by omega, by go_num, by (repeat' with_reducible first|assumption|exact Below.refl _ _|apply bl_alloc|apply bl_drewN|apply bl_drew|refine bl_set ?_ (by simp<;>omega) _|refine bl_then ?_ (by assumption)), ?_⟩
          rw [List.take_succ_eq_append_getElem hlt]
          intro p hp
          rcases List.mem_append.1 hp with hp | hp
          · exact HO.out p hp
          · rw [List.mem_singleton.1 hp]; exact HF.out
        case measure => simp [intOf]; omega
    · obtain rfl : k = l.length := by omega
      go_wp2
      go_ret
      refine ⟨-1, rfl, ?_, by (repeat' with_reducible first|assumption|exact Below.refl _ _|apply bl_alloc|apply bl_drewN|apply bl_drew|refine bl_set ?_ (by simp<;>omega) _|refine bl_then ?_ (by assumption))⟩
      rw [List.take_of_length_le (Nat.le_refl _)] at hok
      rw [show l.any badP = false from List.any_eq_false.2 (fun p hp => by rw [hok p hp]; simp)]
      rfl
set_option maxRecDepth 100000 in
set_option maxHeartbeats 1000000 in
theorem contains_pt_any (v : Value) (l : List Pt) (w : World) (hv : Sl ptC 2 w v l) :
    Calls Tryz.prog 239 #[v, .func (.func 240) #[] #[]] w fun e w' => e = .returned (.bool (l.any badP)) ∧ Below w.heap.size w w' := by
  have HV := Lib.hid hv
  clear hv
  go_enter Tryz.func239, Tryz.ntmps239
  go_wp2_with fail
  refine (index_pt_any v l _ HV.out).mono ?_
  rintro e' w1 ⟨r, rfl, hr, hb⟩
  have HR := Lib.hid hr
  clear hr
  go_wp2
  go_ret
  exact ⟨congrArg (fun x => Ending.returned (.bool x)) HR.out, by (repeat' with_reducible first|assumption|exact Below.refl _ _|apply bl_alloc|apply bl_drewN|apply bl_drew|refine bl_set ?_ (by simp<;>omega) _|refine bl_then ?_ (by assumption))⟩
set_option maxRecDepth 100000 in
set_option maxHeartbeats 1000000 in
theorem right_any (v : Value) (l : List Pt) (w : World) (hv : Sl ptC 2 w v l) :
    Calls Tryz.prog 206 #[v] w fun e w' => e = .returned (.bool (!l.any badP)) ∧ Below w.heap.size w w' := by
  have HV := Lib.hid hv
  clear hv
  go_enter Tryz.func206, Tryz.ntmps206
  go_wp2_with fail
  refine (contains_pt_any v l _ HV.out).mono ?_
  rintro e' w1 ⟨rfl, hb⟩
  go_wp2
  go_ret
  exact ⟨rfl, by (repeat' with_reducible first|assumption|exact Below.refl _ _|apply bl_alloc|apply bl_drewN|apply bl_drew|refine bl_set ?_ (by simp<;>omega) _|refine bl_then ?_ (by assumption))⟩
end Go.Proofs.YtjpagpplkldbkaaGreat
namespace WH

theorem le_div_iff {a b c : Rat} (hc : 0 < c) : a ≤ b / c ↔ a * c ≤ b := by
  have e : b / c * c = b := by grind
  constructor
  · intro h
    have := Rat.mul_le_mul_of_nonneg_right h (Rat.le_of_lt hc)
    grind
  · intro h
    refine Rat.not_lt.1 fun hlt => ?_
    have := Rat.mul_lt_mul_of_pos_right hlt hc
    grind
theorem lt_div_iff {a b c : Rat} (hc : 0 < c) : a < b / c ↔ a * c < b := by
  have e : b / c * c = b := by grind
  constructor
  · intro h
    have := Rat.mul_lt_mul_of_pos_right h hc
    grind
  · intro h
    refine Rat.not_le.1 fun hle => ?_
    have := Rat.mul_le_mul_of_nonneg_right hle (Rat.le_of_lt hc)
    grind
theorem div_le_iff {a b c : Rat} (hc : 0 < c) : b / c ≤ a ↔ b ≤ a * c := by
  rw [← Rat.not_lt, lt_div_iff hc, Rat.not_lt]
theorem div_lt_iff {a b c : Rat} (hc : 0 < c) : b / c < a ↔ b < a * c := by
  rw [← Rat.not_le, le_div_iff hc, Rat.not_le]

/-- At most, or below. -/
def lq (s : Bool) (a b : Rat) : Prop := if s then a < b else a ≤ b
theorem lq_le {s : Bool} {a b : Rat} (h : lq s a b) : a ≤ b := by
  unfold lq at h; split at h
  · exact Rat.le_of_lt h
  · exact h
theorem lq_of_lt {s : Bool} {a b : Rat} (h : a < b) : lq s a b := by
  unfold lq; split
  · exact h
  · exact Rat.le_of_lt h
theorem lq_false {a b : Rat} : lq false a b ↔ a ≤ b := by simp [lq]
theorem lq_true {a b : Rat} : lq true a b ↔ a < b := by simp [lq]
theorem mid (a b : Rat) (h : a < b) : ∃ m, a < m ∧ m < b := ⟨(a + b) / 2, by grind, by grind⟩
/-- Between a bound from below and one from above there is something exactly if they leave room. -/
theorem room {s t : Bool} {a b : Rat} : (∃ x, lq s a x ∧ lq t x b) ↔ lq (s || t) a b := by
  constructor
  · rintro ⟨x, h1, h2⟩
    cases s <;> cases t <;> simp [lq] at h1 h2 ⊢ <;> grind
  · intro h
    rcases (Rat.le_total : a ≤ b ∨ b ≤ a) with hle | hle
    · by_cases he : a = b
      · subst he
        cases s <;> cases t <;> simp [lq] at h ⊢ <;> first | exact ⟨a, Rat.le_refl, Rat.le_refl⟩ | (exact absurd h Rat.lt_irrefl)
      · obtain ⟨m, h1, h2⟩ := mid a b (by grind)
        exact ⟨m, lq_of_lt h1, lq_of_lt h2⟩
    · have : a = b := by have := lq_le h; grind
      subst this
      cases s <;> cases t <;> simp [lq] at h ⊢ <;> first | exact ⟨a, Rat.le_refl, Rat.le_refl⟩ | (exact absurd h Rat.lt_irrefl)

/-- Of some bounds from below one bounds most. -/
theorem highest : ∀ (l : List (Rat × Bool)), l ≠ [] → ∃ a ∈ l, ∀ b ∈ l, ∀ x, lq a.2 a.1 x → lq b.2 b.1 x
  | [], h => absurd rfl h
  | [a], _ => ⟨a, List.mem_singleton.2 rfl, fun b hb x hx => by rw [List.mem_singleton.1 hb]; exact hx⟩
  | a :: c :: l, _ => by
    obtain ⟨m, hm, hall⟩ := highest (c :: l) (by simp)
    by_cases h : ∀ x, lq a.2 a.1 x → lq m.2 m.1 x
    · refine ⟨a, List.mem_cons_self, fun b hb x hx => ?_⟩
      rcases List.mem_cons.1 hb with rfl | hb
      · exact hx
      · exact hall b hb x (h x hx)
    · refine ⟨m, List.mem_cons_of_mem _ hm, fun b hb x hx => ?_⟩
      rcases List.mem_cons.1 hb with rfl | hb
      · refine Classical.byContradiction fun hn => h fun y hy => ?_
        cases hs : m.2 <;> cases ht : b.2 <;> simp [lq, hs, ht] at hx hn hy ⊢ <;> grind
      · exact hall b hb x hx
/-- Of some bounds from above one bounds most. -/
theorem lowest_ : ∀ (l : List (Rat × Bool)), l ≠ [] → ∃ a ∈ l, ∀ b ∈ l, ∀ x, lq a.2 x a.1 → lq b.2 x b.1
  | [], h => absurd rfl h
  | [a], _ => ⟨a, List.mem_singleton.2 rfl, fun b hb x hx => by rw [List.mem_singleton.1 hb]; exact hx⟩
  | a :: c :: l, _ => by
    obtain ⟨m, hm, hall⟩ := lowest_ (c :: l) (by simp)
    by_cases h : ∀ x, lq a.2 x a.1 → lq m.2 x m.1
    · refine ⟨a, List.mem_cons_self, fun b hb x hx => ?_⟩
      rcases List.mem_cons.1 hb with rfl | hb
      · exact hx
      · exact hall b hb x (h x hx)
    · refine ⟨m, List.mem_cons_of_mem _ hm, fun b hb x hx => ?_⟩
      rcases List.mem_cons.1 hb with rfl | hb
      · refine Classical.byContradiction fun hn => h fun y hy => ?_
        cases hs : m.2 <;> cases ht : b.2 <;> simp [lq, hs, ht] at hx hn hy ⊢ <;> grind
      · exact hall b hb x hx
/-- There is an e above some numbers and below others exactly if each of the one leaves room below each of the others. -/
theorem between_all (A B : List (Rat × Bool)) (hA : A ≠ []) (hB : B ≠ []) :
    (∃ e, (∀ a ∈ A, lq a.2 a.1 e) ∧ ∀ b ∈ B, lq b.2 e b.1) ↔ ∀ a ∈ A, ∀ b ∈ B, lq (a.2 || b.2) a.1 b.1 := by
  constructor
  · rintro ⟨e, h1, h2⟩ a ha b hb
    exact room.1 ⟨e, h1 a ha, h2 b hb⟩
  · intro h
    obtain ⟨a, ha, hall⟩ := highest A hA
    obtain ⟨b, hb, hbll⟩ := lowest_ B hB
    obtain ⟨e, h1, h2⟩ := room.2 (h a ha b hb)
    exact ⟨e, fun c hc => hall c hc e h1, fun c hc => hbll c hc e h2⟩
/-- Two spans of numbers that are the same, and not empty, have the same ends. -/
theorem ends_eq {s t s' t' : Bool} {a b a' b' : Rat} (hn : ∃ x, lq s a x ∧ lq t x b) (h : ∀ x, lq s a x ∧ lq t x b ↔ lq s' a' x ∧ lq t' x b') : a = a' ∧ b = b' := by
  obtain ⟨x, hx⟩ := hn
  have hx' := (h x).1 hx
  have key : ∀ {s t s' t' : Bool} {a b a' b' : Rat}, (∀ x, lq s a x ∧ lq t x b ↔ lq s' a' x ∧ lq t' x b') → (lq s a x ∧ lq t x b) → (lq s' a' x ∧ lq t' x b') → a ≤ a' ∧ b' ≤ b := by
    intro s t s' t' a b a' b' h hx hx'
    constructor
    · refine Rat.not_lt.1 fun hlt => ?_
      obtain ⟨m, h1, h2⟩ := mid a' a hlt
      have h3 : m ≤ x := by have := lq_le hx.1; grind
      have h4 : lq t' m b' := by
        have := hx'.2
        unfold lq at this ⊢; split <;> simp_all <;> grind
      have := lq_le ((h m).2 ⟨lq_of_lt h1, h4⟩).1
      grind
    · refine Rat.not_lt.1 fun hlt => ?_
      obtain ⟨m, h1, h2⟩ := mid b b' hlt
      have h3 : x ≤ m := by have := lq_le hx.2; grind
      have h4 : lq s' a' m := by
        have := hx'.1
        unfold lq at this ⊢; split <;> simp_all <;> grind
      have := lq_le ((h m).2 ⟨h4, lq_of_lt h2⟩).2
      grind
  obtain ⟨h1, h2⟩ := key h hx hx'
  obtain ⟨h3, h4⟩ := key (fun x => (h x).symm) hx' hx
  exact ⟨by grind, by grind⟩
end WH
namespace WH
/-- N divided by D. -/
structure Ra where
  n : Int
  d : Int
deriving DecidableEq, Inhabited
structure Ln where
  slope : Int
  t : Ra
  strict : Bool
deriving Inhabited
structure Bd where
  r : Ra
  strict : Bool
deriving Inhabited
structure Rg where
  lo : Bd
  hi : Bd
  above : List Ln
  below : List Ln
  empty : Bool
deriving Inhabited
def Ra.v (r : Ra) : Rat := (r.n : Rat) / (r.d : Rat)
def cmpI (a b : Int) : Int := if a = b then 0 else if a < b then -1 else 1
def lessN (a b : Ra) : Int := a.n * b.d - b.n * a.d
def lessD (a b : Ra) : Int := a.d * b.d
def Bd.cmp (b c : Bd) : Int := cmpI (b.r.n * c.r.d) (c.r.n * b.r.d)
def Rg.least (r : Rg) (b : Bd) : Rg := if b.cmp r.lo > 0 ∨ b.cmp r.lo = 0 ∧ b.strict = true then { r with lo := b } else r
def Rg.most (r : Rg) (b : Bd) : Rg := if b.cmp r.hi < 0 ∨ b.cmp r.hi = 0 ∧ b.strict = true then { r with hi := b } else r
def Rg.pair (r : Rg) (l u : Ln) : Rg :=
  if l.slope - u.slope = 0 then { r with empty := r.empty || decide (lessN u.t l.t < 0) || (decide (lessN u.t l.t = 0) && (l.strict || u.strict)) }
  else if l.slope - u.slope > 0 then
    if lessN u.t l.t ≤ 0 then { r with empty := true }
    else r.most ⟨⟨lessN u.t l.t, lessD u.t l.t * (l.slope - u.slope)⟩, l.strict || u.strict⟩
  else if lessN u.t l.t < 0 then r.least ⟨⟨-lessN u.t l.t, lessD u.t l.t * -(l.slope - u.slope)⟩, l.strict || u.strict⟩
  else r
def Rg.row (r : Rg) (l : Ln) (us : List Ln) : Rg := us.foldl (fun r u => r.pair l u) r
def Rg.pairs (r : Rg) (ls us : List Ln) : Rg := ls.foldl (fun r l => r.row l us) r
def Rg.close (r : Rg) : Rg := { r with empty := r.empty || decide (r.lo.cmp r.hi > 0) || (decide (r.lo.cmp r.hi = 0) && (r.lo.strict || r.hi.strict)) }
def Rg.solved (r : Rg) : Rg := (r.pairs r.above r.below).close
def Rg.can (r : Rg) (above below : List Ln) : Bool := !({ r with above := r.above ++ above, below := r.below ++ below } : Rg).solved.empty

/-! What they mean. -/
def Ra.pos (r : Ra) : Prop := 0 < r.d
def Ln.at (l : Ln) (g : Rat) : Rat := (l.slope : Rat) * g + l.t.v
/-- g lies between the bounds. -/
def Rg.within (r : Rg) (g : Rat) : Prop := lq r.lo.strict r.lo.r.v g ∧ lq r.hi.strict g r.hi.r.v ∧ r.empty = false
def okPair (l u : Ln) (g : Rat) : Prop := lq (l.strict || u.strict) (l.at g) (u.at g)
/-- (g, e) is a case. -/
def Rg.sat (r : Rg) (g e : Rat) : Prop := r.within g ∧ (∀ l ∈ r.above, lq l.strict (l.at g) e) ∧ ∀ u ∈ r.below, lq u.strict e (u.at g)

theorem cast_pos {a : Int} (h : 0 < a) : (0 : Rat) < (a : Rat) := by exact_mod_cast h
theorem v_le {a b : Ra} (ha : a.pos) (hb : b.pos) : a.v ≤ b.v ↔ a.n * b.d ≤ b.n * a.d := by
  unfold Ra.v
  rw [div_le_iff (cast_pos ha), show (b.n : Rat) / b.d * a.d = (b.n * a.d) / b.d by grind, le_div_iff (cast_pos hb)]
  exact_mod_cast Iff.rfl
theorem v_lt {a b : Ra} (ha : a.pos) (hb : b.pos) : a.v < b.v ↔ a.n * b.d < b.n * a.d := by
  rw [← Rat.not_le, v_le hb ha]; omega
theorem v_eq {a b : Ra} (ha : a.pos) (hb : b.pos) : a.v = b.v ↔ a.n * b.d = b.n * a.d := by
  have h1 := v_le ha hb; have h2 := v_le hb ha
  constructor
  · intro h; have := h1.1 (by rw [h]; exact Rat.le_refl); have := h2.1 (by rw [h]; exact Rat.le_refl); omega
  · intro h; have := h1.2 (by omega); have := h2.2 (by omega); grind
theorem v_less {a b : Ra} (ha : a.pos) (hb : b.pos) : a.v - b.v = (lessN a b : Rat) / (lessD a b : Rat) := by
  have := cast_pos ha; have := cast_pos hb
  unfold Ra.v lessN lessD
  push_cast
  grind
theorem less_pos {a b : Ra} (ha : a.pos) (hb : b.pos) : 0 < lessD a b := Int.mul_pos ha hb
theorem cmp_gt {b c : Bd} (hb : b.r.pos) (hc : c.r.pos) : b.cmp c > 0 ↔ c.r.v < b.r.v := by
  rw [v_lt hc hb]; unfold Bd.cmp cmpI; split
  · omega
  · split <;> omega
theorem cmp_lt {b c : Bd} (hb : b.r.pos) (hc : c.r.pos) : b.cmp c < 0 ↔ b.r.v < c.r.v := by
  rw [v_lt hb hc]; unfold Bd.cmp cmpI; split
  · omega
  · split <;> omega
theorem cmp_eq {b c : Bd} (hb : b.r.pos) (hc : c.r.pos) : b.cmp c = 0 ↔ b.r.v = c.r.v := by
  rw [v_eq hb hc]; unfold Bd.cmp cmpI; split
  · omega
  · split <;> omega

/-- The denominators that the work needs are positive. -/
structure Rg.fine (r : Rg) : Prop where
  lo : r.lo.r.pos
  hi : r.hi.r.pos
  low : 0 < r.lo.r.v
theorem least_within {r : Rg} {b : Bd} (hr : r.fine) (hb : b.r.pos) (g : Rat) : (r.least b).within g ↔ r.within g ∧ lq b.strict b.r.v g := by
  have h1 := cmp_gt hb hr.lo; have h2 := cmp_eq hb hr.lo
  unfold Rg.least
  split
  · rename_i h
    simp only [Rg.within]
    cases hs : b.strict <;> cases ht : r.lo.strict <;> simp [lq, hs] at h ⊢ <;> grind
  · rename_i h
    simp only [Rg.within]
    cases hs : b.strict <;> cases ht : r.lo.strict <;> simp [lq, hs] at h ⊢ <;> grind
theorem most_within {r : Rg} {b : Bd} (hr : r.fine) (hb : b.r.pos) (g : Rat) : (r.most b).within g ↔ r.within g ∧ lq b.strict g b.r.v := by
  have h1 := cmp_lt hb hr.hi; have h2 := cmp_eq hb hr.hi
  unfold Rg.most
  split
  · rename_i h
    simp only [Rg.within]
    cases hs : b.strict <;> cases ht : r.hi.strict <;> simp [lq, hs] at h ⊢ <;> grind
  · rename_i h
    simp only [Rg.within]
    cases hs : b.strict <;> cases ht : r.hi.strict <;> simp [lq, hs] at h ⊢ <;> grind
theorem least_fine {r : Rg} {b : Bd} (hr : r.fine) (hb : b.r.pos) : (r.least b).fine := by
  have h1 := cmp_gt hb hr.lo; have h2 := cmp_eq hb hr.lo
  unfold Rg.least
  split
  · rename_i h
    refine ⟨hb, hr.hi, ?_⟩
    have := hr.low
    show 0 < b.r.v
    rcases h with h | h <;> grind
  · exact hr
theorem most_fine {r : Rg} {b : Bd} (hr : r.fine) (hb : b.r.pos) : (r.most b).fine := by
  unfold Rg.most
  split
  · exact ⟨hr.lo, hb, hr.low⟩
  · exact hr
theorem within_pos {r : Rg} (hr : r.fine) {g : Rat} (h : r.within g) : 0 < g := by
  have := lq_le h.1; have := hr.low; grind
theorem pair_lines (r : Rg) (l u : Ln) : (r.pair l u).above = r.above ∧ (r.pair l u).below = r.below := by
  unfold Rg.pair Rg.most Rg.least
  repeat' split
  all_goals exact ⟨rfl, rfl⟩
theorem pair_fine {r : Rg} {l u : Ln} (hr : r.fine) (hl : l.t.pos) (hu : u.t.pos) : (r.pair l u).fine := by
  have hd := less_pos hu hl
  unfold Rg.pair
  repeat' split
  · exact ⟨hr.lo, hr.hi, hr.low⟩
  · exact ⟨hr.lo, hr.hi, hr.low⟩
  · exact most_fine hr (Int.mul_pos hd (by omega))
  · exact least_fine hr (Int.mul_pos hd (by omega))
  · exact hr
theorem okPair_iff {l u : Ln} (hl : l.t.pos) (hu : u.t.pos) (g : Rat) : okPair l u g ↔ lq (l.strict || u.strict) (((l.slope - u.slope : Int) : Rat) * g) ((lessN u.t l.t : Rat) / (lessD u.t l.t : Rat)) := by
  rw [← v_less hu hl]
  unfold okPair Ln.at lq
  push_cast
  split <;> constructor <;> intro h <;> grind
theorem pair_within {r : Rg} {l u : Ln} (hr : r.fine) (hl : l.t.pos) (hu : u.t.pos) (g : Rat) : (r.pair l u).within g ↔ r.within g ∧ okPair l u g := by
  have hd := less_pos hu hl
  have hdq := cast_pos hd
  rw [okPair_iff hl hu]
  generalize hk : l.slope - u.slope = k
  generalize hn : lessN u.t l.t = n at *
  generalize hD : lessD u.t l.t = d at *
  generalize hs : (l.strict || u.strict) = s
  unfold Rg.pair
  rw [hk, hn, hD, hs]
  split
  · rename_i h0
    subst h0
    have e0 : ((0 : Int) : Rat) * g = 0 := by grind
    rw [e0]
    have e1 : (0 : Rat) ≤ (n : Rat) / d ↔ 0 ≤ n := by
      rw [le_div_iff hdq]
      constructor
      · intro h; have : (0 : Rat) ≤ n := by grind
        exact_mod_cast this
      · intro h; have : (0 : Rat) ≤ n := by exact_mod_cast h
        grind
    have e2 : (0 : Rat) < (n : Rat) / d ↔ 0 < n := by
      rw [lt_div_iff hdq]
      constructor
      · intro h; have : (0 : Rat) < n := by grind
        exact_mod_cast this
      · intro h; have : (0 : Rat) < n := by exact_mod_cast h
        grind
    cases s <;> simp only [Rg.within, lq, Bool.or_eq_false_iff, Bool.and_eq_false_iff, decide_eq_false_iff_not, e1, e2, if_true, if_false, Bool.false_eq_true, Bool.true_eq_false] <;> constructor <;> intro h <;> grind
  · split
    · rename_i h0 hk1
      have hkq := cast_pos hk1
      split
      · rename_i hn0
        simp only [Rg.within]
        constructor
        · rintro ⟨_, _, h⟩; simp at h
        · rintro ⟨hw, hl2⟩
          exfalso
          have hg := within_pos hr hw
          have h1 := lq_le hl2
          have h2 : (0 : Rat) < (k : Rat) * g := Rat.mul_pos hkq hg
          have h3 : (n : Rat) / d ≤ 0 := by
            rw [div_le_iff hdq]
            have : (n : Rat) ≤ 0 := by exact_mod_cast hn0
            grind
          grind
      · rename_i hn0
        have hdk : 0 < d * k := Int.mul_pos hd hk1
        rw [most_within (b := ⟨⟨n, d * k⟩, s⟩) hr hdk]
        refine and_congr Iff.rfl ?_
        have ev : (⟨n, d * k⟩ : Ra).v = (n : Rat) / d / k := by
          unfold Ra.v
          push_cast
          grind
        simp only [ev]
        unfold lq
        split
        · rw [lt_div_iff hkq]; constructor <;> intro h <;> grind
        · rw [le_div_iff hkq]; constructor <;> intro h <;> grind
    · rename_i h0 hk1
      have hk2 : 0 < -k := by omega
      have hkq := cast_pos hk2
      push_cast at hkq
      split
      · rename_i hn0
        have hdk : 0 < d * -k := Int.mul_pos hd hk2
        rw [least_within (b := ⟨⟨-n, d * -k⟩, s⟩) hr hdk]
        refine and_congr Iff.rfl ?_
        have ev : (⟨-n, d * -k⟩ : Ra).v = -((n : Rat) / d) / (-(k : Rat)) := by
          unfold Ra.v
          push_cast
          grind
        simp only [ev]
        unfold lq
        split
        · rw [div_lt_iff hkq]; constructor <;> intro h <;> grind
        · rw [div_le_iff hkq]; constructor <;> intro h <;> grind
      · rename_i hn0
        constructor
        · intro hw
          refine ⟨hw, lq_of_lt ?_⟩
          have hg := within_pos hr hw
          have h2 : (0 : Rat) < (-(k : Rat)) * g := Rat.mul_pos hkq hg
          have h3 : (0 : Rat) ≤ (n : Rat) / d := by
            rw [le_div_iff hdq]
            have : (0 : Rat) ≤ n := by exact_mod_cast (by omega : (0 : Int) ≤ n)
            grind
          grind
        · exact fun h => h.1

theorem row_spec {l : Ln} (hl : l.t.pos) : ∀ (us : List Ln) (r : Rg), r.fine → (∀ u ∈ us, u.t.pos) →
    (r.row l us).fine ∧ ((r.row l us).above = r.above ∧ (r.row l us).below = r.below) ∧ ∀ g, (r.row l us).within g ↔ r.within g ∧ ∀ u ∈ us, okPair l u g
  | [], r, hr, _ => ⟨hr, ⟨rfl, rfl⟩, fun g => by simp [Rg.row]⟩
  | u :: us, r, hr, hu => by
    have h0 := hu u List.mem_cons_self
    obtain ⟨h1, h2, h3⟩ := row_spec hl us (r.pair l u) (pair_fine hr hl h0) (fun x hx => hu x (List.mem_cons_of_mem _ hx))
    have e : r.row l (u :: us) = (r.pair l u).row l us := rfl
    rw [e]
    refine ⟨h1, ⟨h2.1.trans (pair_lines r l u).1, h2.2.trans (pair_lines r l u).2⟩, fun g => ?_⟩
    rw [h3 g, pair_within hr hl h0]
    simp only [List.mem_cons, forall_eq_or_imp, and_assoc]
theorem pairs_spec : ∀ (ls us : List Ln) (r : Rg), r.fine → (∀ l ∈ ls, l.t.pos) → (∀ u ∈ us, u.t.pos) →
    (r.pairs ls us).fine ∧ ((r.pairs ls us).above = r.above ∧ (r.pairs ls us).below = r.below) ∧ ∀ g, (r.pairs ls us).within g ↔ r.within g ∧ ∀ l ∈ ls, ∀ u ∈ us, okPair l u g
  | [], us, r, hr, _, _ => ⟨hr, ⟨rfl, rfl⟩, fun g => by simp [Rg.pairs]⟩
  | l :: ls, us, r, hr, hl, hu => by
    obtain ⟨h1, h2, h3⟩ := row_spec (hl l List.mem_cons_self) us r hr hu
    obtain ⟨k1, k2, k3⟩ := pairs_spec ls us (r.row l us) h1 (fun x hx => hl x (List.mem_cons_of_mem _ hx)) hu
    have e : r.pairs (l :: ls) us = (r.row l us).pairs ls us := rfl
    rw [e]
    refine ⟨k1, ⟨k2.1.trans h2.1, k2.2.trans h2.2⟩, fun g => ?_⟩
    rw [k3 g, h3 g]
    simp only [List.mem_cons, forall_eq_or_imp, and_assoc]
/-- A region's lines are fine, and there are some on either side. -/
structure Rg.whole (r : Rg) : Prop where
  fine : r.fine
  above : ∀ l ∈ r.above, l.t.pos
  below : ∀ l ∈ r.below, l.t.pos
  some1 : r.above ≠ []
  some2 : r.below ≠ []
theorem some_e {r : Rg} (h1 : r.above ≠ []) (h2 : r.below ≠ []) (g : Rat) :
    (∃ e, (∀ l ∈ r.above, lq l.strict (l.at g) e) ∧ ∀ u ∈ r.below, lq u.strict e (u.at g)) ↔ ∀ l ∈ r.above, ∀ u ∈ r.below, okPair l u g := by
  have := between_all (r.above.map fun l => (l.at g, l.strict)) (r.below.map fun u => (u.at g, u.strict)) (by simpa using h1) (by simpa using h2)
  simpa [List.forall_mem_map, okPair] using this
theorem close_within {r : Rg} (hr : r.fine) (g : Rat) : r.close.within g ↔ r.within g := by
  have h1 := cmp_gt hr.lo hr.hi; have h2 := cmp_eq hr.lo hr.hi
  simp only [Rg.close, Rg.within]
  constructor
  · rintro ⟨a, b, c⟩
    simp only [Bool.or_eq_false_iff] at c
    exact ⟨a, b, c.1.1⟩
  · rintro ⟨a, b, c⟩
    refine ⟨a, b, ?_⟩
    have hroom := room.1 ⟨g, a, b⟩
    simp only [Bool.or_eq_false_iff, Bool.and_eq_false_iff, decide_eq_false_iff_not]
    refine ⟨⟨c, fun h => ?_⟩, ?_⟩
    · have := lq_le hroom; have := h1.1 h; grind
    · refine Classical.or_iff_not_imp_left.2 fun h => ?_
      have h3 := h2.1 (by simpa using h)
      rw [h3] at hroom
      cases hs : r.lo.strict <;> cases ht : r.hi.strict <;> simp [hs, ht, lq] at hroom ⊢ <;> grind
theorem close_empty {r : Rg} (hr : r.fine) : r.close.empty = false ↔ ∃ g, r.within g := by
  have h1 := cmp_gt hr.lo hr.hi; have h2 := cmp_eq hr.lo hr.hi
  constructor
  · intro c
    simp only [Rg.close, Bool.or_eq_false_iff, Bool.and_eq_false_iff, decide_eq_false_iff_not] at c
    have : lq (r.lo.strict || r.hi.strict) r.lo.r.v r.hi.r.v := by
      have h3 : ¬ r.hi.r.v < r.lo.r.v := fun h => c.1.2 (h1.2 h)
      cases hs : (r.lo.strict || r.hi.strict)
      · exact lq_false.2 (Rat.not_lt.1 h3)
      · refine lq_true.2 ?_
        rcases c.2 with c2 | c2
        · have : ¬ r.lo.r.v = r.hi.r.v := fun h => c2 (h2.2 h)
          grind
        · rw [c2.1, c2.2] at hs
          cases hs
    obtain ⟨x, hx1, hx2⟩ := room.2 this
    exact ⟨x, hx1, hx2, c.1.1⟩
  · rintro ⟨g, h⟩
    exact ((close_within hr g).2 h).2.2
/-- What is solved is a span of all g that have an e; it is empty exactly if there is no case. -/
theorem solved_spec {r : Rg} (hr : r.whole) :
    r.solved.fine ∧ r.solved.above = r.above ∧ r.solved.below = r.below ∧ (∀ g, r.solved.within g ↔ ∃ e, r.sat g e) ∧ (r.solved.empty = false ↔ ∃ g e, r.sat g e) := by
  obtain ⟨h1, h2, h3⟩ := pairs_spec r.above r.below r hr.fine hr.above hr.below
  have hw : ∀ g, (r.pairs r.above r.below).within g ↔ ∃ e, r.sat g e := by
    intro g
    rw [h3 g, ← some_e hr.some1 hr.some2]
    simp only [Rg.sat]
    constructor
    · rintro ⟨a, e, b⟩; exact ⟨e, a, b⟩
    · rintro ⟨e, a, b⟩; exact ⟨a, e, b⟩
  refine ⟨⟨h1.lo, h1.hi, h1.low⟩, h2.1, h2.2, fun g => ?_, ?_⟩
  · rw [← hw g]; exact close_within h1 g
  · rw [show r.solved = (r.pairs r.above r.below).close from rfl, close_empty h1]
    exact exists_congr hw
theorem can_spec {r : Rg} (hr : r.whole) {A B : List Ln} (hA : ∀ l ∈ A, l.t.pos) (hB : ∀ l ∈ B, l.t.pos) :
    r.can A B = true ↔ ∃ g e, r.sat g e ∧ (∀ l ∈ A, lq l.strict (l.at g) e) ∧ ∀ u ∈ B, lq u.strict e (u.at g) := by
  have hw : ({ r with above := r.above ++ A, below := r.below ++ B } : Rg).whole :=
    ⟨⟨hr.fine.lo, hr.fine.hi, hr.fine.low⟩, fun l hl => (List.mem_append.1 hl).elim (hr.above l) (hA l), fun l hl => (List.mem_append.1 hl).elim (hr.below l) (hB l), by simp [hr.some1], by simp [hr.some2]⟩
  have := (solved_spec hw).2.2.2.2
  unfold Rg.can
  rw [Bool.not_eq_true', this]
  refine exists_congr fun g => exists_congr fun e => ?_
  simp only [Rg.sat, Rg.within, List.mem_append, or_imp, forall_and]
  grind
/-- The solved region has the same cases, as long as there are some. -/
theorem solved_sat {r : Rg} (hr : r.whole) (g e : Rat) : r.solved.sat g e ↔ r.sat g e := by
  obtain ⟨_, ha, hb, hw, _⟩ := solved_spec hr
  rw [show r.solved.sat g e ↔ (r.solved.within g ∧ (∀ l ∈ r.solved.above, lq l.strict (l.at g) e) ∧ ∀ u ∈ r.solved.below, lq u.strict e (u.at g)) from Iff.rfl, ha, hb, hw g]
  constructor
  · rintro ⟨⟨e', h1, _, _⟩, h2, h3⟩; exact ⟨h1, h2, h3⟩
  · rintro ⟨h1, h2, h3⟩; exact ⟨⟨e, h1, h2, h3⟩, h2, h3⟩
theorem solved_whole {r : Rg} (hr : r.whole) : r.solved.whole := by
  obtain ⟨h1, h2, h3, _⟩ := solved_spec hr
  exact ⟨h1, by rw [h2]; exact hr.above, by rw [h3]; exact hr.below, by rw [h2]; exact hr.some1, by rw [h3]; exact hr.some2⟩
end WH
namespace WH
/-- Convex. -/
def Cvx (P : Rat → Rat → Prop) : Prop := ∀ g e g' e' s t : Rat, 0 ≤ s → 0 ≤ t → 0 < s + t → P g e → P g' e' → P ((s * g + t * g') / (s + t)) ((s * e + t * e') / (s + t))
theorem md {a b : Rat} (h : 0 < b) : b * (a / b) = a := by grind
theorem dm {x s a : Rat} (h : 0 < s) (e : x * s = a) : a / s = x := by grind
theorem Cvx.three {P : Rat → Rat → Prop} (h : Cvx P) {g0 e0 g1 e1 g2 e2 a b c : Rat} (ha : 0 ≤ a) (hb : 0 ≤ b) (hc : 0 ≤ c) (hs : 0 < a + b + c) (h0 : P g0 e0) (h1 : P g1 e1) (h2 : P g2 e2) {x y : Rat} (hx : x * (a + b + c) = a * g0 + b * g1 + c * g2) (hy : y * (a + b + c) = a * e0 + b * e1 + c * e2) : P x y := by
  by_cases hz : 0 < a + b
  · have h3 := h _ _ _ _ a b ha hb hz h0 h1
    have h4 := h _ _ _ _ (a + b) c (Rat.le_of_lt hz) hc hs h3 h2
    rwa [md hz, md hz, dm hs hx, dm hs hy] at h4
  · have a0 : a = 0 := by grind
    have b0 : b = 0 := by grind
    have c0 : 0 < c := by grind
    subst a0; subst b0
    have kc : ∀ {u v : Rat}, u * (0 + 0 + c) = 0 * g0 + 0 * g1 + c * v → u = v := by
      intro u v h
      have h' : c * (u - v) = 0 := by grind
      rcases Rat.mul_eq_zero.1 h' with h | h <;> grind
    have kd : ∀ {u v : Rat}, u * (0 + 0 + c) = 0 * e0 + 0 * e1 + c * v → u = v := by
      intro u v h
      have h' : c * (u - v) = 0 := by grind
      rcases Rat.mul_eq_zero.1 h' with h | h <;> grind
    rw [kc hx, kd hy]; exact h2
/-- A point that lies in each triangle of three of four points. -/
def Mid (g0 e0 g1 e1 g2 e2 g3 e3 : Rat) : Prop := ∃ x y, ∀ P, Cvx P → (P g1 e1 → P g2 e2 → P g3 e3 → P x y) ∧ (P g0 e0 → P g2 e2 → P g3 e3 → P x y) ∧ (P g0 e0 → P g1 e1 → P g3 e3 → P x y) ∧ (P g0 e0 → P g1 e1 → P g2 e2 → P x y)
section
variable {g0 e0 g1 e1 g2 e2 g3 e3 : Rat}
theorem Mid.swap01 (h : Mid g1 e1 g0 e0 g2 e2 g3 e3) : Mid g0 e0 g1 e1 g2 e2 g3 e3 := by
  obtain ⟨x, y, h⟩ := h
  exact ⟨x, y, fun P hP => by obtain ⟨a, b, c, d⟩ := h P hP; exact ⟨b, a, fun p q r => c q p r, fun p q r => d q p r⟩⟩
theorem Mid.swap12 (h : Mid g0 e0 g2 e2 g1 e1 g3 e3) : Mid g0 e0 g1 e1 g2 e2 g3 e3 := by
  obtain ⟨x, y, h⟩ := h
  exact ⟨x, y, fun P hP => by obtain ⟨a, b, c, d⟩ := h P hP; exact ⟨fun p q r => a q p r, c, b, fun p q r => d p r q⟩⟩
theorem Mid.swap23 (h : Mid g0 e0 g1 e1 g3 e3 g2 e2) : Mid g0 e0 g1 e1 g2 e2 g3 e3 := by
  obtain ⟨x, y, h⟩ := h
  exact ⟨x, y, fun P hP => by obtain ⟨a, b, c, d⟩ := h P hP; exact ⟨fun p q r => a p r q, fun p q r => b p r q, d, c⟩⟩
/-- The last point lies in the triangle of the others. -/
theorem Mid.one {a b c : Rat} (ha : 0 ≤ a) (hb : 0 ≤ b) (hc : 0 ≤ c) (hs : 0 < a + b + c) (hx : g3 * (a + b + c) = a * g0 + b * g1 + c * g2) (hy : e3 * (a + b + c) = a * e0 + b * e1 + c * e2) : Mid g0 e0 g1 e1 g2 e2 g3 e3 :=
  ⟨g3, e3, fun _ hP => ⟨fun _ _ h => h, fun _ _ h => h, fun _ _ h => h, fun h0 h1 h2 => hP.three ha hb hc hs h0 h1 h2 hx hy⟩⟩
/-- The segments of two and two meet. -/
theorem Mid.two {a b c d : Rat} (ha : 0 ≤ a) (hb : 0 ≤ b) (hc : 0 ≤ c) (hd : 0 ≤ d) (hs : 0 < a + b) (he : a + b = c + d) (hx : a * g0 + b * g1 = c * g2 + d * g3) (hy : a * e0 + b * e1 = c * e2 + d * e3) : Mid g0 e0 g1 e1 g2 e2 g3 e3 := by
  refine ⟨(a * g0 + b * g1) / (a + b), (a * e0 + b * e1) / (a + b), fun P hP => ?_⟩
  have k1 : P g0 e0 → P g1 e1 → P ((a * g0 + b * g1) / (a + b)) ((a * e0 + b * e1) / (a + b)) := fun h0 h1 => hP _ _ _ _ a b ha hb hs h0 h1
  have k2 : P g2 e2 → P g3 e3 → P ((a * g0 + b * g1) / (a + b)) ((a * e0 + b * e1) / (a + b)) := fun h2 h3 => by
    have := hP _ _ _ _ c d hc hd (by grind) h2 h3
    rwa [← hx, ← hy, ← he] at this
  exact ⟨fun _ h2 h3 => k2 h2 h3, fun _ h2 h3 => k2 h2 h3, fun h0 h1 _ => k1 h0 h1, fun h0 h1 _ => k1 h0 h1⟩
/-- Weights, not all of them 0, with which the points come to nothing. -/
theorem weights (g0 e0 g1 e1 g2 e2 g3 e3 : Rat) : ∃ a b c d : Rat, a + b + c + d = 0 ∧ a * g0 + b * g1 + c * g2 + d * g3 = 0 ∧ a * e0 + b * e1 + c * e2 + d * e3 = 0 ∧ ¬ (a = 0 ∧ b = 0 ∧ c = 0 ∧ d = 0) := by
  by_cases h0 : g0 = g1 ∧ e0 = e1
  · exact ⟨1, -1, 0, 0, by grind, by grind, by grind, by grind⟩
  · by_cases h : (g1 - g0) * (e2 - e0) - (g2 - g0) * (e1 - e0) = 0
    · by_cases hg : g0 = g1
      · exact ⟨e2 - e1, e0 - e2, e1 - e0, 0, by grind, by grind, by grind, by grind⟩
      · exact ⟨g2 - g1, g0 - g2, g1 - g0, 0, by grind, by grind, by grind, by grind⟩
    · refine ⟨(g2 - g1) * (e3 - e1) - (g3 - g1) * (e2 - e1), -((g2 - g0) * (e3 - e0) - (g3 - g0) * (e2 - e0)), (g1 - g0) * (e3 - e0) - (g3 - g0) * (e1 - e0), -((g1 - g0) * (e2 - e0) - (g2 - g0) * (e1 - e0)), by grind, by grind, by grind, by grind⟩
end
theorem Mid.pos {g0 e0 g1 e1 g2 e2 g3 e3 a b c d : Rat} (h1 : a + b + c + d = 0) (h2 : a * g0 + b * g1 + c * g2 + d * g3 = 0) (h3 : a * e0 + b * e1 + c * e2 + d * e3 = 0) (h4 : ¬ (a = 0 ∧ b = 0 ∧ c = 0 ∧ d = 0)) (ha : 0 ≤ a) : Mid g0 e0 g1 e1 g2 e2 g3 e3 := by
  rcases (Rat.le_total : 0 ≤ b ∨ b ≤ 0) with hb | hb <;> rcases (Rat.le_total : 0 ≤ c ∨ c ≤ 0) with hc | hc <;> rcases (Rat.le_total : 0 ≤ d ∨ d ≤ 0) with hd | hd
  · exfalso; grind
  · exact Mid.one ha hb hc (by grind) (by grind) (by grind)
  · exact (Mid.one ha hb hd (by grind) (by grind) (by grind) : Mid g0 e0 g1 e1 g3 e3 g2 e2).swap23
  · exact Mid.two (c := -c) (d := -d) ha hb (by grind) (by grind) (by grind) (by grind) (by grind) (by grind)
  · exact (Mid.one ha hc hd (by grind) (by grind) (by grind) : Mid g0 e0 g2 e2 g3 e3 g1 e1).swap23.swap12
  · exact (Mid.two (c := -b) (d := -d) ha hc (by grind) (by grind) (by grind) (by grind) (by grind) (by grind) : Mid g0 e0 g2 e2 g1 e1 g3 e3).swap12
  · exact (Mid.two (c := -b) (d := -c) ha hd (by grind) (by grind) (by grind) (by grind) (by grind) (by grind) : Mid g0 e0 g3 e3 g1 e1 g2 e2).swap12.swap23
  · exact (Mid.one (a := -b) (b := -c) (c := -d) (by grind) (by grind) (by grind) (by grind) (by grind) (by grind) : Mid g1 e1 g2 e2 g3 e3 g0 e0).swap23.swap12.swap01
theorem mid_any (g0 e0 g1 e1 g2 e2 g3 e3 : Rat) : Mid g0 e0 g1 e1 g2 e2 g3 e3 := by
  obtain ⟨a, b, c, d, h1, h2, h3, h4⟩ := weights g0 e0 g1 e1 g2 e2 g3 e3
  rcases (Rat.le_total : 0 ≤ a ∨ a ≤ 0) with ha | ha
  · exact Mid.pos h1 h2 h3 h4 ha
  · exact Mid.pos (a := -a) (b := -b) (c := -c) (d := -d) (by grind) (by grind) (by grind) (by grind) (by grind)
/-- Of at least four convex sets, of which all but one meet, whichever is left out, all meet. -/
theorem helly {K : Int → Rat → Rat → Prop} {B : Rat → Rat → Prop} (hB : Cvx B) (hK : ∀ k, Cvx (K k)) (l : List Int) (hl : 4 ≤ l.length)
    (h : ∀ i, i < l.length → ∃ g e, B g e ∧ ∀ j (hj : j < l.length), j ≠ i → K l[j] g e) : ∃ g e, B g e ∧ ∀ k ∈ l, K k g e := by
  obtain ⟨g0, e0, b0, k0⟩ := h 0 (by omega)
  obtain ⟨g1, e1, b1, k1⟩ := h 1 (by omega)
  obtain ⟨g2, e2, b2, k2⟩ := h 2 (by omega)
  obtain ⟨g3, e3, b3, k3⟩ := h 3 (by omega)
  obtain ⟨x, y, hm⟩ := mid_any g0 e0 g1 e1 g2 e2 g3 e3
  refine ⟨x, y, (hm B hB).1 b1 b2 b3, fun k hk => ?_⟩
  obtain ⟨j, hj, rfl⟩ := List.getElem_of_mem hk
  obtain ⟨m0, m1, m2, m3⟩ := hm (K l[j]) (hK _)
  by_cases e0' : j = 0
  · exact m0 (k1 j hj (by omega)) (k2 j hj (by omega)) (k3 j hj (by omega))
  · by_cases e1' : j = 1
    · exact m1 (k0 j hj (by omega)) (k2 j hj (by omega)) (k3 j hj (by omega))
    · by_cases e2' : j = 2
      · exact m2 (k0 j hj (by omega)) (k1 j hj (by omega)) (k3 j hj (by omega))
      · exact m3 (k0 j hj (by omega)) (k1 j hj (by omega)) (k2 j hj (by omega))
end WH
