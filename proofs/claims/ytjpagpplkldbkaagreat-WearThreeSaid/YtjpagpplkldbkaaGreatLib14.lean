/- What is known by a filling. Check, Possible, Bounds, Wear. -/
import Derived.Test.YtjpagpplkldbkaaGreatLib10
import Derived.Test.YtjpagpplkldbkaaGreatLib13
set_option linter.unusedVariables false
set_option linter.unusedSimpArgs false
namespace Go.Proofs.YtjpagpplkldbkaaGreat
open Go.RowKit Go.Shelf WH
def knZ : Array Value := #[.pointer none, .int .i64 0, .int .i64 0, .bool false, .int .i64 0, .int .i64 0, .bool false, .slice none 0 0, .slice none 0 0, .bool false]
def RdP (f : Fl) (rb : Bool) (w : World) (e : Ending) (w' : World) : Prop :=
  (f.rdy rb ≠ 0 ∧ e = .returned (.tuple #[.agg knZ, .int .i64 (f.rdy rb)]) ∧ Below w.heap.size w w') ∨
  (f.rdy rb = 0 ∧ f.good ∧ rb = true ∧ f.sol.empty = false ∧ ∃ kv, e = .returned (.tuple #[kv, .int .i64 0]) ∧ Kn w' kv f ∧ Below w.heap.size w w')
theorem RdP.no {f : Fl} {rb : Bool} {w w' : World} {e : Ending} {n : Int} (h : f.rdy rb = n) (hn : n ≠ 0) (he : e = .returned (.tuple #[.agg knZ, .int .i64 n])) (hb : Below w.heap.size w w') : RdP f rb w e w' := .inl ⟨by rw [h]; exact hn, by rw [h]; exact he, hb⟩
theorem agg10 {w : World} {g : Nat} {p a b c d e f v x y : Value} {t : TypeId} (h : w.heap[g]? = some (.cells #[p, a, b, c, d, e, f, v, x, y] t (0, 0))) :
    (w.cell? ⟨g, 0, none⟩ = some p ∧ w.cell? ⟨g, 1, none⟩ = some a ∧ w.cell? ⟨g, 2, none⟩ = some b ∧ w.cell? ⟨g, 3, none⟩ = some c ∧ w.cell? ⟨g, 4, none⟩ = some d ∧ w.cell? ⟨g, 5, none⟩ = some e ∧ w.cell? ⟨g, 6, none⟩ = some f ∧ w.cell? ⟨g, 7, none⟩ = some v ∧ w.cell? ⟨g, 8, none⟩ = some x ∧ w.cell? ⟨g, 9, none⟩ = some y) ∧
    (w.frozen? ⟨g, 0, none⟩ = false ∧ w.frozen? ⟨g, 1, none⟩ = false ∧ w.frozen? ⟨g, 2, none⟩ = false ∧ w.frozen? ⟨g, 3, none⟩ = false ∧ w.frozen? ⟨g, 4, none⟩ = false ∧ w.frozen? ⟨g, 5, none⟩ = false ∧ w.frozen? ⟨g, 6, none⟩ = false ∧ w.frozen? ⟨g, 7, none⟩ = false ∧ w.frozen? ⟨g, 8, none⟩ = false ∧ w.frozen? ⟨g, 9, none⟩ = false) :=
  ⟨⟨bk_cell h 0, bk_cell h 1, bk_cell h 2, bk_cell h 3, bk_cell h 4, bk_cell h 5, bk_cell h 6, bk_cell h 7, bk_cell h 8, bk_cell h 9⟩, bk_fro h 0, bk_fro h 1, bk_fro h 2, bk_fro h 3, bk_fro h 4, bk_fro h 5, bk_fro h 6, bk_fro h 7, bk_fro h 8, bk_fro h 9⟩
theorem bk_put10 {w : World} {g : Nat} {t : TypeId} {p a b c d e f v x y p' a' b' c' d' e' f' v' x' y' : Value} (h : w.heap[g]? = some (.cells #[p', a', b', c', d', e', f', v', x', y'] t (0, 0))) :
    ((((((((((w.setCell ⟨g, 0, none⟩ p).setCell ⟨g, 1, none⟩ a).setCell ⟨g, 2, none⟩ b).setCell ⟨g, 3, none⟩ c).setCell ⟨g, 4, none⟩ d).setCell ⟨g, 5, none⟩ e).setCell ⟨g, 6, none⟩ f).setCell ⟨g, 7, none⟩ v).setCell ⟨g, 8, none⟩ x).setCell ⟨g, 9, none⟩ y).heap[g]? = some (.cells #[p, a, b, c, d, e, f, v, x, y] t (0, 0)) := by
  have h0 := bk_put1 (cs' := #[p, a', b', c', d', e', f', v', x', y']) h 0 p rfl
  have h1 := bk_put1 (cs' := #[p, a, b', c', d', e', f', v', x', y']) h0 1 a rfl
  have h2 := bk_put1 (cs' := #[p, a, b, c', d', e', f', v', x', y']) h1 2 b rfl
  have h3 := bk_put1 (cs' := #[p, a, b, c, d', e', f', v', x', y']) h2 3 c rfl
  have h4 := bk_put1 (cs' := #[p, a, b, c, d, e', f', v', x', y']) h3 4 d rfl
  have h5 := bk_put1 (cs' := #[p, a, b, c, d, e, f', v', x', y']) h4 5 e rfl
  have h6 := bk_put1 (cs' := #[p, a, b, c, d, e, f, v', x', y']) h5 6 f rfl
  have h7 := bk_put1 (cs' := #[p, a, b, c, d, e, f, v, x', y']) h6 7 v rfl
  have h8 := bk_put1 (cs' := #[p, a, b, c, d, e, f, v, x, y']) h7 8 x rfl
  exact bk_put1 (cs' := #[p, a, b, c, d, e, f, v, x, y]) h8 9 y rfl
theorem all_bds (f : Fl) : ∀ k ∈ f.all, -2 ≤ k ∧ k < f.seen.length := fun _ hk => mem_all.1 hk
theorem heap_put10 (w : World) (g : Nat) (p a b c d e f v x y : Value) (k : Nat) (hk : k ≠ g) :
    ((((((((((w.setCell ⟨g, 0, none⟩ p).setCell ⟨g, 1, none⟩ a).setCell ⟨g, 2, none⟩ b).setCell ⟨g, 3, none⟩ c).setCell ⟨g, 4, none⟩ d).setCell ⟨g, 5, none⟩ e).setCell ⟨g, 6, none⟩ f).setCell ⟨g, 7, none⟩ v).setCell ⟨g, 8, none⟩ x).setCell ⟨g, 9, none⟩ y).heap[k]? = w.heap[k]? := by
  rw [Below.heap_setCell _ _ _ k hk, Below.heap_setCell _ _ _ k hk, Below.heap_setCell _ _ _ k hk, Below.heap_setCell _ _ _ k hk, Below.heap_setCell _ _ _ k hk, Below.heap_setCell _ _ _ k hk, Below.heap_setCell _ _ _ k hk, Below.heap_setCell _ _ _ k hk, Below.heap_setCell _ _ _ k hk, Below.heap_setCell _ _ _ k hk]
/-- Where three whole numbers lie in a row there is no empty known. -/
theorem no3 {w : World} {g b off : Nat} {t : TypeId} {x y z : Int} (h : w.heap[g]? = some (.cells knZ t (0, 0))) (c0 : w.cell? ⟨b, off, none⟩ = some (.int .i64 x)) (c1 : w.cell? ⟨b, off + 1, none⟩ = some (.int .i64 y)) (c2 : w.cell? ⟨b, off + 2, none⟩ = some (.int .i64 z)) : b ≠ g := by
  rintro rfl
  rw [bk_cell h] at c0 c1 c2
  unfold knZ at c0 c1 c2
  match off with
  | 0 => simp at c0
  | 1 => simp at c2
  | 2 => simp at c1
  | 3 => simp at c0
  | 4 => simp at c2
  | 5 => simp at c1
  | 6 => simp at c0
  | 7 => simp at c0
  | 8 => simp at c0
  | 9 => simp at c0
  | n + 10 => simp at c0
theorem Sl.far3 {α : Type} {enc : α → List Value} {sz : Nat} {w : World} {v : Value} {xs : List α} (hl : ∀ x, (enc x).length = sz) (hs : 0 < sz) (h : Sl enc sz w v xs) {g : Nat} {t : TypeId} (hg : w.heap[g]? = some (.cells knZ t (0, 0)))
    (h3 : xs ≠ [] → ∃ x y z : Int, (flat enc xs)[0]? = some (.int .i64 x) ∧ (flat enc xs)[1]? = some (.int .i64 y) ∧ (flat enc xs)[2]? = some (.int .i64 z)) (hne : xs ≠ []) (b : Nat) (hb : v.ownBlock = some b) : b ≠ g := by
  obtain ⟨A, c, rfl, _, _, hr⟩ := id h
  obtain ⟨b', off, rfl, _⟩ := hr hne
  have e : b' = b := by simpa [Value.ownBlock] using hb
  subst e
  obtain ⟨x, y, z, f0, f1, f2⟩ := h3 hne
  have r := Sl.reads hl hs h ⟨b', off, none⟩ rfl
  have r0 := r 0 _ f0
  have r1 := r 1 _ f1
  have r2 := r 2 _ f2
  rw [add_plain'] at r0 r1 r2
  exact no3 hg (by simpa using r0) r1 r2
theorem rn3 (xs : List Rn) (h : xs ≠ []) : ∃ x y z : Int, (flat rnC xs)[0]? = some (.int .i64 x) ∧ (flat rnC xs)[1]? = some (.int .i64 y) ∧ (flat rnC xs)[2]? = some (.int .i64 z) := by
  cases xs with
  | nil => exact absurd rfl h
  | cons a l => exact ⟨a.h, a.v, a.d, by simp [flat, rnC], by simp [flat, rnC], by simp [flat, rnC]⟩
theorem sn3 (xs : List Sn) (h : xs ≠ []) : ∃ x y z : Int, (flat snC xs)[0]? = some (.int .i64 x) ∧ (flat snC xs)[1]? = some (.int .i64 y) ∧ (flat snC xs)[2]? = some (.int .i64 z) := by
  cases xs with
  | nil => exact absurd rfl h
  | cons a l => exact ⟨a.lo, a.hi, a.lv, by simp [flat, snC], by simp [flat, snC], by simp [flat, snC]⟩
theorem ln3 (xs : List Ln) (h : xs ≠ []) : ∃ x y z : Int, (flat lnC xs)[0]? = some (.int .i64 x) ∧ (flat lnC xs)[1]? = some (.int .i64 y) ∧ (flat lnC xs)[2]? = some (.int .i64 z) := by
  cases xs with
  | nil => exact absurd rfl h
  | cons a l => exact ⟨a.slope, a.t.n, a.t.d, by simp [flat, lnC], by simp [flat, lnC], by simp [flat, lnC]⟩
theorem pt3 (xs : List Pt) (h2 : 2 ≤ xs.length) : ∃ x y z : Int, (flat ptC xs)[0]? = some (.int .i64 x) ∧ (flat ptC xs)[1]? = some (.int .i64 y) ∧ (flat ptC xs)[2]? = some (.int .i64 z) := by
  match xs, h2 with
  | a :: b :: l, _ => exact ⟨a.x, a.y, b.x, by simp [flat, ptC], by simp [flat, ptC], by simp [flat, ptC]⟩
theorem St.kept {w w1 : World} {g k : Nat} {f : Fl} {t : TypeId} (h : St w g f) (hv : vErr f.v = 0) (hk : w.heap[k]? = some (.cells knZ t (0, 0))) (he : ∀ b, b ≠ k → b < w.heap.size → w1.heap[b]? = w.heap[b]?) : St w1 g f := by
  obtain ⟨vv, sv, tv, h1, h2, h3, h4⟩ := h
  have hlt : ∀ {α : Type} {enc : α → List Value} {sz : Nat} {v : Value} {xs : List α}, (∀ x, (enc x).length = sz) → 0 < sz → Sl enc sz w v xs → xs ≠ [] → ∀ b, v.ownBlock = some b → b < w.heap.size := fun hl hs h hne b hb => Sl.lt hl hs h hne b hb
  have hg : g ≠ k := by
    rintro rfl
    rw [h1] at hk
    have : stC f vv sv tv = knZ := (Obj.cells.inj (Option.some.inj hk)).1
    have h0 := congrArg Array.size this
    simp [stC, knZ] at h0
  have hd := drawnL_len f.v
  have hv1 := (vErr_zero hv).1
  exact ⟨vv, sv, tv, (he g hg (bk_lt h1)).trans h1, h2.keep (fun hne b hb => he b (Sl.far3 rnC_len (by decide) h2 hk (rn3 _) hne b hb) (hlt rnC_len (by decide) h2 hne b hb)),
    h3.keep (fun hne b hb => he b (Sl.far3 snC_len (by decide) h3 hk (sn3 _) hne b hb) (hlt snC_len (by decide) h3 hne b hb)),
    h4.keep (fun hne b hb => he b (Sl.far3 ptC_len (by decide) h4 hk (fun _ => pt3 _ (by omega)) hne b hb) (hlt ptC_len (by decide) h4 hne b hb))⟩
set_option maxRecDepth 100000 in
set_option maxHeartbeats 1000000 in
theorem ready_any (v : Value) (f : Fl) (fid : Nat) (lb : Array Value) (rb : Bool) (w : World) (hf : Fv w v f) (ef : Enters Tryz.prog fid)
    (hr : f.good → ∀ g W, Below w.heap.size w W → St W g f → Calls Tryz.prog fid (#[.pointer (some ⟨g, 0, none⟩)] ++ lb) W fun e w' => e = .returned (.bool rb) ∧ Below W.heap.size W w') :
    Calls Tryz.prog 85 #[v, .func (.func fid) #[] lb] w (RdP f rb w) := by
  obtain ⟨vv, sv, rfl, hv, hs⟩ := hf
  have HV := Lib.hid hv
  have HSE := Lib.hid hs
  have HR := Lib.hid hr
  clear hv hs hr
  unfold Enters at ef
  unfold flC
  go_enter Tryz.func85, Tryz.ntmps85
  go_wp2_with fail
  refine (opened_any _ f _ ⟨vv, sv, rfl, HV.out.below (by (repeat' with_reducible first|assumption|exact Below.refl _ _|apply bl_alloc|apply bl_drewN|apply bl_drew|refine bl_set ?_ (by simp<;>omega) _|refine bl_then ?_ (by assumption))), HSE.out.below (by (repeat' with_reducible first|assumption|exact Below.refl _ _|apply bl_alloc|apply bl_drewN|apply bl_drew|refine bl_set ?_ (by simp<;>omega) _|refine bl_then ?_ (by assumption)))⟩).mono ?_
  intro e1 w1 hop
  rcases hop with ⟨hno, rfl, hb1⟩ | ⟨hyes, g, rfl, hst, hb1⟩
  · have hkz := bk_below (bk_new (w.alloc (.cells (flC f vv sv) 30)) (.cells knZ 125)) hb1
    rw [World.size_alloc] at hkz
    obtain ⟨⟨z0, z1, z2, z3, z4, z5, z6, z7, z8, z9⟩, y0, y1, y2, y3, y4, y5, y6, y7, y8, y9⟩ := agg10 hkz
    have hltz := bk_lt hkz
    have HKZ := Lib.hid hkz
    have HNO : Hid (f.rdy rb = 30) := Lib.hid (by unfold Fl.rdy; rw [hno]; rfl)
    clear hkz hno
    go_wp2
    refine bodyPost_ret (v := .tuple #[.agg knZ, .int .i64 30]) (res_list (vs := [_, _]) rfl (by simp) (.cell (w.heap.size + 1) 125 _ (0, 0) _ rfl (bk_put10 HKZ.out) Tryz.underlying125 rfl (by kernel_rfl) (.tmp rfl .nil))) rfl ?_
    exact RdP.no HNO.out (by omega) rfl (by (repeat' with_reducible first|assumption|exact Below.refl _ _|apply bl_alloc|apply bl_drewN|apply bl_drew|refine bl_set ?_ (by simp<;>omega) _|refine bl_then ?_ (by assumption)))
  · have hB1 : Below w.heap.size w w1 := by (repeat' with_reducible first|assumption|exact Below.refl _ _|apply bl_alloc|apply bl_drewN|apply bl_drew|refine bl_set ?_ (by simp<;>omega) _|refine bl_then ?_ (by assumption))
    have HG := Lib.hid (good_iff.1 hyes)
    have HYES := Lib.hid hyes
    have HST := Lib.hid hst
    have hkz := bk_below (bk_new (w.alloc (.cells (flC f vv sv) 30)) (.cells knZ 125)) hb1
    rw [World.size_alloc] at hkz
    have HKZ := Lib.hid hkz
    clear hkz hyes hst hb1
    go_wp2_with fail
    refine (HR.out HG.out g _ hB1 HST.out).mono ?_
    rintro e2 w2 ⟨rfl, hb2⟩
    have HKZ2 := Lib.hid (bk_below HKZ.out hb2)
    have HST2 := Lib.hid (HST.out.below hb2)
    have hB2 : Below w.heap.size w w2 := by (repeat' with_reducible first|assumption|exact Below.refl _ _|apply bl_alloc|apply bl_drewN|apply bl_drew|refine bl_set ?_ (by simp<;>omega) _|refine bl_then ?_ (by assumption))
    clear hb2 hB1 HKZ HST
    cases rb with
    | false =>
      obtain ⟨⟨z0, z1, z2, z3, z4, z5, z6, z7, z8, z9⟩, y0, y1, y2, y3, y4, y5, y6, y7, y8, y9⟩ := agg10 HKZ2.out
      have hltz := bk_lt HKZ2.out
      have HNO : Hid (f.rdy false = 1) := Lib.hid (by unfold Fl.rdy; rw [HYES.out]; rfl)
      go_wp2
      refine bodyPost_ret (v := .tuple #[.agg knZ, .int .i64 1]) (res_list (vs := [_, _]) rfl (by simp) (.cell (w.heap.size + 1) 125 _ (0, 0) _ rfl (bk_put10 HKZ2.out) Tryz.underlying125 rfl (by kernel_rfl) (.tmp rfl .nil))) rfl ?_
      exact RdP.no HNO.out (by omega) rfl (by (repeat' with_reducible first|assumption|exact Below.refl _ _|apply bl_alloc|apply bl_drewN|apply bl_drew|refine bl_set ?_ (by simp<;>omega) _|refine bl_then ?_ (by assumption)))
    | true =>
      go_wp2_with fail
      refine (all_any g f _ HST2.out HG.out.len).mono ?_
      rintro e3 w3 ⟨va, rfl, hva, hb3⟩
      have HVA := Lib.hid hva
      have HKZ3 := Lib.hid (bk_below HKZ2.out hb3)
      have HST3 := Lib.hid (HST2.out.below hb3)
      have hB3 : Below w.heap.size w w3 := by (repeat' with_reducible first|assumption|exact Below.refl _ _|apply bl_alloc|apply bl_drewN|apply bl_drew|refine bl_set ?_ (by simp<;>omega) _|refine bl_then ?_ (by assumption))
      clear hva hb3 hB2 HKZ2 HST2
      go_wp2_with fail
      refine (region_any g f va f.all _ HST3.out HG.out HVA.out (by have h1 := all_len f; have h2 := HG.out.len; omega) (all_bds f)).mono ?_
      rintro e4 w4 ⟨la, lb', rfl, hla, hlb, hb4⟩
      have HLA := Lib.hid hla
      have HLB := Lib.hid hlb
      have HKZ4 := Lib.hid (bk_below HKZ3.out hb4)
      have HST4 := Lib.hid (HST3.out.below hb4)
      have hB4 : Below w.heap.size w w4 := by (repeat' with_reducible first|assumption|exact Below.refl _ _|apply bl_alloc|apply bl_drewN|apply bl_drew|refine bl_set ?_ (by simp<;>omega) _|refine bl_then ?_ (by assumption))
      clear hla hlb hb4 hB3 HKZ3 HST3
      obtain ⟨ht, _⟩ := reg_spec HG.out f.all
      have HT := Lib.hid ht
      clear ht
      go_wp2_with fail
      refine (solved_any (f.reg f.all) la lb' _ HLA.out HLB.out HT.out.lo HT.out.hi HT.out.above HT.out.below).mono ?_
      rintro e5 w5 ⟨rfl, hb5⟩
      have hso : (f.reg f.all).solved = f.sol := rfl
      rw [hso]
      obtain ⟨_, hab, hbl, _⟩ := solved_spec HT.out.whole
      have HKZ5 := Lib.hid (bk_below HKZ4.out hb5)
      have HST5 := Lib.hid (HST4.out.below hb5)
      have HLA5 : Hid (Sl lnC 4 w5 la f.sol.above) := Lib.hid (by rw [show f.sol.above = (f.reg f.all).above from hab]; exact HLA.out.below hb5)
      have HLB5 : Hid (Sl lnC 4 w5 lb' f.sol.below) := Lib.hid (by rw [show f.sol.below = (f.reg f.all).below from hbl]; exact HLB.out.below hb5)
      have hB5 : Below w.heap.size w w5 := by (repeat' with_reducible first|assumption|exact Below.refl _ _|apply bl_alloc|apply bl_drewN|apply bl_drew|refine bl_set ?_ (by simp<;>omega) _|refine bl_then ?_ (by assumption))
      clear hb5 hB4 HKZ4 HST4 HLA HLB hab hbl hso
      obtain ⟨Aa, ka, rfl, _⟩ := id HLA5.out
      obtain ⟨Ab, kb, rfl, _⟩ := id HLB5.out
      obtain ⟨⟨z0, z1, z2, z3, z4, z5, z6, z7, z8, z9⟩, y0, y1, y2, y3, y4, y5, y6, y7, y8, y9⟩ := agg10 HKZ5.out
      have hltz := bk_lt HKZ5.out
      unfold rgC
      cases hem : f.sol.empty with
      | true =>
        have HNO : Hid (f.rdy true = 31) := Lib.hid (by unfold Fl.rdy; rw [HYES.out, hem]; rfl)
        clear hem
        go_wp2
        refine bodyPost_ret (v := .tuple #[.agg knZ, .int .i64 31]) (res_list (vs := [_, _]) rfl (by simp) (.cell (w.heap.size + 1) 125 _ (0, 0) _ rfl (bk_alloc (bk_put10 HKZ5.out) _) Tryz.underlying125 rfl (by kernel_rfl) (.tmp rfl .nil))) rfl ?_
        exact RdP.no HNO.out (by omega) rfl (by (repeat' with_reducible first|assumption|exact Below.refl _ _|apply bl_alloc|apply bl_drewN|apply bl_drew|refine bl_set ?_ (by simp<;>omega) _|refine bl_then ?_ (by assumption)))
      | false =>
        have HEM := Lib.hid hem
        have HYS : Hid (f.rdy true = 0) := Lib.hid (by unfold Fl.rdy; rw [HYES.out, hem]; rfl)
        clear hem
        go_wp2
        refine bodyPost_ret (v := .tuple #[.agg (knC g f.sol (.slice Aa f.sol.above.length ka) (.slice Ab f.sol.below.length kb)), .int .i64 0]) (res_list (vs := [_, _]) rfl (by simp) (.cell (w.heap.size + 1) 125 _ (0, 0) _ rfl (by unfold knC; rw [HEM.out]; exact bk_alloc (bk_put10 HKZ5.out) _) Tryz.underlying125 rfl (by kernel_rfl) (.tmp rfl .nil))) rfl ?_
        have he : ∀ (o : Obj) (b : Nat), b ≠ w.heap.size + 1 → b < w5.heap.size → (((((((((((w5.setCell ⟨w.heap.size + 1, 0, none⟩ (.pointer (some ⟨g, 0, none⟩))).setCell ⟨w.heap.size + 1, 1, none⟩ (.int .i64 f.sol.lo.r.n)).setCell ⟨w.heap.size + 1, 2, none⟩ (.int .i64 f.sol.lo.r.d)).setCell ⟨w.heap.size + 1, 3, none⟩ (.bool f.sol.lo.strict)).setCell ⟨w.heap.size + 1, 4, none⟩ (.int .i64 f.sol.hi.r.n)).setCell ⟨w.heap.size + 1, 5, none⟩ (.int .i64 f.sol.hi.r.d)).setCell ⟨w.heap.size + 1, 6, none⟩ (.bool f.sol.hi.strict)).setCell ⟨w.heap.size + 1, 7, none⟩ (.slice Aa f.sol.above.length ka)).setCell ⟨w.heap.size + 1, 8, none⟩ (.slice Ab f.sol.below.length kb)).setCell ⟨w.heap.size + 1, 9, none⟩ (.bool false)).alloc o).heap[b]? = w5.heap[b]? := fun o b h1 h2 =>
          (Below.heap_alloc _ _ _ (by simpa using h2)).trans (heap_put10 _ _ _ _ _ _ _ _ _ _ _ _ b h1)
        refine .inr ⟨HYS.out, HG.out, rfl, HEM.out, _, rfl, ⟨g, _, _, rfl, HST5.out.kept HG.out.v HKZ5.out (he _), HLA5.out.keep (fun hne b hb => he _ b (Sl.far3 lnC_len (by decide) HLA5.out HKZ5.out (ln3 _) hne b hb) (Sl.lt lnC_len (by decide) HLA5.out hne b hb)), HLB5.out.keep (fun hne b hb => he _ b (Sl.far3 lnC_len (by decide) HLB5.out HKZ5.out (ln3 _) hne b hb) (Sl.lt lnC_len (by decide) HLB5.out hne b hb))⟩, by (repeat' with_reducible first|assumption|exact Below.refl _ _|apply bl_alloc|apply bl_drewN|apply bl_drew|refine bl_set ?_ (by simp<;>omega) _|refine bl_then ?_ (by assumption))⟩
end Go.Proofs.YtjpagpplkldbkaaGreat
set_option linter.unusedVariables false
set_option linter.unusedSimpArgs false
namespace Go.Proofs.YtjpagpplkldbkaaGreat
open Go.RowKit Go.Shelf WH
theorem rdy_true {f : Fl} : (f.rdy true = 30 ∧ f.okB = false) ∨ (f.rdy true = 31 ∧ f.okB = true ∧ f.sol.empty = true) ∨ (f.rdy true = 0 ∧ f.okB = true ∧ f.sol.empty = false) := by
  unfold Fl.rdy
  cases h1 : f.okB <;> cases h2 : f.sol.empty <;> simp
set_option maxRecDepth 100000 in
set_option maxHeartbeats 1000000 in
theorem fine_any (g : Nat) (w : World) : Calls Tryz.prog 116 #[.pointer (some ⟨g, 0, none⟩)] w fun e w' => e = .returned (.bool true) ∧ Below w.heap.size w w' := by
  go_enter Tryz.func116, Tryz.ntmps116
  go_wp2
  go_ret
  exact ⟨rfl, by (repeat' with_reducible first|assumption|exact Below.refl _ _|apply bl_alloc|apply bl_drewN|apply bl_drew|refine bl_set ?_ (by simp<;>omega) _|refine bl_then ?_ (by assumption))⟩
theorem enters_fine : Enters Tryz.prog 116 := enters_of Tryz.func116 (by kernel_rfl) rfl
theorem ready_fine (v : Value) (f : Fl) (w : World) (hf : Fv w v f) : Calls Tryz.prog 85 #[v, .func (.func 116) #[] #[]] w (RdP f true w) :=
  ready_any v f 116 #[] true w hf enters_fine (fun _ g W _ _ => fine_any g W)
set_option maxRecDepth 100000 in
set_option maxHeartbeats 1000000 in
theorem check_any (v : Value) (f : Fl) (w : World) (hf : Fv w v f) : Calls Tryz.prog 38 #[v] w fun e w' => e = .returned (.int .i64 (f.possE)) ∧ Below w.heap.size w w' := by
  obtain ⟨vv, sv, rfl, hv, hs⟩ := hf
  have HV := Lib.hid hv
  have HSE := Lib.hid hs
  clear hv hs
  unfold flC
  go_enter Tryz.func38, Tryz.ntmps38
  go_wp2_with fail
  refine (opened_any _ f _ ⟨vv, sv, rfl, HV.out.below (by (repeat' with_reducible first|assumption|exact Below.refl _ _|apply bl_alloc|apply bl_drewN|apply bl_drew|refine bl_set ?_ (by simp<;>omega) _|refine bl_then ?_ (by assumption))), HSE.out.below (by (repeat' with_reducible first|assumption|exact Below.refl _ _|apply bl_alloc|apply bl_drewN|apply bl_drew|refine bl_set ?_ (by simp<;>omega) _|refine bl_then ?_ (by assumption)))⟩).mono ?_
  intro e1 w1 hop
  rcases hop with ⟨hno, rfl, hb1⟩ | ⟨hyes, g, rfl, hst, hb1⟩
  · have H := Lib.hid hno
    clear hno
    go_wp2
    go_ret
    exact ⟨by unfold Fl.possE; rw [H.out]; rfl, by (repeat' with_reducible first|assumption|exact Below.refl _ _|apply bl_alloc|apply bl_drewN|apply bl_drew|refine bl_set ?_ (by simp<;>omega) _|refine bl_then ?_ (by assumption))⟩
  · have H := Lib.hid hyes
    clear hyes hst
    go_wp2
    go_ret
    exact ⟨by unfold Fl.possE; rw [H.out]; rfl, by (repeat' with_reducible first|assumption|exact Below.refl _ _|apply bl_alloc|apply bl_drewN|apply bl_drew|refine bl_set ?_ (by simp<;>omega) _|refine bl_then ?_ (by assumption))⟩
set_option maxRecDepth 100000 in
set_option maxHeartbeats 1000000 in
theorem possible_any (v : Value) (f : Fl) (w : World) (hf : Fv w v f) : Calls Tryz.prog 36 #[v] w fun e w' => e = .returned (.tuple #[.bool f.possB, .int .i64 f.possE]) ∧ Below w.heap.size w w' := by
  obtain ⟨vv, sv, rfl, hv, hs⟩ := hf
  have HV := Lib.hid hv
  have HSE := Lib.hid hs
  clear hv hs
  unfold flC
  go_enter Tryz.func36, Tryz.ntmps36
  go_wp2_with fail
  refine (ready_fine _ f _ ⟨vv, sv, rfl, HV.out.below (by (repeat' with_reducible first|assumption|exact Below.refl _ _|apply bl_alloc|apply bl_drewN|apply bl_drew|refine bl_set ?_ (by simp<;>omega) _|refine bl_then ?_ (by assumption))), HSE.out.below (by (repeat' with_reducible first|assumption|exact Below.refl _ _|apply bl_alloc|apply bl_drewN|apply bl_drew|refine bl_set ?_ (by simp<;>omega) _|refine bl_then ?_ (by assumption)))⟩).mono ?_
  intro e1 w1 hrd
  rcases hrd with ⟨hno, rfl, hb1⟩ | ⟨h0, hg, _, hem, kv, rfl, hkn, hb1⟩
  · rcases @rdy_true f with ⟨hr, ho⟩ | ⟨hr, ho, _⟩ | ⟨hr, _⟩
    · rw [hr]
      have HE : Hid (f.possB = false ∧ f.possE = 30) := Lib.hid ⟨by unfold Fl.possB; rw [hr]; rfl, by unfold Fl.possE; rw [ho]; rfl⟩
      clear hno hr ho
      unfold knZ
      go_wp2
      go_ret2
      exact ⟨by rw [HE.out.1, HE.out.2]; rfl, by (repeat' with_reducible first|assumption|exact Below.refl _ _|apply bl_alloc|apply bl_drewN|apply bl_drew|refine bl_set ?_ (by simp<;>omega) _|refine bl_then ?_ (by assumption))⟩
    · rw [hr]
      have HE : Hid (f.possB = false ∧ f.possE = 0) := Lib.hid ⟨by unfold Fl.possB; rw [hr]; rfl, by unfold Fl.possE; rw [ho]; rfl⟩
      clear hno hr ho
      unfold knZ
      go_wp2
      go_ret2
      exact ⟨by rw [HE.out.1, HE.out.2]; rfl, by (repeat' with_reducible first|assumption|exact Below.refl _ _|apply bl_alloc|apply bl_drewN|apply bl_drew|refine bl_set ?_ (by simp<;>omega) _|refine bl_then ?_ (by assumption))⟩
    · exact absurd hr hno
  · obtain ⟨g, va, vb, rfl, _, hka, hkb⟩ := hkn
    obtain ⟨Aa, ka, rfl, _⟩ := hka
    obtain ⟨Ab, kb, rfl, _⟩ := hkb
    have HE : Hid (f.possB = true ∧ f.possE = 0) := Lib.hid ⟨by unfold Fl.possB; rw [h0]; rfl, by unfold Fl.possE; rw [good_iff.2 hg]; rfl⟩
    clear h0 hem hg
    unfold knC
    go_wp2
    go_ret2
    exact ⟨by rw [HE.out.1, HE.out.2]; rfl, by (repeat' with_reducible first|assumption|exact Below.refl _ _|apply bl_alloc|apply bl_drewN|apply bl_drew|refine bl_set ?_ (by simp<;>omega) _|refine bl_then ?_ (by assumption))⟩
set_option maxRecDepth 100000 in
set_option maxHeartbeats 1000000 in
theorem wears_any (r : Rg) (va vb : Value) (w : World) (h1 : Bd.fit r.lo) (h2 : Bd.fit r.hi) :
    Calls Tryz.prog 117 #[.agg (rgC r va vb)] w fun e w' => e = .returned (.tuple #[raV (wearR r.hi.r), raV (wearR r.lo.r)]) ∧ Below w.heap.size w w' := by
  obtain ⟨a1, a2, a3, a4⟩ := h1
  obtain ⟨b1, b2, b3, b4⟩ := h2
  unfold wearR rgC
  generalize r.lo.r.n = ln at *
  generalize r.lo.r.d = ld at *
  generalize r.hi.r.n = hn at *
  generalize r.hi.r.d = hd at *
  have ew1 : IntKind.i64.wrap (1000 * ld) = 1000 * ld := wrapI (by omega) (by omega)
  have ew2 : IntKind.i64.wrap (1000 * hd) = 1000 * hd := wrapI (by omega) (by omega)
  go_enter Tryz.func117, Tryz.ntmps117
  go_wp2
  have hR0 := bk_alloc (bk_alloc (bk_new w (.cells #[.int .i64 ln, .int .i64 ld, .bool r.lo.strict, .int .i64 hn, .int .i64 hd, .bool r.hi.strict, va, vb, .bool r.empty] 123)) (.cells #[.int .i64 0, .int .i64 0] 41)) (.cells #[.int .i64 0, .int .i64 0] 41)
  have x0 := bk_cell hR0 0
  have x1 := bk_cell hR0 1
  have x3 := bk_cell hR0 3
  have x4 := bk_cell hR0 4
  simp only [List.getElem?_toArray, List.getElem?_cons_zero, List.getElem?_cons_succ] at x0 x1 x3 x4
  ((refine p_start (by kernel_rfl) ?_); (refine t_enter' 20 ?_); ((refine t_pure 0 (v := ?_) rfl (by kernel_rfl) (fun _ _ _ h => h) rfl ?_ ?_; rotate_left; (focus (intro w_ hS_; have x0 := cl_below hS_ x0; have x1 := cl_below hS_ x1; have x3 := cl_below hS_ x3; have x4 := cl_below hS_ x4; go_simp; (try (first | with_reducible rfl | (constructor <;> with_reducible rfl))); done)); (try simp only [Act.put, List.setIfInBounds_toArray, List.set_cons_zero, List.set_cons_succ]))); ((refine t_pure 1 (v := ?_) rfl (by kernel_rfl) (fun _ _ _ h => h) rfl ?_ ?_; rotate_left; (focus (intro w_ hS_; have x0 := cl_below hS_ x0; have x1 := cl_below hS_ x1; have x3 := cl_below hS_ x3; have x4 := cl_below hS_ x4; go_simp; (try (first | with_reducible rfl | (constructor <;> with_reducible rfl))); done)); (try simp only [Act.put, List.setIfInBounds_toArray, List.set_cons_zero, List.set_cons_succ]))); ((refine t_pure 2 (v := ?_) rfl (by kernel_rfl) (fun _ _ _ h => h) rfl ?_ ?_; rotate_left; (focus (intro w_ hS_; have x0 := cl_below hS_ x0; have x1 := cl_below hS_ x1; have x3 := cl_below hS_ x3; have x4 := cl_below hS_ x4; go_simp; (try (first | with_reducible rfl | (constructor <;> with_reducible rfl))); done)); (try simp only [Act.put, List.setIfInBounds_toArray, List.set_cons_zero, List.set_cons_succ]))); ((refine t_pure 3 (v := ?_) rfl (by kernel_rfl) (fun _ _ _ h => h) rfl ?_ ?_; rotate_left; (focus (intro w_ hS_; have x0 := cl_below hS_ x0; have x1 := cl_below hS_ x1; have x3 := cl_below hS_ x3; have x4 := cl_below hS_ x4; go_simp; (try (first | with_reducible rfl | (constructor <;> with_reducible rfl))); done)); (try simp only [Act.put, List.setIfInBounds_toArray, List.set_cons_zero, List.set_cons_succ]))); ((refine t_pure 4 (v := ?_) rfl (by kernel_rfl) (fun _ _ _ h => h) rfl ?_ ?_; rotate_left; (focus (intro w_ hS_; have x0 := cl_below hS_ x0; have x1 := cl_below hS_ x1; have x3 := cl_below hS_ x3; have x4 := cl_below hS_ x4; go_simp; (try (first | with_reducible rfl | (constructor <;> with_reducible rfl))); done)); (try simp only [Act.put, List.setIfInBounds_toArray, List.set_cons_zero, List.set_cons_succ]))); ((refine t_pure 5 (v := ?_) rfl (by kernel_rfl) (fun _ _ _ h => h) rfl ?_ ?_; rotate_left; (focus (intro w_ hS_; have x0 := cl_below hS_ x0; have x1 := cl_below hS_ x1; have x3 := cl_below hS_ x3; have x4 := cl_below hS_ x4; go_simp; (try (first | with_reducible rfl | (constructor <;> with_reducible rfl))); done)); (try simp only [Act.put, List.setIfInBounds_toArray, List.set_cons_zero, List.set_cons_succ]))); ((refine t_pure 6 (v := ?_) rfl (by kernel_rfl) (fun _ _ _ h => h) rfl ?_ ?_; rotate_left; (focus (intro w_ hS_; have x0 := cl_below hS_ x0; have x1 := cl_below hS_ x1; have x3 := cl_below hS_ x3; have x4 := cl_below hS_ x4; go_simp; (try (first | with_reducible rfl | (constructor <;> with_reducible rfl))); done)); (try simp only [Act.put, List.setIfInBounds_toArray, List.set_cons_zero, List.set_cons_succ]))); ((refine t_pure 7 (v := ?_) rfl (by kernel_rfl) (fun _ _ _ h => h) rfl ?_ ?_; rotate_left; (focus (intro w_ hS_; have x0 := cl_below hS_ x0; have x1 := cl_below hS_ x1; have x3 := cl_below hS_ x3; have x4 := cl_below hS_ x4; go_simp; (try (first | with_reducible rfl | (constructor <;> with_reducible rfl))); done)); (try simp only [Act.put, List.setIfInBounds_toArray, List.set_cons_zero, List.set_cons_succ]))); ((refine t_pure 8 (v := ?_) rfl (by kernel_rfl) (fun _ _ _ h => h) rfl ?_ ?_; rotate_left; (focus (intro w_ hS_; have x0 := cl_below hS_ x0; have x1 := cl_below hS_ x1; have x3 := cl_below hS_ x3; have x4 := cl_below hS_ x4; go_simp; (try (first | with_reducible rfl | (constructor <;> with_reducible rfl))); done)); (try simp only [Act.put, List.setIfInBounds_toArray, List.set_cons_zero, List.set_cons_succ]))); ((refine t_call 9 (v := ?_) rfl (by kernel_rfl) (fun _ _ _ h => h) rfl ?_ ?_ ?_ ?_ ?_; rotate_left 3; (focus (intro w_ hS_; have x0 := cl_below hS_ x0; have x1 := cl_below hS_ x1; have x3 := cl_below hS_ x3; have x4 := cl_below hS_ x4; go_simp; (try (first | with_reducible rfl | (constructor <;> with_reducible rfl))); done)); (focus (intro w_ hS_; have x0 := cl_below hS_ x0; have x1 := cl_below hS_ x1; have x3 := cl_below hS_ x3; have x4 := cl_below hS_ x4; ((go_at_call 189; refine (lowest_any _ _ _ (by omega) (by omega) (by omega) (by omega)).mono ?_; rintro e' w' ⟨rfl, hb⟩)); refine And.intro ?_ ?_; (focus (with_reducible rfl)); (first | exact bl_then hS_ (by assumption) | assumption))); (try simp only [Act.put, List.setIfInBounds_toArray, List.set_cons_zero, List.set_cons_succ]))); ((refine t_pure 10 (v := ?_) rfl (by kernel_rfl) (fun _ _ _ h => h) rfl ?_ ?_; rotate_left; (focus (intro w_ hS_; have x0 := cl_below hS_ x0; have x1 := cl_below hS_ x1; have x3 := cl_below hS_ x3; have x4 := cl_below hS_ x4; go_simp; (try (first | with_reducible rfl | (constructor <;> with_reducible rfl))); done)); (try simp only [Act.put, List.setIfInBounds_toArray, List.set_cons_zero, List.set_cons_succ]))); ((refine t_pure 11 (v := ?_) rfl (by kernel_rfl) (fun _ _ _ h => h) rfl ?_ ?_; rotate_left; (focus (intro w_ hS_; have x0 := cl_below hS_ x0; have x1 := cl_below hS_ x1; have x3 := cl_below hS_ x3; have x4 := cl_below hS_ x4; go_simp; (try (first | with_reducible rfl | (constructor <;> with_reducible rfl))); done)); (try simp only [Act.put, List.setIfInBounds_toArray, List.set_cons_zero, List.set_cons_succ]))); ((refine t_pure 12 (v := ?_) rfl (by kernel_rfl) (fun _ _ _ h => h) rfl ?_ ?_; rotate_left; (focus (intro w_ hS_; have x0 := cl_below hS_ x0; have x1 := cl_below hS_ x1; have x3 := cl_below hS_ x3; have x4 := cl_below hS_ x4; go_simp; (try (first | with_reducible rfl | (constructor <;> with_reducible rfl))); done)); (try simp only [Act.put, List.setIfInBounds_toArray, List.set_cons_zero, List.set_cons_succ]))); ((refine t_pure 13 (v := ?_) rfl (by kernel_rfl) (fun _ _ _ h => h) rfl ?_ ?_; rotate_left; (focus (intro w_ hS_; have x0 := cl_below hS_ x0; have x1 := cl_below hS_ x1; have x3 := cl_below hS_ x3; have x4 := cl_below hS_ x4; go_simp; (try (first | with_reducible rfl | (constructor <;> with_reducible rfl))); done)); (try simp only [Act.put, List.setIfInBounds_toArray, List.set_cons_zero, List.set_cons_succ]))); ((refine t_pure 14 (v := ?_) rfl (by kernel_rfl) (fun _ _ _ h => h) rfl ?_ ?_; rotate_left; (focus (intro w_ hS_; have x0 := cl_below hS_ x0; have x1 := cl_below hS_ x1; have x3 := cl_below hS_ x3; have x4 := cl_below hS_ x4; go_simp; (try (first | with_reducible rfl | (constructor <;> with_reducible rfl))); done)); (try simp only [Act.put, List.setIfInBounds_toArray, List.set_cons_zero, List.set_cons_succ]))); ((refine t_pure 15 (v := ?_) rfl (by kernel_rfl) (fun _ _ _ h => h) rfl ?_ ?_; rotate_left; (focus (intro w_ hS_; have x0 := cl_below hS_ x0; have x1 := cl_below hS_ x1; have x3 := cl_below hS_ x3; have x4 := cl_below hS_ x4; go_simp; (try (first | with_reducible rfl | (constructor <;> with_reducible rfl))); done)); (try simp only [Act.put, List.setIfInBounds_toArray, List.set_cons_zero, List.set_cons_succ]))); ((refine t_pure 16 (v := ?_) rfl (by kernel_rfl) (fun _ _ _ h => h) rfl ?_ ?_; rotate_left; (focus (intro w_ hS_; have x0 := cl_below hS_ x0; have x1 := cl_below hS_ x1; have x3 := cl_below hS_ x3; have x4 := cl_below hS_ x4; go_simp; (try (first | with_reducible rfl | (constructor <;> with_reducible rfl))); done)); (try simp only [Act.put, List.setIfInBounds_toArray, List.set_cons_zero, List.set_cons_succ]))); ((refine t_pure 17 (v := ?_) rfl (by kernel_rfl) (fun _ _ _ h => h) rfl ?_ ?_; rotate_left; (focus (intro w_ hS_; have x0 := cl_below hS_ x0; have x1 := cl_below hS_ x1; have x3 := cl_below hS_ x3; have x4 := cl_below hS_ x4; go_simp; (try (first | with_reducible rfl | (constructor <;> with_reducible rfl))); done)); (try simp only [Act.put, List.setIfInBounds_toArray, List.set_cons_zero, List.set_cons_succ]))); ((refine t_pure 18 (v := ?_) rfl (by kernel_rfl) (fun _ _ _ h => h) rfl ?_ ?_; rotate_left; (focus (intro w_ hS_; have x0 := cl_below hS_ x0; have x1 := cl_below hS_ x1; have x3 := cl_below hS_ x3; have x4 := cl_below hS_ x4; go_simp; (try (first | with_reducible rfl | (constructor <;> with_reducible rfl))); done)); (try simp only [Act.put, List.setIfInBounds_toArray, List.set_cons_zero, List.set_cons_succ]))); ((refine t_call 19 (v := ?_) rfl (by kernel_rfl) (fun _ _ _ h => h) rfl ?_ ?_ ?_ ?_ ?_; rotate_left 3; (focus (intro w_ hS_; have x0 := cl_below hS_ x0; have x1 := cl_below hS_ x1; have x3 := cl_below hS_ x3; have x4 := cl_below hS_ x4; go_simp; (try (first | with_reducible rfl | (constructor <;> with_reducible rfl))); done)); (focus (intro w_ hS_; have x0 := cl_below hS_ x0; have x1 := cl_below hS_ x1; have x3 := cl_below hS_ x3; have x4 := cl_below hS_ x4; ((go_at_call 189; refine (lowest_any _ _ _ (by omega) (by omega) (by omega) (by omega)).mono ?_; rintro e' w' ⟨rfl, hb⟩)); refine And.intro ?_ ?_; (focus (with_reducible rfl)); (first | exact bl_then hS_ (by assumption) | assumption))); (try simp only [Act.put, List.setIfInBounds_toArray, List.set_cons_zero, List.set_cons_succ]))); (refine t_exit (by kernel_rfl) (fun W_ hS_ => ?_)))
  have hA := bk_below (bk_alloc (bk_new (w.alloc (.cells #[.int .i64 ln, .int .i64 ld, .bool r.lo.strict, .int .i64 hn, .int .i64 hd, .bool r.hi.strict, va, vb, .bool r.empty] 123)) (.cells #[.int .i64 0, .int .i64 0] 41)) (.cells #[.int .i64 0, .int .i64 0] 41)) hS_
  have hA2 := bk_below (bk_new ((w.alloc (.cells #[.int .i64 ln, .int .i64 ld, .bool r.lo.strict, .int .i64 hn, .int .i64 hd, .bool r.hi.strict, va, vb, .bool r.empty] 123)).alloc (.cells #[.int .i64 0, .int .i64 0] 41)) (.cells #[.int .i64 0, .int .i64 0] 41)) hS_
  rw [World.size_alloc] at hA
  rw [World.size_alloc, World.size_alloc] at hA2
  obtain ⟨⟨z0, z1⟩, f0, f1⟩ := blk2 hA
  obtain ⟨⟨z2, z3⟩, f2, f3⟩ := blk2 hA2
  have hB : Below w.heap.size w W_ := by (repeat' with_reducible first|assumption|exact Below.refl _ _|apply bl_alloc|apply bl_drewN|apply bl_drew|refine bl_set ?_ (by simp<;>omega) _|refine bl_then ?_ (by assumption))
  have HA := Lib.hid hA
  have HA2 := Lib.hid hA2
  clear hA hA2
  (refine p_only 20 rfl (by kernel_rfl) (fun K hK => ?_); go_simp; refine hK.out _ _ ?_; clear hK K; (try simp only [Act.put, List.setIfInBounds_toArray, List.set_cons_zero, List.set_cons_succ]))
  (refine p_only 21 rfl (by kernel_rfl) (fun K hK => ?_); go_simp; refine hK.out _ _ ?_; clear hK K; (try simp only [Act.put, List.setIfInBounds_toArray, List.set_cons_zero, List.set_cons_succ]))
  refine wpAny_done (by kernel_rfl) ?_ _
  go_wp2
  refine bodyPost_ret (v := .tuple #[raV ⟨lowN (1000 * hd) hn, lowD (1000 * hd) hn⟩, raV ⟨lowN (1000 * ld) ln, lowD (1000 * ld) ln⟩]) (res_list (vs := [_, _]) rfl (by simp) (.cell (w.heap.size + 1) 41 _ (0, 0) _ rfl (bk_far (bk_far (bk_put2 HA.out) (by simp) _) (by simp) _) Tryz.underlying41 rfl (by kernel_rfl) (.cell (w.heap.size + 2) 41 _ (0, 0) _ rfl (bk_put2 (bk_far (bk_far HA2.out (by simp) _) (by simp) _)) Tryz.underlying41 rfl (by kernel_rfl) .nil))) rfl ?_
  exact ⟨rfl, by (repeat' with_reducible first|assumption|exact Below.refl _ _|apply bl_alloc|apply bl_drewN|apply bl_drew|refine bl_set ?_ (by simp<;>omega) _|refine bl_then ?_ (by assumption))⟩
end Go.Proofs.YtjpagpplkldbkaaGreat
