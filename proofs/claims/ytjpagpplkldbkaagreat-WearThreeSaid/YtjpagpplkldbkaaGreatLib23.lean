/- A list without an element; do items contradict each other. A list without its i-th element. Clash. CheckClash. -/
import Derived.Lib.AppendZeros
import Derived.Test.YtjpagpplkldbkaaGreatLib12
import Derived.Test.YtjpagpplkldbkaaGreatLib22
set_option linter.unusedVariables false
set_option linter.unusedSimpArgs false
namespace Go.Proofs.YtjpagpplkldbkaaGreat
open Go.RowKit Go.Shelf WH
set_option maxRecDepth 100000 in
set_option maxHeartbeats 1000000 in
theorem grow_any (n : Nat) (w : World) (hn : n ≤ 200) :
    Calls Tryz.prog 160 #[.slice none 0 0, .int .i64 n] w fun e w' => ∃ v, e = .returned v ∧ w'.ownsRow w.heap.size 3 1 v 0 [] ∧ Below w.heap.size w w' := by
  obtain ⟨i0, hi0, hzz⟩ := Option.map_eq_some_iff.1 intZ
  simp only [Prod.mk.injEq] at hzz
  obtain ⟨hz0, hz1, hz2⟩ := hzz
  have ew : IntKind.i64.wrap (n : Int) = n := wrapI (by omega) (by omega)
  by_cases h0 : n = 0
  · subst h0
    go_enter Tryz.func160, Tryz.ntmps160
    go_wp2
    go_ret
    exact ⟨_, rfl, World.ownsRow_nil _ _ _ _, by (repeat' with_reducible first|assumption|exact Below.refl _ _|apply bl_alloc|apply bl_drewN|apply bl_drew|refine bl_set ?_ (by simp<;>omega) _|refine bl_then ?_ (by assumption))⟩
  · have hp : decide (0 < (n : Int)) = true := by simp; omega
    have hp2 : decide ((n : Int) < 0) = false := by simp
    have HA := Lib.hid (Lib.run_append_nil_zeros (P := Tryz.prog) w 53 3 53 3 i0 _ .i64 .i64 Tryz.underlying53 Tryz.underlying3 hi0 hz0 n (by omega) (by omega) (by omega) (by rw [hz2]; omega))
    have hge := grownCap_ge w n 0 3
    have hle := grownCap_le_maxLen w n 0 3 (by simp [maxLen]; omega)
    simp only [maxLen] at hle
    have HO : Hid ((w.drew.alloc (.cells (Builtin.zeroCells (Value.int .i64 0).cells n ++ Builtin.zeroCells (Value.int .i64 0).cells (grownCap w n 0 3 - n)) 3)).ownsRow w.heap.size 3 1 (.slice (some ⟨w.heap.size, 0, none⟩) 0 (grownCap w n 0 3)) 0 []) := Lib.hid (by
      have := World.ownsRow_made (base := w.heap.size) (size := 1) (e := 3) w.drew (Builtin.zeroCells (Value.int .i64 0).cells n ++ Builtin.zeroCells (Value.int .i64 0).cells (grownCap w n 0 3 - n)) (grownCap w n 0 3) (Nat.le_refl _) (by simp [maxLen]; omega) (by simp [size_zeroCells, Value.cells]; omega)
      exact this)
    clear hi0 hz0 hz1 hz2
    generalize hcs : Builtin.zeroCells (Value.int .i64 0).cells n ++ Builtin.zeroCells (Value.int .i64 0).cells (grownCap w n 0 3 - n) = cs at *
    generalize hc : grownCap w n 0 3 = c at *
    clear hcs hc
    go_enter Tryz.func160, Tryz.ntmps160
    go_wp2_with (at_builtin; refine Lib.wpList_append_run _ rfl _ _ _ _ rfl _ _ rfl rfl _ _ HA.out ?_)
    go_ret
    exact ⟨_, rfl, HO.out, by (repeat' with_reducible first|assumption|exact Below.refl _ _|apply bl_alloc|apply bl_drewN|apply bl_drew|refine bl_set ?_ (by simp<;>omega) _|refine bl_then ?_ (by assumption))⟩
theorem grow_at (m : Int) (w : World) (h0 : 0 ≤ m) (h1 : m ≤ 200) :
    Calls Tryz.prog 160 #[.slice none 0 0, .int .i64 m] w fun e w' => ∃ v, e = .returned v ∧ w'.ownsRow w.heap.size 3 1 v 0 [] ∧ Below w.heap.size w w' := by
  obtain ⟨n, rfl⟩ : ∃ n : Nat, m = (n : Int) := ⟨m.toNat, by omega⟩
  exact grow_any n w (by omega)
theorem field_empty (r : Rg) (va vb : Value) (w : World) : (Instr.field 123 (.agg #[.int .i64 r.lo.r.n, .int .i64 r.lo.r.d, .bool r.lo.strict, .int .i64 r.hi.r.n, .int .i64 r.hi.r.d, .bool r.hi.strict, va, vb, .bool r.empty]) 4).run Tryz.prog w = .ok (.bool r.empty) w := by kernel_rfl
attribute [local go_sem] field_empty
set_option maxRecDepth 100000 in
set_option maxHeartbeats 1000000 in
theorem apart_any (g : Nat) (f : Fl) (v : Value) (l : List Int) (w : World) (hs : St w g f) (hf : f.good) (hv : Sl inC 1 w v l) (hn : l.length ≤ 100) (hit : ∀ k ∈ l, -2 ≤ k ∧ k < f.seen.length) :
    Calls Tryz.prog 128 #[.pointer (some ⟨g, 0, none⟩), v] w fun e w' => e = .returned (.bool (f.apart l)) ∧ Below w.heap.size w w' := by
  have HST := Lib.hid hs
  have HV := Lib.hid hv
  have HF := Lib.hid hf
  obtain ⟨A, c, rfl, _⟩ := hv
  have HE : Hid (f.apart l = (f.reg l).solved.empty) := Lib.hid rfl
  clear hs hf
  go_enter Tryz.func128, Tryz.ntmps128
  go_wp2_with fail
  refine (region_any g f _ l _ (HST.out.below (by (repeat' with_reducible first|assumption|exact Below.refl _ _|apply bl_alloc|apply bl_drewN|apply bl_drew|refine bl_set ?_ (by simp<;>omega) _|refine bl_then ?_ (by assumption)))) HF.out (HV.out.below (by (repeat' with_reducible first|assumption|exact Below.refl _ _|apply bl_alloc|apply bl_drewN|apply bl_drew|refine bl_set ?_ (by simp<;>omega) _|refine bl_then ?_ (by assumption)))) hn hit).mono ?_
  rintro e1 w1 ⟨va, vb, rfl, hva, hvb, hb1⟩
  have HT := Lib.hid (reg_spec HF.out l).1
  have HVA := Lib.hid hva
  have HVB := Lib.hid hvb
  clear hva hvb
  go_wp2_with fail
  refine (solved_any (f.reg l) va vb _ HVA.out HVB.out HT.out.lo HT.out.hi HT.out.above HT.out.below).mono ?_
  rintro e2 w2 ⟨rfl, hb2⟩
  unfold rgC
  go_wp2
  go_ret
  exact ⟨by rw [HE.out]; rfl, by (repeat' with_reducible first|assumption|exact Below.refl _ _|apply bl_alloc|apply bl_drewN|apply bl_drew|refine bl_set ?_ (by simp<;>omega) _|refine bl_then ?_ (by assumption))⟩
set_option maxRecDepth 100000 in
set_option maxHeartbeats 1000000 in
theorem concat2_any (B : Nat) (x y : Value) (xs ys : List Int) (w : World) (hB : w.heap[B]? = some (.cells #[x, y] 53 (0, 0))) (hx : Sl inC 1 w x xs) (hy : Sl inC 1 w y ys) (h1 : xs.length ≤ 100) (h2 : ys.length ≤ 100) :
    Calls Tryz.prog 61 #[.slice (some ⟨B, 0, none⟩) 2 2] w fun e w' => ∃ v, e = .returned v ∧ Sl inC 1 w' v (xs ++ ys) ∧ Below w.heap.size w w' := by
  have b0 := bk_cell hB 0
  have b1 := bk_cell hB 1
  simp at b0 b1
  have HX := Lib.hid hx
  have HY := Lib.hid hy
  obtain ⟨A1, c1, rfl, _⟩ := hx
  obtain ⟨A2, c2, rfl, _⟩ := hy
  have ew1 : IntKind.i64.wrap ((xs.length : Int) + (ys.length : Int)) = (xs.length : Int) + ys.length := wrapI (by omega) (by omega)
  have ew0 : IntKind.i64.wrap (xs.length : Int) = (xs.length : Int) := wrapI (by omega) (by omega)
  have hn1 : decide ((xs.length : Int) < 0) = false := by simp
  have hn2 : decide ((xs.length : Int) + (ys.length : Int) < 0) = false := by simp; omega
  clear hB
  go_enter Tryz.func61, Tryz.ntmps61
  go_wp2
  go_loopw [11, 3] (fun i n W => Below w.heap.size w W ∧ ∃ k : Nat, k ≤ 2 ∧ i = .int .i64 k ∧ n = .int .i64 (if k = 0 then 0 else if k = 1 then (xs.length : Int) else (xs.length : Int) + ys.length)) (fun i _ _ => 2 - (intOf i).toNat)
  case atStart => exact ⟨by (repeat' with_reducible first|assumption|exact Below.refl _ _|apply bl_alloc|apply bl_drewN|apply bl_drew|refine bl_set ?_ (by simp<;>omega) _|refine bl_then ?_ (by assumption)), 0, by omega, rfl, rfl⟩
  case round =>
    obtain ⟨hBi, k, hk, rfl, rfl⟩ := hrel
    have y0 := cl_below hBi b0
    have y1 := cl_below hBi b1
    match k, hk with
    | 0, _ =>
      go_wp2
      go_roundw
      case rel => exact ⟨by (repeat' with_reducible first|assumption|exact Below.refl _ _|apply bl_alloc|apply bl_drewN|apply bl_drew|refine bl_set ?_ (by simp<;>omega) _|refine bl_then ?_ (by assumption)), 1, by omega, rfl, by simp⟩
      case measure => simp [intOf]
    | 1, _ =>
      go_wp2
      go_roundw
      case rel => exact ⟨by (repeat' with_reducible first|assumption|exact Below.refl _ _|apply bl_alloc|apply bl_drewN|apply bl_drew|refine bl_set ?_ (by simp<;>omega) _|refine bl_then ?_ (by assumption)), 2, by omega, rfl, by simp⟩
      case measure => simp [intOf]
    | 2, _ =>
      clear y0 y1
      go_wp2_with fail
      refine (grow_at _ _ (by omega) (by omega)).mono ?_
      rintro e1 w1 ⟨v, rfl, ho, hb1⟩
      have hB1 := bl_then hBi hb1
      have ho1 : w1.ownsRow w.heap.size 3 1 v 0 (flat inC []) := ⟨ho.1, by rcases ho.2 with h | ⟨g, cap, cur, h1, h2, h3⟩; exact .inl h; exact .inr ⟨g, cap, cur, h1, Nat.le_trans hBi.size h2, h3⟩⟩
      have HO1 := Lib.hid ho1
      clear ho ho1 hb1 hBi
      go_wp2
      go_loopw [27, 6] (fun i v W => ∃ (k : Nat) (pre : List Int), k ≤ 2 ∧ i = .int .i64 k ∧ pre = (if k = 0 then [] else if k = 1 then xs else xs ++ ys) ∧ W.ownsRow w.heap.size 3 1 v pre.length (flat inC pre) ∧ Below w.heap.size w W) (fun i _ _ => 2 - (intOf i).toNat)
      case atStart => exact ⟨0, [], by omega, rfl, rfl, HO1.out, hB1⟩
      case round =>
        obtain ⟨k, pre, hk, rfl, hpre, ho, hBi⟩ := hrel
        have HO := Lib.hid ho
        have y0 := cl_below hBi b0
        have y1 := cl_below hBi b1
        have hsz := hBi.size
        clear ho
        match k, hk with
        | 0, _ =>
          simp at hpre
          subst hpre
          go_wp2_with (at_builtin; refine app_own inC_len (by decide) inC_one rfl (.tmp 31) (.tmp 32) 53 rfl 3 _ 8 Tryz.underlying53 intZ rfl w.heap.size _ _ [] xs rfl rfl HO.out _ rfl (HX.out.below hBi) (by omega) (by simp; omega) (by simp; omega) ?_; intro v' w' hv' hg' hh'; (have hB' := hBi.grown hg' (by omega) (fun z hz => (HO.out.lt z hz).1)))
          go_roundw
          case rel => exact ⟨1, xs, by omega, rfl, rfl, by simpa using hv', hB'⟩
          case measure => simp [intOf]
        | 1, _ =>
          simp at hpre
          subst hpre
          go_wp2_with (at_builtin; refine app_own inC_len (by decide) inC_one rfl (.tmp 31) (.tmp 32) 53 rfl 3 _ 8 Tryz.underlying53 intZ rfl w.heap.size _ _ pre ys rfl rfl HO.out _ rfl (HY.out.below hBi) (by omega) (by omega) (by omega) ?_; intro v' w' hv' hg' hh'; (have hB' := hBi.grown hg' (by omega) (fun z hz => (HO.out.lt z hz).1)))
          go_roundw
          case rel => exact ⟨2, pre ++ ys, by omega, rfl, rfl, by simpa using hv', hB'⟩
          case measure => simp [intOf]
        | 2, _ =>
          simp at hpre
          subst hpre
          go_wp2
          go_ret
          exact ⟨_, rfl, Sl.of_own inC_len (by decide) HO.out, hBi⟩
end Go.Proofs.YtjpagpplkldbkaaGreat
set_option linter.unusedVariables false
set_option linter.unusedSimpArgs false
namespace Go.Proofs.YtjpagpplkldbkaaGreat
open Go.RowKit Go.Shelf WH
theorem Sl.front {w : World} {A : Option Addr} {c i : Nat} {l : List Int} (h : Sl inC 1 w (.slice A l.length c) l) (hi : i ≤ l.length) : Sl inC 1 w (.slice A i c) (l.take i) := by
  obtain ⟨A', c', e, hl, hc, hx⟩ := h
  cases e
  have hlen : (l.take i).length = i := by simp; omega
  refine ⟨A, c, by rw [hlen], by omega, hc, fun hne => ?_⟩
  have h0 : 0 < i := by
    rcases Nat.eq_zero_or_pos i with h | h
    · subst h; simp at hne
    · exact h
  obtain ⟨b, off, e, hcell⟩ := hx (by intro h; subst h; simp at hi; omega)
  refine ⟨b, off, e, fun j q u hj hu hq => ?_⟩
  rw [hlen] at hj
  exact hcell j q u (by omega) (by rw [List.getElem?_take, if_pos hj] at hu; exact hu) hq
theorem Sl.back {w : World} {b off c i : Nat} {l : List Int} (h : Sl inC 1 w (.slice (some ⟨b, off, none⟩) l.length c) l) (hi : i + 1 ≤ l.length) :
    Sl inC 1 w (.slice (if c = i + 1 then some ⟨b, off, none⟩ else some ⟨b, off + (i + 1), none⟩) (l.length - (i + 1)) (c - (i + 1))) (l.drop (i + 1)) := by
  obtain ⟨A', c', e, hl, hc, hx⟩ := h
  cases e
  have hlen : (l.drop (i + 1)).length = l.length - (i + 1) := by simp
  refine ⟨_, _, by rw [hlen], by omega, ⟨by omega, fun h => by split at h <;> cases h⟩, fun hne => ?_⟩
  have h0 : 0 < l.length - (i + 1) := by rw [← hlen]; exact List.length_pos_iff.2 hne
  obtain ⟨b', off', e, hcell⟩ := hx (by intro h; subst h; simp at h0)
  cases e
  rw [if_neg (by omega)]
  refine ⟨b, off + (i + 1), rfl, fun j q u hj hu hq => ?_⟩
  rw [hlen] at hj
  have := hcell (i + 1 + j) q u (by omega) (by rw [List.getElem?_drop] at hu; exact hu) hq
  rw [show off + (i + 1) + j * 1 + q = off + (i + 1 + j) * 1 + q by omega]
  exact this
set_option maxRecDepth 100000 in
set_option maxHeartbeats 1000000 in
theorem but_any (v : Value) (l : List Int) (i : Nat) (w : World) (hv : Sl inC 1 w v l) (hi : i < l.length) (hn : l.length ≤ 100) :
    Calls Tryz.prog 129 #[v, .int .i64 i] w fun e w' => ∃ v', e = .returned v' ∧ Sl inC 1 w' v' (but l i) ∧ Below w.heap.size w w' := by
  obtain ⟨A, c, rfl, hl, hc, hcs⟩ := id hv
  have HV := Lib.hid hv
  obtain ⟨b, off, rfl, hcell⟩ := hcs (by intro h; simp [h] at hi)
  have ew : IntKind.i64.wrap ((i : Int) + 1) = (i : Int) + 1 := wrapI (by omega) (by omega)
  have i0 : (i : Int) ≤ c := by omega
  have i1 : (i : Int) + 1 ≤ l.length := by omega
  have i3 : 0 ≤ (i : Int) + 1 := by omega
  have i2 : (i : Int) + 1 ≤ c := by omega
  clear hv hcell hcs
  go_enter Tryz.func129, Tryz.ntmps129
  go_wp2
  ((refine p_start (by kernel_rfl) ?_); (refine x_enter 8 (fun hX_ => ?_)); (refine x_t 7 hX_ ?_); ((refine t_pure 0 (v := ?_) rfl (by kernel_rfl) (fun _ _ _ h => h) rfl ?_ ?_; rotate_left; (focus (intro w_ hS_; go_simp; (try (first | with_reducible rfl | (constructor <;> with_reducible rfl))); done)); (try simp only [Act.put, List.setIfInBounds_toArray, List.set_cons_zero, List.set_cons_succ]))); ((refine t_pure 1 (v := ?_) rfl (by kernel_rfl) (fun _ _ _ h => h) rfl ?_ ?_; rotate_left; (focus (intro w_ hS_; go_simp; (try (first | with_reducible rfl | (constructor <;> with_reducible rfl))); done)); (try simp only [Act.put, List.setIfInBounds_toArray, List.set_cons_zero, List.set_cons_succ]))); ((refine t_pure 2 (v := ?_) rfl (by kernel_rfl) (fun _ _ _ h => h) rfl ?_ ?_; rotate_left; (focus (intro w_ hS_; go_simp; (try (first | with_reducible rfl | (constructor <;> with_reducible rfl))); done)); (try simp only [Act.put, List.setIfInBounds_toArray, List.set_cons_zero, List.set_cons_succ]))); ((refine t_pure 3 (v := ?_) rfl (by kernel_rfl) (fun _ _ _ h => h) rfl ?_ ?_; rotate_left; (focus (intro w_ hS_; go_simp; (try (first | with_reducible rfl | (constructor <;> with_reducible rfl))); done)); (try simp only [Act.put, List.setIfInBounds_toArray, List.set_cons_zero, List.set_cons_succ]))); ((refine t_pure 4 (v := ?_) rfl (by kernel_rfl) (fun _ _ _ h => h) rfl ?_ ?_; rotate_left; (focus (intro w_ hS_; go_simp; (try (first | with_reducible rfl | (constructor <;> with_reducible rfl))); done)); (try simp only [Act.put, List.setIfInBounds_toArray, List.set_cons_zero, List.set_cons_succ]))); ((refine t_pure 5 (v := ?_) rfl (by kernel_rfl) (fun _ _ _ h => h) rfl ?_ ?_; rotate_left; (focus (intro w_ hS_; go_simp; (try (first | with_reducible rfl | (constructor <;> with_reducible rfl))); done)); (try simp only [Act.put, List.setIfInBounds_toArray, List.set_cons_zero, List.set_cons_succ]))); ((refine t_pure 6 (v := ?_) rfl (by kernel_rfl) (fun _ _ _ h => h) rfl ?_ ?_; rotate_left; (focus (intro w_ hS_; go_simp; (try (first | with_reducible rfl | (constructor <;> with_reducible rfl))); done)); (try simp only [Act.put, List.setIfInBounds_toArray, List.set_cons_zero, List.set_cons_succ]))); (refine t_exitX (by kernel_rfl) (fun W_ hS_ => ?_)); (refine x_only 7 rfl (by kernel_rfl) rfl (fun K hK => ?_); go_simp; refine hK.out _ _ (bl_alloc hS_ _) ?_; clear hK K; (try simp only [Act.put, List.setIfInBounds_toArray, List.set_cons_zero, List.set_cons_succ])); (refine x_exit (by kernel_rfl) ?_))
  have hB : Below w.heap.size w W_ := by (repeat' with_reducible first|assumption|exact Below.refl _ _|apply bl_alloc|apply bl_drewN|apply bl_drew|refine bl_set ?_ (by simp<;>omega) _|refine bl_then ?_ (by assumption))
  have h1 := HV.out.front (Nat.le_of_lt hi)
  have h2 := HV.out.back hi
  generalize hD : (if c = i + 1 then some (⟨b, off, none⟩ : Addr) else some ⟨b, off + (i + 1), none⟩) = D at *
  have e1 : (l.take i).length = i := by simp; omega
  have e2 : (l.drop (i + 1)).length = l.length - (i + 1) := by simp
  have H1 := Lib.hid h1
  have H2 := Lib.hid h2
  clear h1 h2 hD hS_
  refine p_only 8 rfl (by kernel_rfl) (fun K hK => ?_)
  go_simp
  refine (concat2_any W_.heap.size (.slice (some ⟨b, off, none⟩) i c) (.slice D (l.length - (i + 1)) (c - (i + 1))) (l.take i) (l.drop (i + 1)) _ (bk_new W_ _) ((H1.out.below hB).below (bl_alloc (Below.refl _ _) _)) ((H2.out.below hB).below (bl_alloc (Below.refl _ _) _)) (by omega) (by omega)).mono ?_
  rintro e1 w1 ⟨v', rfl, hv', hb1⟩
  refine hK.out _ _ ?_
  clear hK K
  (try simp only [Act.put, List.setIfInBounds_toArray, List.set_cons_zero, List.set_cons_succ])
  have HV1 := Lib.hid hv'
  clear hv'
  (refine p_only 9 rfl (by kernel_rfl) (fun K hK => ?_); go_simp; refine hK.out _ _ ?_; clear hK K; (try simp only [Act.put, List.setIfInBounds_toArray, List.set_cons_zero, List.set_cons_succ]))
  refine wpAny_done (by kernel_rfl) ?_ _
  go_wp2
  go_ret
  exact ⟨_, rfl, HV1.out, by (repeat' with_reducible first|assumption|exact Below.refl _ _|apply bl_alloc|apply bl_drewN|apply bl_drew|refine bl_set ?_ (by simp<;>omega) _|refine bl_then ?_ (by assumption))⟩
end Go.Proofs.YtjpagpplkldbkaaGreat
set_option linter.unusedVariables false
set_option linter.unusedSimpArgs false
namespace Go.Proofs.YtjpagpplkldbkaaGreat
open Go.RowKit Go.Shelf WH
def Fl.clI (f : Fl) : Bool := f.okB && f.apart f.all
def Fl.clL (f : Fl) : List Int := if f.okB then f.clash else []
theorem less_yes {f : Fl} {n i : Nat} {l : List Int} (h : i < l.length) (ha : f.apart (but l i) = true) : f.less (n + 1) l i = f.less n (but l i) i := by rw [Fl.less, if_pos h, if_pos ha]
theorem less_no {f : Fl} {n i : Nat} {l : List Int} (h : i < l.length) (ha : f.apart (but l i) = false) : f.less (n + 1) l i = f.less n l (i + 1) := by rw [Fl.less, if_pos h, if_neg (by simp [ha])]
theorem less_end {f : Fl} {n i : Nat} {l : List Int} (h : ¬ i < l.length) : f.less n l i = l := by
  cases n with
  | zero => rfl
  | succ n => rw [Fl.less, if_neg h]
def sLen : Value → Nat
  | .slice _ n _ => n
  | _ => 0
set_option maxRecDepth 100000 in
set_option maxHeartbeats 4000000 in
theorem clash_any (v : Value) (f : Fl) (w : World) (hf : Fv w v f) : Calls Tryz.prog 58 #[v] w fun e w' => ∃ lv, e = .returned (.tuple #[lv, .bool f.clI, .int .i64 f.possE]) ∧ Sl inC 1 w' lv f.clL ∧ Below w.heap.size w w' := by
  obtain ⟨vv, sv, rfl, hv, hs⟩ := hf
  have HV := Lib.hid hv
  have HSE := Lib.hid hs
  clear hv hs
  unfold flC
  go_enter Tryz.func58, Tryz.ntmps58
  go_wp2_with fail
  refine (opened_any _ f _ ⟨vv, sv, rfl, HV.out.below (by (repeat' with_reducible first|assumption|exact Below.refl _ _|apply bl_alloc|apply bl_drewN|apply bl_drew|refine bl_set ?_ (by simp<;>omega) _|refine bl_then ?_ (by assumption))), HSE.out.below (by (repeat' with_reducible first|assumption|exact Below.refl _ _|apply bl_alloc|apply bl_drewN|apply bl_drew|refine bl_set ?_ (by simp<;>omega) _|refine bl_then ?_ (by assumption)))⟩).mono ?_
  intro e1 w1 hop
  rcases hop with ⟨hno, rfl, hb1⟩ | ⟨hyes, g, rfl, hst, hb1⟩
  · have HE : Hid (f.clI = false ∧ f.clL = [] ∧ f.possE = 30) := Lib.hid ⟨by unfold Fl.clI; rw [hno]; rfl, by unfold Fl.clL; rw [hno]; rfl, by unfold Fl.possE; rw [hno]; rfl⟩
    clear hno
    go_wp2
    go_ret3
    exact ⟨_, by rw [HE.out.1, HE.out.2.2]; rfl, by rw [HE.out.2.1]; exact Sl.nil _ _ _, by (repeat' with_reducible first|assumption|exact Below.refl _ _|apply bl_alloc|apply bl_drewN|apply bl_drew|refine bl_set ?_ (by simp<;>omega) _|refine bl_then ?_ (by assumption))⟩
  · have HG := Lib.hid (good_iff.1 hyes)
    have HST := Lib.hid hst
    have HE : Hid (f.clI = f.apart f.all ∧ f.clL = f.clash ∧ f.possE = 0) := Lib.hid ⟨by unfold Fl.clI; rw [hyes]; rfl, by unfold Fl.clL; rw [hyes]; rfl, by unfold Fl.possE; rw [hyes]; rfl⟩
    have hB1 : Below w.heap.size w w1 := by (repeat' with_reducible first|assumption|exact Below.refl _ _|apply bl_alloc|apply bl_drewN|apply bl_drew|refine bl_set ?_ (by simp<;>omega) _|refine bl_then ?_ (by assumption))
    clear hyes hst hb1
    have HAL := Lib.hid (all_len f)
    have hsl := HG.out.len
    go_wp2_with fail
    refine (all_any g f _ (HST.out.below (by (repeat' with_reducible first|assumption|exact Below.refl _ _|apply bl_alloc|apply bl_drewN|apply bl_drew|refine bl_set ?_ (by simp<;>omega) _|refine bl_then ?_ (by assumption)))) HG.out.len).mono ?_
    rintro e3 w3 ⟨va, rfl, hva, hb3⟩
    have HVA := Lib.hid hva
    have HST3 := Lib.hid (HST.out.below hb3)
    have hB3 := bl_then hB1 hb3
    clear hva hb3 hB1 HST
    go_wp2_with fail
    refine (apart_any g f va f.all _ HST3.out HG.out HVA.out (by have := HAL.out; omega) (all_bds f)).mono ?_
    rintro e4 w4 ⟨rfl, hb4⟩
    have HVA4 := Lib.hid (HVA.out.below hb4)
    have HST4 := Lib.hid (HST3.out.below hb4)
    have hB4 := bl_then hB3 hb4
    clear hb4 hB3 HST3 HVA
    cases hap : f.apart f.all with
    | false =>
      have HC : Hid (f.clash = [] ∧ f.apart f.all = false) := Lib.hid ⟨by unfold Fl.clash; rw [hap]; rfl, hap⟩
      clear hap
      go_wp2
      go_ret3
      exact ⟨_, by rw [HE.out.1, HE.out.2.2, HC.out.2]; rfl, by rw [HE.out.2.1, HC.out.1]; exact Sl.nil _ _ _, by (repeat' with_reducible first|assumption|exact Below.refl _ _|apply bl_alloc|apply bl_drewN|apply bl_drew|refine bl_set ?_ (by simp<;>omega) _|refine bl_then ?_ (by assumption))⟩
    | true =>
      have HC : Hid (f.less (f.all.length + 1) f.all 0 = f.clash ∧ f.apart f.all = true) := Lib.hid ⟨by unfold Fl.clash; rw [hap]; rfl, hap⟩
      have HBD := Lib.hid (all_bds f)
      clear hap
      obtain ⟨A0, c0, rfl, _⟩ := id HVA4.out
      go_wp2
      go_loopw [7, 8] (fun lv iv W => ∃ (l : List Int) (i n : Nat), Sl inC 1 W lv l ∧ iv = .int .i64 i ∧ i ≤ l.length ∧ l.length ≤ 100 ∧ (∀ k ∈ l, -2 ≤ k ∧ k < f.seen.length) ∧ l.length - i ≤ n ∧ f.less n l i = f.clash ∧ Below w.heap.size w W ∧ St W g f) (fun lv iv _ => sLen lv - (intOf iv).toNat)
      case atStart => exact ⟨f.all, 0, f.all.length + 1, HVA4.out, rfl, by omega, by have := HAL.out; omega, HBD.out, by omega, HC.out.1, hB4, HST4.out⟩
      case round =>
        obtain ⟨l, i, n, hl, rfl, hi, hln, hbd, hn, hle, hBi, hsti⟩ := hrel
        have HBDl := Lib.hid hbd
        have HLE := Lib.hid hle
        have HSTi := Lib.hid hsti
        have HL := Lib.hid hl
        obtain ⟨A, c, rfl, hlc, hc, _⟩ := hl
        clear hbd hle hsti
        have hi63 : (i : Int) < 9223372036854775807 := by omega
        by_cases hlt : i < l.length
        · have hltI : (i : Int) < (l.length : Int) := by omega
          obtain ⟨n, rfl⟩ : ∃ m, n = m + 1 := ⟨n - 1, by omega⟩
          go_wp2_with fail
          refine (but_any _ l i _ HL.out hlt hln).mono ?_
          rintro e5 w5 ⟨v5, rfl, hv5, hb5⟩
          have HV5 := Lib.hid hv5
          have HST5 := Lib.hid (HSTi.out.below hb5)
          have HL5 := Lib.hid (HL.out.below hb5)
          have hB5 := bl_then hBi hb5
          have hbl := but_len hlt
          clear hv5 hb5 HSTi HL hBi
          go_wp2_with fail
          refine (apart_any g f v5 (but l i) _ HST5.out HG.out HV5.out (by omega) (fun k hk => HBDl.out k (but_mem hk))).mono ?_
          rintro e6 w6 ⟨rfl, hb6⟩
          have HV6 := Lib.hid (HV5.out.below hb6)
          have HST6 := Lib.hid (HST5.out.below hb6)
          have HL6 := Lib.hid (HL5.out.below hb6)
          have hB6 := bl_then hB5 hb6
          clear hb6 HST5 HL5 HV5 hB5
          cases hb : f.apart (but l i) with
          | true =>
            have HX := Lib.hid (less_yes (n := n) hlt hb)
            clear hb
            go_wp2
            go_roundw
            case rel => exact ⟨but l i, i, n, HV6.out, rfl, by omega, by omega, fun k hk => HBDl.out k (but_mem hk), by omega, by rw [← HX.out]; exact HLE.out, hB6, HST6.out⟩
            case measure =>
              obtain ⟨A5, c5, rfl, _⟩ := HV6.out
              simp [sLen, intOf]
              omega
          | false =>
            have HX := Lib.hid (less_no (n := n) hlt hb)
            clear hb
            go_wp2
            go_roundw
            case rel => exact ⟨l, i + 1, n, HL6.out, by go_num, by omega, by omega, HBDl.out, by omega, by rw [← HX.out]; exact HLE.out, hB6, HST6.out⟩
            case measure => simp [sLen, intOf]; omega
        · obtain rfl : i = l.length := by omega
          have HX : Hid (f.clash = l) := Lib.hid (by rw [← HLE.out]; exact less_end hlt)
          go_wp2
          go_ret3
          exact ⟨_, by rw [HE.out.1, HE.out.2.2, HC.out.2]; rfl, by rw [HE.out.2.1, HX.out]; exact HL.out, by (repeat' with_reducible first|assumption|exact Below.refl _ _|apply bl_alloc|apply bl_drewN|apply bl_drew|refine bl_set ?_ (by simp<;>omega) _|refine bl_then ?_ (by assumption))⟩
end Go.Proofs.YtjpagpplkldbkaaGreat
set_option linter.unusedVariables false
set_option linter.unusedSimpArgs false
namespace Go.Proofs.YtjpagpplkldbkaaGreat
open Go.RowKit Go.Shelf WH
theorem rising_iff : ∀ (l : List Int), rising l = true ↔ ∀ j (h : j + 1 < l.length), l[j] < l[j + 1]
  | [] => by simp [rising]
  | [a] => by simp [rising]
  | a :: b :: l => by
    rw [rising, Bool.and_eq_true, rising_iff (b :: l), decide_eq_true_eq]
    constructor
    · rintro ⟨h1, h2⟩ j hj
      cases j with
      | zero => simpa using h1
      | succ j => exact h2 j (by simpa using hj)
    · intro h
      refine ⟨by simpa using h 0 (by simp), fun j hj => ?_⟩
      exact h (j + 1) (by simpa using hj)
theorem rising_len : ∀ (l : List Int) (a hi : Int), rising (a :: l) = true → (∀ k ∈ a :: l, k ≤ hi) → (l.length : Int) ≤ hi - a
  | [], a, hi, _, h => by have := h a (by simp); simp; omega
  | b :: l, a, hi, hr, h => by
    rw [rising, Bool.and_eq_true, decide_eq_true_eq] at hr
    have := rising_len l b hi hr.2 (fun k hk => h k (List.mem_cons_of_mem _ hk))
    simp at this ⊢
    omega
theorem in_bds {f : Fl} {l : List Int} (h : l.all (fun k => fromB k (-2) ((f.seen.length : Int) - 1)) = true) : ∀ k ∈ l, -2 ≤ k ∧ k < f.seen.length := by
  intro k hk
  have := fromB_iff.1 (List.all_eq_true.1 h k hk)
  omega
theorem rising_short {f : Fl} {l : List Int} (hl : f.seen.length ≤ 24) (h : ∀ k ∈ l, -2 ≤ k ∧ k < f.seen.length) (hr : rising l = true) : l.length ≤ 100 := by
  cases l with
  | nil => simp
  | cons a l =>
    have h1 := rising_len l a ((f.seen.length : Int) - 1) hr (fun k hk => by have := h k hk; omega)
    have h2 := h a (by simp)
    simp
    omega
/-- What the first loop has seen so far. -/
def SeenSo (f : Fl) (l : List Int) (i : Nat) : Prop := ∀ j (h : j < l.length), j < i → fromB l[j] (-2) ((f.seen.length : Int) - 1) = true ∧ (∀ q (hq : q + 1 = j), l[q]'(by omega) < l[j])
theorem seen_end {f : Fl} {l : List Int} (h : SeenSo f l l.length) : l.all (fun k => fromB k (-2) ((f.seen.length : Int) - 1)) = true ∧ rising l = true := by
  constructor
  · rw [List.all_eq_true]
    intro k hk
    obtain ⟨j, hj, rfl⟩ := List.getElem_of_mem hk
    exact (h j hj hj).1
  · rw [rising_iff]
    intro j hj
    exact (h (j + 1) hj hj).2 j rfl
theorem all_not {f : Fl} {l : List Int} {i : Nat} (hi : i < l.length) (h : fromB l[i] (-2) ((f.seen.length : Int) - 1) = false) : f.clB l = false := by
  unfold Fl.clB
  rw [show l.all (fun k => fromB k (-2) ((f.seen.length : Int) - 1)) = false from List.all_eq_false.2 ⟨_, List.getElem_mem hi, by simp [h]⟩]
  rfl
theorem rise_not {f : Fl} {l : List Int} {i : Nat} (hi : i + 1 < l.length) (h : ¬ l[i] < l[i + 1]) : f.clB l = false := by
  unfold Fl.clB
  have : rising l = false := by
    cases hr : rising l with
    | false => rfl
    | true => exact absurd (rising_iff l |>.1 hr i hi) h
  rw [this]
  simp
set_option maxRecDepth 100000 in
set_option maxHeartbeats 4000000 in
theorem ckl_any (v lv : Value) (f : Fl) (l : List Int) (w : World) (hf : Fv w v f) (hl : Sl inC 1 w lv l) : Calls Tryz.prog 43 #[v, lv] w fun e w' => e = .returned (.int .i64 (f.clErr l)) ∧ Below w.heap.size w w' := by
  obtain ⟨vv, sv, rfl, hv, hs⟩ := hf
  have HV := Lib.hid hv
  have HSE := Lib.hid hs
  have HL := Lib.hid hl
  obtain ⟨A, c, rfl, hlc, hc, hcs⟩ := hl
  have HCS := Lib.hid hcs
  clear hv hs hcs
  unfold flC
  go_enter Tryz.func43, Tryz.ntmps43
  go_wp2_with fail
  refine (opened_any _ f _ ⟨vv, sv, rfl, HV.out.below (by (repeat' with_reducible first|assumption|exact Below.refl _ _|apply bl_alloc|apply bl_drewN|apply bl_drew|refine bl_set ?_ (by simp<;>omega) _|refine bl_then ?_ (by assumption))), HSE.out.below (by (repeat' with_reducible first|assumption|exact Below.refl _ _|apply bl_alloc|apply bl_drewN|apply bl_drew|refine bl_set ?_ (by simp<;>omega) _|refine bl_then ?_ (by assumption)))⟩).mono ?_
  intro e1 w1 hop
  rcases hop with ⟨hno, rfl, hb1⟩ | ⟨hyes, g, rfl, hst, hb1⟩
  · have HE : Hid (f.clErr l = 30) := Lib.hid (by unfold Fl.clErr; rw [hno]; rfl)
    clear hno
    go_wp2
    go_ret
    exact ⟨by rw [HE.out]; rfl, by (repeat' with_reducible first|assumption|exact Below.refl _ _|apply bl_alloc|apply bl_drewN|apply bl_drew|refine bl_set ?_ (by simp<;>omega) _|refine bl_then ?_ (by assumption))⟩
  · have HG := Lib.hid (good_iff.1 hyes)
    have HST := Lib.hid hst
    have HE : Hid (f.clErr l = if f.clB l then 0 else 32) := Lib.hid (by unfold Fl.clErr; rw [hyes]; rfl)
    have hB1 : Below w.heap.size w w1 := by (repeat' with_reducible first|assumption|exact Below.refl _ _|apply bl_alloc|apply bl_drewN|apply bl_drew|refine bl_set ?_ (by simp<;>omega) _|refine bl_then ?_ (by assumption))
    obtain ⟨vv', sv', tv', hgs, _, hss, _⟩ := hst
    obtain ⟨As, cs, rfl, hsl, ⟨hsc, _⟩, _⟩ := hss
    have hgl := bk_lt hgs
    have c5 := bk_cell hgs 5
    simp [stC] at c5
    have ewl : IntKind.i64.wrap ((f.seen.length : Int) - 1) = (f.seen.length : Int) - 1 := wrapI (by omega) (by omega)
    clear hyes hb1 hgs
    go_wp2
    go_loopw [20] (fun i W => ∃ k : Nat, k ≤ l.length ∧ i = .int .i64 k ∧ Below w1.heap.size w1 W ∧ SeenSo f l k) (fun i _ => l.length - (intOf i).toNat)
    case atStart => exact ⟨0, by omega, rfl, by (repeat' with_reducible first|assumption|exact Below.refl _ _|apply bl_alloc|apply bl_drewN|apply bl_drew|refine bl_set ?_ (by simp<;>omega) _|refine bl_then ?_ (by assumption)), fun j _ h => by omega⟩
    case round =>
      obtain ⟨k, hk, rfl, hBi, hok⟩ := hrel
      have HO := Lib.hid hok
      clear hok
      have hBw := bl_then hB1 hBi
      by_cases hlt : k < l.length
      · obtain ⟨b, off, rfl, hcell⟩ := HCS.out (by intro h; simp [h] at hlt)
        have d0 := cl_below hBw (in_cell hcell hlt)
        have ewk : IntKind.i64.wrap ((k : Int) + 1) = (k : Int) + 1 := wrapI (by omega) (by omega)
        have hkI : (k : Int) < (l.length : Int) := by omega
        have c5' := cl_below hBi c5
        cases hfr : fromB l[k] (-2) ((f.seen.length : Int) - 1) with
        | false =>
          have HN := Lib.hid (all_not hlt hfr)
          clear hcell
          go_wp2_with (go_at_call 94; refine (from_any _ _ _ _).mono ?_; rintro e' w' ⟨rfl, rfl⟩)
          go_ret
          exact ⟨by rw [HE.out, HN.out]; rfl, by (repeat' with_reducible first|assumption|exact Below.refl _ _|apply bl_alloc|apply bl_drewN|apply bl_drew|refine bl_set ?_ (by simp<;>omega) _|refine bl_then ?_ (by assumption))⟩
        | true =>
          by_cases h0 : k = 0
          · have hpos : decide (0 < (k : Int)) = false := by simp; omega
            have hposN : decide (0 < k) = false := by simp; omega
            have H0 := Lib.hid h0
            have HFR := Lib.hid hfr
            clear hcell h0
            go_wp2_with (go_at_call 94; refine (from_any _ _ _ _).mono ?_; rintro e' w' ⟨rfl, rfl⟩)
            go_roundw
            case rel =>
              refine ⟨k + 1, by omega, by go_num, by (repeat' with_reducible first|assumption|exact Below.refl _ _|apply bl_alloc|apply bl_drewN|apply bl_drew|refine bl_set ?_ (by simp<;>omega) _|refine bl_then ?_ (by assumption)), fun j hj h1 => ?_⟩
              have h0 := H0.out
              obtain rfl : j = k := by omega
              exact ⟨HFR.out, fun q hq => by omega⟩
            case measure => simp [intOf]; omega
          · obtain ⟨p, hp⟩ : ∃ p, k = p + 1 := ⟨k - 1, by omega⟩
            have hlt' : p < l.length := by omega
            have d1 := cl_below hBw (in_cell hcell hlt')
            have hpos : decide (0 < (k : Int)) = true := by simp; omega
            have hposN : decide (0 < k) = true := by simp; omega
            have ew1 : IntKind.i64.wrap ((k : Int) - 1) = (p : Int) := by rw [wrapI (by omega) (by omega)]; omega
            have hpI : (p : Int) < (l.length : Int) := by omega
            have HP := Lib.hid hp
            have HFR := Lib.hid hfr
            clear hcell h0
            by_cases hge : l[p] < l[k]
            · have hd : decide (l[k] ≤ l[p]) = false := by simp; omega
              have HGE := Lib.hid hge
              clear hge hp
              go_wp2_with (go_at_call 94; refine (from_any _ _ _ _).mono ?_; rintro e' w' ⟨rfl, rfl⟩)
              go_roundw
              case rel =>
                refine ⟨k + 1, by omega, by go_num, by (repeat' with_reducible first|assumption|exact Below.refl _ _|apply bl_alloc|apply bl_drewN|apply bl_drew|refine bl_set ?_ (by simp<;>omega) _|refine bl_then ?_ (by assumption)), fun j hj h1 => ?_⟩
                have hp := HP.out
                rcases Nat.lt_or_ge j k with h | h
                · exact HO.out j hj h
                · obtain rfl : j = k := by omega
                  refine ⟨HFR.out, fun q hq => ?_⟩
                  obtain rfl : q = p := by omega
                  exact HGE.out
              case measure => simp [intOf]; omega
            · have hd : decide (l[k] ≤ l[p]) = true := by simp; omega
              have HN : Hid (f.clB l = false) := Lib.hid (by subst hp; exact rise_not (f := f) hlt hge)
              clear hge hp
              go_wp2_with (go_at_call 94; refine (from_any _ _ _ _).mono ?_; rintro e' w' ⟨rfl, rfl⟩)
              go_ret
              exact ⟨by rw [HE.out, HN.out]; rfl, by (repeat' with_reducible first|assumption|exact Below.refl _ _|apply bl_alloc|apply bl_drewN|apply bl_drew|refine bl_set ?_ (by simp<;>omega) _|refine bl_then ?_ (by assumption))⟩
      · obtain rfl : k = l.length := by omega
        obtain ⟨hall, hris⟩ := seen_end HO.out
        have HBD := Lib.hid (in_bds hall)
        have HSH := Lib.hid (rising_short HG.out.len HBD.out hris)
        have HCB : Hid (f.clB l = (f.apart l && (List.range l.length).all fun i => !f.apart (but l i))) := Lib.hid (by unfold Fl.clB; rw [hall, hris]; rfl)
        clear hall hris HO
        have HSTi := Lib.hid (HST.out.below hBi)
        have HLi := Lib.hid (HL.out.below hBw)
        clear c5 hBi hB1
        go_wp2_with fail
        refine (apart_any g f _ l _ HSTi.out HG.out HLi.out HSH.out HBD.out).mono ?_
        rintro e5 w5 ⟨rfl, hb5⟩
        have HST5 := Lib.hid (HSTi.out.below hb5)
        have HL5 := Lib.hid (HLi.out.below hb5)
        have hB5 := bl_then hBw hb5
        clear hb5 hBw
        cases ha : f.apart l with
        | false =>
          have HN : Hid (f.clB l = false) := Lib.hid (by rw [HCB.out, ha]; rfl)
          clear ha
          go_wp2
          go_ret
          exact ⟨by rw [HE.out, HN.out]; rfl, by (repeat' with_reducible first|assumption|exact Below.refl _ _|apply bl_alloc|apply bl_drewN|apply bl_drew|refine bl_set ?_ (by simp<;>omega) _|refine bl_then ?_ (by assumption))⟩
        | true =>
          have HCB2 : Hid (f.clB l = (List.range l.length).all fun i => !f.apart (but l i)) := Lib.hid (by rw [HCB.out, ha]; rfl)
          clear ha
          go_wp2
          go_loopw [55] (fun i W => ∃ k : Nat, k ≤ l.length ∧ i = .int .i64 k ∧ Below w5.heap.size w5 W ∧ ∀ j, j < k → f.apart (but l j) = false) (fun i _ => l.length - (intOf i).toNat)
          case atStart => exact ⟨0, by omega, rfl, by (repeat' with_reducible first|assumption|exact Below.refl _ _|apply bl_alloc|apply bl_drewN|apply bl_drew|refine bl_set ?_ (by simp<;>omega) _|refine bl_then ?_ (by assumption)), fun j h => by omega⟩
          case round =>
            obtain ⟨k, hk, rfl, hBi, hok⟩ := hrel
            have HO := Lib.hid hok
            have HSTi := Lib.hid (HST5.out.below hBi)
            have HLi := Lib.hid (HL5.out.below hBi)
            clear hok
            by_cases hlt : k < l.length
            · have hkI : (k : Int) < (l.length : Int) := by omega
              have ewk : IntKind.i64.wrap ((k : Int) + 1) = (k : Int) + 1 := wrapI (by omega) (by omega)
              go_wp2_with fail
              refine (but_any _ l k _ HLi.out hlt HSH.out).mono ?_
              rintro e6 w6 ⟨v6, rfl, hv6, hb6⟩
              have HV6 := Lib.hid hv6
              have HST6 := Lib.hid (HSTi.out.below hb6)
              have hB6 := bl_then hBi hb6
              clear hv6 hb6 hBi
              have hbl := but_len hlt
              go_wp2_with fail
              refine (apart_any g f v6 (but l k) _ HST6.out HG.out HV6.out (by have := HSH.out; omega) (fun q hq => HBD.out q (but_mem hq))).mono ?_
              rintro e7 w7 ⟨rfl, hb7⟩
              have hB7 := bl_then hB6 hb7
              clear hb7 hB6
              cases hb : f.apart (but l k) with
              | true =>
                have HN : Hid (f.clB l = false) := Lib.hid (by
                  rw [HCB2.out]
                  exact List.all_eq_false.2 ⟨k, List.mem_range.2 hlt, by rw [hb]; simp⟩)
                clear hb
                go_wp2
                go_ret
                exact ⟨by rw [HE.out, HN.out]; rfl, by (repeat' with_reducible first|assumption|exact Below.refl _ _|apply bl_alloc|apply bl_drewN|apply bl_drew|refine bl_set ?_ (by simp<;>omega) _|refine bl_then ?_ (by assumption))⟩
              | false =>
                have HX := Lib.hid hb
                clear hb
                go_wp2
                go_roundw
                case rel =>
                  refine ⟨k + 1, by omega, by go_num, hB7, fun j hj => ?_⟩
                  rcases Nat.lt_or_ge j k with h | h
                  · exact HO.out j h
                  · obtain rfl : j = k := by omega
                    exact HX.out
                case measure => simp [intOf]; omega
            · obtain rfl : k = l.length := by omega
              have HN : Hid (f.clB l = true) := Lib.hid (by
                rw [HCB2.out]
                exact List.all_eq_true.2 (fun j hj => by rw [HO.out j (List.mem_range.1 hj)]; rfl))
              go_wp2
              go_ret
              exact ⟨by rw [HE.out, HN.out]; rfl, by (repeat' with_reducible first|assumption|exact Below.refl _ _|apply bl_alloc|apply bl_drewN|apply bl_drew|refine bl_set ?_ (by simp<;>omega) _|refine bl_then ?_ (by assumption))⟩
end Go.Proofs.YtjpagpplkldbkaaGreat
