/- WearThree: what is known of only some items. -/
import Derived.LoopTactic
import Derived.Deep.DeepCutAuto
import Derived.Test.YtjpagpplkldbkaaGreatLib25
import Derived.Test.YtjpagpplkldbkaaGreatLib29
set_option linter.unusedVariables false
set_option linter.unusedSimpArgs false
namespace Go.Proofs.YtjpagpplkldbkaaGreat
open Go.RowKit Go.Shelf WH
set_option maxRecDepth 100000 in
set_option maxHeartbeats 1000000 in
theorem look3_any (l e : Int) (w : World) : Calls Tryz.prog 159 #[.int .i64 l, .int .i64 e] w fun e' w' => e' = .returned (.agg #[.int .i64 l, .int .i64 e]) ∧ Below w.heap.size w w' := by
  go_enter Tryz.func159, Tryz.ntmps159
  go_wp2
  refine bodyPost_ret (v := .agg #[.int .i64 l, .int .i64 e]) (res_one rfl (.cell w.heap.size 25 _ (0, 0) _ rfl (by first | exact bk_new w _ | exact bk_put2 (bk_new w _)) Tryz.underlying25 rfl (by kernel_rfl) .nil)) rfl ?_
  exact ⟨rfl, by (repeat' with_reducible first|assumption|exact Below.refl _ _|apply bl_alloc|apply bl_drewN|apply bl_drew|refine bl_set ?_ (by simp<;>omega) _|refine bl_then ?_ (by assumption))⟩
theorem wd_snoc (f out : Fl) (l : List Int) {k : Nat} (hk : k < l.length) : (l.take (k + 1)).foldl f.wdAt out = f.wdAt ((l.take k).foldl f.wdAt out) l[k] := by
  rw [List.take_succ_eq_append_getElem hk, List.foldl_append]; rfl
theorem wdAt_len (f out : Fl) (i : Int) : (f.wdAt out i).seen.length ≤ out.seen.length + 1 := by
  unfold Fl.wdAt
  split
  · simp
  split
  · simp
  split
  · omega
  split
  · simp
  · omega
theorem wd_len (f : Fl) (h : Int) (l : List Int) (k : Nat) (hk : k ≤ l.length) : ((l.take k).foldl f.wdAt (f.wd0 h)).seen.length ≤ k := by
  induction k with
  | zero => simp [Fl.wd0]
  | succ k ih =>
    rw [wd_snoc f _ l (by omega)]
    have := wdAt_len f ((l.take k).foldl f.wdAt (f.wd0 h)) l[k]
    have := ih (by omega)
    omega
theorem wdAt_v (f out : Fl) (i : Int) : (f.wdAt out i).v = out.v := by
  unfold Fl.wdAt
  split
  · rfl
  split
  · rfl
  split
  · rfl
  split <;> rfl
theorem wd_v (f : Fl) (h : Int) (l : List Int) (k : Nat) (hk : k ≤ l.length) : ((l.take k).foldl f.wdAt (f.wd0 h)).v = f.v := by
  induction k with
  | zero => simp [Fl.wd0]
  | succ k ih => rw [wd_snoc f _ l (by omega), wdAt_v]; exact ih (by omega)
theorem wdAt_seen {f out : Fl} {n : Nat} (h : n < f.seen.length) : f.wdAt out n = { out with seen := out.seen ++ [f.seen[n]] } := by
  unfold Fl.wdAt
  rw [if_neg (by omega), if_neg (by omega), Int.toNat_natCast, List.getElem?_eq_getElem h]
  dsimp only
  rw [if_pos (by omega)]
theorem wdAt_none {f out : Fl} {i : Int} (h2 : i ≠ -2) (h1 : i ≠ -1) (h : i < 0 ∨ (f.seen.length : Int) ≤ i) : f.wdAt out i = out := by
  unfold Fl.wdAt
  rw [if_neg h2, if_neg h1]
  split
  · rfl
  · rename_i s hs
    rw [if_neg]
    intro h0
    rw [List.getElem?_eq_none (by omega)] at hs
    cases hs
/-- What is so in memory when the loop of widest begins a round. -/
def WdR (f : Fl) (vv sv : Value) (T : Nat) (w : World) (o : Fl) (W : World) : Prop :=
  ∃ sv', Below w.heap.size w W ∧ w.heap.size + 2 ≤ T ∧ T < W.heap.size ∧ W.heap[w.heap.size]? = some (.cells (flC f vv sv) 30 (0, 0)) ∧ W.heap[w.heap.size + 1]? = some (.cells flZ 30 (0, 0)) ∧ W.heap[T]? = some (.cells (flC o vv sv') 30 (0, 0)) ∧ W.ownsRow (T + 1) 111 4 sv' o.seen.length (flat snC o.seen)
set_option maxRecDepth 100000 in
set_option maxHeartbeats 4000000 in
theorem widest_any (v lv : Value) (f : Fl) (h : Int) (l : List Int) (w : World) (hf : Fv w v f) (hl : Sl inC 1 w lv l) (hn : l.length ≤ 100) :
    Calls Tryz.prog 60 #[v, .int .i64 h, lv] w fun e w' => ∃ v', e = .returned v' ∧ Fv w' v' (f.wd h l) ∧ Below w.heap.size w w' := by
  obtain ⟨vv, sv, rfl, hv1, hs1⟩ := hf
  have HV := Lib.hid hv1
  have HSE := Lib.hid hs1
  obtain ⟨A1, c1, rfl, _⟩ := hv1
  obtain ⟨A2, c2, rfl, _⟩ := hs1
  obtain ⟨A3, c3, rfl, hl3, hc3, hr3⟩ := id hl
  have HL := Lib.hid hl
  clear hl hl3 hc3
  unfold flC
  go_enter Tryz.func60, Tryz.ntmps60
  go_upto_region 1 with fail
  go_cut [7] (fun t W => ∃ T, t = .pointer (some ⟨T, 0, none⟩) ∧ WdR f (.slice A1 f.v.length c1) (.slice A2 f.seen.length c2) T w (f.wd0 h) W)
  case first =>
    have B0 := bk_alloc (bk_new w (.cells #[.slice A1 f.v.length c1, .int .i64 f.lv, .int .i64 f.er, .int .i64 f.wl, .int .i64 f.wh, .slice A2 f.seen.length c2] 30)) (.cells flZ 30)
    have B1 := bk_new (w.alloc (.cells #[.slice A1 f.v.length c1, .int .i64 f.lv, .int .i64 f.er, .int .i64 f.wl, .int .i64 f.wh, .slice A2 f.seen.length c2] 30)) (.cells flZ 30)
    rw [World.size_alloc] at B1
    have hB : Below w.heap.size w ((w.alloc (.cells #[.slice A1 f.v.length c1, .int .i64 f.lv, .int .i64 f.er, .int .i64 f.wl, .int .i64 f.wh, .slice A2 f.seen.length c2] 30)).alloc (.cells flZ 30)) := by (repeat' with_reducible first|assumption|exact Below.refl _ _|apply bl_alloc|apply bl_drewN|apply bl_drew|refine bl_set ?_ (by simp<;>omega) _|refine bl_then ?_ (by assumption))
    have hz : ((w.alloc (.cells #[.slice A1 f.v.length c1, .int .i64 f.lv, .int .i64 f.er, .int .i64 f.wl, .int .i64 f.wh, .slice A2 f.seen.length c2] 30)).alloc (.cells flZ 30)).heap.size = w.heap.size + 2 := by rw [World.size_alloc, World.size_alloc]
    unfold flZ at B0 B1 hB hz
    generalize hW : (w.alloc (.cells #[.slice A1 f.v.length c1, .int .i64 f.lv, .int .i64 f.er, .int .i64 f.wl, .int .i64 f.wh, .slice A2 f.seen.length c2] 30)).alloc (.cells #[.slice none 0 0, .int .i64 0, .int .i64 0, .int .i64 0, .int .i64 0, .slice none 0 0] 30) = W0 at *
    have c0 := bk_cell B0 0
    have HB0 := Lib.hid B0
    have HB1 := Lib.hid B1
    have HZ := Lib.hid hz
    clear hW B0 B1 hz
    go_wp2
    refine p_start (by kernel_rfl) ?_
    refine x_enter 7 (fun hX_ => ?_)
    (refine x_pure 0 (v := ?_) rfl (by kernel_rfl) (fun _ _ _ h => h) rfl ?_ hX_ ?_; rotate_left; (focus (intro w_ hS_; have c0_ := cl_below hS_ c0; go_simp; (try (first | with_reducible rfl | (constructor <;> with_reducible rfl))); done)); (try simp only [Act.put, List.setIfInBounds_toArray, List.set_cons_zero, List.set_cons_succ]))
    (refine x_pure 1 (v := ?_) rfl (by kernel_rfl) (fun _ _ _ h => h) rfl ?_ hX_ ?_; rotate_left; (focus (intro w_ hS_; have c0_ := cl_below hS_ c0; go_simp; (try (first | with_reducible rfl | (constructor <;> with_reducible rfl))); done)); (try simp only [Act.put, List.setIfInBounds_toArray, List.set_cons_zero, List.set_cons_succ]))
    (refine x_pure 2 (v := ?_) rfl (by kernel_rfl) (fun _ _ _ h => h) rfl ?_ hX_ ?_; rotate_left; (focus (intro w_ hS_; go_simp; (try (first | with_reducible rfl | (constructor <;> with_reducible rfl))); done)); (try simp only [Act.put, List.setIfInBounds_toArray, List.set_cons_zero, List.set_cons_succ]))
    (refine x_pure 4 (v := ?_) rfl (by kernel_rfl) (fun _ _ _ h => h) rfl ?_ hX_ ?_; rotate_left; (focus (intro w_ hS_; go_simp; (try (first | with_reducible rfl | (constructor <;> with_reducible rfl))); done)); (try simp only [Act.put, List.setIfInBounds_toArray, List.set_cons_zero, List.set_cons_succ]))
    refine x_two 3 6 rfl rfl (by kernel_rfl) rfl rfl (fun K hK => ?_) (fun K hK => ?_)
    · go_simp
      refine (look3_any h 1000 _).mono ?_
      rintro e2 w2 ⟨rfl, hb2⟩
      refine hK.out _ _ (bl_then hX_ hb2) ?_
      clear hK K
      (try simp only [Act.put, List.setIfInBounds_toArray, List.set_cons_zero, List.set_cons_succ])
      replace hX_ := bl_then hX_ hb2
      (refine x_pure 5 (v := ?_) rfl (by kernel_rfl) (fun _ _ _ h => h) rfl ?_ hX_ ?_; rotate_left; (focus (intro w_ hS_; go_simp; (try (first | with_reducible rfl | (constructor <;> with_reducible rfl))); done)); (try simp only [Act.put, List.setIfInBounds_toArray, List.set_cons_zero, List.set_cons_succ]))
      refine x_only 6 rfl (by kernel_rfl) rfl (fun K hK => ?_)
      go_simp
      refine hK.out _ _ (bl_alloc hX_ _) ?_
      clear hK K
      (try simp only [Act.put, List.setIfInBounds_toArray, List.set_cons_zero, List.set_cons_succ])
      refine x_exit (by kernel_rfl) ?_
      have hT := bk_new w2 (.cells #[.slice none 0 0, .int .i64 0, .int .i64 0, .int .i64 0, .int .i64 0, .slice none 0 0] 30)
      have hTge : W0.heap.size ≤ w2.heap.size := hX_.size
      have hB5 : Below W0.heap.size W0 (w2.alloc (.cells #[.slice none 0 0, .int .i64 0, .int .i64 0, .int .i64 0, .int .i64 0, .slice none 0 0] 30)) := bl_alloc hX_ _
      have hz : w.heap.size + 2 ≤ W0.heap.size := by have := HZ.out; omega
      generalize hW5 : w2.alloc (.cells #[.slice none 0 0, .int .i64 0, .int .i64 0, .int .i64 0, .int .i64 0, .slice none 0 0] 30) = W5 at *
      generalize hT0 : w2.heap.size = T at *
      clear hW5 hb2 hT0 hX_ w2 c0
      obtain ⟨_, f0, f1, f2, f3, f4, f5⟩ := agg6 hT
      have hlT := bk_lt hT
      have HT := Lib.hid hT
      have HB5 := Lib.hid hB5
      clear hT hB5
      (refine p_only 7 rfl (by kernel_rfl) (fun K hK => ?_); go_simp; refine hK.out _ _ ?_; clear hK K; (try simp only [Act.put, List.setIfInBounds_toArray, List.set_cons_zero, List.set_cons_succ]))
      refine wpAny_done (by kernel_rfl) ?_ _
      have hP := Lib.hid (bk_put6 (a := .slice A1 f.v.length c1) (b := .int .i64 h) (c := .int .i64 1000) (d := .int .i64 1) (e := .int .i64 4000) (f := .slice none 0 0) HT.out)
      have hQ0 := Lib.hid (heap_put6 W5 T (.slice A1 f.v.length c1) (.int .i64 h) (.int .i64 1000) (.int .i64 1) (.int .i64 4000) (.slice none 0 0) w.heap.size (by omega))
      have hQ1 := Lib.hid (heap_put6 W5 T (.slice A1 f.v.length c1) (.int .i64 h) (.int .i64 1000) (.int .i64 1) (.int .i64 4000) (.slice none 0 0) (w.heap.size + 1) (by omega))
      have b5 := HB5.out
      have bw : Below w.heap.size w ((((((W5.setCell ⟨T, 0, none⟩ (.slice A1 f.v.length c1)).setCell ⟨T, 1, none⟩ (.int .i64 h)).setCell ⟨T, 2, none⟩ (.int .i64 1000)).setCell ⟨T, 3, none⟩ (.int .i64 1)).setCell ⟨T, 4, none⟩ (.int .i64 4000)).setCell ⟨T, 5, none⟩ (.slice none 0 0)) := by
        have := bl_then hB b5
        (repeat' with_reducible first|assumption|exact Below.refl _ _|apply bl_alloc|apply bl_drewN|apply bl_drew|refine bl_set ?_ (by simp<;>omega) _|refine bl_then ?_ (by assumption))
      have q0 := bk_below HB0.out b5
      have q1 := bk_below HB1.out b5
      rw [← hQ0.out] at q0
      rw [← hQ1.out] at q1
      have HQ := Lib.hid (And.intro q0 (And.intro q1 bw))
      clear q0 q1 bw b5
      go_wp2
      go_meet
      exact ⟨T, rfl, .slice none 0 0, HQ.out.2.2, by omega, by simp; omega, HQ.out.1, HQ.out.2.1, hP.out, World.ownsRow_nil _ _ _ _⟩
    · go_simp
      refine hK.out _ _ (bl_alloc hX_ _) ?_
      clear hK K
      (try simp only [Act.put, List.setIfInBounds_toArray, List.set_cons_zero, List.set_cons_succ])
      refine x_only 3 rfl (by kernel_rfl) rfl (fun K hK => ?_)
      go_simp
      refine (look3_any h 1000 _).mono ?_
      rintro e2 w2 ⟨rfl, hb2⟩
      have hT := bk_below (bk_drew (bk_new W0 (.cells #[.slice none 0 0, .int .i64 0, .int .i64 0, .int .i64 0, .int .i64 0, .slice none 0 0] 30))) hb2
      have hTge : W0.heap.size ≤ W0.heap.size := Nat.le_refl _
      have hB5 : Below W0.heap.size W0 w2 := bl_then (by (repeat' with_reducible first|assumption|exact Below.refl _ _|apply bl_alloc|apply bl_drewN|apply bl_drew|refine bl_set ?_ (by simp<;>omega) _|refine bl_then ?_ (by assumption))) hb2
      refine hK.out _ _ hB5 ?_
      clear hK K
      (try simp only [Act.put, List.setIfInBounds_toArray, List.set_cons_zero, List.set_cons_succ])
      replace hX_ := hB5
      (refine x_pure 5 (v := ?_) rfl (by kernel_rfl) (fun _ _ _ h => h) rfl ?_ hX_ ?_; rotate_left; (focus (intro w_ hS_; go_simp; (try (first | with_reducible rfl | (constructor <;> with_reducible rfl))); done)); (try simp only [Act.put, List.setIfInBounds_toArray, List.set_cons_zero, List.set_cons_succ]))
      refine x_exit (by kernel_rfl) ?_
      have hz : w.heap.size + 2 ≤ W0.heap.size := by have := HZ.out; omega
      clear hb2 hX_ c0
      generalize w2 = W5 at *
      generalize hT0 : W0.heap.size = T at *
      have hB5' := hB5
      rw [← hT0] at hB5
      obtain ⟨_, f0, f1, f2, f3, f4, f5⟩ := agg6 hT
      have hlT := bk_lt hT
      have HT := Lib.hid hT
      have HB5 := Lib.hid hB5
      clear hT hB5
      (refine p_only 7 rfl (by kernel_rfl) (fun K hK => ?_); go_simp; refine hK.out _ _ ?_; clear hK K; (try simp only [Act.put, List.setIfInBounds_toArray, List.set_cons_zero, List.set_cons_succ]))
      refine wpAny_done (by kernel_rfl) ?_ _
      have hP := Lib.hid (bk_put6 (a := .slice A1 f.v.length c1) (b := .int .i64 h) (c := .int .i64 1000) (d := .int .i64 1) (e := .int .i64 4000) (f := .slice none 0 0) HT.out)
      have hQ0 := Lib.hid (heap_put6 W5 T (.slice A1 f.v.length c1) (.int .i64 h) (.int .i64 1000) (.int .i64 1) (.int .i64 4000) (.slice none 0 0) w.heap.size (by omega))
      have hQ1 := Lib.hid (heap_put6 W5 T (.slice A1 f.v.length c1) (.int .i64 h) (.int .i64 1000) (.int .i64 1) (.int .i64 4000) (.slice none 0 0) (w.heap.size + 1) (by omega))
      have b5 := HB5.out
      have bw : Below w.heap.size w ((((((W5.setCell ⟨T, 0, none⟩ (.slice A1 f.v.length c1)).setCell ⟨T, 1, none⟩ (.int .i64 h)).setCell ⟨T, 2, none⟩ (.int .i64 1000)).setCell ⟨T, 3, none⟩ (.int .i64 1)).setCell ⟨T, 4, none⟩ (.int .i64 4000)).setCell ⟨T, 5, none⟩ (.slice none 0 0)) := by
        have := bl_then hB b5
        (repeat' with_reducible first|assumption|exact Below.refl _ _|apply bl_alloc|apply bl_drewN|apply bl_drew|refine bl_set ?_ (by simp<;>omega) _|refine bl_then ?_ (by assumption))
      have q0 := bk_below HB0.out b5
      have q1 := bk_below HB1.out b5
      rw [← hQ0.out] at q0
      rw [← hQ1.out] at q1
      have HQ := Lib.hid (And.intro q0 (And.intro q1 bw))
      clear q0 q1 bw b5
      go_wp2
      go_meet
      exact ⟨T, rfl, .slice none 0 0, HQ.out.2.2, by omega, by simp; omega, HQ.out.1, HQ.out.2.1, hP.out, World.ownsRow_nil _ _ _ _⟩
  case rest =>
    obtain ⟨T, rfl, hR⟩ := hcut
    have HR0 := Lib.hid hR
    clear hR
    go_wp2
    go_loopw [18] (fun i W => ∃ k : Nat, k ≤ l.length ∧ i = .int .i64 k ∧ WdR f (.slice A1 f.v.length c1) (.slice A2 f.seen.length c2) T w ((l.take k).foldl f.wdAt (f.wd0 h)) W) (fun i _ => l.length - (intOf i).toNat)
    case atStart => exact ⟨0, by omega, rfl, HR0.out⟩
    case round =>
      obtain ⟨k, hk, rfl, hR⟩ := hrel
      have hlen := wd_len f h l k hk
      have hov := wd_v f h l k hk
      have hsn : ∀ hk : k < l.length, (l.take (k + 1)).foldl f.wdAt (f.wd0 h) = f.wdAt ((l.take k).foldl f.wdAt (f.wd0 h)) l[k] := fun hk => wd_snoc f _ l hk
      generalize hO : (l.take k).foldl f.wdAt (f.wd0 h) = o at *
      have HSN := Lib.hid hsn
      have HO := Lib.hid hO
      have HLE := Lib.hid hlen
      have HOV := Lib.hid hov
      clear hsn hO hlen hov
      obtain ⟨sv', hB, hT2, hTl, hB0, hB1, hBT, hown⟩ := hR
      obtain ⟨A5, c5, rfl⟩ := own_sl hown
      have HOW := Lib.hid hown
      have HB0 := Lib.hid hB0
      have HB1 := Lib.hid hB1
      have HBT := Lib.hid hBT
      clear hown
      unfold flC at hB0 hBT
      by_cases hlt : k < l.length
      · obtain ⟨b, off, rfl, hcell⟩ := hr3 (by intro hh; simp [hh] at hlt)
        have d0 := cl_below hB (in_cell hcell hlt)
        have hkI : (k : Int) < (l.length : Int) := by omega
        have ewk : IntKind.i64.wrap ((k : Int) + 1) = (k : Int) + 1 := wrapI (by omega) (by omega)
        have hx := HSN.out hlt
        clear hcell
        generalize hxx : l[k] = x at *
        have HX := Lib.hid hx
        clear hx hxx
        obtain ⟨⟨y0, y1, y2, y3, y4, y5⟩, f0, f1, f2, f3, f4, f5⟩ := agg6 hBT
        obtain ⟨⟨x0, x1, x2, x3, x4, x5⟩, _⟩ := agg6 hB0
        by_cases h2 : x = -2
        · subst h2
          clear hB0 hBT
          go_wp2
          go_roundw
          case rel =>
            refine ⟨k + 1, by omega, by go_num, ?_⟩
            rw [HX.out, show f.wdAt o (-2) = { o with wl := f.wl, wh := f.wh } from rfl]
            exact ⟨_, by (repeat' with_reducible first|assumption|exact Below.refl _ _|apply bl_alloc|apply bl_drewN|apply bl_drew|refine bl_set ?_ (by simp<;>omega) _|refine bl_then ?_ (by assumption)), hT2, by simp; omega, bk_far (bk_far HB0.out (by simp; omega) _) (by simp; omega) _, bk_far (bk_far HB1.out (by simp; omega) _) (by simp; omega) _, bk_put1 (bk_put1 (cs' := #[.slice A1 f.v.length c1, .int .i64 o.lv, .int .i64 o.er, .int .i64 f.wl, .int .i64 o.wh, .slice A5 o.seen.length c5]) HBT.out 3 _ rfl) 4 _ rfl, own_set (own_set HOW.out (by simp) _) (by simp) _⟩
          case measure => simp [intOf]; omega
        have g2 : (x == -2) = false := by simpa using h2
        by_cases h1 : x = -1
        · subst h1
          clear hB0 hBT
          go_wp2
          go_roundw
          case rel =>
            refine ⟨k + 1, by omega, by go_num, ?_⟩
            rw [HX.out, show f.wdAt o (-1) = { o with lv := f.lv, er := f.er } from rfl]
            exact ⟨_, by (repeat' with_reducible first|assumption|exact Below.refl _ _|apply bl_alloc|apply bl_drewN|apply bl_drew|refine bl_set ?_ (by simp<;>omega) _|refine bl_then ?_ (by assumption)), hT2, by simp; omega, bk_far (bk_far HB0.out (by simp; omega) _) (by simp; omega) _, bk_far (bk_far HB1.out (by simp; omega) _) (by simp; omega) _, bk_put1 (bk_put1 (cs' := #[.slice A1 f.v.length c1, .int .i64 f.lv, .int .i64 o.er, .int .i64 o.wl, .int .i64 o.wh, .slice A5 o.seen.length c5]) HBT.out 1 _ rfl) 2 _ rfl, own_set (own_set HOW.out (by simp) _) (by simp) _⟩
          case measure => simp [intOf]; omega
        have g1 : (x == -1) = false := by simpa using h1
        by_cases h0 : 0 ≤ x
        · by_cases h3 : x < f.seen.length
          · obtain ⟨n, rfl⟩ : ∃ n : Nat, x = n := ⟨x.toNat, by omega⟩
            have hnl : n < f.seen.length := by omega
            have g0 : decide (0 ≤ (n : Int)) = true := by simp
            have g3 : decide ((n : Int) < (f.seen.length : Int)) = true := by simp; omega
            obtain ⟨A, c, e, _, _, hr2⟩ := HSE.out
            cases e
            obtain ⟨b2, off2, rfl, hcell2⟩ := hr2 (by intro hh; simp [hh] at hnl)
            obtain ⟨s0', s1', s2', s3'⟩ := sn_cells hcell2 hnl
            have s0 := cl_below hB s0'
            have s1 := cl_below hB s1'
            have s2 := cl_below hB s2'
            have s3 := cl_below hB s3'
            clear s0' s1' s2' s3' hcell2 hr2 hB0 hBT y0 y1 y2 y3 y4 f0 f1 f2 f3 f4 f5 x0 x1 x2 x3 x4
            go_wp2
            ((refine p_start (by kernel_rfl) ?_); (refine x_enter 8 (fun hX_ => ?_)); (refine x_pure 0 (v := ?_) rfl (by kernel_rfl) (fun _ _ _ h => h) rfl ?_ hX_ ?_; rotate_left; (focus (intro w_ hS_; have y5 := cl_below hS_ y5; have x5 := cl_below hS_ x5; have s0 := cl_below hS_ s0; have s1 := cl_below hS_ s1; have s2 := cl_below hS_ s2; have s3 := cl_below hS_ s3; go_simp; (try (first | with_reducible rfl | (constructor <;> with_reducible rfl))); done)); (try simp only [Act.put, List.setIfInBounds_toArray, List.set_cons_zero, List.set_cons_succ])); (refine x_pure 1 (v := ?_) rfl (by kernel_rfl) (fun _ _ _ h => h) rfl ?_ hX_ ?_; rotate_left; (focus (intro w_ hS_; have y5 := cl_below hS_ y5; have x5 := cl_below hS_ x5; have s0 := cl_below hS_ s0; have s1 := cl_below hS_ s1; have s2 := cl_below hS_ s2; have s3 := cl_below hS_ s3; go_simp; (try (first | with_reducible rfl | (constructor <;> with_reducible rfl))); done)); (try simp only [Act.put, List.setIfInBounds_toArray, List.set_cons_zero, List.set_cons_succ])); (refine x_t 7 hX_ ?_); (first | (refine t_pure 2 (v := ?_) rfl (by kernel_rfl) (fun _ _ _ h => h) rfl ?_ ?_; rotate_left; (focus (intro w_ hS_; have y5 := cl_below hS_ y5; have x5 := cl_below hS_ x5; have s0 := cl_below hS_ s0; have s1 := cl_below hS_ s1; have s2 := cl_below hS_ s2; have s3 := cl_below hS_ s3; go_simp; (try (first | with_reducible rfl | (constructor <;> with_reducible rfl))); done)); (try simp only [Act.put, List.setIfInBounds_toArray, List.set_cons_zero, List.set_cons_succ])) | (refine t_call 2 (v := ?_) rfl (by kernel_rfl) (fun _ _ _ h => h) rfl ?_ ?_ ?_ ?_ ?_; rotate_left 3; (focus (intro w_ hS_; have y5 := cl_below hS_ y5; have x5 := cl_below hS_ x5; have s0 := cl_below hS_ s0; have s1 := cl_below hS_ s1; have s2 := cl_below hS_ s2; have s3 := cl_below hS_ s3; go_simp; (try (first | with_reducible rfl | (constructor <;> with_reducible rfl))); done)); (focus (intro w_ hS_; have y5 := cl_below hS_ y5; have x5 := cl_below hS_ x5; have s0 := cl_below hS_ s0; have s1 := cl_below hS_ s1; have s2 := cl_below hS_ s2; have s3 := cl_below hS_ s3; fail; refine And.intro ?_ ?_; (focus (with_reducible rfl)); (first | exact bl_then hS_ (by assumption) | assumption))); (try simp only [Act.put, List.setIfInBounds_toArray, List.set_cons_zero, List.set_cons_succ])) | (refine t_skip 2 rfl (by kernel_rfl) (fun _ _ _ h => h) rfl ?_; (try simp only [Act.put, List.setIfInBounds_toArray, List.set_cons_zero, List.set_cons_succ]))); (first | (refine t_pure 3 (v := ?_) rfl (by kernel_rfl) (fun _ _ _ h => h) rfl ?_ ?_; rotate_left; (focus (intro w_ hS_; have y5 := cl_below hS_ y5; have x5 := cl_below hS_ x5; have s0 := cl_below hS_ s0; have s1 := cl_below hS_ s1; have s2 := cl_below hS_ s2; have s3 := cl_below hS_ s3; go_simp; (try (first | with_reducible rfl | (constructor <;> with_reducible rfl))); done)); (try simp only [Act.put, List.setIfInBounds_toArray, List.set_cons_zero, List.set_cons_succ])) | (refine t_call 3 (v := ?_) rfl (by kernel_rfl) (fun _ _ _ h => h) rfl ?_ ?_ ?_ ?_ ?_; rotate_left 3; (focus (intro w_ hS_; have y5 := cl_below hS_ y5; have x5 := cl_below hS_ x5; have s0 := cl_below hS_ s0; have s1 := cl_below hS_ s1; have s2 := cl_below hS_ s2; have s3 := cl_below hS_ s3; go_simp; (try (first | with_reducible rfl | (constructor <;> with_reducible rfl))); done)); (focus (intro w_ hS_; have y5 := cl_below hS_ y5; have x5 := cl_below hS_ x5; have s0 := cl_below hS_ s0; have s1 := cl_below hS_ s1; have s2 := cl_below hS_ s2; have s3 := cl_below hS_ s3; fail; refine And.intro ?_ ?_; (focus (with_reducible rfl)); (first | exact bl_then hS_ (by assumption) | assumption))); (try simp only [Act.put, List.setIfInBounds_toArray, List.set_cons_zero, List.set_cons_succ])) | (refine t_skip 3 rfl (by kernel_rfl) (fun _ _ _ h => h) rfl ?_; (try simp only [Act.put, List.setIfInBounds_toArray, List.set_cons_zero, List.set_cons_succ]))); (first | (refine t_pure 4 (v := ?_) rfl (by kernel_rfl) (fun _ _ _ h => h) rfl ?_ ?_; rotate_left; (focus (intro w_ hS_; have y5 := cl_below hS_ y5; have x5 := cl_below hS_ x5; have s0 := cl_below hS_ s0; have s1 := cl_below hS_ s1; have s2 := cl_below hS_ s2; have s3 := cl_below hS_ s3; go_simp; (try (first | with_reducible rfl | (constructor <;> with_reducible rfl))); done)); (try simp only [Act.put, List.setIfInBounds_toArray, List.set_cons_zero, List.set_cons_succ])) | (refine t_call 4 (v := ?_) rfl (by kernel_rfl) (fun _ _ _ h => h) rfl ?_ ?_ ?_ ?_ ?_; rotate_left 3; (focus (intro w_ hS_; have y5 := cl_below hS_ y5; have x5 := cl_below hS_ x5; have s0 := cl_below hS_ s0; have s1 := cl_below hS_ s1; have s2 := cl_below hS_ s2; have s3 := cl_below hS_ s3; go_simp; (try (first | with_reducible rfl | (constructor <;> with_reducible rfl))); done)); (focus (intro w_ hS_; have y5 := cl_below hS_ y5; have x5 := cl_below hS_ x5; have s0 := cl_below hS_ s0; have s1 := cl_below hS_ s1; have s2 := cl_below hS_ s2; have s3 := cl_below hS_ s3; fail; refine And.intro ?_ ?_; (focus (with_reducible rfl)); (first | exact bl_then hS_ (by assumption) | assumption))); (try simp only [Act.put, List.setIfInBounds_toArray, List.set_cons_zero, List.set_cons_succ])) | (refine t_skip 4 rfl (by kernel_rfl) (fun _ _ _ h => h) rfl ?_; (try simp only [Act.put, List.setIfInBounds_toArray, List.set_cons_zero, List.set_cons_succ]))); (first | (refine t_pure 5 (v := ?_) rfl (by kernel_rfl) (fun _ _ _ h => h) rfl ?_ ?_; rotate_left; (focus (intro w_ hS_; have y5 := cl_below hS_ y5; have x5 := cl_below hS_ x5; have s0 := cl_below hS_ s0; have s1 := cl_below hS_ s1; have s2 := cl_below hS_ s2; have s3 := cl_below hS_ s3; go_simp; (try (first | with_reducible rfl | (constructor <;> with_reducible rfl))); done)); (try simp only [Act.put, List.setIfInBounds_toArray, List.set_cons_zero, List.set_cons_succ])) | (refine t_call 5 (v := ?_) rfl (by kernel_rfl) (fun _ _ _ h => h) rfl ?_ ?_ ?_ ?_ ?_; rotate_left 3; (focus (intro w_ hS_; have y5 := cl_below hS_ y5; have x5 := cl_below hS_ x5; have s0 := cl_below hS_ s0; have s1 := cl_below hS_ s1; have s2 := cl_below hS_ s2; have s3 := cl_below hS_ s3; go_simp; (try (first | with_reducible rfl | (constructor <;> with_reducible rfl))); done)); (focus (intro w_ hS_; have y5 := cl_below hS_ y5; have x5 := cl_below hS_ x5; have s0 := cl_below hS_ s0; have s1 := cl_below hS_ s1; have s2 := cl_below hS_ s2; have s3 := cl_below hS_ s3; fail; refine And.intro ?_ ?_; (focus (with_reducible rfl)); (first | exact bl_then hS_ (by assumption) | assumption))); (try simp only [Act.put, List.setIfInBounds_toArray, List.set_cons_zero, List.set_cons_succ])) | (refine t_skip 5 rfl (by kernel_rfl) (fun _ _ _ h => h) rfl ?_; (try simp only [Act.put, List.setIfInBounds_toArray, List.set_cons_zero, List.set_cons_succ]))); (first | (refine t_pure 6 (v := ?_) rfl (by kernel_rfl) (fun _ _ _ h => h) rfl ?_ ?_; rotate_left; (focus (intro w_ hS_; have y5 := cl_below hS_ y5; have x5 := cl_below hS_ x5; have s0 := cl_below hS_ s0; have s1 := cl_below hS_ s1; have s2 := cl_below hS_ s2; have s3 := cl_below hS_ s3; go_simp; (try (first | with_reducible rfl | (constructor <;> with_reducible rfl))); done)); (try simp only [Act.put, List.setIfInBounds_toArray, List.set_cons_zero, List.set_cons_succ])) | (refine t_call 6 (v := ?_) rfl (by kernel_rfl) (fun _ _ _ h => h) rfl ?_ ?_ ?_ ?_ ?_; rotate_left 3; (focus (intro w_ hS_; have y5 := cl_below hS_ y5; have x5 := cl_below hS_ x5; have s0 := cl_below hS_ s0; have s1 := cl_below hS_ s1; have s2 := cl_below hS_ s2; have s3 := cl_below hS_ s3; go_simp; (try (first | with_reducible rfl | (constructor <;> with_reducible rfl))); done)); (focus (intro w_ hS_; have y5 := cl_below hS_ y5; have x5 := cl_below hS_ x5; have s0 := cl_below hS_ s0; have s1 := cl_below hS_ s1; have s2 := cl_below hS_ s2; have s3 := cl_below hS_ s3; fail; refine And.intro ?_ ?_; (focus (with_reducible rfl)); (first | exact bl_then hS_ (by assumption) | assumption))); (try simp only [Act.put, List.setIfInBounds_toArray, List.set_cons_zero, List.set_cons_succ])) | (refine t_skip 6 rfl (by kernel_rfl) (fun _ _ _ h => h) rfl ?_; (try simp only [Act.put, List.setIfInBounds_toArray, List.set_cons_zero, List.set_cons_succ]))); (refine t_exitX (by kernel_rfl) (fun W_ hS_ => ?_)); (refine x_only 7 rfl (by kernel_rfl) rfl (fun K hK => ?_); go_simp; refine hK.out _ _ (bl_alloc hS_ _) ?_; clear hK K; (try simp only [Act.put, List.setIfInBounds_toArray, List.set_cons_zero, List.set_cons_succ])); (refine x_exit (by kernel_rfl) ?_))
            refine p_only 8 rfl (by kernel_rfl) (fun K hK => ?_)
            refine step_app_own snC_len (by decide) snC_one rfl (.tmp 45) (.tmp 51) 28 rfl 111 _ 32 Tryz.underlying28 snZ rfl (T + 1) _ _ o.seen [f.seen[n]] rfl rfl (own_bel HOW.out (bl_alloc hS_ _)) _ rfl (Sl.new1 snC_len _ _ _ _ rfl) (by have h1 := hS_.size; simp; omega) (by have := HLE.out; simp; omega) (by have := HLE.out; simp; omega) ?_
            intro v4 W4 hv4 hg4 hat4
            refine hK.out _ _ ?_
            clear hK K
            (try simp only [Act.put, List.setIfInBounds_toArray, List.set_cons_zero, List.set_cons_succ])
            obtain ⟨A4, k4, rfl⟩ := own_sl hv4
            have z0 := bk_grown (bk_alloc (bk_below HB0.out hS_) (.cells #[.int .i64 f.seen[n].lo, .int .i64 f.seen[n].hi, .int .i64 f.seen[n].lv, .int .i64 f.seen[n].er] 111)) hg4 (fun e => by have := (HOW.out.lt _ e.symm).1; omega)
            have z1 := bk_grown (bk_alloc (bk_below HB1.out hS_) (.cells #[.int .i64 f.seen[n].lo, .int .i64 f.seen[n].hi, .int .i64 f.seen[n].lv, .int .i64 f.seen[n].er] 111)) hg4 (fun e => by have := (HOW.out.lt _ e.symm).1; omega)
            have zT := bk_grown (bk_alloc (bk_below HBT.out hS_) (.cells #[.int .i64 f.seen[n].lo, .int .i64 f.seen[n].hi, .int .i64 f.seen[n].lv, .int .i64 f.seen[n].er] 111)) hg4 (fun e => by have := (HOW.out.lt _ e.symm).1; omega)
            have hB4 : Below w.heap.size w W4 := (bl_alloc (bl_then hB hS_) (.cells #[.int .i64 f.seen[n].lo, .int .i64 f.seen[n].hi, .int .i64 f.seen[n].lv, .int .i64 f.seen[n].er] 111)).grown hg4 (by have := hS_.size; have := hB.size; simp; omega) (fun z hz => by have := (HOW.out.lt z hz).1; omega)
            have hsz4 : wr.heap.size ≤ W4.heap.size := by have h1 := hS_.size; have h2 := hg4.size; simp at h2; omega
            have Z0 := Lib.hid z0
            have Z1 := Lib.hid z1
            have ZT := Lib.hid zT
            have HV4 := Lib.hid hv4
            unfold flC at zT
            obtain ⟨_, f0, f1, f2, f3, f4, f5⟩ := agg6 zT
            have hl4 := bk_lt zT
            clear z0 z1 zT hg4 hat4 hv4 hS_ y5 x5 s0 s1 s2 s3
            (refine p_only 9 rfl (by kernel_rfl) (fun K hK => ?_); go_simp; refine hK.out _ _ ?_; clear hK K; (try simp only [Act.put, List.setIfInBounds_toArray, List.set_cons_zero, List.set_cons_succ]))
            (refine p_only 10 rfl (by kernel_rfl) (fun K hK => ?_); go_simp; refine hK.out _ _ ?_; clear hK K; (try simp only [Act.put, List.setIfInBounds_toArray, List.set_cons_zero, List.set_cons_succ]))
            refine wpAny_done (by kernel_rfl) ?_ _
            go_wp2
            go_roundw
            case rel =>
              refine ⟨k + 1, by omega, by go_num, ?_⟩
              rw [HX.out, wdAt_seen hnl]
              exact ⟨_, by (repeat' with_reducible first|assumption|exact Below.refl _ _|apply bl_alloc|apply bl_drewN|apply bl_drew|refine bl_set ?_ (by simp<;>omega) _|refine bl_then ?_ (by assumption)), hT2, by simp; omega, bk_far Z0.out (by simp; omega) _, bk_far Z1.out (by simp; omega) _, bk_put1 (cs' := #[.slice A1 f.v.length c1, .int .i64 o.lv, .int .i64 o.er, .int .i64 o.wl, .int .i64 o.wh, .slice A4 (o.seen.length + 1) k4]) ZT.out 5 _ rfl, by have := own_set HV4.out (p := ⟨T, 5, none⟩) (by simp) (.slice A4 (o.seen.length + 1) k4); simpa using this⟩
            case measure => simp [intOf]; omega
          · have g0 : decide (0 ≤ x) = true := by simpa using h0
            have g3 : decide (x < (f.seen.length : Int)) = false := by simpa using h3
            clear hB0 hBT y0 y1 y2 y3 y4 y5 f0 f1 f2 f3 f4 f5 x0 x1 x2 x3 x4
            go_wp2
            go_roundw
            case rel => exact ⟨k + 1, by omega, by go_num, by rw [HX.out, wdAt_none h2 h1 (by omega)]; exact ⟨_, hB, hT2, hTl, HB0.out, HB1.out, HBT.out, HOW.out⟩⟩
            case measure => simp [intOf]; omega
        · have g0 : decide (0 ≤ x) = false := by simpa using h0
          clear hB0 hBT y0 y1 y2 y3 y4 y5 f0 f1 f2 f3 f4 f5 x0 x1 x2 x3 x4
          go_wp2
          go_roundw
          case rel => exact ⟨k + 1, by omega, by go_num, by rw [HX.out, wdAt_none h2 h1 (by omega)]; exact ⟨_, hB, hT2, hTl, HB0.out, HB1.out, HBT.out, HOW.out⟩⟩
          case measure => simp [intOf]; omega
      · obtain rfl : k = l.length := by omega
        have e : f.wd h l = o := by have := HO.out; rw [List.take_of_length_le (Nat.le_refl _)] at this; exact this
        have HE := Lib.hid e
        obtain ⟨⟨y0, y1, y2, y3, y4, y5⟩, _⟩ := agg6 hBT
        unfold flZ at hB1
        obtain ⟨_, f0, f1, f2, f3, f4, f5⟩ := agg6 hB1
        have hl1 := bk_lt hB1
        clear e hB0 hB1 hBT
        go_wp2
        refine bodyPost_ret (v := .agg #[.slice A1 f.v.length c1, .int .i64 o.lv, .int .i64 o.er, .int .i64 o.wl, .int .i64 o.wh, .slice A5 o.seen.length c5]) (res_one rfl (.cell (w.heap.size + 1) 30 _ (0, 0) _ rfl (bk_put6 HB1.out) Tryz.underlying30 rfl (by kernel_rfl) .nil)) rfl ?_
        have hW : Below w.heap.size w ((((((wr.setCell ⟨w.heap.size + 1, 0, none⟩ (.slice A1 f.v.length c1)).setCell ⟨w.heap.size + 1, 1, none⟩ (.int .i64 o.lv)).setCell ⟨w.heap.size + 1, 2, none⟩ (.int .i64 o.er)).setCell ⟨w.heap.size + 1, 3, none⟩ (.int .i64 o.wl)).setCell ⟨w.heap.size + 1, 4, none⟩ (.int .i64 o.wh)).setCell ⟨w.heap.size + 1, 5, none⟩ (.slice A5 o.seen.length c5)) := by (repeat' with_reducible first|assumption|exact Below.refl _ _|apply bl_alloc|apply bl_drewN|apply bl_drew|refine bl_set ?_ (by simp<;>omega) _|refine bl_then ?_ (by assumption))
        refine ⟨_, rfl, ?_, hW⟩
        rw [HE.out]
        exact ⟨.slice A1 f.v.length c1, .slice A5 o.seen.length c5, rfl, by rw [HOV.out]; exact HV.out.below hW, Sl.of_own snC_len (by decide) (own_set (own_set (own_set (own_set (own_set (own_set HOW.out (by simp; omega) _) (by simp; omega) _) (by simp; omega) _) (by simp; omega) _) (by simp; omega) _) (by simp; omega) _)⟩
end Go.Proofs.YtjpagpplkldbkaaGreat
