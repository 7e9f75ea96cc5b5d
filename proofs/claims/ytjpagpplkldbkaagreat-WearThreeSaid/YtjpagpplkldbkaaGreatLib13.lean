/- The region of some items. -/
import Derived.Test.YtjpagpplkldbkaaGreatLib12
set_option linter.unusedVariables false
set_option linter.unusedSimpArgs false
namespace Go.Proofs.YtjpagpplkldbkaaGreat
open Go.RowKit WH
theorem reg_snoc (f : Fl) (items : List Int) (k : Nat) (hk : k < items.length) : f.reg (items.take (k + 1)) = f.regAt (f.reg (items.take k)) items[k] := by
  unfold Fl.reg; rw [List.take_succ_eq_append_getElem hk, List.foldl_append]; rfl
def rgI (w : World) (f : Fl) (Rb : Nat) (r : Rg) (W : World) : Prop := ∃ va vb, RgM W Rb r va vb ∧ Below w.heap.size w W ∧ W.heap[w.heap.size]? = some (.cells rgZ 123 (0, 0))
theorem rgI_start {f : Fl} {w w3 : World} {Rb na : Nat} (hB : Below w.heap.size w w3) (hres : w3.heap[w.heap.size]? = some (.cells rgZ 123 (0, 0))) (hRb : w.heap.size < Rb)
    (hx : w3.heap[Rb]? = some (.cells (rgC { f.reg0 with below := [] } (.slice (some ⟨na, 0, none⟩) 1 1) (.slice none 0 0)) 123 (0, 0))) (ha : w3.ownsRow (Rb + 1) 164 4 (.slice (some ⟨na, 0, none⟩) 1 1) 1 (flat lnC [⟨0, ⟨0, 1⟩, false⟩])) :
    rgI w f Rb f.reg0 ((w3.setCell ⟨Rb, 7, none⟩ (.slice (some ⟨w3.heap.size, 0, none⟩) 1 1)).alloc (.cells #[.int .i64 0, .int .i64 (f.T f.H).n, .int .i64 (f.T f.H).d, .bool false] 164)) := by
  have hlt := bk_lt hx
  have hna := (ha.lt na rfl).2
  have hx1 := bk_put1 (cs' := rgC f.reg0 (.slice (some ⟨na, 0, none⟩) 1 1) (.slice (some ⟨w3.heap.size, 0, none⟩) 1 1)) hx 7 (.slice (some ⟨w3.heap.size, 0, none⟩) 1 1) (by simp [rgC])
  have hsz : (w3.setCell ⟨Rb, 7, none⟩ (.slice (some ⟨w3.heap.size, 0, none⟩) 1 1)).heap.size = w3.heap.size := by simp
  refine ⟨_, _, ⟨bk_alloc hx1 _, ?_, ?_, ?_⟩, Below.alloc (hB.setCell (by show w.heap.size ≤ Rb; omega) _) (by rw [hsz]; omega) _, bk_alloc (bk_far hres (by show w.heap.size ≠ Rb; omega) _) _⟩
  · exact (own_set ha (p := ⟨Rb, 7, none⟩) (by show Rb < Rb + 1; omega) _).alloc _
  · have h := World.ownsRow_lit (base := Rb + 1) (e := 164) (size := 4) (w3.setCell ⟨Rb, 7, none⟩ (.slice (some ⟨w3.heap.size, 0, none⟩) 1 1)) #[.int .i64 0, .int .i64 (f.T f.H).n, .int .i64 (f.T f.H).d, .bool false] 1 (by rw [hsz]; omega) (by decide) rfl
    rw [hsz] at h
    exact h
  · intro x hx2 hx3
    have e1 : na = x := by simpa [Value.ownBlock] using hx2
    have e2 : w3.heap.size = x := by simpa [Value.ownBlock] using hx3
    omega
theorem at_len (f : Fl) (r : Rg) (k : Int) : (f.regAt r k).above.length ≤ r.above.length + 1 ∧ (f.regAt r k).below.length ≤ r.below.length + 1 := by
  unfold Fl.regAt
  split
  · rw [(most_rest _ _).2.1, (least_rest _ _).2.1, (most_rest _ _).2.2.1, (least_rest _ _).2.2.1]; omega
  · split
    · simp
    · split
      · omega
      · simp; split <;> simp
theorem reg_len (f : Fl) (l : List Int) : (f.reg l).above.length ≤ l.length + 1 ∧ (f.reg l).below.length ≤ l.length + 1 := by
  have key : ∀ (l : List Int) (r : Rg), (l.foldl f.regAt r).above.length ≤ l.length + r.above.length ∧ (l.foldl f.regAt r).below.length ≤ l.length + r.below.length := by
    intro l
    induction l with
    | nil => intro r; simp
    | cons k l ih =>
      intro r
      have h1 := ih (f.regAt r k)
      have h2 := at_len f r k
      simp only [List.foldl_cons, List.length_cons]
      omega
  exact key l f.reg0
theorem own_put9 {w : World} {base n g : Nat} {e : TypeId} {size : Nat} {v : Value} {xs : List Value} {a b c d e' f' v' x y : Value} (h : w.ownsRow base e size v n xs) (hg : g < base) :
    (((((((((w.setCell ⟨g, 0, none⟩ a).setCell ⟨g, 1, none⟩ b).setCell ⟨g, 2, none⟩ c).setCell ⟨g, 3, none⟩ d).setCell ⟨g, 4, none⟩ e').setCell ⟨g, 5, none⟩ f').setCell ⟨g, 6, none⟩ v').setCell ⟨g, 7, none⟩ x).setCell ⟨g, 8, none⟩ y).ownsRow base e size v n xs :=
  own_set (own_set (own_set (own_set (own_set (own_set (own_set (own_set (own_set h (p := ⟨g, 0, none⟩) hg _) (p := ⟨g, 1, none⟩) hg _) (p := ⟨g, 2, none⟩) hg _) (p := ⟨g, 3, none⟩) hg _) (p := ⟨g, 4, none⟩) hg _) (p := ⟨g, 5, none⟩) hg _) (p := ⟨g, 6, none⟩) hg _) (p := ⟨g, 7, none⟩) hg _) (p := ⟨g, 8, none⟩) hg _
theorem bl_put9 {w w1 : World} {a b c d e' f' v' x y : Value} (h : Below w.heap.size w w1) :
    Below w.heap.size w (((((((((w1.setCell ⟨w.heap.size, 0, none⟩ a).setCell ⟨w.heap.size, 1, none⟩ b).setCell ⟨w.heap.size, 2, none⟩ c).setCell ⟨w.heap.size, 3, none⟩ d).setCell ⟨w.heap.size, 4, none⟩ e').setCell ⟨w.heap.size, 5, none⟩ f').setCell ⟨w.heap.size, 6, none⟩ v').setCell ⟨w.heap.size, 7, none⟩ x).setCell ⟨w.heap.size, 8, none⟩ y) := by (repeat' with_reducible first|assumption|exact Below.refl _ _|apply bl_alloc|apply bl_drewN|apply bl_drew|refine bl_set ?_ (by simp<;>omega) _|refine bl_then ?_ (by assumption))
theorem time_agg (g : Nat) (f : Fl) (x : Int) (w : World) (hs : St w g f) (hv : vErr f.v = 0) (h0 : 0 ≤ x) (h1 : x ≤ f.H) :
    Calls Tryz.prog 103 #[.pointer (some ⟨g, 0, none⟩), .int .i64 x] w fun e w' => e = .returned (.agg #[.int .i64 (f.T x).n, .int .i64 (f.T x).d]) ∧ Below w.heap.size w w' := time_any g f x w hs hv h0 h1
set_option maxRecDepth 100000 in
set_option maxHeartbeats 1000000 in
theorem region_any (g : Nat) (f : Fl) (v : Value) (items : List Int) (w : World) (hs : St w g f) (hf : f.good) (hv : Sl inC 1 w v items) (hn : items.length ≤ 100) (hit : ∀ k ∈ items, -2 ≤ k ∧ k < f.seen.length) :
    Calls Tryz.prog 119 #[.pointer (some ⟨g, 0, none⟩), v] w fun e w' => ∃ va vb, e = .returned (.agg (rgC (f.reg items) va vb)) ∧ Sl lnC 4 w' va (f.reg items).above ∧ Sl lnC 4 w' vb (f.reg items).below ∧ Below w.heap.size w w' := by
  obtain ⟨A, c, rfl, hl, hc, hcs⟩ := id hv
  obtain ⟨vv, sv, tv, hst, hs1, hs2, hs3⟩ := id hs
  have hg := bk_lt hst
  have HS := Lib.hid hs
  have HST := Lib.hid hst
  have HSN := Lib.hid hs2
  have HF := Lib.hid hf
  have HIT := Lib.hid hit
  obtain ⟨⟨c0, c1, c2, c3, c4, c5⟩, c7⟩ : (w.cell? ⟨g, 0, none⟩ = some vv ∧ w.cell? ⟨g, 1, none⟩ = some (.int .i64 f.lv) ∧ w.cell? ⟨g, 2, none⟩ = some (.int .i64 f.er) ∧ w.cell? ⟨g, 3, none⟩ = some (.int .i64 f.wl) ∧ w.cell? ⟨g, 4, none⟩ = some (.int .i64 f.wh) ∧ w.cell? ⟨g, 5, none⟩ = some sv) ∧ w.cell? ⟨g, 7, none⟩ = some (.int .i64 f.H) :=
    ⟨⟨bk_cell hst 0, bk_cell hst 1, bk_cell hst 2, bk_cell hst 3, bk_cell hst 4, bk_cell hst 5⟩, bk_cell hst 7⟩
  have hH := H_bd hf.v
  have hlen : items.length ≤ 9223372036854775807 := by omega
  clear hst hs1 hs2 hs3 hs hf hv hit
  go_enter Tryz.func119, Tryz.ntmps119
  go_wp2_with fail
  refine (ratio_any _ _ _).mono ?_
  rintro e1 w1 ⟨rfl, hb1⟩
  go_wp2_with fail
  refine (ratio_any _ _ _).mono ?_
  rintro e2 w2 ⟨rfl, hb2⟩
  have hB2 : Below w.heap.size w w2 := by (repeat' with_reducible first|assumption|exact Below.refl _ _|apply bl_alloc|apply bl_drewN|apply bl_drew|refine bl_set ?_ (by simp<;>omega) _|refine bl_then ?_ (by assumption))
  have d7 := cl_below hB2 c7
  have hlt2 : w.heap.size < w2.heap.size := bk_lt (bk_below (bk_below (bk_new w (.cells rgZ 123)) hb1) hb2)
  have hres2 := bk_below (bk_below (bk_new w (.cells rgZ 123)) hb1) hb2
  have HR2 := Lib.hid hres2
  have hg2 : g < w2.heap.size := by omega
  clear hres2
  go_wp2_with fail
  refine (time_any g f _ _ (HS.out.below (by (repeat' with_reducible first|assumption|exact Below.refl _ _|apply bl_alloc|apply bl_drewN|apply bl_drew|refine bl_set ?_ (by simp<;>omega) _|refine bl_then ?_ (by assumption)))) HF.out.v (by omega) (by omega)).mono ?_
  rintro e3 w3 ⟨rfl, hb3⟩
  unfold raV
  have hx3 := bk_below (bk_alloc (bk_new w2 (.cells #[.int .i64 1, .int .i64 4, .bool false, .int .i64 1000, .int .i64 1, .bool false, .slice (some ⟨w2.heap.size + 1, 0, none⟩) 1 1, .slice none 0 0, .bool false] 123)) (.cells #[.int .i64 0, .int .i64 0, .int .i64 1, .bool false] 164)) hb3
  have ha3 := own_bel (World.ownsRow_lit (base := w2.heap.size + 1) (e := 164) (size := 4) (w2.alloc (.cells #[.int .i64 1, .int .i64 4, .bool false, .int .i64 1000, .int .i64 1, .bool false, .slice (some ⟨w2.heap.size + 1, 0, none⟩) 1 1, .slice none 0 0, .bool false] 123)) #[.int .i64 0, .int .i64 0, .int .i64 1, .bool false] 1 (by simp) (by decide) rfl) hb3
  rw [World.size_alloc] at ha3
  have hB3 : Below w.heap.size w w3 := by (repeat' with_reducible first|assumption|exact Below.refl _ _|apply bl_alloc|apply bl_drewN|apply bl_drew|refine bl_set ?_ (by simp<;>omega) _|refine bl_then ?_ (by assumption))
  obtain ⟨⟨x0, x1, x2, x3, x4, x5, x6, x7, x8⟩, y0, y1, y2, y3, y4, y5, y6, y7, y8⟩ := agg9 hx3
  have hltR := bk_lt hx3
  have HST3 : Hid (rgI w f w2.heap.size f.reg0 _) := Lib.hid (rgI_start hB3 (bk_below (bk_alloc (bk_alloc HR2.out _) _) hb3) hlt2 hx3 ha3)
  clear hx3 ha3 hb3 HR2 hB3 d7 c0 c1 c2 c3 c4 c5 c7
  go_wp2_with fail
  go_loopw [32] (fun i W => ∃ j : Nat, j ≤ items.length ∧ i = .int .i64 j ∧ rgI w f w2.heap.size (f.reg (items.take j)) W) (fun i _ => items.length - (intOf i).toNat)
  case atStart => exact ⟨0, by omega, rfl, HST3.out⟩
  case round =>
    obtain ⟨j, hj, rfl, va, vb, hM, hB, hres⟩ := hrel
    have hlt0 := bk_lt hM.blk
    have hgw : g < wr.heap.size := by omega
    have hgR : g ≠ w2.heap.size := by omega
    have htd := (reg_spec HF.out (items.take j)).1
    have hrl := reg_len f (items.take j)
    rw [List.length_take] at hrl
    generalize hreg : f.reg (items.take j) = r at hM htd hrl
    have HRg := Lib.hid hreg
    clear hreg
    have hn1 : r.above.length ≤ 101 := by omega
    have hn2 : r.below.length ≤ 101 := by omega
    clear hrl
    have HTD := Lib.hid htd
    clear htd
    have HRES := Lib.hid hres
    have HM := Lib.hid hM
    clear hres hM
    by_cases hlt : j < items.length
    · obtain ⟨b, off, rfl, hcell⟩ := hcs (by intro h; simp [h] at hlt)
      have q0 := cl_below hB (in_cell hcell hlt)
      have hxr := HIT.out _ (List.getElem_mem hlt)
      have hsn := reg_snoc f items j hlt
      rw [HRg.out] at hsn
      generalize hx : items[j] = x at q0 hxr hsn
      have HSNOC := Lib.hid hsn
      have HLT := Lib.hid hlt
      clear hx hsn hcell hcs hlt
      have hkg := bk_below HST.out hB
      have c1 := bk_cell hkg 1
      have c2 := bk_cell hkg 2
      have c3 := bk_cell hkg 3
      have c4 := bk_cell hkg 4
      have c5 := bk_cell hkg 5
      simp [stC] at c1 c2 c3 c4 c5
      clear hkg
      have hjl : (j : Int) < (items.length : Int) := by have := HLT.out; omega
      by_cases x2 : x = -2
      · subst x2
        obtain ⟨v1, v2, v3⟩ := within_bd HF.out.wear
        go_wp2_with fail
        refine (ratio_any _ _ _).mono ?_
        rintro e5 W1 ⟨rfl, hb1⟩
        have hM1 := HM.out.below hb1
        have hB1 : Below w.heap.size w W1 := by (repeat' with_reducible first|assumption|exact Below.refl _ _|apply bl_alloc|apply bl_drewN|apply bl_drew|refine bl_set ?_ (by simp<;>omega) _|refine bl_then ?_ (by assumption))
        have HB1 := Lib.hid hB1
        have HRES1 := Lib.hid (bk_below HRES.out hb1)
        clear hb1
        go_wp2_with fail
        refine (least_any w2.heap.size r ⟨⟨1000, f.wh⟩, false⟩ va vb _ hM1.blk (wear_fit (by omega) v3).ok HTD.out.lo.ok).mono ?_
        rintro e6 W2 ⟨rfl, hk2, hg2⟩
        have hM2 := hM1.row hk2 hg2 (least_rest _ _).2.1 (least_rest _ _).2.2.1
        have hB2 : Below w.heap.size w W2 := HB1.out.grown hg2 HB1.out.size (fun k hk => by cases hk; omega)
        have hkg := bk_below HST.out hB2
        clear c1 c2 c3 c4 c5 hM1 hk2 q0 hB
        have c3 := bk_cell hkg 3
        simp [stC] at c3
        have HM2 := Lib.hid hM2
        have HB2 := Lib.hid hB2
        have hlt2' := bk_lt hM2.blk
        have HRES2 := Lib.hid (bk_grown HRES1.out hg2 (fun e => by have := Option.some.inj e; omega))
        clear hkg hM2 hg2
        go_wp2_with fail
        refine (ratio_any _ _ _).mono ?_
        rintro e7 W3 ⟨rfl, hb3⟩
        have hM3 := HM2.out.below hb3
        have hB3 : Below w.heap.size w W3 := by (repeat' with_reducible first|assumption|exact Below.refl _ _|apply bl_alloc|apply bl_drewN|apply bl_drew|refine bl_set ?_ (by simp<;>omega) _|refine bl_then ?_ (by assumption))
        have HB3 := Lib.hid hB3
        have HRES3 := Lib.hid (bk_below HRES2.out hb3)
        clear hb3
        go_wp2_with fail
        refine (most_any w2.heap.size (r.least ⟨⟨1000, f.wh⟩, false⟩) ⟨⟨1000, f.wl⟩, false⟩ va vb _ hM3.blk (wear_fit v1 (by omega)).ok (by rw [(least_rest _ _).1]; exact HTD.out.hi.ok)).mono ?_
        rintro e8 W4 ⟨rfl, hk4, hg4⟩
        have hM4 := hM3.row hk4 hg4 (most_rest _ _).2.1 (most_rest _ _).2.2.1
        have hB4 : Below w.heap.size w W4 := HB3.out.grown hg4 HB3.out.size (fun k hk => by cases hk; omega)
        have HM4 := Lib.hid hM4
        have HRES4 := Lib.hid (bk_grown HRES3.out hg4 (fun e => by have := Option.some.inj e; omega))
        clear hM3 hM4 hk4 hg4
        go_wp2
        go_roundw
        case rel => exact ⟨j + 1, by have := HLT.out; omega, by go_num, by rw [HSNOC.out]; exact ⟨va, vb, HM4.out, hB4, HRES4.out⟩⟩
        case measure => have := HLT.out; simp [intOf]; omega
      · by_cases x1 : x = -1
        · subst x1
          have hld := look_bd HF.out.look
          obtain ⟨a1, a2, a3, a4⟩ := lv_bd HF.out.look
          go_wp2_with fail
          refine (levels_any g f f.lv f.er _ (HS.out.below hB) HF.out.v (by omega) (by omega)).mono ?_
          rintro e5 W1 ⟨rfl, hb1⟩
          have HEl : Hid (f.regAt r (-1) = { r with above := r.above ++ [⟨0, f.T (lvLo f.lv f.er), false⟩], below := r.below ++ [⟨0, f.T (lvHi f.H f.lv f.er), false⟩] }) := Lib.hid rfl
          generalize lvLo f.lv f.er = lo at *
          generalize lvHi f.H f.lv f.er = hi at *
          have hM1 := HM.out.below hb1
          have hB1 : Below w.heap.size w W1 := by (repeat' with_reducible first|assumption|exact Below.refl _ _|apply bl_alloc|apply bl_drewN|apply bl_drew|refine bl_set ?_ (by simp<;>omega) _|refine bl_then ?_ (by assumption))
          have HRES1 := Lib.hid (bk_below HRES.out hb1)
          have hlt1 := bk_lt hM1.blk
          clear hb1 q0 c1 c2 c3 c4 c5 hB
          have HM1 := Lib.hid hM1
          have HB1 := Lib.hid hB1
          clear hM1 hB1
          go_wp2
          have hN := bk_new W1 (.cells #[.int .i64 lo, .int .i64 hi] 27)
          have hM2 := HM1.out.below (bl_alloc (Below.refl _ _) (.cells #[.int .i64 lo, .int .i64 hi] 27))
          have hB2 := bl_alloc HB1.out (.cells #[.int .i64 lo, .int .i64 hi] 27)
          have hR2 := bk_alloc HRES1.out (.cells #[.int .i64 lo, .int .i64 hi] 27)
          have hsz2 : W1.heap.size < (W1.alloc (.cells #[.int .i64 lo, .int .i64 hi] 27)).heap.size := by simp
          generalize hW2 : W1.alloc (.cells #[.int .i64 lo, .int .i64 hi] 27) = W2 at *
          have HW2 := Lib.hid hW2
          clear hW2
          have x1 := bk_cell hN 0
          have y1 := bk_cell hN 1
          simp at x1 y1
          have HM2 := Lib.hid hM2
          have HB2 := Lib.hid hB2
          have HR2 := Lib.hid hR2
          have HN := Lib.hid hN
          clear hM2 hB2 hR2 hN
          have xq := bk_cell HM2.out.blk 6
          simp [rgC] at xq
          ((refine p_start (by kernel_rfl) ?_); (refine x_enter 8 (fun hX_ => ?_)); (refine x_pure 0 (v := ?_) rfl (by kernel_rfl) (fun _ _ _ h => h) rfl ?_ hX_ ?_; rotate_left; (focus (intro w_ hS_; have xq := cl_below hS_ xq; have x1 := cl_below hS_ x1; go_simp; (try (first | with_reducible rfl | (constructor <;> with_reducible rfl))); done)); (try simp only [Act.put, List.setIfInBounds_toArray, List.set_cons_zero, List.set_cons_succ])); (refine x_pure 1 (v := ?_) rfl (by kernel_rfl) (fun _ _ _ h => h) rfl ?_ hX_ ?_; rotate_left; (focus (intro w_ hS_; have xq := cl_below hS_ xq; have x1 := cl_below hS_ x1; go_simp; (try (first | with_reducible rfl | (constructor <;> with_reducible rfl))); done)); (try simp only [Act.put, List.setIfInBounds_toArray, List.set_cons_zero, List.set_cons_succ])); (refine x_t 7 hX_ ?_); ((refine t_pure 2 (v := ?_) rfl (by kernel_rfl) (fun _ _ _ h => h) rfl ?_ ?_; rotate_left; (focus (intro w_ hS_; have xq := cl_below hS_ xq; have x1 := cl_below hS_ x1; go_simp; (try (first | with_reducible rfl | (constructor <;> with_reducible rfl))); done)); (try simp only [Act.put, List.setIfInBounds_toArray, List.set_cons_zero, List.set_cons_succ]))); ((refine t_pure 3 (v := ?_) rfl (by kernel_rfl) (fun _ _ _ h => h) rfl ?_ ?_; rotate_left; (focus (intro w_ hS_; have xq := cl_below hS_ xq; have x1 := cl_below hS_ x1; go_simp; (try (first | with_reducible rfl | (constructor <;> with_reducible rfl))); done)); (try simp only [Act.put, List.setIfInBounds_toArray, List.set_cons_zero, List.set_cons_succ]))); ((refine t_pure 4 (v := ?_) rfl (by kernel_rfl) (fun _ _ _ h => h) rfl ?_ ?_; rotate_left; (focus (intro w_ hS_; have xq := cl_below hS_ xq; have x1 := cl_below hS_ x1; go_simp; (try (first | with_reducible rfl | (constructor <;> with_reducible rfl))); done)); (try simp only [Act.put, List.setIfInBounds_toArray, List.set_cons_zero, List.set_cons_succ]))); ((refine t_call 5 (v := ?_) rfl (by kernel_rfl) (fun _ _ _ h => h) rfl ?_ ?_ ?_ ?_ ?_; rotate_left 3; (focus (intro w_ hS_; have xq := cl_below hS_ xq; have x1 := cl_below hS_ x1; go_simp; (try (first | with_reducible rfl | (constructor <;> with_reducible rfl))); done)); (focus (intro w_ hS_; have xq := cl_below hS_ xq; have x1 := cl_below hS_ x1; ((go_at_call 103; refine (time_agg g f _ _ (HS.out.below (bl_then HB2.out hS_)) HF.out.v (by omega) (by omega)).mono ?_; rintro e' w' ⟨rfl, hb⟩)); refine And.intro ?_ ?_; (focus (with_reducible rfl)); (first | exact bl_then hS_ (by assumption) | assumption))); (try simp only [Act.put, List.setIfInBounds_toArray, List.set_cons_zero, List.set_cons_succ]))); ((refine t_pure 6 (v := ?_) rfl (by kernel_rfl) (fun _ _ _ h => h) rfl ?_ ?_; rotate_left; (focus (intro w_ hS_; have xq := cl_below hS_ xq; have x1 := cl_below hS_ x1; go_simp; (try (first | with_reducible rfl | (constructor <;> with_reducible rfl))); done)); (try simp only [Act.put, List.setIfInBounds_toArray, List.set_cons_zero, List.set_cons_succ]))); (refine t_exitX (by kernel_rfl) (fun W_ hS_ => ?_)); (refine x_only 7 rfl (by kernel_rfl) rfl (fun K hK => ?_); go_simp; refine hK.out _ _ (bl_alloc hS_ _) ?_; clear hK K; (try simp only [Act.put, List.setIfInBounds_toArray, List.set_cons_zero, List.set_cons_succ])); (refine x_exit (by kernel_rfl) ?_))
          refine p_only 8 rfl (by kernel_rfl) (fun K hK => ?_)
          refine step_app_own lnC_len (by decide) lnC_one rfl (.tmp 112) (.tmp 118) 121 rfl 164 _ 32 Tryz.underlying121 lnZ rfl (w2.heap.size + 1) _ _ (r : Rg).above [⟨0, f.T lo, false⟩] rfl rfl (own_bel HM2.out.a (bl_alloc hS_ _)) _ rfl (Sl.new1 lnC_len _ _ _ _ rfl) (by have h1 := hS_.size; have h2 := bk_lt HM2.out.blk; simp; omega) (by simp; omega) (by simp; omega) ?_
          intro v4 W4 hv4 hg4 hat4
          refine hK.out _ _ ?_
          clear hK K
          (try simp only [Act.put, List.setIfInBounds_toArray, List.set_cons_zero, List.set_cons_succ])
          obtain ⟨A4, k4, rfl⟩ := own_sl hv4
          have hM5 := rg_addA HM2.out hS_ (.cells #[.int .i64 0, .int .i64 (f.T lo).n, .int .i64 (f.T lo).d, .bool false] 164) ⟨0, f.T lo, false⟩ hv4 hg4 hat4
          have hBh := beh_of (i := 6) (v' := .slice A4 (r.above.length + 1) k4) (.cells #[.int .i64 0, .int .i64 (f.T lo).n, .int .i64 (f.T lo).d, .bool false] 164) HM2.out.a hS_ hg4
          have hR4 := bk_grown (bk_alloc (bk_below HM2.out.blk hS_) (.cells #[.int .i64 0, .int .i64 (f.T lo).n, .int .i64 (f.T lo).d, .bool false] 164)) hg4 (fun e => by have := (HM2.out.a.lt _ e.symm).1; omega)
          have z6 := bk_cell hR4 6
          have f6 := bk_fro hR4 6
          simp [rgC] at z6
          have HM5 := Lib.hid hM5
          have HB5 := Lib.hid (hBh.bel w.heap.size w (Nat.le_of_lt hlt2) HB2.out.size HB2.out)
          have HR5 := Lib.hid (hBh.blk _ _ HR2.out (by omega) (fun e => by have := (HM2.out.a.lt _ e).1; omega))
          have HN5 := Lib.hid (hBh.blk _ _ HN.out (by omega) (fun e => by have := (HM1.out.a.lt _ e).2; omega))
          clear hM5 hBh hR4 hv4 hg4 hat4 hS_ xq
          (refine p_only 9 rfl (by kernel_rfl) (fun K hK => ?_); go_simp; refine hK.out _ _ ?_; clear hK K; (try simp only [Act.put, List.setIfInBounds_toArray, List.set_cons_zero, List.set_cons_succ]))
          (refine p_only 10 rfl (by kernel_rfl) (fun K hK => ?_); go_simp; refine hK.out _ _ ?_; clear hK K; (try simp only [Act.put, List.setIfInBounds_toArray, List.set_cons_zero, List.set_cons_succ]))
          refine wpAny_done (by kernel_rfl) ?_ _
          clear z6 f6
          generalize hWg : W4.setCell ⟨w2.heap.size, 6, none⟩ (.slice A4 (r.above.length + 1) k4) = W5 at *
          clear hWg W4
          clear x1 y1
          have y1 := bk_cell HN5.out 1
          simp at y1
          go_wp2
          have xq := bk_cell HM5.out.blk 7
          simp [rgC] at xq
          ((refine p_start (by kernel_rfl) ?_); (refine x_enter 8 (fun hX_ => ?_)); (refine x_pure 0 (v := ?_) rfl (by kernel_rfl) (fun _ _ _ h => h) rfl ?_ hX_ ?_; rotate_left; (focus (intro w_ hS_; have xq := cl_below hS_ xq; have y1 := cl_below hS_ y1; go_simp; (try (first | with_reducible rfl | (constructor <;> with_reducible rfl))); done)); (try simp only [Act.put, List.setIfInBounds_toArray, List.set_cons_zero, List.set_cons_succ])); (refine x_pure 1 (v := ?_) rfl (by kernel_rfl) (fun _ _ _ h => h) rfl ?_ hX_ ?_; rotate_left; (focus (intro w_ hS_; have xq := cl_below hS_ xq; have y1 := cl_below hS_ y1; go_simp; (try (first | with_reducible rfl | (constructor <;> with_reducible rfl))); done)); (try simp only [Act.put, List.setIfInBounds_toArray, List.set_cons_zero, List.set_cons_succ])); (refine x_t 7 hX_ ?_); ((refine t_pure 2 (v := ?_) rfl (by kernel_rfl) (fun _ _ _ h => h) rfl ?_ ?_; rotate_left; (focus (intro w_ hS_; have xq := cl_below hS_ xq; have y1 := cl_below hS_ y1; go_simp; (try (first | with_reducible rfl | (constructor <;> with_reducible rfl))); done)); (try simp only [Act.put, List.setIfInBounds_toArray, List.set_cons_zero, List.set_cons_succ]))); ((refine t_pure 3 (v := ?_) rfl (by kernel_rfl) (fun _ _ _ h => h) rfl ?_ ?_; rotate_left; (focus (intro w_ hS_; have xq := cl_below hS_ xq; have y1 := cl_below hS_ y1; go_simp; (try (first | with_reducible rfl | (constructor <;> with_reducible rfl))); done)); (try simp only [Act.put, List.setIfInBounds_toArray, List.set_cons_zero, List.set_cons_succ]))); ((refine t_pure 4 (v := ?_) rfl (by kernel_rfl) (fun _ _ _ h => h) rfl ?_ ?_; rotate_left; (focus (intro w_ hS_; have xq := cl_below hS_ xq; have y1 := cl_below hS_ y1; go_simp; (try (first | with_reducible rfl | (constructor <;> with_reducible rfl))); done)); (try simp only [Act.put, List.setIfInBounds_toArray, List.set_cons_zero, List.set_cons_succ]))); ((refine t_call 5 (v := ?_) rfl (by kernel_rfl) (fun _ _ _ h => h) rfl ?_ ?_ ?_ ?_ ?_; rotate_left 3; (focus (intro w_ hS_; have xq := cl_below hS_ xq; have y1 := cl_below hS_ y1; go_simp; (try (first | with_reducible rfl | (constructor <;> with_reducible rfl))); done)); (focus (intro w_ hS_; have xq := cl_below hS_ xq; have y1 := cl_below hS_ y1; ((go_at_call 103; refine (time_agg g f _ _ (HS.out.below (bl_then HB5.out hS_)) HF.out.v (by omega) (by omega)).mono ?_; rintro e' w' ⟨rfl, hb⟩)); refine And.intro ?_ ?_; (focus (with_reducible rfl)); (first | exact bl_then hS_ (by assumption) | assumption))); (try simp only [Act.put, List.setIfInBounds_toArray, List.set_cons_zero, List.set_cons_succ]))); ((refine t_pure 6 (v := ?_) rfl (by kernel_rfl) (fun _ _ _ h => h) rfl ?_ ?_; rotate_left; (focus (intro w_ hS_; have xq := cl_below hS_ xq; have y1 := cl_below hS_ y1; go_simp; (try (first | with_reducible rfl | (constructor <;> with_reducible rfl))); done)); (try simp only [Act.put, List.setIfInBounds_toArray, List.set_cons_zero, List.set_cons_succ]))); (refine t_exitX (by kernel_rfl) (fun W_ hS_ => ?_)); (refine x_only 7 rfl (by kernel_rfl) rfl (fun K hK => ?_); go_simp; refine hK.out _ _ (bl_alloc hS_ _) ?_; clear hK K; (try simp only [Act.put, List.setIfInBounds_toArray, List.set_cons_zero, List.set_cons_succ])); (refine x_exit (by kernel_rfl) ?_))
          refine p_only 8 rfl (by kernel_rfl) (fun K hK => ?_)
          refine step_app_own lnC_len (by decide) lnC_one rfl (.tmp 122) (.tmp 128) 121 rfl 164 _ 32 Tryz.underlying121 lnZ rfl (w2.heap.size + 1) _ _ ({ r with above := r.above ++ [(⟨0, f.T lo, false⟩ : Ln)] } : Rg).below [⟨0, f.T hi, false⟩] rfl rfl (own_bel HM5.out.b (bl_alloc hS_ _)) _ rfl (Sl.new1 lnC_len _ _ _ _ rfl) (by have h1 := hS_.size; have h2 := bk_lt HM5.out.blk; simp; omega) (by simp; omega) (by simp; omega) ?_
          intro v4 W4 hv4 hg4 hat4
          refine hK.out _ _ ?_
          clear hK K
          (try simp only [Act.put, List.setIfInBounds_toArray, List.set_cons_zero, List.set_cons_succ])
          obtain ⟨A4, k4, rfl⟩ := own_sl hv4
          have hM6 := rg_addB HM5.out hS_ (.cells #[.int .i64 0, .int .i64 (f.T hi).n, .int .i64 (f.T hi).d, .bool false] 164) ⟨0, f.T hi, false⟩ hv4 hg4 hat4
          have hBh := beh_of (i := 7) (v' := .slice A4 (r.below.length + 1) k4) (.cells #[.int .i64 0, .int .i64 (f.T hi).n, .int .i64 (f.T hi).d, .bool false] 164) HM5.out.b hS_ hg4
          have hR4 := bk_grown (bk_alloc (bk_below HM5.out.blk hS_) (.cells #[.int .i64 0, .int .i64 (f.T hi).n, .int .i64 (f.T hi).d, .bool false] 164)) hg4 (fun e => by have := (HM5.out.b.lt _ e.symm).1; omega)
          have z6 := bk_cell hR4 7
          have f6 := bk_fro hR4 7
          simp [rgC] at z6
          have HM6 := Lib.hid hM6
          have HB6 := Lib.hid (hBh.bel w.heap.size w (Nat.le_of_lt hlt2) HB5.out.size HB5.out)
          have HR6 := Lib.hid (hBh.blk _ _ HR5.out (by omega) (fun e => by have := (HM5.out.b.lt _ e).1; omega))
          clear hM6 hBh hR4 hv4 hg4 hat4 hS_ xq
          (refine p_only 9 rfl (by kernel_rfl) (fun K hK => ?_); go_simp; refine hK.out _ _ ?_; clear hK K; (try simp only [Act.put, List.setIfInBounds_toArray, List.set_cons_zero, List.set_cons_succ]))
          (refine p_only 10 rfl (by kernel_rfl) (fun K hK => ?_); go_simp; refine hK.out _ _ ?_; clear hK K; (try simp only [Act.put, List.setIfInBounds_toArray, List.set_cons_zero, List.set_cons_succ]))
          refine wpAny_done (by kernel_rfl) ?_ _
          clear z6 f6
          generalize hWg : W4.setCell ⟨w2.heap.size, 7, none⟩ (.slice A4 (r.below.length + 1) k4) = W6 at *
          clear hWg W4
          clear y1
          go_wp2
          go_roundw
          case rel => exact ⟨j + 1, by have := HLT.out; omega, by go_num, by rw [HSNOC.out, HEl.out]; exact ⟨_, _, HM6.out, HB6.out, HR6.out⟩⟩
          case measure => have := HLT.out; simp [intOf]; omega
        · obtain ⟨m, rfl⟩ := Int.eq_ofNat_of_zero_le (show 0 ≤ x by omega)
          have hm : m < f.seen.length := by omega
          have e2 : ((m : Int) == -2) = false := by simp <;> omega
          have e1 : ((m : Int) == -1) = false := by simp <;> omega
          have hra := regAt_some (f := f) (r := r) (k := (m : Int)) (s := f.seen[m]) (by omega) (by omega) (by simp [List.getElem?_eq_getElem hm])
          obtain ⟨⟨s1, s2, s3⟩, hlk⟩ := okSn_bd (HF.out.seen _ (List.getElem_mem hm))
          have hld := look_bd hlk
          obtain ⟨a1, a2, a3, a4⟩ := lv_bd hlk
          obtain ⟨As, cz, rfl, hz1, hz2, hz3⟩ := HSN.out
          obtain ⟨bs, os, rfl, hcz⟩ := hz3 (by intro h; simp [h] at hm)
          obtain ⟨p0, p1, p2, p3⟩ := sn_cells hcz hm
          have p0 := cl_below hB p0
          have p1 := cl_below hB p1
          have p2 := cl_below hB p2
          have p3 := cl_below hB p3
          have hbs := World.block_lt_of_cell? _ _ p0
          have hmi : (m : Int) < (f.seen.length : Int) := by omega
          generalize f.seen[m] = s at *
          have HRA := Lib.hid hra
          clear hra hcz hz3 x1 x2 c1 c2 c3 c4
          go_wp2_with fail
          refine (levels_any g f s.lv s.er _ (HS.out.below hB) HF.out.v (by omega) (by omega)).mono ?_
          rintro e5 W1 ⟨rfl, hb1⟩
          generalize lvLo s.lv s.er = lo at *
          generalize lvHi f.H s.lv s.er = hi at *
          have hM1 := HM.out.below hb1
          have hB1 : Below w.heap.size w W1 := by (repeat' with_reducible first|assumption|exact Below.refl _ _|apply bl_alloc|apply bl_drewN|apply bl_drew|refine bl_set ?_ (by simp<;>omega) _|refine bl_then ?_ (by assumption))
          have HRES1 := Lib.hid (bk_below HRES.out hb1)
          have hlt1 := bk_lt hM1.blk
          have c5 := cl_below hb1 c5
          have p0 := cl_below hb1 p0
          have p1 := cl_below hb1 p1
          have hsz1 := hb1.size
          have hbs1 : bs < W1.heap.size := by omega
          have hgw1 : g < W1.heap.size := by omega
          clear hb1 q0 hB p2 p3
          have HM1 := Lib.hid hM1
          have HB1 := Lib.hid hB1
          clear hM1 hB1
          go_wp2
          have hN := bk_alloc (bk_new W1 (.cells #[.int .i64 lo, .int .i64 hi] 27)) (.cells #[.int .i64 s.lo, .int .i64 s.hi] 27)
          have hK := bk_new (W1.alloc (.cells #[.int .i64 lo, .int .i64 hi] 27)) (.cells #[.int .i64 s.lo, .int .i64 s.hi] 27)
          rw [World.size_alloc] at hK
          have hM2 := (HM1.out.below (bl_alloc (Below.refl _ _) (.cells #[.int .i64 lo, .int .i64 hi] 27))).below (bl_alloc (Below.refl _ _) (.cells #[.int .i64 s.lo, .int .i64 s.hi] 27))
          have hB2 := bl_alloc (bl_alloc HB1.out (.cells #[.int .i64 lo, .int .i64 hi] 27)) (.cells #[.int .i64 s.lo, .int .i64 s.hi] 27)
          have hR2 := bk_alloc (bk_alloc HRES1.out (.cells #[.int .i64 lo, .int .i64 hi] 27)) (.cells #[.int .i64 s.lo, .int .i64 s.hi] 27)
          clear c5 p0 p1
          generalize hW2 : (W1.alloc (.cells #[.int .i64 lo, .int .i64 hi] 27)).alloc (.cells #[.int .i64 s.lo, .int .i64 s.hi] 27) = W2 at *
          have HW2 := Lib.hid hW2
          clear hW2
          have x1 := bk_cell hN 1
          have y1 := bk_cell hK 1
          simp at x1 y1
          have HM2 := Lib.hid hM2
          have HB2 := Lib.hid hB2
          have HR2 := Lib.hid hR2
          have HN := Lib.hid hN
          have HK := Lib.hid hK
          clear hM2 hB2 hR2 hN hK
          have xq := bk_cell HM2.out.blk 7
          simp [rgC] at xq
          ((refine p_start (by kernel_rfl) ?_); (refine x_enter 10 (fun hX_ => ?_)); (refine x_pure 0 (v := ?_) rfl (by kernel_rfl) (fun _ _ _ h => h) rfl ?_ hX_ ?_; rotate_left; (focus (intro w_ hS_; have xq := cl_below hS_ xq; have x1 := cl_below hS_ x1; have y1 := cl_below hS_ y1; go_simp; (try (first | with_reducible rfl | (constructor <;> with_reducible rfl))); done)); (try simp only [Act.put, List.setIfInBounds_toArray, List.set_cons_zero, List.set_cons_succ])); (refine x_pure 1 (v := ?_) rfl (by kernel_rfl) (fun _ _ _ h => h) rfl ?_ hX_ ?_; rotate_left; (focus (intro w_ hS_; have xq := cl_below hS_ xq; have x1 := cl_below hS_ x1; have y1 := cl_below hS_ y1; go_simp; (try (first | with_reducible rfl | (constructor <;> with_reducible rfl))); done)); (try simp only [Act.put, List.setIfInBounds_toArray, List.set_cons_zero, List.set_cons_succ])); (refine x_t 9 hX_ ?_); ((refine t_pure 2 (v := ?_) rfl (by kernel_rfl) (fun _ _ _ h => h) rfl ?_ ?_; rotate_left; (focus (intro w_ hS_; have xq := cl_below hS_ xq; have x1 := cl_below hS_ x1; have y1 := cl_below hS_ y1; go_simp; (try (first | with_reducible rfl | (constructor <;> with_reducible rfl))); done)); (try simp only [Act.put, List.setIfInBounds_toArray, List.set_cons_zero, List.set_cons_succ]))); ((refine t_pure 3 (v := ?_) rfl (by kernel_rfl) (fun _ _ _ h => h) rfl ?_ ?_; rotate_left; (focus (intro w_ hS_; have xq := cl_below hS_ xq; have x1 := cl_below hS_ x1; have y1 := cl_below hS_ y1; go_simp; (try (first | with_reducible rfl | (constructor <;> with_reducible rfl))); done)); (try simp only [Act.put, List.setIfInBounds_toArray, List.set_cons_zero, List.set_cons_succ]))); ((refine t_pure 4 (v := ?_) rfl (by kernel_rfl) (fun _ _ _ h => h) rfl ?_ ?_; rotate_left; (focus (intro w_ hS_; have xq := cl_below hS_ xq; have x1 := cl_below hS_ x1; have y1 := cl_below hS_ y1; go_simp; (try (first | with_reducible rfl | (constructor <;> with_reducible rfl))); done)); (try simp only [Act.put, List.setIfInBounds_toArray, List.set_cons_zero, List.set_cons_succ]))); ((refine t_pure 5 (v := ?_) rfl (by kernel_rfl) (fun _ _ _ h => h) rfl ?_ ?_; rotate_left; (focus (intro w_ hS_; have xq := cl_below hS_ xq; have x1 := cl_below hS_ x1; have y1 := cl_below hS_ y1; go_simp; (try (first | with_reducible rfl | (constructor <;> with_reducible rfl))); done)); (try simp only [Act.put, List.setIfInBounds_toArray, List.set_cons_zero, List.set_cons_succ]))); ((refine t_pure 6 (v := ?_) rfl (by kernel_rfl) (fun _ _ _ h => h) rfl ?_ ?_; rotate_left; (focus (intro w_ hS_; have xq := cl_below hS_ xq; have x1 := cl_below hS_ x1; have y1 := cl_below hS_ y1; go_simp; (try (first | with_reducible rfl | (constructor <;> with_reducible rfl))); done)); (try simp only [Act.put, List.setIfInBounds_toArray, List.set_cons_zero, List.set_cons_succ]))); ((refine t_call 7 (v := ?_) rfl (by kernel_rfl) (fun _ _ _ h => h) rfl ?_ ?_ ?_ ?_ ?_; rotate_left 3; (focus (intro w_ hS_; have xq := cl_below hS_ xq; have x1 := cl_below hS_ x1; have y1 := cl_below hS_ y1; go_simp; (try (first | with_reducible rfl | (constructor <;> with_reducible rfl))); done)); (focus (intro w_ hS_; have xq := cl_below hS_ xq; have x1 := cl_below hS_ x1; have y1 := cl_below hS_ y1; ((go_at_call 103; refine (time_agg g f _ _ (HS.out.below (bl_then HB2.out hS_)) HF.out.v (by omega) (by omega)).mono ?_; rintro e' w' ⟨rfl, hb⟩)); refine And.intro ?_ ?_; (focus (with_reducible rfl)); (first | exact bl_then hS_ (by assumption) | assumption))); (try simp only [Act.put, List.setIfInBounds_toArray, List.set_cons_zero, List.set_cons_succ]))); ((refine t_pure 8 (v := ?_) rfl (by kernel_rfl) (fun _ _ _ h => h) rfl ?_ ?_; rotate_left; (focus (intro w_ hS_; have xq := cl_below hS_ xq; have x1 := cl_below hS_ x1; have y1 := cl_below hS_ y1; go_simp; (try (first | with_reducible rfl | (constructor <;> with_reducible rfl))); done)); (try simp only [Act.put, List.setIfInBounds_toArray, List.set_cons_zero, List.set_cons_succ]))); (refine t_exitX (by kernel_rfl) (fun W_ hS_ => ?_)); (refine x_only 9 rfl (by kernel_rfl) rfl (fun K hK => ?_); go_simp; refine hK.out _ _ (bl_alloc hS_ _) ?_; clear hK K; (try simp only [Act.put, List.setIfInBounds_toArray, List.set_cons_zero, List.set_cons_succ])); (refine x_exit (by kernel_rfl) ?_))
          refine p_only 10 rfl (by kernel_rfl) (fun K hK => ?_)
          refine step_app_own lnC_len (by decide) lnC_one rfl (.tmp 58) (.tmp 66) 121 rfl 164 _ 32 Tryz.underlying121 lnZ rfl (w2.heap.size + 1) _ _ (r : Rg).below [⟨s.hi, f.T hi, false⟩] rfl rfl (own_bel HM2.out.b (bl_alloc hS_ _)) _ rfl (Sl.new1 lnC_len _ _ _ _ rfl) (by have h1 := hS_.size; have h2 := bk_lt HM2.out.blk; simp; omega) (by simp; omega) (by simp; omega) ?_
          intro v4 W4 hv4 hg4 hat4
          refine hK.out _ _ ?_
          clear hK K
          (try simp only [Act.put, List.setIfInBounds_toArray, List.set_cons_zero, List.set_cons_succ])
          obtain ⟨A4, k4, rfl⟩ := own_sl hv4
          have hM5 := rg_addB HM2.out hS_ (.cells #[.int .i64 s.hi, .int .i64 (f.T hi).n, .int .i64 (f.T hi).d, .bool false] 164) ⟨s.hi, f.T hi, false⟩ hv4 hg4 hat4
          have hBh := beh_of (i := 7) (v' := .slice A4 (r.below.length + 1) k4) (.cells #[.int .i64 s.hi, .int .i64 (f.T hi).n, .int .i64 (f.T hi).d, .bool false] 164) HM2.out.b hS_ hg4
          have hR4 := bk_grown (bk_alloc (bk_below HM2.out.blk hS_) (.cells #[.int .i64 s.hi, .int .i64 (f.T hi).n, .int .i64 (f.T hi).d, .bool false] 164)) hg4 (fun e => by have := (HM2.out.b.lt _ e.symm).1; omega)
          have z6 := bk_cell hR4 7
          have f6 := bk_fro hR4 7
          simp [rgC] at z6
          have HM5 := Lib.hid hM5
          have HB5 := Lib.hid (hBh.bel w.heap.size w (Nat.le_of_lt hlt2) HB2.out.size HB2.out)
          have HR5 := Lib.hid (hBh.blk _ _ HR2.out (by omega) (fun e => by have := (HM2.out.b.lt _ e).1; omega))
          have HN5 := Lib.hid (hBh.blk _ _ HN.out (by omega) (fun e => by have := (HM1.out.b.lt _ e).2; omega))
          have HK5 := Lib.hid (hBh.blk _ _ HK.out (by omega) (fun e => by have := (HM1.out.b.lt _ e).2; omega))
          clear hM5 hBh hR4 hv4 hg4 hat4 hS_ xq
          (refine p_only 11 rfl (by kernel_rfl) (fun K hK => ?_); go_simp; refine hK.out _ _ ?_; clear hK K; (try simp only [Act.put, List.setIfInBounds_toArray, List.set_cons_zero, List.set_cons_succ]))
          (refine p_only 12 rfl (by kernel_rfl) (fun K hK => ?_); go_simp; refine hK.out _ _ ?_; clear hK K; (try simp only [Act.put, List.setIfInBounds_toArray, List.set_cons_zero, List.set_cons_succ]))
          refine wpAny_done (by kernel_rfl) ?_ _
          clear z6 f6
          generalize hWg : W4.setCell ⟨w2.heap.size, 7, none⟩ (.slice A4 (r.below.length + 1) k4) = W5 at *
          clear hWg W4
          clear x1 y1
          have x1 := bk_cell HN5.out 0
          have y1 := bk_cell HK5.out 0
          simp at x1 y1
          by_cases hlo : 0 < lo
          · have hd : decide (0 < lo) = true := by simpa using hlo
            go_wp2
            have xq := bk_cell HM5.out.blk 6
            simp [rgC] at xq
            ((refine p_start (by kernel_rfl) ?_); (refine x_enter 10 (fun hX_ => ?_)); (refine x_pure 0 (v := ?_) rfl (by kernel_rfl) (fun _ _ _ h => h) rfl ?_ hX_ ?_; rotate_left; (focus (intro w_ hS_; have xq := cl_below hS_ xq; have x1 := cl_below hS_ x1; have y1 := cl_below hS_ y1; go_simp; (try (first | with_reducible rfl | (constructor <;> with_reducible rfl))); done)); (try simp only [Act.put, List.setIfInBounds_toArray, List.set_cons_zero, List.set_cons_succ])); (refine x_pure 1 (v := ?_) rfl (by kernel_rfl) (fun _ _ _ h => h) rfl ?_ hX_ ?_; rotate_left; (focus (intro w_ hS_; have xq := cl_below hS_ xq; have x1 := cl_below hS_ x1; have y1 := cl_below hS_ y1; go_simp; (try (first | with_reducible rfl | (constructor <;> with_reducible rfl))); done)); (try simp only [Act.put, List.setIfInBounds_toArray, List.set_cons_zero, List.set_cons_succ])); (refine x_t 9 hX_ ?_); ((refine t_pure 2 (v := ?_) rfl (by kernel_rfl) (fun _ _ _ h => h) rfl ?_ ?_; rotate_left; (focus (intro w_ hS_; have xq := cl_below hS_ xq; have x1 := cl_below hS_ x1; have y1 := cl_below hS_ y1; go_simp; (try (first | with_reducible rfl | (constructor <;> with_reducible rfl))); done)); (try simp only [Act.put, List.setIfInBounds_toArray, List.set_cons_zero, List.set_cons_succ]))); ((refine t_pure 3 (v := ?_) rfl (by kernel_rfl) (fun _ _ _ h => h) rfl ?_ ?_; rotate_left; (focus (intro w_ hS_; have xq := cl_below hS_ xq; have x1 := cl_below hS_ x1; have y1 := cl_below hS_ y1; go_simp; (try (first | with_reducible rfl | (constructor <;> with_reducible rfl))); done)); (try simp only [Act.put, List.setIfInBounds_toArray, List.set_cons_zero, List.set_cons_succ]))); ((refine t_pure 4 (v := ?_) rfl (by kernel_rfl) (fun _ _ _ h => h) rfl ?_ ?_; rotate_left; (focus (intro w_ hS_; have xq := cl_below hS_ xq; have x1 := cl_below hS_ x1; have y1 := cl_below hS_ y1; go_simp; (try (first | with_reducible rfl | (constructor <;> with_reducible rfl))); done)); (try simp only [Act.put, List.setIfInBounds_toArray, List.set_cons_zero, List.set_cons_succ]))); ((refine t_pure 5 (v := ?_) rfl (by kernel_rfl) (fun _ _ _ h => h) rfl ?_ ?_; rotate_left; (focus (intro w_ hS_; have xq := cl_below hS_ xq; have x1 := cl_below hS_ x1; have y1 := cl_below hS_ y1; go_simp; (try (first | with_reducible rfl | (constructor <;> with_reducible rfl))); done)); (try simp only [Act.put, List.setIfInBounds_toArray, List.set_cons_zero, List.set_cons_succ]))); ((refine t_pure 6 (v := ?_) rfl (by kernel_rfl) (fun _ _ _ h => h) rfl ?_ ?_; rotate_left; (focus (intro w_ hS_; have xq := cl_below hS_ xq; have x1 := cl_below hS_ x1; have y1 := cl_below hS_ y1; go_simp; (try (first | with_reducible rfl | (constructor <;> with_reducible rfl))); done)); (try simp only [Act.put, List.setIfInBounds_toArray, List.set_cons_zero, List.set_cons_succ]))); ((refine t_call 7 (v := ?_) rfl (by kernel_rfl) (fun _ _ _ h => h) rfl ?_ ?_ ?_ ?_ ?_; rotate_left 3; (focus (intro w_ hS_; have xq := cl_below hS_ xq; have x1 := cl_below hS_ x1; have y1 := cl_below hS_ y1; go_simp; (try (first | with_reducible rfl | (constructor <;> with_reducible rfl))); done)); (focus (intro w_ hS_; have xq := cl_below hS_ xq; have x1 := cl_below hS_ x1; have y1 := cl_below hS_ y1; ((go_at_call 103; refine (time_agg g f _ _ (HS.out.below (bl_then HB5.out hS_)) HF.out.v (by omega) (by omega)).mono ?_; rintro e' w' ⟨rfl, hb⟩)); refine And.intro ?_ ?_; (focus (with_reducible rfl)); (first | exact bl_then hS_ (by assumption) | assumption))); (try simp only [Act.put, List.setIfInBounds_toArray, List.set_cons_zero, List.set_cons_succ]))); ((refine t_pure 8 (v := ?_) rfl (by kernel_rfl) (fun _ _ _ h => h) rfl ?_ ?_; rotate_left; (focus (intro w_ hS_; have xq := cl_below hS_ xq; have x1 := cl_below hS_ x1; have y1 := cl_below hS_ y1; go_simp; (try (first | with_reducible rfl | (constructor <;> with_reducible rfl))); done)); (try simp only [Act.put, List.setIfInBounds_toArray, List.set_cons_zero, List.set_cons_succ]))); (refine t_exitX (by kernel_rfl) (fun W_ hS_ => ?_)); (refine x_only 9 rfl (by kernel_rfl) rfl (fun K hK => ?_); go_simp; refine hK.out _ _ (bl_alloc hS_ _) ?_; clear hK K; (try simp only [Act.put, List.setIfInBounds_toArray, List.set_cons_zero, List.set_cons_succ])); (refine x_exit (by kernel_rfl) ?_))
            refine p_only 10 rfl (by kernel_rfl) (fun K hK => ?_)
            refine step_app_own lnC_len (by decide) lnC_one rfl (.tmp 73) (.tmp 81) 121 rfl 164 _ 32 Tryz.underlying121 lnZ rfl (w2.heap.size + 1) _ _ ({ r with below := r.below ++ [(⟨s.hi, f.T hi, false⟩ : Ln)] } : Rg).above [⟨s.lo, f.T lo, false⟩] rfl rfl (own_bel HM5.out.a (bl_alloc hS_ _)) _ rfl (Sl.new1 lnC_len _ _ _ _ rfl) (by have h1 := hS_.size; have h2 := bk_lt HM5.out.blk; simp; omega) (by simp; omega) (by simp; omega) ?_
            intro v4 W4 hv4 hg4 hat4
            refine hK.out _ _ ?_
            clear hK K
            (try simp only [Act.put, List.setIfInBounds_toArray, List.set_cons_zero, List.set_cons_succ])
            obtain ⟨A4, k4, rfl⟩ := own_sl hv4
            have hM6 := rg_addA HM5.out hS_ (.cells #[.int .i64 s.lo, .int .i64 (f.T lo).n, .int .i64 (f.T lo).d, .bool false] 164) ⟨s.lo, f.T lo, false⟩ hv4 hg4 hat4
            have hBh := beh_of (i := 6) (v' := .slice A4 (r.above.length + 1) k4) (.cells #[.int .i64 s.lo, .int .i64 (f.T lo).n, .int .i64 (f.T lo).d, .bool false] 164) HM5.out.a hS_ hg4
            have hR4 := bk_grown (bk_alloc (bk_below HM5.out.blk hS_) (.cells #[.int .i64 s.lo, .int .i64 (f.T lo).n, .int .i64 (f.T lo).d, .bool false] 164)) hg4 (fun e => by have := (HM5.out.a.lt _ e.symm).1; omega)
            have z6 := bk_cell hR4 6
            have f6 := bk_fro hR4 6
            simp [rgC] at z6
            have HM6 := Lib.hid hM6
            have HB6 := Lib.hid (hBh.bel w.heap.size w (Nat.le_of_lt hlt2) HB5.out.size HB5.out)
            have HR6 := Lib.hid (hBh.blk _ _ HR5.out (by omega) (fun e => by have := (HM5.out.a.lt _ e).1; omega))
            clear hM6 hBh hR4 hv4 hg4 hat4 hS_ xq
            (refine p_only 11 rfl (by kernel_rfl) (fun K hK => ?_); go_simp; refine hK.out _ _ ?_; clear hK K; (try simp only [Act.put, List.setIfInBounds_toArray, List.set_cons_zero, List.set_cons_succ]))
            (refine p_only 12 rfl (by kernel_rfl) (fun K hK => ?_); go_simp; refine hK.out _ _ ?_; clear hK K; (try simp only [Act.put, List.setIfInBounds_toArray, List.set_cons_zero, List.set_cons_succ]))
            refine wpAny_done (by kernel_rfl) ?_ _
            clear z6 f6
            generalize hWg : W4.setCell ⟨w2.heap.size, 6, none⟩ (.slice A4 (r.above.length + 1) k4) = W6 at *
            clear hWg W4
            clear x1 y1
            go_wp2
            go_roundw
            case rel => exact ⟨j + 1, by have := HLT.out; omega, by go_num, by rw [HSNOC.out, HRA.out, if_pos hlo]; exact ⟨_, _, HM6.out, HB6.out, HR6.out⟩⟩
            case measure => have := HLT.out; simp [intOf]; omega
          · have hd : decide (0 < lo) = false := by simpa using hlo
            go_wp2
            go_roundw
            case rel => exact ⟨j + 1, by have := HLT.out; omega, by go_num, by rw [HSNOC.out, HRA.out, if_neg hlo, List.append_nil]; exact ⟨_, _, HM5.out, HB5.out, HR5.out⟩⟩
            case measure => have := HLT.out; simp [intOf]; omega
    · obtain rfl : j = items.length := by omega
      have hge : decide ((items.length : Int) < (items.length : Int)) = false := by simp
      rw [List.take_of_length_le (Nat.le_refl _)] at HRg
      obtain ⟨Aa, ka, rfl⟩ := own_sl HM.out.a
      obtain ⟨Ab, kb, rfl⟩ := own_sl HM.out.b
      obtain ⟨⟨x0, x1, x2, x3, x4, x5, x6, x7, x8⟩, _⟩ := agg9 HM.out.blk
      obtain ⟨⟨z0, z1, z2, z3, z4, z5, z6, z7, z8⟩, y0, y1, y2, y3, y4, y5, y6, y7, y8⟩ := agg9 HRES.out
      have hlt0' := bk_lt HRES.out
      have hA := Sl.of_own lnC_len (by decide) HM.out.a
      have hA2 := Sl.of_own lnC_len (by decide) HM.out.b
      have HA := Lib.hid hA
      have HA2 := Lib.hid hA2
      clear hA hA2
      go_wp2
      refine bodyPost_ret (v := .agg (rgC r (.slice Aa r.above.length ka) (.slice Ab r.below.length kb))) (res_one rfl (.cell w.heap.size 123 _ (0, 0) _ rfl (bk_put9 HRES.out) Tryz.underlying123 rfl (by kernel_rfl) .nil)) rfl ?_
      rw [HRg.out]
      exact ⟨_, _, rfl, Sl.of_own lnC_len (by decide) (own_put9 HM.out.a (by omega)), Sl.of_own lnC_len (by decide) (own_put9 HM.out.b (by omega)), bl_put9 hB⟩
end Go.Proofs.YtjpagpplkldbkaaGreat
