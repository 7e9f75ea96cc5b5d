/- Without. -/
import Derived.Test.YtjpagpplkldbkaaGreatLib24
set_option linter.unusedVariables false
set_option linter.unusedSimpArgs false
namespace Go.Proofs.YtjpagpplkldbkaaGreat
open Go.RowKit Go.Shelf WH
def Fl.woE (f : Fl) (i : Int) : Int := if f.okB then (if fromB i 0 ((f.seen.length : Int) - 1) then 0 else 1) else 30
def flNil : Fl := ⟨[], 0, 0, 0, 0, []⟩
def Fl.woF (f : Fl) (i : Int) : Fl := if f.woE i = 0 then f.without i.toNat else flNil
theorem fv_nil (w : World) : Fv w (.agg flZ) flNil := ⟨_, _, rfl, Sl.nil _ _ _, Sl.nil _ _ _⟩
theorem v_len {f : Fl} (hf : f.good) : f.v.length ≤ 100 := by
  obtain ⟨h1, h2, h3⟩ := vErr_zero hf.v
  omega
theorem wo_bad {f : Fl} {k n : Int} (h : f.woE k = n) (hn : n ≠ 0) : f.woE k = n ∧ f.woF k = flNil := ⟨h, by unfold Fl.woF; rw [h, if_neg hn]⟩
set_option maxRecDepth 100000 in
set_option maxHeartbeats 4000000 in
theorem without_api (v : Value) (f : Fl) (k : Int) (w : World) (hf : Fv w v f) :
    Calls Tryz.prog 69 #[v, .int .i64 k] w fun e w' => ∃ v', e = .returned (.tuple #[v', .int .i64 (f.woE k)]) ∧ Fv w' v' (f.woF k) ∧ Below w.heap.size w w' := by
  obtain ⟨vv, sv, rfl, hv, hs⟩ := hf
  have HV := Lib.hid hv
  have HSE := Lib.hid hs
  clear hv hs
  unfold flC
  have hA : ∀ {W : World}, Below ((w.alloc (.cells #[vv, .int .i64 f.lv, .int .i64 f.er, .int .i64 f.wl, .int .i64 f.wh, sv] 30)).alloc (.cells flZ 30)).heap.size ((w.alloc (.cells #[vv, .int .i64 f.lv, .int .i64 f.er, .int .i64 f.wl, .int .i64 f.wh, sv] 30)).alloc (.cells flZ 30)) W →
      W.heap[w.heap.size]? = some (.cells #[vv, .int .i64 f.lv, .int .i64 f.er, .int .i64 f.wl, .int .i64 f.wh, sv] 30 (0, 0)) ∧ W.heap[w.heap.size + 1]? = some (.cells flZ 30 (0, 0)) := fun hb => by
    have h1 := bk_below (bk_alloc (bk_new w (.cells #[vv, .int .i64 f.lv, .int .i64 f.er, .int .i64 f.wl, .int .i64 f.wh, sv] 30)) (.cells flZ 30)) hb
    have h2 := bk_below (bk_new (w.alloc (.cells #[vv, .int .i64 f.lv, .int .i64 f.er, .int .i64 f.wl, .int .i64 f.wh, sv] 30)) (.cells flZ 30)) hb
    rw [World.size_alloc] at h2
    exact ⟨h1, h2⟩
  go_enter Tryz.func69, Tryz.ntmps69
  go_wp2_with fail
  refine (opened_any _ f _ ⟨vv, sv, rfl, HV.out.below (by (repeat' with_reducible first|assumption|exact Below.refl _ _|apply bl_alloc|apply bl_drewN|apply bl_drew|refine bl_set ?_ (by simp<;>omega) _|refine bl_then ?_ (by assumption))), HSE.out.below (by (repeat' with_reducible first|assumption|exact Below.refl _ _|apply bl_alloc|apply bl_drewN|apply bl_drew|refine bl_set ?_ (by simp<;>omega) _|refine bl_then ?_ (by assumption)))⟩).mono ?_
  intro e1 w1 hop
  rcases hop with ⟨hno, rfl, hb1⟩ | ⟨hyes, g, rfl, hst, hb1⟩
  · obtain ⟨h1, h2⟩ := hA hb1
    have HE : Hid (f.woE k = 30 ∧ f.woF k = flNil) := Lib.hid (wo_bad (by unfold Fl.woE; rw [hno]; rfl) (by decide))
    have hB1 : Below w.heap.size w w1 := by (repeat' with_reducible first|assumption|exact Below.refl _ _|apply bl_alloc|apply bl_drewN|apply bl_drew|refine bl_set ?_ (by simp<;>omega) _|refine bl_then ?_ (by assumption))
    clear hA hno hb1
    unfold flZ at h2
    obtain ⟨⟨z0, z1, z2, z3, z4, z5⟩, r0, r1, r2, r3, r4, r5⟩ := agg6 h2
    have hl2 := bk_lt h2
    have H2 := Lib.hid h2
    clear h1 h2
    go_wp2
    refine bodyPost_ret (v := .tuple #[.agg flZ, .int .i64 30]) (res_list (vs := [_, _]) rfl (by simp) (.cell (w.heap.size + 1) 30 _ (0, 0) _ rfl (bk_put6 H2.out) Tryz.underlying30 rfl (by kernel_rfl) (.tmp rfl .nil))) rfl ?_
    exact ⟨_, by rw [HE.out.1], by rw [HE.out.2]; exact fv_nil _, by (repeat' with_reducible first|assumption|exact Below.refl _ _|apply bl_alloc|apply bl_drewN|apply bl_drew|refine bl_set ?_ (by simp<;>omega) _|refine bl_then ?_ (by assumption))⟩
  · obtain ⟨h1, h2⟩ := hA hb1
    have HG := Lib.hid (good_iff.1 hyes)
    have HST := Lib.hid hst
    have hB1 : Below w.heap.size w w1 := by (repeat' with_reducible first|assumption|exact Below.refl _ _|apply bl_alloc|apply bl_drewN|apply bl_drew|refine bl_set ?_ (by simp<;>omega) _|refine bl_then ?_ (by assumption))
    have H1 := Lib.hid h1
    have H2 := Lib.hid h2
    have HY := Lib.hid hyes
    clear hA hyes hst hb1 h1 h2
    go_wp2_with fail
    refine (reading_any g f k _ HST.out).mono ?_
    rintro e2 w2 ⟨rfl, hb2⟩
    have h1 := bk_below H1.out hb2
    have h2 := bk_below H2.out hb2
    have hB2 := bl_then hB1 hb2
    clear hb2 hB1 HST H1 H2
    cases hr : fromB k 0 ((f.seen.length : Int) - 1) with
    | false =>
      have HE : Hid (f.woE k = 1 ∧ f.woF k = flNil) := Lib.hid (wo_bad (by unfold Fl.woE; rw [HY.out, hr]; rfl) (by decide))
      clear hr
      unfold flZ at h2
      obtain ⟨⟨z0, z1, z2, z3, z4, z5⟩, r0, r1, r2, r3, r4, r5⟩ := agg6 h2
      have hl2 := bk_lt h2
      have H2 := Lib.hid h2
      clear h1 h2
      go_wp2
      refine bodyPost_ret (v := .tuple #[.agg flZ, .int .i64 1]) (res_list (vs := [_, _]) rfl (by simp) (.cell (w.heap.size + 1) 30 _ (0, 0) _ rfl (bk_put6 H2.out) Tryz.underlying30 rfl (by kernel_rfl) (.tmp rfl .nil))) rfl ?_
      exact ⟨_, by rw [HE.out.1], by rw [HE.out.2]; exact fv_nil _, by (repeat' with_reducible first|assumption|exact Below.refl _ _|apply bl_alloc|apply bl_drewN|apply bl_drew|refine bl_set ?_ (by simp<;>omega) _|refine bl_then ?_ (by assumption))⟩
    | true =>
      have hE : f.woE k = 0 := by unfold Fl.woE; rw [HY.out, hr]; rfl
      obtain ⟨hk0, hk1⟩ := fromB_iff.1 hr
      obtain ⟨i, rfl⟩ : ∃ i : Nat, k = (i : Int) := ⟨k.toNat, by omega⟩
      have hi : i < f.seen.length := by omega
      have HE : Hid (f.woE i = 0 ∧ f.woF i = f.without i) := Lib.hid ⟨hE, by unfold Fl.woF; rw [hE, if_pos rfl, Int.toNat_natCast]⟩
      clear hr hE hk0 hk1
      unfold flZ at h2
      obtain ⟨y0, y1, y2, y3, y4, y5⟩ := blk6 h1
      have hl1 := bk_lt h1
      have H2 := Lib.hid h2
      clear h1 h2
      go_wp2_with fail
      refine (without_any _ f i _ ⟨vv, sv, rfl, HV.out.below hB2, HSE.out.below hB2⟩ hi (by have := HG.out.len; omega) (v_len HG.out)).mono ?_
      rintro e3 w3 ⟨v4, s4, rfl, hv4, hs4, hf4, hf5, hb3⟩
      obtain ⟨A4, c4, rfl, _⟩ := id hv4
      obtain ⟨A5, c5, rfl, _⟩ := id hs4
      have HV4 := Lib.hid hv4
      have HS4 := Lib.hid hs4
      have HF4 := Lib.hid hf4
      have HF5 := Lib.hid hf5
      have hB3 := bl_then hB2 hb3
      have h2 := bk_below H2.out hb3
      have hl3 := bk_lt H2.out
      obtain ⟨⟨z0, z1, z2, z3, z4, z5⟩, r0, r1, r2, r3, r4, r5⟩ := agg6 h2
      have hl2 := bk_lt h2
      have H2' := Lib.hid h2
      clear h2 hv4 hs4 hf4 hf5 hb3
      unfold flC
      generalize hlen : (f.seen.eraseIdx i).length = nl at *
      have HLEN := Lib.hid hlen
      clear hlen
      go_wp2
      refine bodyPost_ret (v := .tuple #[.agg #[.slice A4 f.v.length c4, .int .i64 f.lv, .int .i64 f.er, .int .i64 f.wl, .int .i64 f.wh, .slice A5 nl c5], .int .i64 0]) (res_list (vs := [_, _]) rfl (by simp) (.cell (w.heap.size + 1) 30 _ (0, 0) _ rfl (bk_put6 H2'.out) Tryz.underlying30 rfl (by kernel_rfl) (.tmp rfl .nil))) rfl ?_
      refine ⟨_, by rw [HE.out.1], ?_, by (repeat' with_reducible first|assumption|exact Below.refl _ _|apply bl_alloc|apply bl_drewN|apply bl_drew|refine bl_set ?_ (by simp<;>omega) _|refine bl_then ?_ (by assumption))⟩
      rw [HE.out.2]
      exact ⟨_, _, rfl, HV4.out.keep (fun _ b hb => heap_put6 _ _ _ _ _ _ _ _ b (by have := HF4.out b hb; omega)), HS4.out.keep (fun _ b hb => heap_put6 _ _ _ _ _ _ _ _ b (by have := HF5.out b hb; omega))⟩
end Go.Proofs.YtjpagpplkldbkaaGreat
