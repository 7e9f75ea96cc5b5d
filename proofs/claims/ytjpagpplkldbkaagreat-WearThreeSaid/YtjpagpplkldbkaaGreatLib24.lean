/- A case that is possible. slices.Equal over whole numbers. slices.Delete of one reading, in a row of one's own. Clones of readings and of rings. A filling without a reading. Steps of a law's walk: the blocks that the law has laid, as one list. -/
import Derived.Deep.RegionLaw
import Derived.Lib.SliceRun
import Derived.Test.YtjpagpplkldbkaaGreatLib23
set_option linter.unusedVariables false
set_option linter.unusedSimpArgs false
namespace Go.Proofs.YtjpagpplkldbkaaGreat
open Go.RowKit Go.Shelf WH
/-- What Case returns. -/
def CaP (f : Fl) (r : Ra) (k : Int) (b : Bool) : Prop :=
  (f.rdy true ≠ 0 ∧ r = ⟨0, 0⟩ ∧ k = 0 ∧ b = false) ∨
  (f.rdy true = 0 ∧ b = true ∧ r = f.lo ∧ -1 ≤ k ∧ k < f.seen.length ∧ f.ccErr f.lo k = 0) ∨
  (f.rdy true = 0 ∧ b = false ∧ r = ⟨0, 0⟩ ∧ k = 0 ∧ ∀ j : Int, -1 ≤ j → j < f.seen.length → f.ccErr f.lo j ≠ 0)
set_option maxRecDepth 100000 in
set_option maxHeartbeats 4000000 in
theorem case_any (v : Value) (f : Fl) (w : World) (hf : Fv w v f) : Calls Tryz.prog 78 #[v] w fun e w' => ∃ r k b, e = .returned (.tuple #[raV r, .int .i64 k, .bool b, .int .i64 f.possE]) ∧ CaP f r k b ∧ Below w.heap.size w w' := by
  obtain ⟨vv, sv, rfl, hv, hs⟩ := hf
  have HV := Lib.hid hv
  have HSE := Lib.hid hs
  clear hv hs
  unfold flC
  go_enter Tryz.func78, Tryz.ntmps78
  go_wp2_with fail
  refine (ready_fine _ f _ ⟨vv, sv, rfl, HV.out.below (by (repeat' with_reducible first|assumption|exact Below.refl _ _|apply bl_alloc|apply bl_drewN|apply bl_drew|refine bl_set ?_ (by simp<;>omega) _|refine bl_then ?_ (by assumption))), HSE.out.below (by (repeat' with_reducible first|assumption|exact Below.refl _ _|apply bl_alloc|apply bl_drewN|apply bl_drew|refine bl_set ?_ (by simp<;>omega) _|refine bl_then ?_ (by assumption)))⟩).mono ?_
  intro e1 w1 hrd
  have hA : ∀ {W : World}, Below ((w.alloc (.cells #[vv, .int .i64 f.lv, .int .i64 f.er, .int .i64 f.wl, .int .i64 f.wh, sv] 30)).alloc (.cells #[.int .i64 0, .int .i64 0] 41)).heap.size ((w.alloc (.cells #[vv, .int .i64 f.lv, .int .i64 f.er, .int .i64 f.wl, .int .i64 f.wh, sv] 30)).alloc (.cells #[.int .i64 0, .int .i64 0] 41)) W →
      W.heap[w.heap.size]? = some (.cells #[vv, .int .i64 f.lv, .int .i64 f.er, .int .i64 f.wl, .int .i64 f.wh, sv] 30 (0, 0)) ∧ W.heap[w.heap.size + 1]? = some (.cells #[.int .i64 0, .int .i64 0] 41 (0, 0)) := fun hb => by
    have h1 := bk_below (bk_alloc (bk_new w (.cells #[vv, .int .i64 f.lv, .int .i64 f.er, .int .i64 f.wl, .int .i64 f.wh, sv] 30)) (.cells #[.int .i64 0, .int .i64 0] 41)) hb
    have h2 := bk_below (bk_new (w.alloc (.cells #[vv, .int .i64 f.lv, .int .i64 f.er, .int .i64 f.wl, .int .i64 f.wh, sv] 30)) (.cells #[.int .i64 0, .int .i64 0] 41)) hb
    rw [World.size_alloc] at h2
    exact ⟨h1, h2⟩
  rcases hrd with ⟨hno, rfl, hb1⟩ | ⟨h0, hg, _, hem, kv, rfl, hkn, hb1⟩
  · obtain ⟨h1, h2⟩ := hA hb1
    obtain ⟨⟨z0, z1⟩, f0, f1⟩ := blk2 h2
    have hlt := bk_lt h2
    have H2 := Lib.hid h2
    have HP : Hid (CaP f ⟨0, 0⟩ 0 false) := Lib.hid (.inl ⟨hno, rfl, rfl, rfl⟩)
    clear h1 h2 hA
    rcases @rdy_true f with ⟨hr, ho⟩ | ⟨hr, ho, _⟩ | ⟨hr, _⟩
    · rw [hr]
      have HE : Hid (f.possE = 30) := Lib.hid (by unfold Fl.possE; rw [ho]; rfl)
      clear hno hr ho
      unfold knZ
      go_wp2
      refine bodyPost_ret (v := .tuple #[raV ⟨0, 0⟩, .int .i64 0, .bool false, .int .i64 30]) (res_list (vs := [_, _, _, _]) rfl (by simp) (.cell (w.heap.size + 1) 41 _ (0, 0) _ rfl (by first | exact bk_alloc (bk_put2 H2.out) _ | exact bk_put2 (bk_alloc H2.out _)) Tryz.underlying41 rfl (by kernel_rfl) (.tmp rfl (.tmp rfl (.tmp rfl .nil))))) rfl ?_
      exact ⟨_, _, _, by rw [HE.out], HP.out, by (repeat' with_reducible first|assumption|exact Below.refl _ _|apply bl_alloc|apply bl_drewN|apply bl_drew|refine bl_set ?_ (by simp<;>omega) _|refine bl_then ?_ (by assumption))⟩
    · rw [hr]
      have HE : Hid (f.possE = 0) := Lib.hid (by unfold Fl.possE; rw [ho]; rfl)
      clear hno hr ho
      unfold knZ
      go_wp2
      refine bodyPost_ret (v := .tuple #[raV ⟨0, 0⟩, .int .i64 0, .bool false, .int .i64 0]) (res_list (vs := [_, _, _, _]) rfl (by simp) (.cell (w.heap.size + 1) 41 _ (0, 0) _ rfl (by first | exact bk_alloc (bk_put2 H2.out) _ | exact bk_put2 (bk_alloc H2.out _)) Tryz.underlying41 rfl (by kernel_rfl) (.tmp rfl (.tmp rfl (.tmp rfl .nil))))) rfl ?_
      exact ⟨_, _, _, by rw [HE.out], HP.out, by (repeat' with_reducible first|assumption|exact Below.refl _ _|apply bl_alloc|apply bl_drewN|apply bl_drew|refine bl_set ?_ (by simp<;>omega) _|refine bl_then ?_ (by assumption))⟩
    · exact absurd hr hno
  · obtain ⟨h1, h2⟩ := hA hb1
    have H1 := Lib.hid h1
    have H2 := Lib.hid h2
    have HE : Hid (f.possE = 0) := Lib.hid (by unfold Fl.possE; rw [good_iff.2 hg]; rfl)
    have HT := Lib.hid (sol_tidy hg)
    have HG := Lib.hid hg
    have H0 := Lib.hid h0
    obtain ⟨g, va, vb, rfl, hst, hka, hkb⟩ := hkn
    obtain ⟨Aa, ka, rfl, _⟩ := hka
    obtain ⟨Ab, kb, rfl, _⟩ := hkb
    obtain ⟨vv', sv', tv', hgs, _, hss, _⟩ := hst
    obtain ⟨As, cs, rfl, hsl, ⟨hsc, _⟩, _⟩ := hss
    have c5 := bk_cell hgs 5
    simp [stC] at c5
    have hgl := bk_lt hgs
    have hlt2 := bk_lt h2
    have hB1 : Below w.heap.size w w1 := by (repeat' with_reducible first|assumption|exact Below.refl _ _|apply bl_alloc|apply bl_drewN|apply bl_drew|refine bl_set ?_ (by simp<;>omega) _|refine bl_then ?_ (by assumption))
    clear hA hem hg h0 hgs hb1
    unfold knC
    go_wp2_with fail
    refine (wears_any f.sol _ _ _ HT.out.lo HT.out.hi).mono ?_
    rintro e2 w2 ⟨rfl, hb2⟩
    have hkk := bk_below (bk_new w1 (.cells #[.pointer (some ⟨g, 0, none⟩), .int .i64 f.sol.lo.r.n, .int .i64 f.sol.lo.r.d, .bool f.sol.lo.strict, .int .i64 f.sol.hi.r.n, .int .i64 f.sol.hi.r.d, .bool f.sol.hi.strict, .slice Aa f.sol.above.length ka, .slice Ab f.sol.below.length kb, .bool f.sol.empty] 125)) hb2
    have hC2 : Below w1.heap.size w1 w2 := by (repeat' with_reducible first|assumption|exact Below.refl _ _|apply bl_alloc|apply bl_drewN|apply bl_drew|refine bl_set ?_ (by simp<;>omega) _|refine bl_then ?_ (by assumption))
    have hB2 := bl_then hB1 hC2
    clear hb2 h1 h2
    have hfl : wearR f.sol.hi.r = f.lo := rfl
    rw [hfl]
    unfold raV
    generalize hlo : f.lo = lo at *
    have HLO := Lib.hid hlo
    clear hfl hlo
    go_wp2
    have hB3 := bl_alloc (bl_alloc hB2 (.cells #[.int .i64 lo.n, .int .i64 lo.d] 41)) (.cells #[.int .i64 (wearR f.sol.lo.r).n, .int .i64 (wearR f.sol.lo.r).d] 41)
    have hC3 := bl_alloc (bl_alloc hC2 (.cells #[.int .i64 lo.n, .int .i64 lo.d] 41)) (.cells #[.int .i64 (wearR f.sol.lo.r).n, .int .i64 (wearR f.sol.lo.r).d] 41)
    have hk3 := bk_alloc (bk_alloc hkk (.cells #[.int .i64 lo.n, .int .i64 lo.d] 41)) (.cells #[.int .i64 (wearR f.sol.lo.r).n, .int .i64 (wearR f.sol.lo.r).d] 41)
    have hL3 := bk_alloc (bk_new w2 (.cells #[.int .i64 lo.n, .int .i64 lo.d] 41)) (.cells #[.int .i64 (wearR f.sol.lo.r).n, .int .i64 (wearR f.sol.lo.r).d] 41)
    generalize hW3 : (w2.alloc (.cells #[.int .i64 lo.n, .int .i64 lo.d] 41)).alloc (.cells #[.int .i64 (wearR f.sol.lo.r).n, .int .i64 (wearR f.sol.lo.r).d] 41) = W3 at *
    have HK3 := Lib.hid hk3
    have HL3 := Lib.hid hL3
    have H13 := Lib.hid (bk_below H1.out hC3)
    have H23 := Lib.hid (bk_below H2.out hC3)
    have HC5 := Lib.hid (cl_below hC3 c5)
    have HV3 := Lib.hid (HV.out.below hB3)
    have HSE3 := Lib.hid (HSE.out.below hB3)
    clear hW3 hk3 hL3 hkk hB2 hC2 c5 hB1
    go_loopw [10] (fun i W => ∃ j : Nat, j ≤ f.seen.length + 1 ∧ i = .int .i64 ((j : Int) - 1) ∧ Below W3.heap.size W3 W ∧ ∀ q : Nat, q < j → f.ccErr lo ((q : Int) - 1) ≠ 0) (fun i _ => f.seen.length + 1 - (intOf i + 1).toNat)
    case atStart => exact ⟨0, by omega, rfl, by (repeat' with_reducible first|assumption|exact Below.refl _ _|apply bl_alloc|apply bl_drewN|apply bl_drew|refine bl_set ?_ (by simp<;>omega) _|refine bl_then ?_ (by assumption)), fun q h => by omega⟩
    case round =>
      obtain ⟨j, hj, rfl, hBi, hok⟩ := hrel
      have HO := Lib.hid hok
      have c5 := cl_below hBi HC5.out
      have hkk := bk_below HK3.out hBi
      have hll := bk_below HL3.out hBi
      have h1 := bk_below H13.out hBi
      have h2 := bk_below H23.out hBi
      obtain ⟨⟨x0, _⟩, _⟩ := agg10 hkk
      obtain ⟨⟨l0, l1⟩, _, _⟩ := blk2 hll
      obtain ⟨y0, y1, y2, y3, y4, y5⟩ := blk6 h1
      obtain ⟨⟨r0, r1⟩, rf0, rf1⟩ := blk2 h2
      have hl2 := bk_lt h2
      have HVi := Lib.hid (HV3.out.below hBi)
      have HSi := Lib.hid (HSE3.out.below hBi)
      have Hr := Lib.hid h2
      have hBw := bl_then hB3 hBi
      clear hok hkk hll h1 h2
      by_cases hlt : j < f.seen.length + 1
      · have hltI : (j : Int) - 1 < (f.seen.length : Int) := by omega
        have hd : decide ((j : Int) - 1 < (f.seen.length : Int)) = true := decide_eq_true hltI
        have ewk : IntKind.i64.wrap ((j : Int) - 1 + 1) = ((j + 1 : Nat) : Int) - 1 := by rw [wrapI (by omega) (by omega)]; omega
        generalize hj1 : (j : Int) - 1 = jj at *
        by_cases hz : f.ccErr lo jj = 0
        · have HZ := Lib.hid hz
          have HP : Hid (CaP f lo jj true) := Lib.hid (.inr (.inl ⟨H0.out, rfl, HLO.out.symm, by omega, hltI, by rw [HLO.out]; exact hz⟩))
          clear hz
          go_wp2_with fail
          refine (ckc_any _ f lo jj _ ⟨vv, sv, rfl, HVi.out, HSi.out⟩).mono ?_
          rintro e5 w5 ⟨rfl, hb5⟩
          rw [HZ.out]
          have h2 := bk_below Hr.out hb5
          obtain ⟨⟨r0, r1⟩, rf0, rf1⟩ := blk2 h2
          have hll := bk_below HL3.out (bl_then hBi hb5)
          obtain ⟨⟨l0, l1⟩, _, _⟩ := blk2 hll
          have hl2 := bk_lt h2
          have H2' := Lib.hid h2
          have hB5 := bl_then hBw hb5
          clear h2 hll
          go_wp2
          refine bodyPost_ret (v := .tuple #[raV lo, .int .i64 jj, .bool true, .int .i64 0]) (res_list (vs := [_, _, _, _]) rfl (by simp) (.cell (w.heap.size + 1) 41 _ (0, 0) _ rfl (bk_put2 H2'.out) Tryz.underlying41 rfl (by kernel_rfl) (.tmp rfl (.tmp rfl (.tmp rfl .nil))))) rfl ?_
          exact ⟨_, _, _, by rw [HE.out], HP.out, by (repeat' with_reducible first|assumption|exact Below.refl _ _|apply bl_alloc|apply bl_drewN|apply bl_drew|refine bl_set ?_ (by simp<;>omega) _|refine bl_then ?_ (by assumption))⟩
        · have HZ := Lib.hid hz
          have hzb : (f.ccErr lo jj == 0) = false := by simpa using hz
          clear hz
          go_wp2_with fail
          refine (ckc_any _ f lo jj _ ⟨vv, sv, rfl, HVi.out, HSi.out⟩).mono ?_
          rintro e5 w5 ⟨rfl, hb5⟩
          have hB5 := bl_then hBi hb5
          go_wp2
          go_roundw
          case rel =>
            refine ⟨j + 1, by omega, congrArg (Value.int IntKind.i64) (by omega), hB5, fun q hq => ?_⟩
            rcases Nat.lt_or_ge q j with h | h
            · exact HO.out q h
            · obtain rfl : q = j := by omega
              rw [hj1]
              exact HZ.out
          case measure => simp [intOf]; omega
      · obtain rfl : j = f.seen.length + 1 := by omega
        have hjj : ((f.seen.length + 1 : Nat) : Int) - 1 = (f.seen.length : Int) := by omega
        have HP : Hid (CaP f ⟨0, 0⟩ 0 false) := Lib.hid (.inr (.inr ⟨H0.out, rfl, rfl, rfl, fun q q0 q1 => by
          have := HO.out (q + 1).toNat (by omega)
          rw [HLO.out]
          rwa [show (((q + 1).toNat : Nat) : Int) - 1 = q by omega] at this⟩))
        rw [hjj]
        go_wp2
        refine bodyPost_ret (v := .tuple #[raV ⟨0, 0⟩, .int .i64 0, .bool false, .int .i64 0]) (res_list (vs := [_, _, _, _]) rfl (by simp) (.cell (w.heap.size + 1) 41 _ (0, 0) _ rfl (bk_put2 Hr.out) Tryz.underlying41 rfl (by kernel_rfl) (.tmp rfl (.tmp rfl (.tmp rfl .nil))))) rfl ?_
        exact ⟨_, _, _, by rw [HE.out], HP.out, by (repeat' with_reducible first|assumption|exact Below.refl _ _|apply bl_alloc|apply bl_drewN|apply bl_drew|refine bl_set ?_ (by simp<;>omega) _|refine bl_then ?_ (by assumption))⟩
end Go.Proofs.YtjpagpplkldbkaaGreat
set_option linter.unusedVariables false
set_option linter.unusedSimpArgs false
namespace Go.Proofs.YtjpagpplkldbkaaGreat
open Go.RowKit Go.Shelf WH
theorem eq_of_len {l m : List Int} (hn : l.length = m.length) (h : ∀ j (h1 : j < l.length) (h2 : j < m.length), l[j] = m[j]) : l = m := List.ext_getElem hn fun j h1 h2 => h j h1 h2
set_option maxRecDepth 100000 in
set_option maxHeartbeats 1000000 in
theorem equal_any (v u : Value) (l m : List Int) (w : World) (hv : Sl inC 1 w v l) (hu : Sl inC 1 w u m) :
    Calls Tryz.prog 59 #[v, u] w fun e w' => e = .returned (.bool (decide (l = m))) ∧ Below w.heap.size w w' := by
  obtain ⟨A, c, rfl, hlc, hc, hcs⟩ := hv
  obtain ⟨A2, c2, rfl, hmc, hc2, hcs2⟩ := hu
  have HCS := Lib.hid hcs
  have HCS2 := Lib.hid hcs2
  clear hcs hcs2
  by_cases hn : l.length = m.length
  rotate_left
  · have h1 : ((l.length : Int) == (m.length : Int)) = false := by simp; omega
    have h2 : (l.length == m.length) = false := by simpa using hn
    have h3 : ((l.length : Int) != (m.length : Int)) = true := by simp; omega
    have h4 : (l.length != m.length) = true := by simpa using hn
    have HE : Hid (decide (l = m) = false) := Lib.hid (decide_eq_false fun e => hn (by rw [e]))
    clear hn
    go_enter Tryz.func59, Tryz.ntmps59
    go_wp2
    go_ret
    exact ⟨by rw [HE.out]; rfl, by (repeat' with_reducible first|assumption|exact Below.refl _ _|apply bl_alloc|apply bl_drewN|apply bl_drew|refine bl_set ?_ (by simp<;>omega) _|refine bl_then ?_ (by assumption))⟩
  have HN := Lib.hid hn
  rw [← hn] at hmc ⊢
  clear hn
  go_enter Tryz.func59, Tryz.ntmps59
  go_wp2
  go_loopw [13] (fun i W => ∃ k : Nat, k ≤ l.length ∧ i = .int .i64 k ∧ Below w.heap.size w W ∧ ∀ j (h1 : j < l.length), j < k → l[j] = m[j]'(by rw [← HN.out]; exact h1)) (fun i _ => l.length - (intOf i).toNat)
  case atStart => exact ⟨0, by omega, rfl, by (repeat' with_reducible first|assumption|exact Below.refl _ _|apply bl_alloc|apply bl_drewN|apply bl_drew|refine bl_set ?_ (by simp<;>omega) _|refine bl_then ?_ (by assumption)), fun j _ h => by omega⟩
  case round =>
    obtain ⟨k, hk, rfl, hBi, hok⟩ := hrel
    have HO := Lib.hid hok
    clear hok
    by_cases hlt : k < l.length
    · obtain ⟨b, off, rfl, hcell⟩ := HCS.out (by intro h; simp [h] at hlt)
      have hltm : k < m.length := by rw [← HN.out]; exact hlt
      obtain ⟨b2, off2, rfl, hcell2⟩ := HCS2.out (by intro h; simp [h] at hltm)
      have d0 := cl_below hBi (in_cell hcell hlt)
      have d1 := cl_below hBi (in_cell hcell2 hltm)
      have hkI : (k : Int) < (l.length : Int) := by omega
      have ewk : IntKind.i64.wrap ((k : Int) + 1) = (k : Int) + 1 := wrapI (by omega) (by omega)
      clear hcell hcell2
      generalize hx : l[k] = x at *
      generalize hy : m[k] = y at *
      have HX := Lib.hid hx
      have HY := Lib.hid hy
      clear hx hy
      by_cases hq : x = y
      · subst hq
        go_wp2
        go_region
        all_goals (try go_wp2)
        go_roundw
        case rel =>
          refine ⟨k + 1, by omega, by go_num, by (repeat' with_reducible first|assumption|exact Below.refl _ _|apply bl_alloc|apply bl_drewN|apply bl_drew|refine bl_set ?_ (by simp<;>omega) _|refine bl_then ?_ (by assumption)), fun j h1 h2 => ?_⟩
          rcases Nat.lt_or_ge j k with h | h
          · exact HO.out j h1 h
          · obtain rfl : j = k := by omega
            rw [HX.out, HY.out]
        case measure => simp [intOf]; omega
      · have h1 : (x == y) = false := by simpa using hq
        have h2 : (x != y) = true := by simpa using hq
        have HE : Hid (decide (l = m) = false) := Lib.hid (decide_eq_false fun e => hq (by rw [← HX.out, ← HY.out]; subst e; rfl))
        clear hq
        go_wp2
        go_region
        all_goals (try go_wp2)
        go_ret
        exact ⟨by rw [HE.out]; rfl, by (repeat' with_reducible first|assumption|exact Below.refl _ _|apply bl_alloc|apply bl_drewN|apply bl_drew|refine bl_set ?_ (by simp<;>omega) _|refine bl_then ?_ (by assumption))⟩
    · obtain rfl : k = l.length := by omega
      have HE : Hid (decide (l = m) = true) := Lib.hid (decide_eq_true (eq_of_len HN.out fun j h1 h2 => HO.out j h1 h1))
      go_wp2
      go_ret
      exact ⟨by rw [HE.out]; rfl, by (repeat' with_reducible first|assumption|exact Below.refl _ _|apply bl_alloc|apply bl_drewN|apply bl_drew|refine bl_set ?_ (by simp<;>omega) _|refine bl_then ?_ (by assumption))⟩
end Go.Proofs.YtjpagpplkldbkaaGreat
set_option linter.unusedVariables false
set_option linter.unusedSimpArgs false
namespace Go.Proofs.YtjpagpplkldbkaaGreat
open Go.RowKit Go.Shelf WH
theorem snZ : (Tryz.prog.info? 111).map (fun i => (i.zero, i.size, i.bytes)) = some (some (.agg #[.int .i64 0, .int .i64 0, .int .i64 0, .int .i64 0]), 4, 32) := by kernel_rfl
theorem gb_setCells (g : Nat) : ∀ (vs : List Value) (o : Nat) (w : World), w.grownBy (w.setCells g o vs) (some g)
  | [], _, w => gb_refl w _
  | v :: r, o, w => (gb_set w g o v).trans (gb_setCells g r (o + 1) _)
theorem bk_setCells {g : Nat} {t : TypeId} : ∀ (vs : List Value) (o : Nat) (w : World) (cur : Array Value), w.heap[g]? = some (.cells cur t (0, 0)) → ∃ cur', (w.setCells g o vs).heap[g]? = some (.cells cur' t (0, 0)) ∧ cur'.size = cur.size
  | [], _, w, cur, h => ⟨cur, h, rfl⟩
  | v :: r, o, w, cur, h => by
    obtain ⟨c2, h2, h3⟩ := bk_setCells r (o + 1) _ _ (bk_set h o v)
    exact ⟨c2, h2, by rw [h3]; simp⟩
theorem bk_some {w : World} {g : Nat} {t : TypeId} {cur : Array Value} (h : w.heap[g]? = some (.cells cur t (0, 0))) {p : Nat} (hp : p < cur.size) : (w.cell? ⟨g, p, none⟩).isSome = true := by
  rw [bk_cell h, Array.getElem?_eq_getElem hp]
  rfl
theorem erase_get {α : Type} {l : List α} {i j : Nat} (hj : j < (l.eraseIdx i).length) : (l.eraseIdx i)[j]? = if j < i then l[j]? else l[j + 1]? := by
  rw [List.getElem?_eraseIdx]
theorem Sl.backG {w : World} {g c i : Nat} {l : List Sn} (h : Sl snC 4 w (.slice (some ⟨g, 0, none⟩) l.length c) l) (hi : i + 1 ≤ l.length) :
    Sl snC 4 w (.slice (if c = i + 1 then some ⟨g, 0, none⟩ else some ⟨g, (i + 1) * 4, none⟩) (l.length - (i + 1)) (c - (i + 1))) (l.drop (i + 1)) := by
  obtain ⟨A', c', e, hl, hc, hx⟩ := h
  cases e
  have hlen : (l.drop (i + 1)).length = l.length - (i + 1) := by simp
  refine ⟨_, _, by rw [hlen], by omega, ⟨by omega, fun h => by split at h <;> cases h⟩, fun hne => ?_⟩
  have h0 : 0 < l.length - (i + 1) := by rw [← hlen]; exact List.length_pos_iff.2 hne
  obtain ⟨b', off', e, hcell⟩ := hx (by intro h; subst h; simp at h0)
  cases e
  rw [if_neg (by omega)]
  refine ⟨g, (i + 1) * 4, rfl, fun j q u hj hu hq => ?_⟩
  rw [hlen] at hj
  have := hcell (i + 1 + j) q u (by omega) (by rw [List.getElem?_drop] at hu; exact hu) hq
  rw [show (i + 1) * 4 + j * 4 + q = 0 + (i + 1 + j) * 4 + q by omega]
  exact this
theorem run_clear1 (w : World) (g o c : Nat) (ty : TypeId) (hc : ∀ j, j < 4 → (w.cell? ⟨g, o + j, none⟩).isSome = true) (hf : ∀ j, j < 4 → w.frozen? ⟨g, o + j, none⟩ = false) :
    (Builtin.clear_ #[28] ty #[.slice (some ⟨g, o, none⟩) 1 c]).run Tryz.prog w = .ok (.tuple #[]) (w.setCells g o [.int .i64 0, .int .i64 0, .int .i64 0, .int .i64 0]) := by
  obtain ⟨i0, hi0, hzz⟩ := Option.map_eq_some_iff.1 snZ
  simp only [Prod.mk.injEq] at hzz
  obtain ⟨hz0, hz1, hz2⟩ := hzz
  have hzc : (Builtin.zeroCells (Value.agg #[.int .i64 0, .int .i64 0, .int .i64 0, .int .i64 0]).cells 1).toList = [.int .i64 0, .int .i64 0, .int .i64 0, .int .i64 0] := by kernel_rfl
  have hst := run_storeCells_cells (P := Tryz.prog) g o [.int .i64 0, .int .i64 0, .int .i64 0, .int .i64 0] 0 w (by simpa using hc) (by simpa using hf) (by intro v hv; simp at hv; subst hv; rfl)
  simp only [Nat.add_zero] at hst
  have hv : (zeroValue 111).run Tryz.prog w = .ok (.agg #[.int .i64 0, .int .i64 0, .int .i64 0, .int .i64 0]) w := by simp [zeroValue, typeInfo, hi0, hz0]
  have ht : Tryz.prog.underlying 28 = some (.slice 111) := Tryz.underlying28
  simp [Builtin.clear_, run_underlying ht, hv, hzc, hst]
set_option maxRecDepth 100000 in
set_option maxHeartbeats 4000000 in
theorem delete_any (g n cap i : Nat) (xs : List Sn) (base : Nat) (w : World) (ho : w.ownsRow base 111 4 (.slice (some ⟨g, 0, none⟩) n cap) n (flat snC xs)) (hn : n = xs.length) (hi : i < n) (hc : cap ≤ 9223372036854775807) :
    Calls Tryz.prog 227 #[.slice (some ⟨g, 0, none⟩) n cap, .int .i64 i, .int .i64 ((i : Int) + 1)] w fun e w' => e = .returned (.slice (some ⟨g, 0, none⟩) (n - 1) cap) ∧ Sl snC 4 w' (.slice (some ⟨g, 0, none⟩) (n - 1) cap) (xs.eraseIdx i) ∧ w.grownBy w' (some g) := by
  obtain ⟨i0, hi0, hzz⟩ := Option.map_eq_some_iff.1 snZ
  simp only [Prod.mk.injEq] at hzz
  obtain ⟨hz0, hz1, hz2⟩ := hzz
  have HS := Lib.hid (Sl.of_own snC_len (by decide) (xs := xs) (by rw [← hn]; exact ho))
  obtain ⟨hfl, hor⟩ := ho
  rcases hor with ⟨h, _⟩ | ⟨g', cap', cur, e, hbase, hh, hle, hmx, hsz, htk⟩
  · cases h
  cases e
  have HH := Lib.hid hh
  have hgl := bk_lt hh
  have i1 : (i : Int) + 1 ≤ n := by omega
  have i2 : (i : Int) ≤ (i : Int) + 1 := by omega
  have i3 : 0 ≤ (i : Int) + 1 := by omega
  have i4 : (n : Int) ≤ cap := by omega
  have i5 : (i : Int) + 1 ≤ cap := by omega
  have i6 : (i : Int) ≤ cap := by omega
  have hne : ((i : Int) == (i : Int) + 1) = false := by simp; omega
  have hne2 : ((i : Int) = (i : Int) + 1) = False := by simp; omega
  have HN := Lib.hid hn
  have HFL := Lib.hid hfl
  have HTK := Lib.hid htk
  clear hh hn hfl htk
  go_enter Tryz.func227, Tryz.ntmps227
  go_wp2
  ((refine p_start (by kernel_rfl) ?_); (refine t_enter' 6 ?_); ((refine t_pure 0 (v := ?_) rfl (by kernel_rfl) (fun _ _ _ h => h) rfl ?_ ?_; rotate_left; (focus (intro w_ hS_; go_simp; (try (first | with_reducible rfl | (constructor <;> with_reducible rfl))); done)); (try simp only [Act.put, List.setIfInBounds_toArray, List.set_cons_zero, List.set_cons_succ]))); ((refine t_pure 1 (v := ?_) rfl (by kernel_rfl) (fun _ _ _ h => h) rfl ?_ ?_; rotate_left; (focus (intro w_ hS_; go_simp; (try (first | with_reducible rfl | (constructor <;> with_reducible rfl))); done)); (try simp only [Act.put, List.setIfInBounds_toArray, List.set_cons_zero, List.set_cons_succ]))); ((refine t_pure 2 (v := ?_) rfl (by kernel_rfl) (fun _ _ _ h => h) rfl ?_ ?_; rotate_left; (focus (intro w_ hS_; go_simp; (try (first | with_reducible rfl | (constructor <;> with_reducible rfl))); done)); (try simp only [Act.put, List.setIfInBounds_toArray, List.set_cons_zero, List.set_cons_succ]))); ((refine t_pure 3 (v := ?_) rfl (by kernel_rfl) (fun _ _ _ h => h) rfl ?_ ?_; rotate_left; (focus (intro w_ hS_; go_simp; (try (first | with_reducible rfl | (constructor <;> with_reducible rfl))); done)); (try simp only [Act.put, List.setIfInBounds_toArray, List.set_cons_zero, List.set_cons_succ]))); ((refine t_pure 4 (v := ?_) rfl (by kernel_rfl) (fun _ _ _ h => h) rfl ?_ ?_; rotate_left; (focus (intro w_ hS_; go_simp; (try (first | with_reducible rfl | (constructor <;> with_reducible rfl))); done)); (try simp only [Act.put, List.setIfInBounds_toArray, List.set_cons_zero, List.set_cons_succ]))); ((refine t_pure 5 (v := ?_) rfl (by kernel_rfl) (fun _ _ _ h => h) rfl ?_ ?_; rotate_left; (focus (intro w_ hS_; go_simp; (try (first | with_reducible rfl | (constructor <;> with_reducible rfl))); done)); (try simp only [Act.put, List.setIfInBounds_toArray, List.set_cons_zero, List.set_cons_succ]))); (refine t_exit (by kernel_rfl) (fun W_ hS_ => ?_)))
  have hB : Below w.heap.size w W_ := by (repeat' with_reducible first|assumption|exact Below.refl _ _|apply bl_alloc|apply bl_drewN|apply bl_drew|refine bl_set ?_ (by simp<;>omega) _|refine bl_then ?_ (by assumption))
  have hW := bk_below HH.out hB
  have hback := Sl.backG (i := i) (c := cap) (g := g) (l := xs) (by have := HS.out.below hB; rw [HN.out] at this; exact this) (by have := HN.out; omega)
  rw [← HN.out] at hback
  obtain ⟨ad, had⟩ : ∃ ad : Addr, (if cap = i + 1 then some (⟨g, 0, none⟩ : Addr) else some ⟨g, (i + 1) * 4, none⟩) = some ad := by split <;> exact ⟨_, rfl⟩
  rw [had] at hback ⊢
  have hrd := Sl.reads snC_len (by decide) hback ad rfl
  have hnl : (flat snC (xs.drop (i + 1))).length = (n - (i + 1)) * 4 := by rw [flat_length snC_len]; simp; have := HN.out; omega
  have HRD := Lib.hid hrd
  have HNL := Lib.hid hnl
  clear hrd hnl hback had hS_
  refine p_only 6 rfl (by kernel_rfl) (fun K hK => ?_)
  refine step_append_room rfl (.tmp 22) (.tmp 25) 28 rfl 111 i0 4 Tryz.underlying28 hi0 hz1 g 0 i cap rfl ad (n - (i + 1)) (cap - (i + 1)) (flat snC (xs.drop (i + 1))) rfl HNL.out HRD.out (flat_mem snC_one _) (by omega) (fun j hj => ?_) ?_
  · have := HNL.out
    exact ⟨bk_some hW (by omega), bk_fro hW _⟩
  refine hK.out _ _ ?_
  clear hK K
  (try simp only [Act.put, List.setIfInBounds_toArray, List.set_cons_zero, List.set_cons_succ])
  rw [show i + (n - (i + 1)) = n - 1 by omega]
  obtain ⟨cur7, hW7, hs7⟩ := bk_setCells (flat snC (xs.drop (i + 1))) (0 + i * 4) W_ cur hW
  have hlow : ∀ p, p < i * 4 → (W_.setCells g (0 + i * 4) (flat snC (xs.drop (i + 1)))).cell? ⟨g, p, none⟩ = W_.cell? ⟨g, p, none⟩ := fun p hp => World.cell?_setCells_out g _ _ _ _ (fun _ _ => .inl (by simp; omega))
  have hin : ∀ q (u : Value), (flat snC (xs.drop (i + 1)))[q]? = some u → (W_.setCells g (0 + i * 4) (flat snC (xs.drop (i + 1)))).cell? ⟨g, 0 + i * 4 + q, none⟩ = some u := fun q u hq => by
    obtain ⟨hlt, rfl⟩ := List.getElem?_eq_some_iff.1 hq
    exact World.cell?_setCells_in g _ _ _ (fun j hj => bk_some hW (by have := HNL.out; omega)) q hlt
  have hgr := gb_setCells g (flat snC (xs.drop (i + 1))) (0 + i * 4) W_
  have hgw : w.grownBy W_ (some g) := gb_below hB _
  generalize hW7e : W_.setCells g (0 + i * 4) (flat snC (xs.drop (i + 1))) = W7 at *
  have HLOW := Lib.hid hlow
  have HIN := Lib.hid hin
  have HGR := Lib.hid (hgw.trans hgr)
  clear hW7e hlow hin hgr hgw
  (refine p_only 7 rfl (by kernel_rfl) (fun K hK => ?_); go_simp; refine hK.out _ _ ?_; clear hK K; (try simp only [Act.put, List.setIfInBounds_toArray, List.set_cons_zero, List.set_cons_succ]))
  refine wpAny_done (by kernel_rfl) ?_ _
  have hsz7 : cur7.size = cap * 4 := by omega
  have n1 : (((n - 1 : Nat) : Int)) ≤ n := by omega
  have n2 : (0 : Int) ≤ ((n - 1 : Nat) : Int) := by omega
  have hcn : (cap = n - 1) = False := by simp; omega
  have hone : n - (n - 1) = 1 := by omega
  obtain ⟨u0, hu0⟩ := Option.isSome_iff_exists.1 (bk_some hW7 (p := (n - 1) * 4) (by omega))
  obtain ⟨u1, hu1⟩ := Option.isSome_iff_exists.1 (bk_some hW7 (p := (n - 1) * 4 + 1) (by omega))
  obtain ⟨u2, hu2⟩ := Option.isSome_iff_exists.1 (bk_some hW7 (p := (n - 1) * 4 + 2) (by omega))
  obtain ⟨u3, hu3⟩ := Option.isSome_iff_exists.1 (bk_some hW7 (p := (n - 1) * 4 + 3) (by omega))
  have fr0 := bk_fro hW7 ((n - 1) * 4)
  have fr1 := bk_fro hW7 ((n - 1) * 4 + 1)
  have fr2 := bk_fro hW7 ((n - 1) * 4 + 2)
  have fr3 := bk_fro hW7 ((n - 1) * 4 + 3)
  have HW7 := Lib.hid hW7
  clear hW7
  go_wp2
  rw [run_clear1 W7 g ((n - 1) * 4) _ _ (fun j hj => bk_some HW7.out (by omega)) (fun j _ => bk_fro HW7.out _)]
  have hgr2 := gb_setCells g [.int .i64 0, .int .i64 0, .int .i64 0, .int .i64 0] ((n - 1) * 4) W7
  have hlow2 : ∀ p, p < (n - 1) * 4 → (W7.setCells g ((n - 1) * 4) [.int .i64 0, .int .i64 0, .int .i64 0, .int .i64 0]).cell? ⟨g, p, none⟩ = W7.cell? ⟨g, p, none⟩ := fun p hp => World.cell?_setCells_out g _ _ _ _ (fun _ _ => .inl hp)
  generalize hW8 : W7.setCells g ((n - 1) * 4) [.int .i64 0, .int .i64 0, .int .i64 0, .int .i64 0] = W8 at *
  have HLOW2 := Lib.hid hlow2
  have HGR2 := Lib.hid hgr2
  clear hW8 hlow2 hgr2 hu0 hu1 hu2 hu3 fr0 fr1 fr2 fr3
  simp only [Result.andThen_ok]
  go_wp2
  go_ret
  refine ⟨rfl, ?_, HGR.out.trans HGR2.out⟩
  have hn := HN.out
  have hel : (xs.eraseIdx i).length = n - 1 := by rw [List.length_eraseIdx, if_pos (by omega)]; omega
  refine ⟨_, cap, by rw [hel], by omega, ⟨hc, fun h => by cases h⟩, fun _ => ⟨g, 0, rfl, fun j q u hj hu hq => ?_⟩⟩
  rw [hel] at hj
  rw [erase_get (by omega)] at hu
  rw [HLOW2.out _ (by omega)]
  have hS := HS.out.below hB
  split at hu
  · rename_i hji
    rw [HLOW.out _ (by omega)]
    have := Sl.reads snC_len (by decide) hS ⟨g, 0, none⟩ rfl (j * 4 + q) u (by rw [flat_get snC_len _ _ _ hq]; exact hu)
    rwa [add_plain', ← Nat.add_assoc] at this
  · rename_i hji
    have := HIN.out ((j - i) * 4 + q) u (by
      rw [flat_get snC_len _ _ _ hq, List.getElem?_drop, show i + 1 + (j - i) = j + 1 by omega]
      exact hu)
    rwa [show 0 + i * 4 + ((j - i) * 4 + q) = 0 + j * 4 + q by omega] at this
end Go.Proofs.YtjpagpplkldbkaaGreat
set_option linter.unusedVariables false
set_option linter.unusedSimpArgs false
namespace Go.Proofs.YtjpagpplkldbkaaGreat
open Go.RowKit Go.Shelf WH
theorem rnZ' : (Tryz.prog.info? 178).map (fun i => (i.zero, i.size, i.bytes)) = some (some (.agg #[.int .i64 0, .int .i64 0, .int .i64 0]), 3, 24) := by kernel_rfl
set_option maxRecDepth 100000 in
set_option maxHeartbeats 1000000 in
theorem cloneS_any (v : Value) (xs : List Sn) (w : World) (hv : Sl snC 4 w v xs) (hn : xs.length ≤ 100) :
    Calls Tryz.prog 80 #[v] w fun e w' => ∃ v', e = .returned v' ∧ w'.ownsRow w.heap.size 111 4 v' xs.length (flat snC xs) ∧ Below w.heap.size w w' := by
  have HV := Lib.hid hv
  obtain ⟨A, c, rfl, hl, ⟨_, hc⟩, hx⟩ := hv
  have he : ∀ W : World, (binOp .eql 28 (.slice A xs.length c) (.slice none 0 0)).run Tryz.prog W = .ok (.bool A.isNone) W := fun W => Lib.run_eql_slice_nil W 28 111 A xs.length c 0 0 Tryz.underlying28
  cases A with
  | none =>
    have h0 : xs = [] := by
      rcases List.eq_nil_or_concat xs with h | ⟨l, a, h⟩
      · exact h
      · obtain ⟨b, off, e, _⟩ := hx (by rw [h]; simp)
        cases e
    have hc0 := hc rfl
    subst h0 hc0
    have HE := Lib.hid he
    clear hx HV he
    go_enter Tryz.func80, Tryz.ntmps80
    go_wp2
    have he := HE.out w
    simp only [List.length_nil] at he
    rw [he]
    simp only [Result.andThen_ok]
    go_wp2
    go_ret
    exact ⟨_, rfl, World.ownsRow_nil _ _ _ _, by (repeat' with_reducible first|assumption|exact Below.refl _ _|apply bl_alloc|apply bl_drewN|apply bl_drew|refine bl_set ?_ (by simp<;>omega) _|refine bl_then ?_ (by assumption))⟩
  | some a =>
    have HE := Lib.hid he
    clear hx hc he
    go_enter Tryz.func80, Tryz.ntmps80
    go_wp2
    rw [HE.out w]
    simp only [Result.andThen_ok]
    have HO := Lib.hid (World.ownsRow_made (base := w.heap.size) (size := 4) (e := 111) w #[] 0 (Nat.le_refl _) (by simp [maxLen]) (by simp))
    go_wp2_with (at_builtin; refine app_own snC_len (by decide) snC_one rfl (.tmp 5) (.tmp 6) 28 rfl 111 _ 32 Tryz.underlying28 snZ rfl w.heap.size _ 0 [] xs rfl rfl HO.out _ rfl (HV.out.below (bl_alloc (Below.refl _ _) _)) (by simp) (by omega) (by omega) ?_; intro v' w' hv' hg' hh'; (have hB' := (bl_alloc (Below.refl w.heap.size w) (.cells #[] 111)).grown hg' (by simp) (fun z hz => (HO.out.lt z hz).1)); (have HV' := Lib.hid hv'); clear hv' hg' hh')
    go_ret
    exact ⟨_, rfl, by simpa using HV'.out, hB'⟩
set_option maxRecDepth 100000 in
set_option maxHeartbeats 1000000 in
theorem cloneR_any (v : Value) (xs : List Rn) (w : World) (hv : Sl rnC 3 w v xs) (hn : xs.length ≤ 100) :
    Calls Tryz.prog 226 #[v] w fun e w' => ∃ v', e = .returned v' ∧ w'.ownsRow w.heap.size 178 3 v' xs.length (flat rnC xs) ∧ Below w.heap.size w w' := by
  have HV := Lib.hid hv
  obtain ⟨A, c, rfl, hl, ⟨_, hc⟩, hx⟩ := hv
  have he : ∀ W : World, (binOp .eql 23 (.slice A xs.length c) (.slice none 0 0)).run Tryz.prog W = .ok (.bool A.isNone) W := fun W => Lib.run_eql_slice_nil W 23 178 A xs.length c 0 0 Tryz.underlying23
  cases A with
  | none =>
    have h0 : xs = [] := by
      rcases List.eq_nil_or_concat xs with h | ⟨l, a, h⟩
      · exact h
      · obtain ⟨b, off, e, _⟩ := hx (by rw [h]; simp)
        cases e
    have hc0 := hc rfl
    subst h0 hc0
    have HE := Lib.hid he
    clear hx HV he
    go_enter Tryz.func226, Tryz.ntmps226
    go_wp2
    have he := HE.out w
    simp only [List.length_nil] at he
    rw [he]
    simp only [Result.andThen_ok]
    go_wp2
    go_ret
    exact ⟨_, rfl, World.ownsRow_nil _ _ _ _, by (repeat' with_reducible first|assumption|exact Below.refl _ _|apply bl_alloc|apply bl_drewN|apply bl_drew|refine bl_set ?_ (by simp<;>omega) _|refine bl_then ?_ (by assumption))⟩
  | some a =>
    have HE := Lib.hid he
    clear hx hc he
    go_enter Tryz.func226, Tryz.ntmps226
    go_wp2
    rw [HE.out w]
    simp only [Result.andThen_ok]
    have HO := Lib.hid (World.ownsRow_made (base := w.heap.size) (size := 3) (e := 178) w #[] 0 (Nat.le_refl _) (by simp [maxLen]) (by simp))
    go_wp2_with (at_builtin; refine app_own rnC_len (by decide) rnC_one rfl (.tmp 5) (.tmp 6) 23 rfl 178 _ 24 Tryz.underlying23 rnZ' rfl w.heap.size _ 0 [] xs rfl rfl HO.out _ rfl (HV.out.below (bl_alloc (Below.refl _ _) _)) (by simp) (by omega) (by omega) ?_; intro v' w' hv' hg' hh'; (have hB' := (bl_alloc (Below.refl w.heap.size w) (.cells #[] 178)).grown hg' (by simp) (fun z hz => (HO.out.lt z hz).1)); (have HV' := Lib.hid hv'); clear hv' hg' hh')
    go_ret
    exact ⟨_, rfl, by simpa using HV'.out, hB'⟩
end Go.Proofs.YtjpagpplkldbkaaGreat
set_option linter.unusedVariables false
set_option linter.unusedSimpArgs false
namespace Go.Proofs.YtjpagpplkldbkaaGreat
open Go.RowKit Go.Shelf WH
theorem agg6 {w : World} {g : Nat} {t : TypeId} {a b c d e f : Value} (h : w.heap[g]? = some (.cells #[a, b, c, d, e, f] t (0, 0))) :
    (w.cell? ⟨g, 0, none⟩ = some a ∧ w.cell? ⟨g, 1, none⟩ = some b ∧ w.cell? ⟨g, 2, none⟩ = some c ∧ w.cell? ⟨g, 3, none⟩ = some d ∧ w.cell? ⟨g, 4, none⟩ = some e ∧ w.cell? ⟨g, 5, none⟩ = some f) ∧
    (w.frozen? ⟨g, 0, none⟩ = false ∧ w.frozen? ⟨g, 1, none⟩ = false ∧ w.frozen? ⟨g, 2, none⟩ = false ∧ w.frozen? ⟨g, 3, none⟩ = false ∧ w.frozen? ⟨g, 4, none⟩ = false ∧ w.frozen? ⟨g, 5, none⟩ = false) :=
  ⟨blk6 h, bk_fro h 0, bk_fro h 1, bk_fro h 2, bk_fro h 3, bk_fro h 4, bk_fro h 5⟩
theorem bk_put6 {w : World} {g : Nat} {t : TypeId} {a b c d e f a' b' c' d' e' f' : Value} (h : w.heap[g]? = some (.cells #[a', b', c', d', e', f'] t (0, 0))) :
    ((((((w.setCell ⟨g, 0, none⟩ a).setCell ⟨g, 1, none⟩ b).setCell ⟨g, 2, none⟩ c).setCell ⟨g, 3, none⟩ d).setCell ⟨g, 4, none⟩ e).setCell ⟨g, 5, none⟩ f).heap[g]? = some (.cells #[a, b, c, d, e, f] t (0, 0)) := by
  have h0 := bk_put1 (cs' := #[a, b', c', d', e', f']) h 0 a rfl
  have h1 := bk_put1 (cs' := #[a, b, c', d', e', f']) h0 1 b rfl
  have h2 := bk_put1 (cs' := #[a, b, c, d', e', f']) h1 2 c rfl
  have h3 := bk_put1 (cs' := #[a, b, c, d, e', f']) h2 3 d rfl
  have h4 := bk_put1 (cs' := #[a, b, c, d, e, f']) h3 4 e rfl
  exact bk_put1 (cs' := #[a, b, c, d, e, f]) h4 5 f rfl
theorem heap_put6 (w : World) (g : Nat) (a b c d e f : Value) (k : Nat) (hk : k ≠ g) :
    ((((((w.setCell ⟨g, 0, none⟩ a).setCell ⟨g, 1, none⟩ b).setCell ⟨g, 2, none⟩ c).setCell ⟨g, 3, none⟩ d).setCell ⟨g, 4, none⟩ e).setCell ⟨g, 5, none⟩ f).heap[k]? = w.heap[k]? := by
  rw [Below.heap_setCell _ _ _ k hk, Below.heap_setCell _ _ _ k hk, Below.heap_setCell _ _ _ k hk, Below.heap_setCell _ _ _ k hk, Below.heap_setCell _ _ _ k hk, Below.heap_setCell _ _ _ k hk]
def flZ : Array Value := #[.slice none 0 0, .int .i64 0, .int .i64 0, .int .i64 0, .int .i64 0, .slice none 0 0]
set_option maxRecDepth 100000 in
set_option maxHeartbeats 4000000 in
theorem without_any (v : Value) (f : Fl) (i : Nat) (w : World) (hf : Fv w v f) (hi : i < f.seen.length) (hn : f.seen.length ≤ 100) (hv : f.v.length ≤ 100) :
    Calls Tryz.prog 163 #[v, .int .i64 i] w fun e w' => ∃ vr vs, e = .returned (.agg (flC f vr vs)) ∧ Sl rnC 3 w' vr f.v ∧ Sl snC 4 w' vs (f.seen.eraseIdx i) ∧ (∀ b, vr.ownBlock = some b → w.heap.size ≤ b) ∧ (∀ b, vs.ownBlock = some b → w.heap.size ≤ b) ∧ Below w.heap.size w w' := by
  obtain ⟨vv, sv, rfl, hv1, hs1⟩ := hf
  have HV := Lib.hid hv1
  have HSE := Lib.hid hs1
  clear hv1 hs1
  unfold flC
  have ew : IntKind.i64.wrap ((i : Int) + 1) = (i : Int) + 1 := wrapI (by omega) (by omega)
  go_enter Tryz.func163, Tryz.ntmps163
  go_wp2_with fail
  refine (cloneR_any vv f.v _ (HV.out.below (by (repeat' with_reducible first|assumption|exact Below.refl _ _|apply bl_alloc|apply bl_drewN|apply bl_drew|refine bl_set ?_ (by simp<;>omega) _|refine bl_then ?_ (by assumption)))) hv).mono ?_
  rintro e1 w1 ⟨vr, rfl, hvr, hb1⟩
  obtain ⟨Ar, cr, rfl⟩ := own_sl hvr
  have hsz : ((w.alloc (.cells #[vv, .int .i64 f.lv, .int .i64 f.er, .int .i64 f.wl, .int .i64 f.wh, sv] 30)).alloc (.cells flZ 30)).heap.size = w.heap.size + 2 := by rw [World.size_alloc, World.size_alloc]
  have h1 := bk_below (bk_alloc (bk_new w (.cells #[vv, .int .i64 f.lv, .int .i64 f.er, .int .i64 f.wl, .int .i64 f.wh, sv] 30)) (.cells flZ 30)) hb1
  have h2 := bk_below (bk_new (w.alloc (.cells #[vv, .int .i64 f.lv, .int .i64 f.er, .int .i64 f.wl, .int .i64 f.wh, sv] 30)) (.cells flZ 30)) hb1
  rw [World.size_alloc] at h2
  have hB1 : Below w.heap.size w w1 := by (repeat' with_reducible first|assumption|exact Below.refl _ _|apply bl_alloc|apply bl_drewN|apply bl_drew|refine bl_set ?_ (by simp<;>omega) _|refine bl_then ?_ (by assumption))
  have hs1 := hb1.size
  change ((w.alloc (.cells #[vv, .int .i64 f.lv, .int .i64 f.er, .int .i64 f.wl, .int .i64 f.wh, sv] 30)).alloc (.cells flZ 30)).heap.size ≤ w1.heap.size at hs1
  rw [hsz] at hs1
  have hvr' : w1.ownsRow ((w.alloc (.cells #[vv, .int .i64 f.lv, .int .i64 f.er, .int .i64 f.wl, .int .i64 f.wh, sv] 30)).alloc (.cells flZ 30)).heap.size 178 3 (.slice Ar f.v.length cr) f.v.length (flat rnC f.v) := hvr
  rw [hsz] at hvr'
  have HVR := Lib.hid hvr'
  clear hvr hvr' hb1 hsz
  unfold flZ at h2
  obtain ⟨⟨y0, y1, y2, y3, y4, y5⟩, f0, f1, f2, f3, f4, f5⟩ := agg6 h1
  have hl1 := bk_lt h1
  have H1 := Lib.hid h1
  have H2 := Lib.hid h2
  clear h1 h2
  go_wp2_with fail
  have hB2 : Below w.heap.size w (w1.setCell ⟨w.heap.size, 0, none⟩ (.slice Ar f.v.length cr)) := by (repeat' with_reducible first|assumption|exact Below.refl _ _|apply bl_alloc|apply bl_drewN|apply bl_drew|refine bl_set ?_ (by simp<;>omega) _|refine bl_then ?_ (by assumption))
  refine (cloneS_any sv f.seen _ (HSE.out.below hB2) hn).mono ?_
  rintro e2 w2 ⟨vs, rfl, hvs, hb2⟩
  have h1 := bk_below (bk_put1 (cs' := #[(.slice Ar f.v.length cr), .int .i64 f.lv, .int .i64 f.er, .int .i64 f.wl, .int .i64 f.wh, sv]) H1.out 0 (.slice Ar f.v.length cr) rfl) hb2
  have h2 := bk_below (bk_far H2.out (p := ⟨w.heap.size, 0, none⟩) (by simp) (.slice Ar f.v.length cr)) hb2
  have hvr2 := own_bel (own_set HVR.out (p := ⟨w.heap.size, 0, none⟩) (by simp) (.slice Ar f.v.length cr)) hb2
  have hB2' := bl_then hB2 hb2
  have hs2 := hb2.size
  have hq1 : (w1.setCell ⟨w.heap.size, 0, none⟩ (.slice Ar f.v.length cr)).heap.size = w1.heap.size := by simp
  rw [hq1] at hs2
  have hs2' : w.heap.size + 2 ≤ w2.heap.size := by omega
  have hvlt := HVR.out.lt
  have hvs' : w2.ownsRow w1.heap.size 111 4 vs f.seen.length (flat snC f.seen) := by simpa using hvs
  rcases id hvs' with ⟨_, hor⟩
  rcases hor with ⟨_, h0⟩ | ⟨g, cap, cur, rfl, hbase, hh, hle, hmx, hsz, htk⟩
  · omega
  simp only [maxLen] at hmx
  have HVS := Lib.hid hvs'
  have HVR2 := Lib.hid hvr2
  have hgl := bk_lt hh
  clear hvs hvs' hb2 hvr2 HVR H1 H2 hh htk hsz y0 y1 y2 y3 y4 y5 f0 f1 f2 f3 f4 f5 hs2
  obtain ⟨⟨y0, y1, y2, y3, y4, y5⟩, f0, f1, f2, f3, f4, f5⟩ := agg6 h1
  have hl1 := bk_lt h1
  have H1 := Lib.hid h1
  have H2 := Lib.hid h2
  clear h1 h2
  go_wp2_with fail
  refine (delete_any g f.seen.length cap i f.seen w1.heap.size _ HVS.out rfl hi (by omega)).mono ?_
  rintro e3 w3 ⟨rfl, hsl, hgr⟩
  have HSL := Lib.hid hsl
  have hB3 := hB2'.grown hgr hB2'.size (fun z hz => by cases hz; omega)
  have h1 := bk_grown H1.out hgr (by simp; omega)
  have h2 := bk_grown H2.out hgr (by simp; omega)
  have hvr3 : Sl rnC 3 w3 (.slice Ar f.v.length cr) f.v := (Sl.of_own rnC_len (by decide) HVR2.out).keep (fun _ b hb => hgr.block b (by have := (HVR2.out.lt b hb).2; exact this) (by have := (hvlt b hb).2; simp; omega))
  have HVR3 := Lib.hid hvr3
  have HLT := Lib.hid hvlt
  clear hsl hvr3 hgr hB2' hvlt H1 H2 HVR2 HVS y0 y1 y2 y3 y4 y5 f0 f1 f2 f3 f4 f5 hl1
  obtain ⟨⟨y0, y1, y2, y3, y4, y5⟩, f0, f1, f2, f3, f4, f5⟩ := agg6 h1
  obtain ⟨⟨z0, z1, z2, z3, z4, z5⟩, r0, r1, r2, r3, r4, r5⟩ := agg6 h2
  have hl1 := bk_lt h1
  have hl2 := bk_lt h2
  have H1 := Lib.hid h1
  have H2 := Lib.hid h2
  clear h1 h2
  go_wp2
  refine bodyPost_ret (v := .agg #[.slice Ar f.v.length cr, .int .i64 f.lv, .int .i64 f.er, .int .i64 f.wl, .int .i64 f.wh, .slice (some ⟨g, 0, none⟩) (f.seen.length - 1) cap]) (res_one rfl (.cell (w.heap.size + 1) 30 _ (0, 0) _ rfl (bk_put6 (bk_far H2.out (by simp) _)) Tryz.underlying30 rfl (by kernel_rfl) .nil)) rfl ?_
  have hk : ∀ b, b ≠ w.heap.size → b ≠ w.heap.size + 1 → (((((((w3.setCell ⟨w.heap.size, 5, none⟩ (.slice (some ⟨g, 0, none⟩) (f.seen.length - 1) cap)).setCell ⟨w.heap.size + 1, 0, none⟩ (.slice Ar f.v.length cr)).setCell ⟨w.heap.size + 1, 1, none⟩ (.int .i64 f.lv)).setCell ⟨w.heap.size + 1, 2, none⟩ (.int .i64 f.er)).setCell ⟨w.heap.size + 1, 3, none⟩ (.int .i64 f.wl)).setCell ⟨w.heap.size + 1, 4, none⟩ (.int .i64 f.wh)).setCell ⟨w.heap.size + 1, 5, none⟩ (.slice (some ⟨g, 0, none⟩) (f.seen.length - 1) cap)).heap[b]? = w3.heap[b]? := fun b b1 b2 =>
    (heap_put6 _ _ _ _ _ _ _ _ b b2).trans (Below.heap_setCell _ _ _ b b1)
  refine ⟨_, _, rfl, HVR3.out.keep (fun _ b hb => hk b (by have := (HLT.out b hb).1; omega) (by have := (HLT.out b hb).1; omega)), HSL.out.keep (fun _ b hb => hk b ?_ ?_), fun b hb => by have := (HLT.out b hb).1; omega, fun b hb => ?_, by (repeat' with_reducible first|assumption|exact Below.refl _ _|apply bl_alloc|apply bl_drewN|apply bl_drew|refine bl_set ?_ (by simp<;>omega) _|refine bl_then ?_ (by assumption))⟩
  · have hb' : g = b := by simpa [Value.ownBlock] using hb
    omega
  · have hb' : g = b := by simpa [Value.ownBlock] using hb
    omega
  · have hb' : g = b := by simpa [Value.ownBlock] using hb
    omega
theorem without_fv (v : Value) (f : Fl) (i : Nat) (w : World) (hf : Fv w v f) (hi : i < f.seen.length) (hn : f.seen.length ≤ 100) (hv : f.v.length ≤ 100) :
    Calls Tryz.prog 163 #[v, .int .i64 i] w fun e w' => ∃ v', e = .returned v' ∧ Fv w' v' (f.without i) ∧ Below w.heap.size w w' :=
  (without_any v f i w hf hi hn hv).mono fun _ _ ⟨vr, vs, h1, h2, h3, _, _, h6⟩ => ⟨_, h1, ⟨vr, vs, rfl, h2, h3⟩, h6⟩
end Go.Proofs.YtjpagpplkldbkaaGreat
set_option linter.unusedVariables false
set_option linter.unusedSimpArgs false
namespace Go.Proofs.YtjpagpplkldbkaaGreat
open Go.RowKit WH
/-- The blocks that are known whole. -/
def Bks (w : World) : List (Nat × TypeId × List Value) → Prop
  | [] => True
  | x :: L => w.heap[x.1]? = some (.cells x.2.2.toArray x.2.1 (0, 0)) ∧ Bks w L
def CellsAt (w : World) (b : Nat) : Nat → List Value → Prop
  | _, [] => True
  | i, v :: l => w.cell? ⟨b, i, none⟩ = some v ∧ CellsAt w b (i + 1) l
def BCells (w : World) : List (Nat × TypeId × List Value) → Prop
  | [] => True
  | x :: L => CellsAt w x.1 0 x.2.2 ∧ BCells w L
def BLts (w : World) : List (Nat × TypeId × List Value) → Prop
  | [] => True
  | x :: L => x.1 < w.heap.size ∧ BLts w L
def FroAt (w : World) (b : Nat) : Nat → List Value → Prop
  | _, [] => True
  | i, _ :: l => w.frozen? ⟨b, i, none⟩ = false ∧ FroAt w b (i + 1) l
def BFros (w : World) : List (Nat × TypeId × List Value) → Prop
  | [] => True
  | x :: L => FroAt w x.1 0 x.2.2 ∧ BFros w L
theorem Bks.below {w w1 : World} {L : List (Nat × TypeId × List Value)} (h : Bks w L) (hb : Below w.heap.size w w1) : Bks w1 L := by
  induction L with
  | nil => trivial
  | cons x L ih => exact ⟨bk_below h.1 hb, ih h.2⟩
theorem Bks.alloc {w : World} {L : List (Nat × TypeId × List Value)} (h : Bks w L) (cs : List Value) (t : TypeId) : Bks (w.alloc (.cells cs.toArray t)) ((w.heap.size, t, cs) :: L) :=
  ⟨bk_new w _, h.below (bl_alloc (Below.refl _ _) _)⟩
theorem Bks.drew {w : World} {L : List (Nat × TypeId × List Value)} (h : Bks w L) : Bks w.drew L := h.below (bl_drew (Below.refl _ _))
theorem Bks.lts {w : World} {L : List (Nat × TypeId × List Value)} (h : Bks w L) : BLts w L := by
  induction L with
  | nil => trivial
  | cons x L ih => exact ⟨bk_lt h.1, ih h.2⟩
theorem CellsAt.of {w : World} {b : Nat} {t : TypeId} {cs : List Value} (h : w.heap[b]? = some (.cells cs.toArray t (0, 0))) : ∀ (l : List Value) (i : Nat), cs.drop i = l → CellsAt w b i l
  | [], _, _ => trivial
  | v :: l, i, e => by
    refine ⟨?_, CellsAt.of h l (i + 1) ?_⟩
    · rw [bk_cell h]
      have := congrArg List.head? e
      simpa using this
    · have := congrArg List.tail e
      simpa using this
theorem FroAt.of {w : World} {b : Nat} {t : TypeId} {cs : List Value} (h : w.heap[b]? = some (.cells cs.toArray t (0, 0))) : ∀ (l : List Value) (i : Nat), FroAt w b i l
  | [], _ => trivial
  | _ :: l, i => ⟨bk_fro h i, FroAt.of h l (i + 1)⟩
theorem Bks.cells {w : World} {L : List (Nat × TypeId × List Value)} (h : Bks w L) : BCells w L := by
  induction L with
  | nil => trivial
  | cons x L ih => exact ⟨CellsAt.of h.1 _ 0 rfl, ih h.2⟩
theorem Bks.fros {w : World} {L : List (Nat × TypeId × List Value)} (h : Bks w L) : BFros w L := by
  induction L with
  | nil => trivial
  | cons x L ih => exact ⟨FroAt.of h.1 _ 0, ih h.2⟩
section
variable {w w0 w1 w2 : World} {L : List (Nat × TypeId × List Value)} {a b c d : List Value} {t u v x : TypeId}
/-- Behind a call, ahead of which so many blocks were laid. -/
theorem stp0 (hb : Below w1.heap.size w1 w2) (h : Bks w1 L) (hc : Below w.heap.size w w1) : Bks w2 L ∧ Below w.heap.size w w2 := ⟨h.below hb, bl_then hc hb⟩
theorem stp1 (hb : Below (w1.alloc (.cells a.toArray t)).heap.size (w1.alloc (.cells a.toArray t)) w2) (h : Bks w1 L) (hc : Below w.heap.size w w1) : Bks w2 ((w1.heap.size, t, a) :: L) ∧ Below w.heap.size w w2 :=
  stp0 hb (h.alloc a t) (bl_alloc hc _)
theorem stp2 (hb : Below ((w1.alloc (.cells a.toArray t)).alloc (.cells b.toArray u)).heap.size ((w1.alloc (.cells a.toArray t)).alloc (.cells b.toArray u)) w2) (h : Bks w1 L) (hc : Below w.heap.size w w1) :
    Bks w2 ((w1.heap.size + 1, u, b) :: (w1.heap.size, t, a) :: L) ∧ Below w.heap.size w w2 := by
  have := stp1 hb (h.alloc a t) (bl_alloc hc _)
  rwa [World.size_alloc] at this
theorem stp3 (hb : Below (((w1.alloc (.cells a.toArray t)).alloc (.cells b.toArray u)).alloc (.cells c.toArray v)).heap.size (((w1.alloc (.cells a.toArray t)).alloc (.cells b.toArray u)).alloc (.cells c.toArray v)) w2) (h : Bks w1 L) (hc : Below w.heap.size w w1) :
    Bks w2 ((w1.heap.size + 2, v, c) :: (w1.heap.size + 1, u, b) :: (w1.heap.size, t, a) :: L) ∧ Below w.heap.size w w2 := by
  have := stp2 hb (h.alloc a t) (bl_alloc hc _)
  rwa [World.size_alloc] at this
theorem stp4 (hb : Below ((((w1.alloc (.cells a.toArray t)).alloc (.cells b.toArray u)).alloc (.cells c.toArray v)).alloc (.cells d.toArray x)).heap.size ((((w1.alloc (.cells a.toArray t)).alloc (.cells b.toArray u)).alloc (.cells c.toArray v)).alloc (.cells d.toArray x)) w2) (h : Bks w1 L) (hc : Below w.heap.size w w1) :
    Bks w2 ((w1.heap.size + 3, x, d) :: (w1.heap.size + 2, v, c) :: (w1.heap.size + 1, u, b) :: (w1.heap.size, t, a) :: L) ∧ Below w.heap.size w w2 := by
  have := stp3 hb (h.alloc a t) (bl_alloc hc _)
  rwa [World.size_alloc] at this
end
theorem Bks.nil (w : World) : Bks w [] := trivial
end Go.Proofs.YtjpagpplkldbkaaGreat
