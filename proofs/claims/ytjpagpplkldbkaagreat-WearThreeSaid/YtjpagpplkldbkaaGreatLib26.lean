/- Rests. -/
import Derived.Test.YtjpagpplkldbkaaGreatLib25
set_option linter.unusedVariables false
set_option linter.unusedSimpArgs false
namespace Go.Proofs.YtjpagpplkldbkaaGreat
open Go.RowKit Go.Shelf WH
def Fl.rsB (f : Fl) (i : Nat) : Bool := !(decide ((f.without i).bLo = f.bLo) && decide ((f.without i).bHi = f.bHi))
def Fl.rsT (f : Fl) (k : Nat) : List Int := ((List.range k).filter f.rsB).map fun i : Nat => (i : Int)
def Fl.rsL (f : Fl) : List Int := if f.rdy true = 0 then f.rsT f.seen.length else []
theorem rsT_yes {f : Fl} {k : Nat} (h : f.rsB k = true) : f.rsT (k + 1) = f.rsT k ++ [(k : Int)] := by simp [Fl.rsT, List.range_succ, h]
theorem rsT_no {f : Fl} {k : Nat} (h : f.rsB k = false) : f.rsT (k + 1) = f.rsT k := by simp [Fl.rsT, List.range_succ, h]
theorem rsT_len (f : Fl) (k : Nat) : (f.rsT k).length ≤ k := by
  unfold Fl.rsT
  rw [List.length_map]
  exact Nat.le_trans (List.length_filter_le _ _) (by simp)
set_option maxRecDepth 100000 in
set_option maxHeartbeats 4000000 in
theorem rests_any (v : Value) (f : Fl) (w : World) (hf : Fv w v f) : Calls Tryz.prog 71 #[v] w fun e w' => ∃ lv, e = .returned (.tuple #[lv, .int .i64 (f.rdy true)]) ∧ Sl inC 1 w' lv f.rsL ∧ Below w.heap.size w w' := by
  obtain ⟨vv, sv, rfl, hv, hs⟩ := hf
  have HV := Lib.hid hv
  have HSE := Lib.hid hs
  obtain ⟨As, cs, rfl, hsl, ⟨hsc, _⟩, _⟩ := hs
  clear hv
  unfold flC
  go_enter Tryz.func71, Tryz.ntmps71
  go_wp2_with fail
  refine (bounds_any _ f _ ⟨vv, _, rfl, HV.out.below (by (repeat' with_reducible first|assumption|exact Below.refl _ _|apply bl_alloc|apply bl_drewN|apply bl_drew|refine bl_set ?_ (by simp<;>omega) _|refine bl_then ?_ (by assumption))), HSE.out.below (by (repeat' with_reducible first|assumption|exact Below.refl _ _|apply bl_alloc|apply bl_drewN|apply bl_drew|refine bl_set ?_ (by simp<;>omega) _|refine bl_then ?_ (by assumption)))⟩).mono ?_
  rintro e1 w1 ⟨rfl, hb1⟩
  have h1 := bk_below (bk_new w (.cells #[vv, .int .i64 f.lv, .int .i64 f.er, .int .i64 f.wl, .int .i64 f.wh, .slice As f.seen.length cs] 30)) hb1
  have hB1 : Below w.heap.size w w1 := by (repeat' with_reducible first|assumption|exact Below.refl _ _|apply bl_alloc|apply bl_drewN|apply bl_drew|refine bl_set ?_ (by simp<;>omega) _|refine bl_then ?_ (by assumption))
  clear hb1
  unfold raV
  by_cases h0 : f.rdy true = 0
  rotate_left
  · have HE : Hid (f.rsL = []) := Lib.hid (if_neg h0)
    have hne : (f.rdy true == 0) = false := by simpa using h0
    have hne2 : (f.rdy true != 0) = true := by simpa using h0
    generalize hn : f.rdy true = n at *
    have HN := Lib.hid hn
    clear hn h0 h1
    go_wp2
    go_ret2
    exact ⟨_, by rw [HN.out]; rfl, by rw [HE.out]; exact Sl.nil _ _ _, by (repeat' with_reducible first|assumption|exact Below.refl _ _|apply bl_alloc|apply bl_drewN|apply bl_drew|refine bl_set ?_ (by simp<;>omega) _|refine bl_then ?_ (by assumption))⟩
  · have HG := Lib.hid (good_iff.1 (rdy_yes h0).1)
    have HE : Hid (f.rsL = f.rsT f.seen.length) := Lib.hid (if_pos h0)
    have H0 := Lib.hid h0
    have hfl : f.seen.length ≤ 24 := HG.out.len
    rw [h0]
    clear h0
    generalize hlo : f.bLo = lo at *
    generalize hhi : f.bHi = hi at *
    have HLO := Lib.hid hlo
    have HHI := Lib.hid hhi
    clear hlo hhi
    have hl1 := bk_lt h1
    obtain ⟨y0, y1, y2, y3, y4, y5⟩ := blk6 h1
    have H1 := Lib.hid h1
    clear h1
    go_wp2
    have hL := bk_alloc (bk_new w1 (.cells #[.int .i64 lo.n, .int .i64 lo.d] 41)) (.cells #[.int .i64 hi.n, .int .i64 hi.d] 41)
    have hH := bk_new (w1.alloc (.cells #[.int .i64 lo.n, .int .i64 lo.d] 41)) (.cells #[.int .i64 hi.n, .int .i64 hi.d] 41)
    rw [World.size_alloc] at hH
    have hF := bk_alloc (bk_alloc H1.out (.cells #[.int .i64 lo.n, .int .i64 lo.d] 41)) (.cells #[.int .i64 hi.n, .int .i64 hi.d] 41)
    have hB2 := bl_alloc (bl_alloc hB1 (.cells #[.int .i64 lo.n, .int .i64 lo.d] 41)) (.cells #[.int .i64 hi.n, .int .i64 hi.d] 41)
    generalize hW2 : (w1.alloc (.cells #[.int .i64 lo.n, .int .i64 lo.d] 41)).alloc (.cells #[.int .i64 hi.n, .int .i64 hi.d] 41) = W2 at *
    have HL := Lib.hid hL
    have HH := Lib.hid hH
    have HF := Lib.hid hF
    clear hW2 hL hH hF hB1 H1 y0 y1 y2 y3 y4 y5 hl1
    go_loopw [7, 24] (fun ov iv W => ∃ k : Nat, k ≤ f.seen.length ∧ iv = .int .i64 k ∧ W.ownsRow W2.heap.size 3 1 ov (f.rsT k).length (flat inC (f.rsT k)) ∧ Below W2.heap.size W2 W) (fun _ iv _ => f.seen.length - (intOf iv).toNat)
    case atStart => exact ⟨0, by omega, rfl, World.ownsRow_nil _ _ _ _, by (repeat' with_reducible first|assumption|exact Below.refl _ _|apply bl_alloc|apply bl_drewN|apply bl_drew|refine bl_set ?_ (by simp<;>omega) _|refine bl_then ?_ (by assumption))⟩
    case round =>
      obtain ⟨k, hk, rfl, ho, hBi⟩ := hrel
      have HO := Lib.hid ho
      have hFi := bk_below HF.out hBi
      have hLi := bk_below HL.out hBi
      have hHi := bk_below HH.out hBi
      have hBw := bl_then hB2 hBi
      have hlt := rsT_len f k
      by_cases hkl : k < f.seen.length
      · have hkI : (k : Int) < (f.seen.length : Int) := by omega
        have ewk : IntKind.i64.wrap ((k : Int) + 1) = (k : Int) + 1 := wrapI (by omega) (by omega)
        obtain ⟨y0, y1, y2, y3, y4, y5⟩ := blk6 hFi
        have hl1 := bk_lt hFi
        clear ho
        go_wp2_with fail
        refine (without_fv _ f k _ ⟨vv, _, rfl, HV.out.below hBw, HSE.out.below hBw⟩ hkl (by omega) (v_len HG.out)).mono ?_
        rintro e3 w3 ⟨v3, rfl, hf3, hb3⟩
        have HF3 := Lib.hid hf3
        clear hf3
        go_wp2_with fail
        refine (bounds_any _ (f.without k) _ HF3.out).mono ?_
        rintro e4 w4 ⟨rfl, hb4⟩
        have hB4 := bl_then (bl_then hBi hb3) hb4
        have hL4 := bk_below HL.out hB4
        have hH4 := bk_below HH.out hB4
        obtain ⟨⟨l0, l1⟩, _, _⟩ := blk2 hL4
        obtain ⟨⟨m0, m1⟩, _, _⟩ := blk2 hH4
        have hll := bk_lt hL4
        have hlh := bk_lt hH4
        have HO4 := Lib.hid (own_bel HO.out (bl_then hb3 hb4))
        clear hL4 hH4 hFi hLi hHi hb3 hb4 HF3 y0 y1 y2 y3 y4 y5
        unfold raV
        generalize ha : (f.without k).bLo = a at *
        generalize hb : (f.without k).bHi = b at *
        have HR : Hid (f.rsB k = !(((a.n == lo.n) && (a.d == lo.d)) && ((b.n == hi.n) && (b.d == hi.d)))) := Lib.hid (by
          unfold Fl.rsB
          rw [ha, hb, HLO.out, HHI.out]
          obtain ⟨a1, a2⟩ := a
          obtain ⟨b1, b2⟩ := b
          obtain ⟨l1, l2⟩ := lo
          obtain ⟨h1, h2⟩ := hi
          simp only [Ra.mk.injEq, Bool.decide_and]
          rfl)
        clear ha hb
        generalize hrd : (f.without k).rdy true = rd at *
        clear hrd
        cases h1 : (a.n == lo.n) <;> cases h2 : (a.d == lo.d) <;> cases h3 : (b.n == hi.n) <;> cases h4 : (b.d == hi.d)
        case true.true.true.true =>
          have HN : Hid (f.rsB k = false) := Lib.hid (by rw [HR.out, h1, h2, h3, h4]; rfl)
          clear HR
          go_wp2
          go_roundw
          case rel => exact ⟨k + 1, by omega, by go_num, by rw [rsT_no HN.out]; exact own_bel HO4.out (bl_alloc (bl_alloc (Below.refl _ _) _) _), by (repeat' with_reducible first|assumption|exact Below.refl _ _|apply bl_alloc|apply bl_drewN|apply bl_drew|refine bl_set ?_ (by simp<;>omega) _|refine bl_then ?_ (by assumption))⟩
          case measure => simp [intOf]; omega
        all_goals (
          have HN : Hid (f.rsB k = true) := Lib.hid (by rw [HR.out, h1, h2, h3, h4]; rfl)
          clear HR
          have HO5 := Lib.hid (own_bel HO4.out (bl_alloc (bl_alloc (bl_alloc (Below.refl _ _) (.cells #[.int .i64 a.n, .int .i64 a.d] 41)) (.cells #[.int .i64 b.n, .int .i64 b.d] 41)) (.cells #[.int .i64 k] 3)))
          have hB5 := bl_alloc (bl_alloc (bl_alloc hB4 (.cells #[.int .i64 a.n, .int .i64 a.d] 41)) (.cells #[.int .i64 b.n, .int .i64 b.d] 41)) (.cells #[.int .i64 k] 3)
          have hsz := hB5.size
          have hx5 := Sl.new1 inC_len ((w4.alloc (.cells #[.int .i64 a.n, .int .i64 a.d] 41)).alloc (.cells #[.int .i64 b.n, .int .i64 b.d] 41)) (k : Int) #[.int .i64 k] 3 rfl
          rw [World.size_alloc, World.size_alloc] at hx5
          have HX5 := Lib.hid hx5
          clear hx5
          go_wp2_with (at_builtin; refine app_own inC_len (by decide) inC_one rfl (.tmp 43) (.tmp 45) 53 rfl 3 _ 8 Tryz.underlying53 intZ rfl W2.heap.size _ _ (f.rsT k) [(k : Int)] rfl rfl HO5.out _ rfl HX5.out hsz (by simp only [List.length_cons, List.length_nil]; omega) (by simp only [List.length_cons, List.length_nil]; omega) ?_; intro v' w' hv' hg' hh'; (have hB' := hB5.grown hg' (by omega) (fun z hz => (HO5.out.lt z hz).1)); (have HV' := Lib.hid hv'); clear hv' hg' hh')
          go_roundw
          case rel => exact ⟨k + 1, by omega, by go_num, by rw [rsT_yes HN.out]; simpa using HV'.out, hB'⟩
          case measure => simp [intOf]; omega)
      · obtain rfl : k = f.seen.length := by omega
        go_wp2
        go_ret2
        exact ⟨_, by rw [H0.out]; rfl, by rw [HE.out]; exact Sl.of_own inC_len (by decide) HO.out, by (repeat' with_reducible first|assumption|exact Below.refl _ _|apply bl_alloc|apply bl_drewN|apply bl_drew|refine bl_set ?_ (by simp<;>omega) _|refine bl_then ?_ (by assumption))⟩
end Go.Proofs.YtjpagpplkldbkaaGreat
