/- WearEnds: its walk. WRITTEN BY wip/tools/gen_en.py. -/
import Derived.Test.YtjpagpplkldbkaaGreatCq
import Derived.Test.YtjpagpplkldbkaaGreatLb
set_option linter.unusedVariables false
set_option linter.unusedSimpArgs false
namespace Go.Proofs.YtjpagpplkldbkaaGreat
open Go.RowKit Go.Shelf WH
/-- Is there an item, of the first n, with which CheckCase accepts a case? -/
def Fl.ccAny (f : Fl) (r : Ra) (n : Nat) : Bool := (List.range n).any fun j => decide (f.ccErr r ((j : Int) - 1) = 0)
theorem ccAny_zero {f : Fl} {r : Ra} : f.ccAny r 0 = false := rfl
theorem ccAny_succ {f : Fl} {r : Ra} {n : Nat} : f.ccAny r (n + 1) = (f.ccAny r n || decide (f.ccErr r ((n : Int) - 1) = 0)) := by simp [Fl.ccAny, List.range_succ]
theorem ccAny_of {f : Fl} {r : Ra} {k : Int} (h1 : -1 ≤ k) (h2 : k < f.seen.length) (h : f.ccErr r k = 0) : f.ccAny r (f.seen.length + 1) = true := by
  unfold Fl.ccAny
  rw [List.any_eq_true]
  refine ⟨(k + 1).toNat, List.mem_range.2 (by omega), ?_⟩
  rw [show (((k + 1).toNat : Nat) : Int) - 1 = k by omega, h]
  rfl
/-- Two ratios compared by the law. -/
theorem lcompare_is {a b c d n : Int} {w : World} (ha : 1 ≤ a ∧ a ≤ 9223372036854775807) (hb : 1 ≤ b ∧ b ≤ 9223372036854775807) (hc : 1 ≤ c ∧ c ≤ 9223372036854775807) (hd : 1 ≤ d ∧ d ≤ 9223372036854775807) (h : cmpI (a * d) (c * b) = n) :
    Calls Tryz.prog 35 #[.agg #[.int .i64 a, .int .i64 b], .agg #[.int .i64 c, .int .i64 d]] w fun e w' => e = .returned (.int .i64 n) ∧ Below w.heap.size w w' := by
  subst h
  exact lcompare_any a b c d w ⟨by omega, ha.2⟩ ⟨by omega, hb.2⟩ ⟨by omega, hc.2⟩ ⟨by omega, hd.2⟩
set_option maxRecDepth 100000 in
set_option maxHeartbeats 4000000 in
theorem ends_30 {v : Value} {f : Fl} {a b y n1 : Int}  {w : World} (hf : Fv w v f) (h1 : f.bLo = ⟨0, 0⟩) (h2 : f.bHi = ⟨0, 0⟩) (h3 : f.rdy true = 30) (h4 : f.ccErr ⟨a, b⟩ y = n1) (d1 : (n1 != 0) = true) : Calls Tryz.prog 5 #[v, raV ⟨a, b⟩, .int .i64 y] w fun e w' => e = .returned (.bool true) ∧ Below w.heap.size w w' := by
  obtain ⟨vv, sv, rfl, hv, hs⟩ := hf
  have HV := Lib.hid hv
  have HS := Lib.hid hs
  obtain ⟨A, c, rfl, _⟩ := hv
  obtain ⟨A2, c2, rfl, _⟩ := hs
  unfold raV
  have H1 := Lib.hid h1
  clear h1
  have H2 := Lib.hid h2
  clear h2
  have H3 := Lib.hid h3
  clear h3
  have H4 := Lib.hid h4
  clear h4
  unfold flC
  have HM := Lib.hid (Bks.nil w); have hC : Below w.heap.size w w := Below.refl _ _; have hK := True.intro; have hL := True.intro
  go_enter Tryz.func5, Tryz.ntmps5
  go_wp2_with fail
  refine (sane_is).mono ?_
  rintro e1 w1 ⟨rfl, hb⟩
  obtain ⟨hm_, hC_⟩ := stp2 hb HM.out hC; clear HM hC hb hK hL; have hK := hm_.cells; have hL := hm_.lts; simp only [BCells, CellsAt, BLts, Nat.reduceAdd, Nat.zero_add, and_true] at hK hL; have HM := Lib.hid hm_; have hC := hC_; clear hm_ hC_
  go_wp2_with fail
  refine (bounds_is H1.out H2.out H3.out ⟨_, _, rfl, HV.out.below (by (repeat' with_reducible first|assumption|exact Below.refl _ _|apply bl_alloc|apply bl_drewN|apply bl_drew|refine bl_set ?_ (by simp<;>omega) _|refine bl_then ?_ (by assumption))), HS.out.below (by (repeat' with_reducible first|assumption|exact Below.refl _ _|apply bl_alloc|apply bl_drewN|apply bl_drew|refine bl_set ?_ (by simp<;>omega) _|refine bl_then ?_ (by assumption)))⟩).mono ?_
  rintro e2 w2 ⟨rfl, hb⟩
  obtain ⟨hm_, hC_⟩ := stp0 hb HM.out hC; clear HM hC hb hK hL; have hK := hm_.cells; have hL := hm_.lts; simp only [BCells, CellsAt, BLts, Nat.reduceAdd, Nat.zero_add, and_true] at hK hL; have HM := Lib.hid hm_; have hC := hC_; clear hm_ hC_
  go_wp2_with fail
  refine (ckc_is H4.out ⟨_, _, rfl, HV.out.below (by (repeat' with_reducible first|assumption|exact Below.refl _ _|apply bl_alloc|apply bl_drewN|apply bl_drew|refine bl_set ?_ (by simp<;>omega) _|refine bl_then ?_ (by assumption))), HS.out.below (by (repeat' with_reducible first|assumption|exact Below.refl _ _|apply bl_alloc|apply bl_drewN|apply bl_drew|refine bl_set ?_ (by simp<;>omega) _|refine bl_then ?_ (by assumption)))⟩).mono ?_
  rintro e3 w3 ⟨rfl, hb⟩
  obtain ⟨hm_, hC_⟩ := stp2 hb HM.out hC; clear HM hC hb hK hL; have hK := hm_.cells; have hL := hm_.lts; simp only [BCells, CellsAt, BLts, Nat.reduceAdd, Nat.zero_add, and_true] at hK hL; have HM := Lib.hid hm_; have hC := hC_; clear hm_ hC_
  go_wp2
  go_ret
  exact ⟨rfl, by (repeat' with_reducible first|assumption|exact Below.refl _ _|apply bl_alloc|apply bl_drewN|apply bl_drew|refine bl_set ?_ (by simp<;>omega) _|refine bl_then ?_ (by assumption))⟩
set_option maxRecDepth 100000 in
set_option maxHeartbeats 4000000 in
theorem ends_31 {v : Value} {f : Fl} {a b y n1 : Int}  {w : World} (hf : Fv w v f) (h1 : f.bLo = ⟨0, 0⟩) (h2 : f.bHi = ⟨0, 0⟩) (h3 : f.rdy true = 31) (h4 : f.ccErr ⟨a, b⟩ y = n1) (d1 : (n1 != 0) = true) : Calls Tryz.prog 5 #[v, raV ⟨a, b⟩, .int .i64 y] w fun e w' => e = .returned (.bool true) ∧ Below w.heap.size w w' := by
  obtain ⟨vv, sv, rfl, hv, hs⟩ := hf
  have HV := Lib.hid hv
  have HS := Lib.hid hs
  obtain ⟨A, c, rfl, _⟩ := hv
  obtain ⟨A2, c2, rfl, _⟩ := hs
  unfold raV
  have H1 := Lib.hid h1
  clear h1
  have H2 := Lib.hid h2
  clear h2
  have H3 := Lib.hid h3
  clear h3
  have H4 := Lib.hid h4
  clear h4
  unfold flC
  have HM := Lib.hid (Bks.nil w); have hC : Below w.heap.size w w := Below.refl _ _; have hK := True.intro; have hL := True.intro
  go_enter Tryz.func5, Tryz.ntmps5
  go_wp2_with fail
  refine (sane_is).mono ?_
  rintro e1 w1 ⟨rfl, hb⟩
  obtain ⟨hm_, hC_⟩ := stp2 hb HM.out hC; clear HM hC hb hK hL; have hK := hm_.cells; have hL := hm_.lts; simp only [BCells, CellsAt, BLts, Nat.reduceAdd, Nat.zero_add, and_true] at hK hL; have HM := Lib.hid hm_; have hC := hC_; clear hm_ hC_
  go_wp2_with fail
  refine (bounds_is H1.out H2.out H3.out ⟨_, _, rfl, HV.out.below (by (repeat' with_reducible first|assumption|exact Below.refl _ _|apply bl_alloc|apply bl_drewN|apply bl_drew|refine bl_set ?_ (by simp<;>omega) _|refine bl_then ?_ (by assumption))), HS.out.below (by (repeat' with_reducible first|assumption|exact Below.refl _ _|apply bl_alloc|apply bl_drewN|apply bl_drew|refine bl_set ?_ (by simp<;>omega) _|refine bl_then ?_ (by assumption)))⟩).mono ?_
  rintro e2 w2 ⟨rfl, hb⟩
  obtain ⟨hm_, hC_⟩ := stp0 hb HM.out hC; clear HM hC hb hK hL; have hK := hm_.cells; have hL := hm_.lts; simp only [BCells, CellsAt, BLts, Nat.reduceAdd, Nat.zero_add, and_true] at hK hL; have HM := Lib.hid hm_; have hC := hC_; clear hm_ hC_
  go_wp2_with fail
  refine (ckc_is H4.out ⟨_, _, rfl, HV.out.below (by (repeat' with_reducible first|assumption|exact Below.refl _ _|apply bl_alloc|apply bl_drewN|apply bl_drew|refine bl_set ?_ (by simp<;>omega) _|refine bl_then ?_ (by assumption))), HS.out.below (by (repeat' with_reducible first|assumption|exact Below.refl _ _|apply bl_alloc|apply bl_drewN|apply bl_drew|refine bl_set ?_ (by simp<;>omega) _|refine bl_then ?_ (by assumption)))⟩).mono ?_
  rintro e3 w3 ⟨rfl, hb⟩
  obtain ⟨hm_, hC_⟩ := stp2 hb HM.out hC; clear HM hC hb hK hL; have hK := hm_.cells; have hL := hm_.lts; simp only [BCells, CellsAt, BLts, Nat.reduceAdd, Nat.zero_add, and_true] at hK hL; have HM := Lib.hid hm_; have hC := hC_; clear hm_ hC_
  go_wp2
  go_ret
  exact ⟨rfl, by (repeat' with_reducible first|assumption|exact Below.refl _ _|apply bl_alloc|apply bl_drewN|apply bl_drew|refine bl_set ?_ (by simp<;>omega) _|refine bl_then ?_ (by assumption))⟩
set_option maxRecDepth 100000 in
set_option maxHeartbeats 4000000 in
theorem ends_0t {v : Value} {f : Fl} {a b y p q r s n0 n1 n2 n3 : Int}  {w : World} (hf : Fv w v f) (h1 : f.bLo = ⟨p, q⟩) (h2 : f.bHi = ⟨r, s⟩) (h3 : f.rdy true = 0) (hp : 1 ≤ p ∧ p ≤ 9223372036854775807) (hq : 1 ≤ q ∧ q ≤ 9223372036854775807) (hr : 1 ≤ r ∧ r ≤ 9223372036854775807) (ht : 1 ≤ s ∧ s ≤ 9223372036854775807) (d1 : decide (p < 1) = false) (d2 : decide (q < 1) = false) (d3 : decide (r < 1) = false) (d4 : decide (s < 1) = false) (h4 : cmpI (p * s) (r * q) = n0) (d5 : decide (0 < n0) = false) (hlo : f.ccAny ⟨p, q⟩ (f.seen.length + 1) = true) (hhi : f.ccAny ⟨r, s⟩ (f.seen.length + 1) = true) (h5 : f.ccErr ⟨a, b⟩ y = n1) (hlen : f.seen.length ≤ 24) (d6 : (n1 != 0) = true) : Calls Tryz.prog 5 #[v, raV ⟨a, b⟩, .int .i64 y] w fun e w' => e = .returned (.bool true) ∧ Below w.heap.size w w' := by
  obtain ⟨vv, sv, rfl, hv, hs⟩ := hf
  have HV := Lib.hid hv
  have HS := Lib.hid hs
  obtain ⟨A, c, rfl, _⟩ := hv
  obtain ⟨A2, c2, rfl, _⟩ := hs
  unfold raV
  have H1 := Lib.hid h1
  clear h1
  have H2 := Lib.hid h2
  clear h2
  have H3 := Lib.hid h3
  clear h3
  have HP := Lib.hid hp
  clear hp
  have HQ := Lib.hid hq
  clear hq
  have HR := Lib.hid hr
  clear hr
  have HT := Lib.hid ht
  clear ht
  have H4 := Lib.hid h4
  clear h4
  have HLO := Lib.hid hlo
  clear hlo
  have HHI := Lib.hid hhi
  clear hhi
  have H5 := Lib.hid h5
  clear h5
  have HLEN := Lib.hid hlen
  clear hlen
  unfold flC
  have HM := Lib.hid (Bks.nil w); have hC : Below w.heap.size w w := Below.refl _ _; have hK := True.intro; have hL := True.intro
  go_enter Tryz.func5, Tryz.ntmps5
  go_wp2_with fail
  refine (sane_is).mono ?_
  rintro e1 w1 ⟨rfl, hb⟩
  obtain ⟨hm_, hC_⟩ := stp2 hb HM.out hC; clear HM hC hb hK hL; have hK := hm_.cells; have hL := hm_.lts; simp only [BCells, CellsAt, BLts, Nat.reduceAdd, Nat.zero_add, and_true] at hK hL; have HM := Lib.hid hm_; have hC := hC_; clear hm_ hC_
  go_wp2_with fail
  refine (bounds_is H1.out H2.out H3.out ⟨_, _, rfl, HV.out.below (by (repeat' with_reducible first|assumption|exact Below.refl _ _|apply bl_alloc|apply bl_drewN|apply bl_drew|refine bl_set ?_ (by simp<;>omega) _|refine bl_then ?_ (by assumption))), HS.out.below (by (repeat' with_reducible first|assumption|exact Below.refl _ _|apply bl_alloc|apply bl_drewN|apply bl_drew|refine bl_set ?_ (by simp<;>omega) _|refine bl_then ?_ (by assumption)))⟩).mono ?_
  rintro e2 w2 ⟨rfl, hb⟩
  obtain ⟨hm_, hC_⟩ := stp0 hb HM.out hC; clear HM hC hb hK hL; have hK := hm_.cells; have hL := hm_.lts; simp only [BCells, CellsAt, BLts, Nat.reduceAdd, Nat.zero_add, and_true] at hK hL; have HM := Lib.hid hm_; have hC := hC_; clear hm_ hC_
  go_wp2_with fail
  refine (lcompare_is HP.out HQ.out HR.out HT.out H4.out).mono ?_
  rintro e3 w3 ⟨rfl, hb⟩
  obtain ⟨hm_, hC_⟩ := stp2 hb HM.out hC; clear HM hC hb hK hL; have hK := hm_.cells; have hL := hm_.lts; simp only [BCells, CellsAt, BLts, Nat.reduceAdd, Nat.zero_add, and_true] at hK hL; have HM := Lib.hid hm_; have hC := hC_; clear hm_ hC_
  go_wp2
  have hm1 := HM.out.alloc [.int .i64 p, .int .i64 q, .int .i64 r, .int .i64 s] 41
  have hC1 := bl_alloc hC (.cells #[.int .i64 p, .int .i64 q, .int .i64 r, .int .i64 s] 41)
  generalize hW1 : w3.alloc (.cells #[.int .i64 p, .int .i64 q, .int .i64 r, .int .i64 s] 41) = W1 at *
  have HM1 := Lib.hid hm1
  have HC1 := Lib.hid hC1
  clear hW1 hm1 hC1 hK hL hC HM
  go_loopw [57] (fun iv W => ∃ k2 : Nat, k2 ≤ 2 ∧ iv = .int .i64 k2 ∧ Below W1.heap.size W1 W) (fun iv _ => 2 - (intOf iv).toNat)
  case atStart => exact ⟨0, by omega, rfl, Below.refl _ _⟩
  case round =>
    obtain ⟨k2, hk2, rfl, hBo⟩ := hrel
    have hmo := HM1.out.below hBo
    have hK := hmo.cells
    have hL := hmo.lts
    simp only [BCells, CellsAt, BLts, Nat.reduceAdd, Nat.zero_add, and_true] at hK hL
    clear hmo
    obtain rfl | rfl | rfl : k2 = 0 ∨ k2 = 1 ∨ k2 = 2 := by omega
    · clear hk2
      (try rw [show ((0 : Nat) : Int) = 0 from rfl])
      (try rw [show ((1 : Nat) : Int) = 1 from rfl])
      go_wp2
      have hm2 := (HM1.out.below hBo).alloc [.int .i64 p, .int .i64 q] 41
      have hC2 := bl_alloc (Below.refl wr.heap.size wr) (.cells #[.int .i64 p, .int .i64 q] 41)
      generalize hW2 : wr.alloc (.cells #[.int .i64 p, .int .i64 q] 41) = W2 at *
      have HM2 := Lib.hid hm2
      have HBO := Lib.hid (bl_then (bl_then HC1.out hBo) hC2)
      have HBQ := Lib.hid (bl_then hBo hC2)
      clear hm2 hW2 hK hL hC2 hBo
      obtain ⟨wq, rfl⟩ : ∃ wq : World, wq = wr := ⟨_, rfl⟩
      go_loopw [12, 13] (fun sv iv W => ∃ q2 : Nat, q2 ≤ f.seen.length + 1 ∧ iv = .int .i64 ((q2 : Int) - 1) ∧ sv = .bool (f.ccAny ⟨p, q⟩ q2) ∧ Below W2.heap.size W2 W) (fun _ iv _ => f.seen.length + 1 - (intOf iv + 1).toNat)
      case atStart => exact ⟨0, by omega, rfl, rfl, Below.refl _ _⟩
      case round =>
        obtain ⟨q2, hq2, rfl, rfl, hBi⟩ := hrel
        have hm3 := HM2.out.below hBi
        have hK := hm3.cells
        have hL := hm3.lts
        simp only [BCells, CellsAt, BLts, Nat.reduceAdd, Nat.zero_add, and_true] at hK hL
        clear hm3
        by_cases hlt2 : q2 < f.seen.length + 1
        · have e1 : decide ((q2 : Int) - 1 < (f.seen.length : Int)) = true := by simp; omega
          have e2 : IntKind.i64.wrap ((q2 : Int) - 1 + 1) = (q2 : Int) := by rw [show (q2 : Int) - 1 + 1 = q2 by omega]; have := HLEN.out; exact wrapI (by omega) (by omega)
          have hs := @ccAny_succ f ⟨p, q⟩ q2
          have HSU := Lib.hid hs
          clear hs
          cases hany : f.ccAny ⟨p, q⟩ q2 with
          | true =>
            have HA := Lib.hid hany
            clear hany
            go_wp2
            go_roundw
            case rel => exact ⟨q2 + 1, by omega, by congr 1; push_cast; omega, by rw [HSU.out, HA.out]; rfl, hBi⟩
            case measure => simp [intOf]; omega
          | false =>
            have HA := Lib.hid hany
            clear hany
            cases hz : decide (f.ccErr ⟨p, q⟩ ((q2 : Int) - 1) = 0) with
            | true =>
              have HZ := Lib.hid hz
              have hn : f.ccErr ⟨p, q⟩ ((q2 : Int) - 1) = 0 := by simpa using hz
              have HNN := Lib.hid hn
              clear hz hn
              go_wp2_with fail
              refine (ckc_is HNN.out ⟨_, _, rfl, HV.out.below (bl_then HBO.out hBi), HS.out.below (bl_then HBO.out hBi)⟩).mono ?_
              rintro e9 w9 ⟨rfl, hb9⟩
              go_wp2
              go_roundw
              case rel => exact ⟨q2 + 1, by omega, by congr 1; push_cast; omega, by rw [HSU.out, HA.out, HZ.out]; rfl, bl_then hBi hb9⟩
              case measure => simp [intOf]; omega
            | false =>
              have HZ := Lib.hid hz
              have hn : (f.ccErr ⟨p, q⟩ ((q2 : Int) - 1) == 0) = false := by simpa using hz
              generalize hcc : f.ccErr ⟨p, q⟩ ((q2 : Int) - 1) = cc at *
              have HNN := Lib.hid hcc
              clear hz hcc
              go_wp2_with fail
              refine (ckc_is HNN.out ⟨_, _, rfl, HV.out.below (bl_then HBO.out hBi), HS.out.below (bl_then HBO.out hBi)⟩).mono ?_
              rintro e9 w9 ⟨rfl, hb9⟩
              go_wp2
              go_roundw
              case rel => exact ⟨q2 + 1, by omega, by congr 1; push_cast; omega, by rw [HSU.out, HA.out]; simpa using HZ.out, bl_then hBi hb9⟩
              case measure => simp [intOf]; omega
        · obtain rfl : q2 = f.seen.length + 1 := by omega
          have e1 : decide (((f.seen.length + 1 : Nat) : Int) - 1 < (f.seen.length : Int)) = false := by simp
          rw [HLO.out]
          go_wp2
          go_roundw
          case rel => exact ⟨1, by omega, rfl, bl_then HBQ.out hBi⟩
          case measure => simp [intOf]
    · clear hk2
      (try rw [show ((0 : Nat) : Int) = 0 from rfl])
      (try rw [show ((1 : Nat) : Int) = 1 from rfl])
      go_wp2
      have hm2 := (HM1.out.below hBo).alloc [.int .i64 r, .int .i64 s] 41
      have hC2 := bl_alloc (Below.refl wr.heap.size wr) (.cells #[.int .i64 r, .int .i64 s] 41)
      generalize hW2 : wr.alloc (.cells #[.int .i64 r, .int .i64 s] 41) = W2 at *
      have HM2 := Lib.hid hm2
      have HBO := Lib.hid (bl_then (bl_then HC1.out hBo) hC2)
      have HBQ := Lib.hid (bl_then hBo hC2)
      clear hm2 hW2 hK hL hC2 hBo
      obtain ⟨wq, rfl⟩ : ∃ wq : World, wq = wr := ⟨_, rfl⟩
      go_loopw [12, 13] (fun sv iv W => ∃ q2 : Nat, q2 ≤ f.seen.length + 1 ∧ iv = .int .i64 ((q2 : Int) - 1) ∧ sv = .bool (f.ccAny ⟨r, s⟩ q2) ∧ Below W2.heap.size W2 W) (fun _ iv _ => f.seen.length + 1 - (intOf iv + 1).toNat)
      case atStart => exact ⟨0, by omega, rfl, rfl, Below.refl _ _⟩
      case round =>
        obtain ⟨q2, hq2, rfl, rfl, hBi⟩ := hrel
        have hm3 := HM2.out.below hBi
        have hK := hm3.cells
        have hL := hm3.lts
        simp only [BCells, CellsAt, BLts, Nat.reduceAdd, Nat.zero_add, and_true] at hK hL
        clear hm3
        by_cases hlt2 : q2 < f.seen.length + 1
        · have e1 : decide ((q2 : Int) - 1 < (f.seen.length : Int)) = true := by simp; omega
          have e2 : IntKind.i64.wrap ((q2 : Int) - 1 + 1) = (q2 : Int) := by rw [show (q2 : Int) - 1 + 1 = q2 by omega]; have := HLEN.out; exact wrapI (by omega) (by omega)
          have hs := @ccAny_succ f ⟨r, s⟩ q2
          have HSU := Lib.hid hs
          clear hs
          cases hany : f.ccAny ⟨r, s⟩ q2 with
          | true =>
            have HA := Lib.hid hany
            clear hany
            go_wp2
            go_roundw
            case rel => exact ⟨q2 + 1, by omega, by congr 1; push_cast; omega, by rw [HSU.out, HA.out]; rfl, hBi⟩
            case measure => simp [intOf]; omega
          | false =>
            have HA := Lib.hid hany
            clear hany
            cases hz : decide (f.ccErr ⟨r, s⟩ ((q2 : Int) - 1) = 0) with
            | true =>
              have HZ := Lib.hid hz
              have hn : f.ccErr ⟨r, s⟩ ((q2 : Int) - 1) = 0 := by simpa using hz
              have HNN := Lib.hid hn
              clear hz hn
              go_wp2_with fail
              refine (ckc_is HNN.out ⟨_, _, rfl, HV.out.below (bl_then HBO.out hBi), HS.out.below (bl_then HBO.out hBi)⟩).mono ?_
              rintro e9 w9 ⟨rfl, hb9⟩
              go_wp2
              go_roundw
              case rel => exact ⟨q2 + 1, by omega, by congr 1; push_cast; omega, by rw [HSU.out, HA.out, HZ.out]; rfl, bl_then hBi hb9⟩
              case measure => simp [intOf]; omega
            | false =>
              have HZ := Lib.hid hz
              have hn : (f.ccErr ⟨r, s⟩ ((q2 : Int) - 1) == 0) = false := by simpa using hz
              generalize hcc : f.ccErr ⟨r, s⟩ ((q2 : Int) - 1) = cc at *
              have HNN := Lib.hid hcc
              clear hz hcc
              go_wp2_with fail
              refine (ckc_is HNN.out ⟨_, _, rfl, HV.out.below (bl_then HBO.out hBi), HS.out.below (bl_then HBO.out hBi)⟩).mono ?_
              rintro e9 w9 ⟨rfl, hb9⟩
              go_wp2
              go_roundw
              case rel => exact ⟨q2 + 1, by omega, by congr 1; push_cast; omega, by rw [HSU.out, HA.out]; simpa using HZ.out, bl_then hBi hb9⟩
              case measure => simp [intOf]; omega
        · obtain rfl : q2 = f.seen.length + 1 := by omega
          have e1 : decide (((f.seen.length + 1 : Nat) : Int) - 1 < (f.seen.length : Int)) = false := by simp
          rw [HHI.out]
          go_wp2
          go_roundw
          case rel => exact ⟨2, by omega, rfl, bl_then HBQ.out hBi⟩
          case measure => simp [intOf]
    · clear hk2
      have hCo := bl_then HC1.out hBo
      go_wp2_with fail
      refine (ckc_is H5.out ⟨_, _, rfl, HV.out.below hCo, HS.out.below hCo⟩).mono ?_
      rintro e9 w9 ⟨rfl, hb9⟩
      go_wp2
      go_ret
      exact ⟨rfl, bl_then hCo hb9⟩
set_option maxRecDepth 100000 in
set_option maxHeartbeats 4000000 in
theorem ends_0f {v : Value} {f : Fl} {a b y p q r s n0 n1 n2 n3 : Int}  {w : World} (hf : Fv w v f) (h1 : f.bLo = ⟨p, q⟩) (h2 : f.bHi = ⟨r, s⟩) (h3 : f.rdy true = 0) (hp : 1 ≤ p ∧ p ≤ 9223372036854775807) (hq : 1 ≤ q ∧ q ≤ 9223372036854775807) (hr : 1 ≤ r ∧ r ≤ 9223372036854775807) (ht : 1 ≤ s ∧ s ≤ 9223372036854775807) (d1 : decide (p < 1) = false) (d2 : decide (q < 1) = false) (d3 : decide (r < 1) = false) (d4 : decide (s < 1) = false) (h4 : cmpI (p * s) (r * q) = n0) (d5 : decide (0 < n0) = false) (hlo : f.ccAny ⟨p, q⟩ (f.seen.length + 1) = true) (hhi : f.ccAny ⟨r, s⟩ (f.seen.length + 1) = true) (h5 : f.ccErr ⟨a, b⟩ y = n1) (hlen : f.seen.length ≤ 24) (d6 : (n1 != 0) = false) (ha : 1 ≤ a ∧ a ≤ 9223372036854775807) (hb : 1 ≤ b ∧ b ≤ 9223372036854775807) (d7 : decide (1 ≤ a) = true) (d8 : decide (1 ≤ b) = true) (h6 : cmpI (p * b) (a * q) = n2) (d9 : decide (n2 ≤ 0) = true) (h7 : cmpI (a * s) (r * b) = n3) (d10 : decide (n3 ≤ 0) = true) : Calls Tryz.prog 5 #[v, raV ⟨a, b⟩, .int .i64 y] w fun e w' => e = .returned (.bool true) ∧ Below w.heap.size w w' := by
  obtain ⟨vv, sv, rfl, hv, hs⟩ := hf
  have HV := Lib.hid hv
  have HS := Lib.hid hs
  obtain ⟨A, c, rfl, _⟩ := hv
  obtain ⟨A2, c2, rfl, _⟩ := hs
  unfold raV
  have H1 := Lib.hid h1
  clear h1
  have H2 := Lib.hid h2
  clear h2
  have H3 := Lib.hid h3
  clear h3
  have HP := Lib.hid hp
  clear hp
  have HQ := Lib.hid hq
  clear hq
  have HR := Lib.hid hr
  clear hr
  have HT := Lib.hid ht
  clear ht
  have H4 := Lib.hid h4
  clear h4
  have HLO := Lib.hid hlo
  clear hlo
  have HHI := Lib.hid hhi
  clear hhi
  have H5 := Lib.hid h5
  clear h5
  have HLEN := Lib.hid hlen
  clear hlen
  have HA := Lib.hid ha
  clear ha
  have HB := Lib.hid hb
  clear hb
  have H6 := Lib.hid h6
  clear h6
  have H7 := Lib.hid h7
  clear h7
  unfold flC
  have HM := Lib.hid (Bks.nil w); have hC : Below w.heap.size w w := Below.refl _ _; have hK := True.intro; have hL := True.intro
  go_enter Tryz.func5, Tryz.ntmps5
  go_wp2_with fail
  refine (sane_is).mono ?_
  rintro e1 w1 ⟨rfl, hb⟩
  obtain ⟨hm_, hC_⟩ := stp2 hb HM.out hC; clear HM hC hb hK hL; have hK := hm_.cells; have hL := hm_.lts; simp only [BCells, CellsAt, BLts, Nat.reduceAdd, Nat.zero_add, and_true] at hK hL; have HM := Lib.hid hm_; have hC := hC_; clear hm_ hC_
  go_wp2_with fail
  refine (bounds_is H1.out H2.out H3.out ⟨_, _, rfl, HV.out.below (by (repeat' with_reducible first|assumption|exact Below.refl _ _|apply bl_alloc|apply bl_drewN|apply bl_drew|refine bl_set ?_ (by simp<;>omega) _|refine bl_then ?_ (by assumption))), HS.out.below (by (repeat' with_reducible first|assumption|exact Below.refl _ _|apply bl_alloc|apply bl_drewN|apply bl_drew|refine bl_set ?_ (by simp<;>omega) _|refine bl_then ?_ (by assumption)))⟩).mono ?_
  rintro e2 w2 ⟨rfl, hb⟩
  obtain ⟨hm_, hC_⟩ := stp0 hb HM.out hC; clear HM hC hb hK hL; have hK := hm_.cells; have hL := hm_.lts; simp only [BCells, CellsAt, BLts, Nat.reduceAdd, Nat.zero_add, and_true] at hK hL; have HM := Lib.hid hm_; have hC := hC_; clear hm_ hC_
  go_wp2_with fail
  refine (lcompare_is HP.out HQ.out HR.out HT.out H4.out).mono ?_
  rintro e3 w3 ⟨rfl, hb⟩
  obtain ⟨hm_, hC_⟩ := stp2 hb HM.out hC; clear HM hC hb hK hL; have hK := hm_.cells; have hL := hm_.lts; simp only [BCells, CellsAt, BLts, Nat.reduceAdd, Nat.zero_add, and_true] at hK hL; have HM := Lib.hid hm_; have hC := hC_; clear hm_ hC_
  go_wp2
  have hm1 := HM.out.alloc [.int .i64 p, .int .i64 q, .int .i64 r, .int .i64 s] 41
  have hC1 := bl_alloc hC (.cells #[.int .i64 p, .int .i64 q, .int .i64 r, .int .i64 s] 41)
  generalize hW1 : w3.alloc (.cells #[.int .i64 p, .int .i64 q, .int .i64 r, .int .i64 s] 41) = W1 at *
  have HM1 := Lib.hid hm1
  have HC1 := Lib.hid hC1
  clear hW1 hm1 hC1 hK hL hC HM
  go_loopw [57] (fun iv W => ∃ k2 : Nat, k2 ≤ 2 ∧ iv = .int .i64 k2 ∧ Below W1.heap.size W1 W) (fun iv _ => 2 - (intOf iv).toNat)
  case atStart => exact ⟨0, by omega, rfl, Below.refl _ _⟩
  case round =>
    obtain ⟨k2, hk2, rfl, hBo⟩ := hrel
    have hmo := HM1.out.below hBo
    have hK := hmo.cells
    have hL := hmo.lts
    simp only [BCells, CellsAt, BLts, Nat.reduceAdd, Nat.zero_add, and_true] at hK hL
    clear hmo
    obtain rfl | rfl | rfl : k2 = 0 ∨ k2 = 1 ∨ k2 = 2 := by omega
    · clear hk2
      (try rw [show ((0 : Nat) : Int) = 0 from rfl])
      (try rw [show ((1 : Nat) : Int) = 1 from rfl])
      go_wp2
      have hm2 := (HM1.out.below hBo).alloc [.int .i64 p, .int .i64 q] 41
      have hC2 := bl_alloc (Below.refl wr.heap.size wr) (.cells #[.int .i64 p, .int .i64 q] 41)
      generalize hW2 : wr.alloc (.cells #[.int .i64 p, .int .i64 q] 41) = W2 at *
      have HM2 := Lib.hid hm2
      have HBO := Lib.hid (bl_then (bl_then HC1.out hBo) hC2)
      have HBQ := Lib.hid (bl_then hBo hC2)
      clear hm2 hW2 hK hL hC2 hBo
      obtain ⟨wq, rfl⟩ : ∃ wq : World, wq = wr := ⟨_, rfl⟩
      go_loopw [12, 13] (fun sv iv W => ∃ q2 : Nat, q2 ≤ f.seen.length + 1 ∧ iv = .int .i64 ((q2 : Int) - 1) ∧ sv = .bool (f.ccAny ⟨p, q⟩ q2) ∧ Below W2.heap.size W2 W) (fun _ iv _ => f.seen.length + 1 - (intOf iv + 1).toNat)
      case atStart => exact ⟨0, by omega, rfl, rfl, Below.refl _ _⟩
      case round =>
        obtain ⟨q2, hq2, rfl, rfl, hBi⟩ := hrel
        have hm3 := HM2.out.below hBi
        have hK := hm3.cells
        have hL := hm3.lts
        simp only [BCells, CellsAt, BLts, Nat.reduceAdd, Nat.zero_add, and_true] at hK hL
        clear hm3
        by_cases hlt2 : q2 < f.seen.length + 1
        · have e1 : decide ((q2 : Int) - 1 < (f.seen.length : Int)) = true := by simp; omega
          have e2 : IntKind.i64.wrap ((q2 : Int) - 1 + 1) = (q2 : Int) := by rw [show (q2 : Int) - 1 + 1 = q2 by omega]; have := HLEN.out; exact wrapI (by omega) (by omega)
          have hs := @ccAny_succ f ⟨p, q⟩ q2
          have HSU := Lib.hid hs
          clear hs
          cases hany : f.ccAny ⟨p, q⟩ q2 with
          | true =>
            have HA := Lib.hid hany
            clear hany
            go_wp2
            go_roundw
            case rel => exact ⟨q2 + 1, by omega, by congr 1; push_cast; omega, by rw [HSU.out, HA.out]; rfl, hBi⟩
            case measure => simp [intOf]; omega
          | false =>
            have HA := Lib.hid hany
            clear hany
            cases hz : decide (f.ccErr ⟨p, q⟩ ((q2 : Int) - 1) = 0) with
            | true =>
              have HZ := Lib.hid hz
              have hn : f.ccErr ⟨p, q⟩ ((q2 : Int) - 1) = 0 := by simpa using hz
              have HNN := Lib.hid hn
              clear hz hn
              go_wp2_with fail
              refine (ckc_is HNN.out ⟨_, _, rfl, HV.out.below (bl_then HBO.out hBi), HS.out.below (bl_then HBO.out hBi)⟩).mono ?_
              rintro e9 w9 ⟨rfl, hb9⟩
              go_wp2
              go_roundw
              case rel => exact ⟨q2 + 1, by omega, by congr 1; push_cast; omega, by rw [HSU.out, HA.out, HZ.out]; rfl, bl_then hBi hb9⟩
              case measure => simp [intOf]; omega
            | false =>
              have HZ := Lib.hid hz
              have hn : (f.ccErr ⟨p, q⟩ ((q2 : Int) - 1) == 0) = false := by simpa using hz
              generalize hcc : f.ccErr ⟨p, q⟩ ((q2 : Int) - 1) = cc at *
              have HNN := Lib.hid hcc
              clear hz hcc
              go_wp2_with fail
              refine (ckc_is HNN.out ⟨_, _, rfl, HV.out.below (bl_then HBO.out hBi), HS.out.below (bl_then HBO.out hBi)⟩).mono ?_
              rintro e9 w9 ⟨rfl, hb9⟩
              go_wp2
              go_roundw
              case rel => exact ⟨q2 + 1, by omega, by congr 1; push_cast; omega, by rw [HSU.out, HA.out]; simpa using HZ.out, bl_then hBi hb9⟩
              case measure => simp [intOf]; omega
        · obtain rfl : q2 = f.seen.length + 1 := by omega
          have e1 : decide (((f.seen.length + 1 : Nat) : Int) - 1 < (f.seen.length : Int)) = false := by simp
          rw [HLO.out]
          go_wp2
          go_roundw
          case rel => exact ⟨1, by omega, rfl, bl_then HBQ.out hBi⟩
          case measure => simp [intOf]
    · clear hk2
      (try rw [show ((0 : Nat) : Int) = 0 from rfl])
      (try rw [show ((1 : Nat) : Int) = 1 from rfl])
      go_wp2
      have hm2 := (HM1.out.below hBo).alloc [.int .i64 r, .int .i64 s] 41
      have hC2 := bl_alloc (Below.refl wr.heap.size wr) (.cells #[.int .i64 r, .int .i64 s] 41)
      generalize hW2 : wr.alloc (.cells #[.int .i64 r, .int .i64 s] 41) = W2 at *
      have HM2 := Lib.hid hm2
      have HBO := Lib.hid (bl_then (bl_then HC1.out hBo) hC2)
      have HBQ := Lib.hid (bl_then hBo hC2)
      clear hm2 hW2 hK hL hC2 hBo
      obtain ⟨wq, rfl⟩ : ∃ wq : World, wq = wr := ⟨_, rfl⟩
      go_loopw [12, 13] (fun sv iv W => ∃ q2 : Nat, q2 ≤ f.seen.length + 1 ∧ iv = .int .i64 ((q2 : Int) - 1) ∧ sv = .bool (f.ccAny ⟨r, s⟩ q2) ∧ Below W2.heap.size W2 W) (fun _ iv _ => f.seen.length + 1 - (intOf iv + 1).toNat)
      case atStart => exact ⟨0, by omega, rfl, rfl, Below.refl _ _⟩
      case round =>
        obtain ⟨q2, hq2, rfl, rfl, hBi⟩ := hrel
        have hm3 := HM2.out.below hBi
        have hK := hm3.cells
        have hL := hm3.lts
        simp only [BCells, CellsAt, BLts, Nat.reduceAdd, Nat.zero_add, and_true] at hK hL
        clear hm3
        by_cases hlt2 : q2 < f.seen.length + 1
        · have e1 : decide ((q2 : Int) - 1 < (f.seen.length : Int)) = true := by simp; omega
          have e2 : IntKind.i64.wrap ((q2 : Int) - 1 + 1) = (q2 : Int) := by rw [show (q2 : Int) - 1 + 1 = q2 by omega]; have := HLEN.out; exact wrapI (by omega) (by omega)
          have hs := @ccAny_succ f ⟨r, s⟩ q2
          have HSU := Lib.hid hs
          clear hs
          cases hany : f.ccAny ⟨r, s⟩ q2 with
          | true =>
            have HA := Lib.hid hany
            clear hany
            go_wp2
            go_roundw
            case rel => exact ⟨q2 + 1, by omega, by congr 1; push_cast; omega, by rw [HSU.out, HA.out]; rfl, hBi⟩
            case measure => simp [intOf]; omega
          | false =>
            have HA := Lib.hid hany
            clear hany
            cases hz : decide (f.ccErr ⟨r, s⟩ ((q2 : Int) - 1) = 0) with
            | true =>
              have HZ := Lib.hid hz
              have hn : f.ccErr ⟨r, s⟩ ((q2 : Int) - 1) = 0 := by simpa using hz
              have HNN := Lib.hid hn
              clear hz hn
              go_wp2_with fail
              refine (ckc_is HNN.out ⟨_, _, rfl, HV.out.below (bl_then HBO.out hBi), HS.out.below (bl_then HBO.out hBi)⟩).mono ?_
              rintro e9 w9 ⟨rfl, hb9⟩
              go_wp2
              go_roundw
              case rel => exact ⟨q2 + 1, by omega, by congr 1; push_cast; omega, by rw [HSU.out, HA.out, HZ.out]; rfl, bl_then hBi hb9⟩
              case measure => simp [intOf]; omega
            | false =>
              have HZ := Lib.hid hz
              have hn : (f.ccErr ⟨r, s⟩ ((q2 : Int) - 1) == 0) = false := by simpa using hz
              generalize hcc : f.ccErr ⟨r, s⟩ ((q2 : Int) - 1) = cc at *
              have HNN := Lib.hid hcc
              clear hz hcc
              go_wp2_with fail
              refine (ckc_is HNN.out ⟨_, _, rfl, HV.out.below (bl_then HBO.out hBi), HS.out.below (bl_then HBO.out hBi)⟩).mono ?_
              rintro e9 w9 ⟨rfl, hb9⟩
              go_wp2
              go_roundw
              case rel => exact ⟨q2 + 1, by omega, by congr 1; push_cast; omega, by rw [HSU.out, HA.out]; simpa using HZ.out, bl_then hBi hb9⟩
              case measure => simp [intOf]; omega
        · obtain rfl : q2 = f.seen.length + 1 := by omega
          have e1 : decide (((f.seen.length + 1 : Nat) : Int) - 1 < (f.seen.length : Int)) = false := by simp
          rw [HHI.out]
          go_wp2
          go_roundw
          case rel => exact ⟨2, by omega, rfl, bl_then HBQ.out hBi⟩
          case measure => simp [intOf]
    · clear hk2
      have hCo := bl_then HC1.out hBo
      go_wp2_with fail
      refine (ckc_is H5.out ⟨_, _, rfl, HV.out.below hCo, HS.out.below hCo⟩).mono ?_
      rintro e9 w9 ⟨rfl, hb9⟩
      have hm9 := (HM1.out.below hBo).below hb9
      have hC9 := bl_then hCo hb9
      clear hK hL
      have hK := hm9.cells
      have hL := hm9.lts
      simp only [BCells, CellsAt, BLts, Nat.reduceAdd, Nat.zero_add, and_true] at hK hL
      have HM9 := Lib.hid hm9
      clear hm9
      go_wp2_with fail
      refine (lcompare_is HP.out HQ.out HA.out HB.out H6.out).mono ?_
      rintro e10 w10 ⟨rfl, hb10⟩
      have hm10 := HM9.out.below hb10
      have hC10 := bl_then hC9 hb10
      clear hK hL
      have hK := hm10.cells
      have hL := hm10.lts
      simp only [BCells, CellsAt, BLts, Nat.reduceAdd, Nat.zero_add, and_true] at hK hL
      have HM10 := Lib.hid hm10
      clear hm10
      go_wp2_with fail
      refine (lcompare_is HA.out HB.out HR.out HT.out H7.out).mono ?_
      rintro e11 w11 ⟨rfl, hb11⟩
      go_wp2
      go_ret
      exact ⟨rfl, bl_then hC10 hb11⟩
theorem ends_any {v : Value} {f : Fl} {w : World} (hf : Fv w v f) (e : Ra) (he : Fits e.n ∧ Fits e.d) (y : Int) : Calls Tryz.prog 5 #[v, raV e, .int .i64 y] w fun e w' => e = .returned (.bool true) ∧ Below w.heap.size w w' := by
  obtain ⟨a, b⟩ := e
  have no : f.rdy true ≠ 0 → (f.ccErr ⟨a, b⟩ y != 0) = true := by
    intro hr
    simp only [bne_iff_ne, ne_eq]
    intro h
    have hg := (cc_zero h).1
    have hn := cc_poss h
    apply hr
    unfold Fl.rdy
    rw [good_iff.2 hg, hn]; rfl
  rcases @possE_rdy f with ⟨_, _, hr, _⟩ | ⟨_, _, _, hr, _⟩ | ⟨_, hg, ho, hr, hn, _⟩
  · obtain ⟨b1, b2⟩ := bnd_none (f := f) (by omega)
    exact ends_30 hf b1 b2 hr rfl (no (by omega))
  · obtain ⟨b1, b2⟩ := bnd_none (f := f) (by omega)
    exact ends_31 hf b1 b2 hr rfl (no (by omega))
  · obtain ⟨b1, b2⟩ := bnd_zero hr
    obtain ⟨l1, l2, l3, l4⟩ := lo_bd hg
    obtain ⟨k1, k2, k3, k4⟩ := hi_bd hg
    have ht := sol_tidy hg
    obtain ⟨j1, j2, j3, j4⟩ := lo_case hg hn
    obtain ⟨m1, m2, m3, m4⟩ := hi_case hg hn
    have g1 := ccAny_of j2 j3 j4
    have g2 := ccAny_of m2 m3 m4
    have hle : f.lo.n * f.hi.d ≤ f.hi.n * f.lo.d := by
      obtain ⟨_, ⟨_, _⟩, _⟩ := cc_zero j4
      have := (cc_span j4).2
      omega
    have d5 : decide (0 < cmpI (f.lo.n * f.hi.d) (f.hi.n * f.lo.d)) = false := by
      have := (cmpR_le (a := f.lo) (b := f.hi)).2 hle
      unfold cmpR at this
      simp; omega
    have d1 : decide (f.lo.n < 1) = false := by simp; omega
    have d2 : decide (f.lo.d < 1) = false := by simp; omega
    have d3 : decide (f.hi.n < 1) = false := by simp; omega
    have d4 : decide (f.hi.d < 1) = false := by simp; omega
    cases d6 : (f.ccErr ⟨a, b⟩ y != 0) with
    | true => exact ends_0t (p := f.lo.n) (q := f.lo.d) (r := f.hi.n) (s := f.hi.d) (n2 := 0) (n3 := 0) hf b1 b2 hr ⟨by omega, by omega⟩ ⟨by omega, by omega⟩ ⟨by omega, by omega⟩ ⟨by omega, by omega⟩ d1 d2 d3 d4 rfl d5 g1 g2 rfl hg.len d6
    | false =>
      have hz : f.ccErr ⟨a, b⟩ y = 0 := by simpa using d6
      obtain ⟨_, ⟨a1, a2⟩, ⟨c1, c2⟩, _⟩ := cc_zero hz
      dsimp only at a1 a2 c1 c2
      obtain ⟨s1, s2⟩ := cc_span hz
      have t1 := (cmpR_le (a := f.lo) (b := ⟨a, b⟩)).2 s1
      have t2 := (cmpR_le (a := ⟨a, b⟩) (b := f.hi)).2 s2
      unfold cmpR at t1 t2
      dsimp only at t1 t2
      exact ends_0f (p := f.lo.n) (q := f.lo.d) (r := f.hi.n) (s := f.hi.d) hf b1 b2 hr ⟨by omega, by omega⟩ ⟨by omega, by omega⟩ ⟨by omega, by omega⟩ ⟨by omega, by omega⟩ d1 d2 d3 d4 rfl d5 g1 g2 rfl hg.len d6 ⟨by omega, by omega⟩ ⟨by omega, by omega⟩ (by simpa using a1) (by simpa using c1) rfl (by simpa using t1) rfl (by simpa using t2)
end Go.Proofs.YtjpagpplkldbkaaGreat
