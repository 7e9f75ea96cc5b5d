/- WearThree: its walk. -/
import Derived.LoopTactic
import Derived.Test.YtjpagpplkldbkaaGreatLib29
import Derived.Test.YtjpagpplkldbkaaGreatWt
set_option linter.unusedVariables false
set_option linter.unusedSimpArgs false
namespace Go.Proofs.YtjpagpplkldbkaaGreat
open Go.RowKit Go.Shelf WH
theorem Sl.front3 {w : World} {A : Option Addr} {c i : Nat} {l : List Int} (h : Sl inC 1 w (.slice A l.length c) l) (hA : A ≠ none) (hi : i ≤ l.length) (hm : l.length ≤ 100) : Sl inC 1 w (.slice A i i) (l.take i) := by
  obtain ⟨A', c', e, _, _, hx⟩ := h.front hi
  have hlen : (l.take i).length = i := by simp; omega
  rw [hlen] at e
  cases e
  exact ⟨A, i, by rw [hlen], by omega, ⟨by omega, fun h => absurd h hA⟩, fun hne => by
    obtain ⟨b, off, e, hc⟩ := hx hne
    exact ⟨b, off, e, hc⟩⟩
theorem sizes_is {v : Value} {l : List Rn} {a b c : Int} {w : World} (h0 : vErr l = 0) (h1 : sumTo (l.map Rn.h) l.length = a) (h2 : sumTo (l.map Rn.v) l.length = b) (h3 : sumTo (l.map Rn.d) l.length = c) (hv : Sl rnC 3 w v l) :
    Calls Tryz.prog 57 #[v] w fun e w' => e = .returned (.tuple #[.int .i64 a, .int .i64 b, .int .i64 c, .int .i64 0]) ∧ Below w.heap.size w w' := by
  have := sizes_any v l w hv
  rw [if_pos h0, h1, h2, h3] at this
  exact this
theorem wdB {f : Fl} (hf : f.good) (hH : f.H ≤ 1000) {l : List Int} (hl : ∀ k ∈ l, k ∈ f.all) (hn : l.length ≤ 24) : (f.wd f.H l).possE = 0 ∧ (f.wd f.H l).possB = !f.apart l := by
  obtain ⟨hg, he⟩ := wd_law hf hH l hl hn
  rcases @possE_rdy (f.wd f.H l) with ⟨_, h, _⟩ | ⟨h1, _, _, _, h2, h3⟩ | ⟨h1, _, _, _, h2, h3⟩
  · rw [good_iff.2 hg] at h; cases h
  · rw [h2] at he; exact ⟨h1, by rw [h3, ← he]; rfl⟩
  · rw [h2] at he; exact ⟨h1, by rw [h3, ← he]; rfl⟩
/-- What the law asks of a list that CheckClash accepts. -/
structure ThreeOk (f : Fl) (x : List Int) : Prop where
  one : 1 ≤ x.length
  three : x.length ≤ 3
  e : (f.wd f.H x).possE = 0
  b : (f.wd f.H x).possB = false
  each : ∀ i, i < x.length → (f.wd f.H (but x i)).possE = 0 ∧ (f.wd f.H (but x i)).possB = true
theorem three_core {f : Fl} (hf : f.good) (hH : f.H ≤ 1000) {x : List Int} (h : f.core x) : ThreeOk f x := by
  obtain ⟨h1, h2⟩ := core_small hf h
  obtain ⟨e1, e2⟩ := wdB hf hH h.mem (by omega)
  refine ⟨h1, h2, e1, by rw [e2, h.apart]; rfl, fun i hi => ?_⟩
  obtain ⟨e3, e4⟩ := wdB hf hH (l := but x i) (fun k hk => h.mem k (but_mem hk)) (by rw [but_len hi]; omega)
  exact ⟨e3, by rw [e4, h.each i hi]; rfl⟩
theorem clErr_core {f : Fl} (hf : f.good) {x : List Int} : f.clErr x = 0 ↔ f.core x := by
  unfold Fl.clErr
  rw [good_iff.2 hf, if_pos rfl, ← clB_iff]
  split
  · rename_i h; simp [h]
  · rename_i h; simp [h]
theorem equal_is {v u : Value} {l m : List Int} {w : World} {b : Bool} (h : decide (l = m) = b) (hv : Sl inC 1 w v l) (hu : Sl inC 1 w u m) :
    Calls Tryz.prog 59 #[v, u] w fun e w' => e = .returned (.bool b) ∧ Below w.heap.size w w' := by
  subst h; exact equal_any v u l m w hv hu
theorem widest_is {v lv : Value} {f : Fl} {h : Int} {l : List Int} {w : World} {g : Fl} (hg : f.wd h l = g) (hf : Fv w v f) (hl : Sl inC 1 w lv l) (hn : l.length ≤ 100) :
    Calls Tryz.prog 60 #[v, .int .i64 h, lv] w fun e w' => ∃ v', e = .returned v' ∧ Fv w' v' g ∧ Below w.heap.size w w' := by
  subst hg; exact widest_any v lv f h l w hf hl hn
set_option maxRecDepth 100000 in
set_option maxHeartbeats 4000000 in
theorem three_main {v lv : Value} {f : Fl} {l : List Int} {B D : Int} {is : Bool} {w : World} (hf : Fv w v f) (hl : Sl inC 1 w lv l) (he : f.possE = 0) (d1 : decide (24 < (l.length : Int)) = false) (hs0 : vErr f.v = 0) (hs2 : sumTo (f.v.map Rn.v) f.v.length = B) (hs3 : sumTo (f.v.map Rn.d) f.v.length = D)
    (hcl : f.clI = is) (hH : f.H ≤ 1000) (hcore : is = true → f.core f.clL) (hol : f.clL.length ≤ 100) (hth : ∀ x, f.clErr x = 0 → ThreeOk f x) (hgd : f.good) :
    Calls Tryz.prog 11 #[v, lv] w fun e w' => e = .returned (.bool true) ∧ Below w.heap.size w w' := by
  obtain ⟨vv, sv, rfl, hv, hs⟩ := hf
  have HV := Lib.hid hv
  have HS := Lib.hid hs
  obtain ⟨A, c, rfl, _⟩ := hv
  obtain ⟨A2, c2, rfl, _⟩ := hs
  have HL := Lib.hid hl
  obtain ⟨A4, c4, rfl, _⟩ := hl
  have HE := Lib.hid he
  have HS0 := Lib.hid hs0
  have HS2 := Lib.hid hs2
  have HS3 := Lib.hid hs3
  have HCL := Lib.hid hcl
  have HC := Lib.hid hcore
  have HTH := Lib.hid hth
  have HSH : Hid (sumTo (f.v.map Rn.h) f.v.length = f.H) := Lib.hid rfl
  have dH : decide (1000 < f.H) = false := by simp; omega
  clear he hs0 hs2 hs3 hcl hcore hth
  generalize hHH : f.H = H at *
  have HHH := Lib.hid hHH
  clear hHH
  unfold flC
  have HM := Lib.hid (Bks.nil w); have hC : Below w.heap.size w w := Below.refl _ _; have hK := True.intro; have hL := True.intro
  go_enter Tryz.func11, Tryz.ntmps11
  go_wp2_with fail
  refine (sane_is).mono ?_
  rintro e1 w1 ⟨rfl, hb⟩
  obtain ⟨hm_, hC_⟩ := stp1 hb HM.out hC; clear HM hC hb hK hL; have hK := hm_.cells; have hL := hm_.lts; simp only [BCells, CellsAt, BLts, Nat.reduceAdd, Nat.zero_add, and_true] at hK hL; have HM := Lib.hid hm_; have hC := hC_; clear hm_ hC_
  go_wp2_with fail
  refine (check_is HE.out ⟨_, _, rfl, HV.out.below (by (repeat' with_reducible first|assumption|exact Below.refl _ _|apply bl_alloc|apply bl_drewN|apply bl_drew|refine bl_set ?_ (by simp<;>omega) _|refine bl_then ?_ (by assumption))), HS.out.below (by (repeat' with_reducible first|assumption|exact Below.refl _ _|apply bl_alloc|apply bl_drewN|apply bl_drew|refine bl_set ?_ (by simp<;>omega) _|refine bl_then ?_ (by assumption)))⟩).mono ?_
  rintro e2 w2 ⟨rfl, hb⟩
  obtain ⟨hm_, hC_⟩ := stp0 hb HM.out hC; clear HM hC hb hK hL; have hK := hm_.cells; have hL := hm_.lts; simp only [BCells, CellsAt, BLts, Nat.reduceAdd, Nat.zero_add, and_true] at hK hL; have HM := Lib.hid hm_; have hC := hC_; clear hm_ hC_
  go_wp2_with fail
  refine (sizes_is HS0.out HSH.out HS2.out HS3.out (HV.out.below (by (repeat' with_reducible first|assumption|exact Below.refl _ _|apply bl_alloc|apply bl_drewN|apply bl_drew|refine bl_set ?_ (by simp<;>omega) _|refine bl_then ?_ (by assumption))))).mono ?_
  rintro e3 w3 ⟨rfl, hb⟩
  obtain ⟨hm_, hC_⟩ := stp0 hb HM.out hC; clear HM hC hb hK hL; have hK := hm_.cells; have hL := hm_.lts; simp only [BCells, CellsAt, BLts, Nat.reduceAdd, Nat.zero_add, and_true] at hK hL; have HM := Lib.hid hm_; have hC := hC_; clear hm_ hC_
  go_wp2_with fail
  refine (clash_is HCL.out HE.out ⟨_, _, rfl, HV.out.below (by (repeat' with_reducible first|assumption|exact Below.refl _ _|apply bl_alloc|apply bl_drewN|apply bl_drew|refine bl_set ?_ (by simp<;>omega) _|refine bl_then ?_ (by assumption))), HS.out.below (by (repeat' with_reducible first|assumption|exact Below.refl _ _|apply bl_alloc|apply bl_drewN|apply bl_drew|refine bl_set ?_ (by simp<;>omega) _|refine bl_then ?_ (by assumption)))⟩).mono ?_
  rintro e4 w4 ⟨A3, c3, rfl, hown, hb⟩
  obtain ⟨hm_, hC_⟩ := stp0 hb HM.out hC; clear HM hC hb hK hL; have hK := hm_.cells; have hL := hm_.lts; simp only [BCells, CellsAt, BLts, Nat.reduceAdd, Nat.zero_add, and_true] at hK hL; have HM := Lib.hid hm_; have hC := hC_; clear hm_ hC_
  have HO := Lib.hid hown
  generalize hOO : f.clL = own at *
  have HOO := Lib.hid hOO
  clear hown hOO
  go_wp2
  have hm2 := HM.out.alloc [.slice A3 own.length c3, .slice A4 l.length c4] 53
  have hC2 : Below w.heap.size w (w4.alloc (.cells #[.slice A3 own.length c3, .slice A4 l.length c4] 53)) := by (repeat' with_reducible first|assumption|exact Below.refl _ _|apply bl_alloc|apply bl_drewN|apply bl_drew|refine bl_set ?_ (by simp<;>omega) _|refine bl_then ?_ (by assumption))
  have hO2 := HO.out.below (bl_alloc (Below.refl w4.heap.size w4) (.cells #[.slice A3 own.length c3, .slice A4 l.length c4] 53))
  generalize hW5 : w4.alloc (.cells #[.slice A3 own.length c3, .slice A4 l.length c4] 53) = W5 at *
  have HM5 := Lib.hid hm2
  have HC5 := Lib.hid hC2
  have HO5 := Lib.hid hO2
  have HL5 := Lib.hid (HL.out.below hC2)
  clear hm2 hC2 hO2 hW5 HM HO HL hK hL hC
  go_loopw [55] (fun i W => ∃ k : Nat, k ≤ 2 ∧ i = .int .i64 k ∧ Below W5.heap.size W5 W) (fun i _ => 2 - (intOf i).toNat)
  case atStart => exact ⟨0, by omega, rfl, Below.refl _ _⟩
  case round =>
    obtain ⟨k, hk, rfl, hB⟩ := hrel
    obtain ⟨wo, rfl⟩ : ∃ wo : World, wo = wr := ⟨_, rfl⟩
    have hm := HM5.out.below hB
    have hK := hm.cells
    have hL := hm.lts
    simp only [BCells, CellsAt, BLts, Nat.reduceAdd, Nat.zero_add, and_true] at hK hL
    by_cases hlt : k < 2
    · obtain ⟨x, AX, cX, hcx, hxs, hxn, hxo⟩ : ∃ (x : List Int) (AX : Option Addr) (cX : Nat), wo.cell? ⟨w4.heap.size, k, none⟩ = some (.slice AX x.length cX) ∧ Sl inC 1 wo (.slice AX x.length cX) x ∧ x.length ≤ 100 ∧ True := by
        rcases (show k = 0 ∨ k = 1 by omega) with rfl | rfl
        · exact ⟨own, A3, c3, hK.1.1, HO5.out.below hB, hol, trivial⟩
        · exact ⟨l, A4, c4, hK.1.2, HL5.out.below hB, by simp at d1; omega, trivial⟩
      have ewk : IntKind.i64.wrap ((k : Int) + 1) = (k : Int) + 1 := wrapI (by omega) (by omega)
      have hk2 : (k : Int) < 2 := by omega
      have HXS := Lib.hid hxs
      have HBo := Lib.hid (bl_then HC5.out hB)
      clear hxs
      by_cases hcl : f.clErr x = 0
      · have hT := HTH.out x hcl
        have HCX := Lib.hid hcl
        clear hcl
        obtain ⟨n1, n2, n3, n4, n5⟩ := hT
        rw [HHH.out] at n3 n4 n5
        have HN3 := Lib.hid n3
        have HN4 := Lib.hid n4
        have HN5 := Lib.hid n5
        clear n3 n4 n5
        obtain ⟨_, _, e, hxc, _, hxr⟩ := id HXS.out
        cases e
        obtain ⟨bx, ox, rfl, _⟩ := hxr (by intro hh; simp [hh] at n1)
        clear hxr
        have g1 : decide ((x.length : Int) < 1) = false := by simp; omega
        have g2 : decide (3 < (x.length : Int)) = false := by simp; omega
        go_wp2_with fail
        refine (ckl_is HCX.out ⟨_, _, rfl, HV.out.below HBo.out, HS.out.below HBo.out⟩ HXS.out).mono ?_
        rintro e6 w6 ⟨rfl, hb6⟩
        have hm := HM5.out.below (bl_then hB hb6)
        have hW6 := bl_then HBo.out hb6
        have hX6 := HXS.out.below hb6
        clear hK hL hcx
        have hK := hm.cells
        have hL := hm.lts
        simp only [BCells, CellsAt, BLts, Nat.reduceAdd, Nat.zero_add, and_true] at hK hL
        have HM6 := Lib.hid hm
        have HX6 := Lib.hid hX6
        clear hm hX6 HXS
        generalize hgg : f.wd H x = g at *
        have HGG := Lib.hid hgg
        clear hgg
        go_wp2_with fail
        refine (widest_is HGG.out ⟨_, _, rfl, HV.out.below (by (repeat' with_reducible first|assumption|exact Below.refl _ _|apply bl_alloc|apply bl_drewN|apply bl_drew|refine bl_set ?_ (by simp<;>omega) _|refine bl_then ?_ (by assumption))), HS.out.below (by (repeat' with_reducible first|assumption|exact Below.refl _ _|apply bl_alloc|apply bl_drewN|apply bl_drew|refine bl_set ?_ (by simp<;>omega) _|refine bl_then ?_ (by assumption)))⟩ HX6.out hxn).mono ?_
        rintro e7 w7 ⟨v7, rfl, hf7, hb7⟩
        have hm := HM6.out.below hb7
        have hW7 := bl_then hW6 hb7
        have hX7 := HX6.out.below hb7
        have HF7 := Lib.hid hf7
        clear hK hL hf7
        have hK := hm.cells
        have hL := hm.lts
        simp only [BCells, CellsAt, BLts, Nat.reduceAdd, Nat.zero_add, and_true] at hK hL
        have HM7 := Lib.hid hm
        have HX7 := Lib.hid hX7
        clear hm hX7 HM6 HX6 hW6
        go_wp2_with fail
        refine (possible_is HN4.out HN3.out HF7.out).mono ?_
        rintro e8 w8 ⟨rfl, hb8⟩
        have hm := HM7.out.below hb8
        have hW8 := bl_then hW7 hb8
        have hX8 := HX7.out.below hb8
        have hB8 := bl_then (bl_then (bl_then hB hb6) hb7) hb8
        clear hK hL HF7
        have hK := hm.cells
        have hL := hm.lts
        simp only [BCells, CellsAt, BLts, Nat.reduceAdd, Nat.zero_add, and_true] at hK hL
        have HM8 := Lib.hid hm
        have HX8 := Lib.hid hX8
        have HW8 := Lib.hid hW8
        have HB8 := Lib.hid hB8
        clear hm hX8 HM7 HX7 hW7 hW8 hB8 hb6 hb7 hb8 hB HBo
        go_wp2
        go_loopw [99] (fun i W => ∃ q : Nat, q ≤ x.length ∧ i = .int .i64 q ∧ Below w8.heap.size w8 W) (fun i _ => x.length - (intOf i).toNat)
        case atStart => exact ⟨0, by omega, rfl, Below.refl _ _⟩
        case round =>
          obtain ⟨q, hq, rfl, hBi⟩ := hrel
          have hm := HM8.out.below hBi
          clear hK hL
          have hK := hm.cells
          have hL := hm.lts
          simp only [BCells, CellsAt, BLts, Nat.reduceAdd, Nat.zero_add, and_true] at hK hL
          clear hm
          by_cases hlt2 : q < x.length
          · have ewq : IntKind.i64.wrap ((q : Int) + 1) = (q : Int) + 1 := wrapI (by omega) (by omega)
            have i0 : (q : Int) ≤ cX := by omega
            have i1 : (q : Int) + 1 ≤ x.length := by omega
            have i2 : (q : Int) + 1 ≤ cX := by omega
            have i3 : 0 ≤ (q : Int) + 1 := by omega
            have i4 : (q : Int) < x.length := by omega
            have h1 := HX8.out.front3 (by simp) (Nat.le_of_lt hlt2) hxn
            have h2 := HX8.out.back hlt2
            have e1 : (x.take q).length = q := by simp; omega
            have e2 : (x.drop (q + 1)).length = x.length - (q + 1) := by simp
            have hbl := but_len hlt2
            have h12 := HN5.out q hlt2
            generalize hgq : f.wd H (but x q) = gq at *
            have HGQ := Lib.hid hgq
            have H12 := Lib.hid h12
            have H1 := Lib.hid h1
            have H2 := Lib.hid h2
            have HE12 := Lib.hid (And.intro e1 (And.intro e2 hbl))
            clear h1 h2 hgq h12 e1 e2 hbl
            obtain ⟨_, x0, x1, x2, x3, x4, x5⟩ := hK
            go_wp2
            refine p_start (by kernel_rfl) ?_
            refine x_enter 12 (fun hX_ => ?_)
            (refine x_pure 0 (v := ?_) rfl (by kernel_rfl) (fun _ _ _ h => h) rfl ?_ hX_ ?_; rotate_left; (focus (intro w_ hS_; have x0_ := cl_below hS_ x0; have x1_ := cl_below hS_ x1; have x2_ := cl_below hS_ x2; have x3_ := cl_below hS_ x3; have x4_ := cl_below hS_ x4; have x5_ := cl_below hS_ x5; go_simp; (try (first | with_reducible rfl | (constructor <;> with_reducible rfl))); done)); (try simp only [Act.put, List.setIfInBounds_toArray, List.set_cons_zero, List.set_cons_succ]))
            (refine x_pure 1 (v := ?_) rfl (by kernel_rfl) (fun _ _ _ h => h) rfl ?_ hX_ ?_; rotate_left; (focus (intro w_ hS_; go_simp; (try (first | with_reducible rfl | (constructor <;> with_reducible rfl))); done)); (try simp only [Act.put, List.setIfInBounds_toArray, List.set_cons_zero, List.set_cons_succ]))
            (refine x_pure 2 (v := ?_) rfl (by kernel_rfl) (fun _ _ _ h => h) rfl ?_ hX_ ?_; rotate_left; (focus (intro w_ hS_; go_simp; (try (first | with_reducible rfl | (constructor <;> with_reducible rfl))); done)); (try simp only [Act.put, List.setIfInBounds_toArray, List.set_cons_zero, List.set_cons_succ]))
            (refine x_pure 3 (v := ?_) rfl (by kernel_rfl) (fun _ _ _ h => h) rfl ?_ hX_ ?_; rotate_left; (focus (intro w_ hS_; go_simp; (try (first | with_reducible rfl | (constructor <;> with_reducible rfl))); done)); (try simp only [Act.put, List.setIfInBounds_toArray, List.set_cons_zero, List.set_cons_succ]))
            (refine x_pure 4 (v := ?_) rfl (by kernel_rfl) (fun _ _ _ h => h) rfl ?_ hX_ ?_; rotate_left; (focus (intro w_ hS_; go_simp; (try (first | with_reducible rfl | (constructor <;> with_reducible rfl))); done)); (try simp only [Act.put, List.setIfInBounds_toArray, List.set_cons_zero, List.set_cons_succ]))
            (refine x_pure 5 (v := ?_) rfl (by kernel_rfl) (fun _ _ _ h => h) rfl ?_ hX_ ?_; rotate_left; (focus (intro w_ hS_; go_simp; (try (first | with_reducible rfl | (constructor <;> with_reducible rfl))); done)); (try simp only [Act.put, List.setIfInBounds_toArray, List.set_cons_zero, List.set_cons_succ]))
            (refine x_pure 6 (v := ?_) rfl (by kernel_rfl) (fun _ _ _ h => h) rfl ?_ hX_ ?_; rotate_left; (focus (intro w_ hS_; go_simp; (try (first | with_reducible rfl | (constructor <;> with_reducible rfl))); done)); (try simp only [Act.put, List.setIfInBounds_toArray, List.set_cons_zero, List.set_cons_succ]))
            (refine x_pure 7 (v := ?_) rfl (by kernel_rfl) (fun _ _ _ h => h) rfl ?_ hX_ ?_; rotate_left; (focus (intro w_ hS_; go_simp; (try (first | with_reducible rfl | (constructor <;> with_reducible rfl))); done)); (try simp only [Act.put, List.setIfInBounds_toArray, List.set_cons_zero, List.set_cons_succ]))
            (refine x_pure 8 (v := ?_) rfl (by kernel_rfl) (fun _ _ _ h => h) rfl ?_ hX_ ?_; rotate_left; (focus (intro w_ hS_; go_simp; (try (first | with_reducible rfl | (constructor <;> with_reducible rfl))); done)); (try simp only [Act.put, List.setIfInBounds_toArray, List.set_cons_zero, List.set_cons_succ]))
            (refine x_pure 9 (v := ?_) rfl (by kernel_rfl) (fun _ _ _ h => h) rfl ?_ hX_ ?_; rotate_left; (focus (intro w_ hS_; go_simp; (try (first | with_reducible rfl | (constructor <;> with_reducible rfl))); done)); (try simp only [Act.put, List.setIfInBounds_toArray, List.set_cons_zero, List.set_cons_succ]))
            refine x_only 10 rfl (by kernel_rfl) rfl (fun K hK => ?_)
            go_simp
            refine hK.out _ _ (bl_alloc hX_ _) ?_
            clear hK K
            (try simp only [Act.put, List.setIfInBounds_toArray, List.set_cons_zero, List.set_cons_succ])
            refine x_only 11 rfl (by kernel_rfl) rfl (fun K hK => ?_)
            go_simp
            have hY : Below wr.heap.size wr (wr.alloc (.cells #[.slice (some ⟨bx, ox, none⟩) q q, .slice (if cX = q + 1 then some ⟨bx, ox, none⟩ else some ⟨bx, ox + (q + 1), none⟩) (x.length - (q + 1)) (cX - (q + 1))] 53)).drew := by (repeat' with_reducible first|assumption|exact Below.refl _ _|apply bl_alloc|apply bl_drewN|apply bl_drew|refine bl_set ?_ (by simp<;>omega) _|refine bl_then ?_ (by assumption))
            have hY8 := bl_then hBi hY
            refine (concat2_any wr.heap.size _ _ (x.take q) (x.drop (q + 1)) _ (bk_drew (bk_new wr _)) (H1.out.below hY8) (H2.out.below hY8) (by simp; omega) (by simp; omega)).mono ?_
            rintro e9 w9 ⟨v9, rfl, hv9, hb9⟩
            refine hK.out _ _ (bl_then hY hb9) ?_
            clear hK K
            (try simp only [Act.put, List.setIfInBounds_toArray, List.set_cons_zero, List.set_cons_succ])
            refine x_exit (by kernel_rfl) ?_
            have hW9 := bl_then HW8.out (bl_then hY8 hb9)
            have hB9 := bl_then hY8 hb9
            clear hX_ hY hY8 hb9
            refine p_only 12 rfl (by kernel_rfl) (fun K hK => ?_)
            go_simp
            refine (widest_is HGQ.out ⟨_, _, rfl, HV.out.below hW9, HS.out.below hW9⟩ hv9 (by have := HE12.out; simp; omega)).mono ?_
            rintro e10 w10 ⟨v10, rfl, hf10, hb10⟩
            refine hK.out _ _ ?_
            clear hK K
            (try simp only [Act.put, List.setIfInBounds_toArray, List.set_cons_zero, List.set_cons_succ])
            refine p_only 13 rfl (by kernel_rfl) (fun K hK => ?_)
            go_simp
            refine (possible_is H12.out.2 H12.out.1 hf10).mono ?_
            rintro e11 w11 ⟨rfl, hb11⟩
            refine hK.out _ _ ?_
            clear hK K
            (try simp only [Act.put, List.setIfInBounds_toArray, List.set_cons_zero, List.set_cons_succ])
            have hB11 := bl_then (bl_then hB9 hb10) hb11
            clear hB9 hb10 hb11 hf10 hv9 hW9 x0 x1 x2 x3 x4 x5
            (refine p_only 14 rfl (by kernel_rfl) (fun K hK => ?_); go_simp; refine hK.out _ _ ?_; clear hK K; (try simp only [Act.put, List.setIfInBounds_toArray, List.set_cons_zero, List.set_cons_succ]))
            (refine p_pure 15 (v := ?_) rfl (by kernel_rfl) (by kernel_rfl) (by kernel_rfl) (fun _ _ _ h => h) rfl ?_ ?_; rotate_left; (focus (intro w_; go_simp; (try with_reducible rfl); done)); (try simp only [Act.put, List.setIfInBounds_toArray, List.set_cons_zero, List.set_cons_succ]))
            (refine p_pure 16 (v := ?_) rfl (by kernel_rfl) (by kernel_rfl) (by kernel_rfl) (fun _ _ _ h => h) rfl ?_ ?_; rotate_left; (focus (intro w_; go_simp; (try with_reducible rfl); done)); (try simp only [Act.put, List.setIfInBounds_toArray, List.set_cons_zero, List.set_cons_succ]))
            (refine p_pure 17 (v := ?_) rfl (by kernel_rfl) (by kernel_rfl) (by kernel_rfl) (fun _ _ _ h => h) rfl ?_ ?_; rotate_left; (focus (intro w_; go_simp; (try with_reducible rfl); done)); (try simp only [Act.put, List.setIfInBounds_toArray, List.set_cons_zero, List.set_cons_succ]))
            (refine p_only 18 rfl (by kernel_rfl) (fun K hK => ?_); go_simp; refine hK.out _ _ ?_; clear hK K; (try simp only [Act.put, List.setIfInBounds_toArray, List.set_cons_zero, List.set_cons_succ]))
            refine wpAny_done (by kernel_rfl) ?_ _
            go_wp2
            go_roundw
            case rel => exact ⟨q + 1, by omega, by go_num, by (repeat' with_reducible first|assumption|exact Below.refl _ _|apply bl_alloc|apply bl_drewN|apply bl_drew|refine bl_set ?_ (by simp<;>omega) _|refine bl_then ?_ (by assumption))⟩
            case measure => simp [intOf]; omega
          · obtain rfl : q = x.length := by omega
            go_wp2
            go_roundw
            case rel => exact ⟨k + 1, by omega, by go_num, bl_then HB8.out hBi⟩
            case measure => simp [intOf]; omega
      · have hne : (f.clErr x != 0) = true := by simpa using hcl
        generalize hcc : f.clErr x = cc at *
        have HCC := Lib.hid hcc
        clear hcc
        go_wp2_with fail
        refine (ckl_is HCC.out ⟨_, _, rfl, HV.out.below HBo.out, HS.out.below HBo.out⟩ HXS.out).mono ?_
        rintro e6 w6 ⟨rfl, hb6⟩
        cases is with
        | false =>
          go_wp2
          go_roundw
          case rel => exact ⟨k + 1, by omega, by go_num, bl_then hB hb6⟩
          case measure => simp [intOf]; omega
        | true =>
          have hco := HC.out rfl
          have hxo2 : decide (x = own) = false := by
            refine decide_eq_false fun e => ?_
            subst e
            have h0 := (clErr_core hgd).2 hco
            rw [HCC.out] at h0
            rw [h0] at hne
            cases hne
          have ho1 : decide (0 < (own.length : Int)) = true := by have := (core_small hgd hco).1; simp; omega
          have hop : 0 < own.length := by have := (core_small hgd hco).1; omega
          have HD := Lib.hid hxo2
          clear hco hxo2
          go_wp2_with fail
          refine (equal_is HD.out (HXS.out.below hb6) ((HO5.out.below hB).below hb6)).mono ?_
          rintro e7 w7 ⟨rfl, hb7⟩
          go_wp2
          go_roundw
          case rel => exact ⟨k + 1, by omega, by go_num, bl_then (bl_then hB hb6) hb7⟩
          case measure => simp [intOf]; omega
    · obtain rfl : k = 2 := by omega
      go_wp2
      go_ret
      exact ⟨rfl, by have := bl_then HC5.out hB; (repeat' with_reducible first|assumption|exact Below.refl _ _|apply bl_alloc|apply bl_drewN|apply bl_drew|refine bl_set ?_ (by simp<;>omega) _|refine bl_then ?_ (by assumption))⟩
set_option maxRecDepth 100000 in
set_option maxHeartbeats 1000000 in
theorem three_30 {v lv : Value} {f : Fl} {l : List Int} {w : World} (hf : Fv w v f) (hl : Sl inC 1 w lv l) (he : f.possE = 30) : Calls Tryz.prog 11 #[v, lv] w fun e w' => e = .returned (.bool true) ∧ Below w.heap.size w w' := by
  obtain ⟨vv, sv, rfl, hv, hs⟩ := hf
  have HV := Lib.hid hv
  have HS := Lib.hid hs
  obtain ⟨A, c, rfl, _⟩ := hv
  obtain ⟨A2, c2, rfl, _⟩ := hs
  have HL := Lib.hid hl
  obtain ⟨A4, c4, rfl, _⟩ := hl
  have HE := Lib.hid he
  clear he
  unfold flC
  have HM := Lib.hid (Bks.nil w); have hC : Below w.heap.size w w := Below.refl _ _; have hK := True.intro; have hL := True.intro
  go_enter Tryz.func11, Tryz.ntmps11
  go_wp2_with fail
  refine (sane_is).mono ?_
  rintro e1 w1 ⟨rfl, hb⟩
  obtain ⟨hm_, hC_⟩ := stp1 hb HM.out hC; clear HM hC hb hK hL; have hK := hm_.cells; have hL := hm_.lts; simp only [BCells, CellsAt, BLts, Nat.reduceAdd, Nat.zero_add, and_true] at hK hL; have HM := Lib.hid hm_; have hC := hC_; clear hm_ hC_
  go_wp2_with fail
  refine (check_is HE.out ⟨_, _, rfl, HV.out.below (by (repeat' with_reducible first|assumption|exact Below.refl _ _|apply bl_alloc|apply bl_drewN|apply bl_drew|refine bl_set ?_ (by simp<;>omega) _|refine bl_then ?_ (by assumption))), HS.out.below (by (repeat' with_reducible first|assumption|exact Below.refl _ _|apply bl_alloc|apply bl_drewN|apply bl_drew|refine bl_set ?_ (by simp<;>omega) _|refine bl_then ?_ (by assumption)))⟩).mono ?_
  rintro e2 w2 ⟨rfl, hb⟩
  obtain ⟨hm_, hC_⟩ := stp0 hb HM.out hC; clear HM hC hb hK hL; have hK := hm_.cells; have hL := hm_.lts; simp only [BCells, CellsAt, BLts, Nat.reduceAdd, Nat.zero_add, and_true] at hK hL; have HM := Lib.hid hm_; have hC := hC_; clear hm_ hC_
  go_wp2
  go_ret
  exact ⟨rfl, by (repeat' with_reducible first|assumption|exact Below.refl _ _|apply bl_alloc|apply bl_drewN|apply bl_drew|refine bl_set ?_ (by simp<;>omega) _|refine bl_then ?_ (by assumption))⟩
set_option maxRecDepth 100000 in
set_option maxHeartbeats 1000000 in
theorem three_len {v lv : Value} {f : Fl} {l : List Int} {w : World} (hf : Fv w v f) (hl : Sl inC 1 w lv l) (he : f.possE = 0) (d1 : decide (24 < (l.length : Int)) = true) : Calls Tryz.prog 11 #[v, lv] w fun e w' => e = .returned (.bool true) ∧ Below w.heap.size w w' := by
  obtain ⟨vv, sv, rfl, hv, hs⟩ := hf
  have HV := Lib.hid hv
  have HS := Lib.hid hs
  obtain ⟨A, c, rfl, _⟩ := hv
  obtain ⟨A2, c2, rfl, _⟩ := hs
  have HL := Lib.hid hl
  obtain ⟨A4, c4, rfl, _⟩ := hl
  have HE := Lib.hid he
  clear he
  unfold flC
  have HM := Lib.hid (Bks.nil w); have hC : Below w.heap.size w w := Below.refl _ _; have hK := True.intro; have hL := True.intro
  go_enter Tryz.func11, Tryz.ntmps11
  go_wp2_with fail
  refine (sane_is).mono ?_
  rintro e1 w1 ⟨rfl, hb⟩
  obtain ⟨hm_, hC_⟩ := stp1 hb HM.out hC; clear HM hC hb hK hL; have hK := hm_.cells; have hL := hm_.lts; simp only [BCells, CellsAt, BLts, Nat.reduceAdd, Nat.zero_add, and_true] at hK hL; have HM := Lib.hid hm_; have hC := hC_; clear hm_ hC_
  go_wp2_with fail
  refine (check_is HE.out ⟨_, _, rfl, HV.out.below (by (repeat' with_reducible first|assumption|exact Below.refl _ _|apply bl_alloc|apply bl_drewN|apply bl_drew|refine bl_set ?_ (by simp<;>omega) _|refine bl_then ?_ (by assumption))), HS.out.below (by (repeat' with_reducible first|assumption|exact Below.refl _ _|apply bl_alloc|apply bl_drewN|apply bl_drew|refine bl_set ?_ (by simp<;>omega) _|refine bl_then ?_ (by assumption)))⟩).mono ?_
  rintro e2 w2 ⟨rfl, hb⟩
  obtain ⟨hm_, hC_⟩ := stp0 hb HM.out hC; clear HM hC hb hK hL; have hK := hm_.cells; have hL := hm_.lts; simp only [BCells, CellsAt, BLts, Nat.reduceAdd, Nat.zero_add, and_true] at hK hL; have HM := Lib.hid hm_; have hC := hC_; clear hm_ hC_
  go_wp2
  go_ret
  exact ⟨rfl, by (repeat' with_reducible first|assumption|exact Below.refl _ _|apply bl_alloc|apply bl_drewN|apply bl_drew|refine bl_set ?_ (by simp<;>omega) _|refine bl_then ?_ (by assumption))⟩
set_option maxRecDepth 100000 in
set_option maxHeartbeats 1000000 in
theorem three_high {H B D : Int} {is : Bool} {v lv : Value} {f : Fl} {l : List Int} {w : World} (hf : Fv w v f) (hl : Sl inC 1 w lv l) (he : f.possE = 0) (d1 : decide (24 < (l.length : Int)) = false) (hs0 : vErr f.v = 0) (hs1 : sumTo (f.v.map Rn.h) f.v.length = H) (hs2 : sumTo (f.v.map Rn.v) f.v.length = B) (hs3 : sumTo (f.v.map Rn.d) f.v.length = D) (hcl : f.clI = is) (dH : decide (1000 < H) = true) : Calls Tryz.prog 11 #[v, lv] w fun e w' => e = .returned (.bool true) ∧ Below w.heap.size w w' := by
  have HS0 := Lib.hid hs0
  clear hs0
  have HS1 := Lib.hid hs1
  clear hs1
  have HS2 := Lib.hid hs2
  clear hs2
  have HS3 := Lib.hid hs3
  clear hs3
  have HCL := Lib.hid hcl
  clear hcl
  obtain ⟨vv, sv, rfl, hv, hs⟩ := hf
  have HV := Lib.hid hv
  have HS := Lib.hid hs
  obtain ⟨A, c, rfl, _⟩ := hv
  obtain ⟨A2, c2, rfl, _⟩ := hs
  have HL := Lib.hid hl
  obtain ⟨A4, c4, rfl, _⟩ := hl
  have HE := Lib.hid he
  clear he
  unfold flC
  have HM := Lib.hid (Bks.nil w); have hC : Below w.heap.size w w := Below.refl _ _; have hK := True.intro; have hL := True.intro
  go_enter Tryz.func11, Tryz.ntmps11
  go_wp2_with fail
  refine (sane_is).mono ?_
  rintro e1 w1 ⟨rfl, hb⟩
  obtain ⟨hm_, hC_⟩ := stp1 hb HM.out hC; clear HM hC hb hK hL; have hK := hm_.cells; have hL := hm_.lts; simp only [BCells, CellsAt, BLts, Nat.reduceAdd, Nat.zero_add, and_true] at hK hL; have HM := Lib.hid hm_; have hC := hC_; clear hm_ hC_
  go_wp2_with fail
  refine (check_is HE.out ⟨_, _, rfl, HV.out.below (by (repeat' with_reducible first|assumption|exact Below.refl _ _|apply bl_alloc|apply bl_drewN|apply bl_drew|refine bl_set ?_ (by simp<;>omega) _|refine bl_then ?_ (by assumption))), HS.out.below (by (repeat' with_reducible first|assumption|exact Below.refl _ _|apply bl_alloc|apply bl_drewN|apply bl_drew|refine bl_set ?_ (by simp<;>omega) _|refine bl_then ?_ (by assumption)))⟩).mono ?_
  rintro e2 w2 ⟨rfl, hb⟩
  obtain ⟨hm_, hC_⟩ := stp0 hb HM.out hC; clear HM hC hb hK hL; have hK := hm_.cells; have hL := hm_.lts; simp only [BCells, CellsAt, BLts, Nat.reduceAdd, Nat.zero_add, and_true] at hK hL; have HM := Lib.hid hm_; have hC := hC_; clear hm_ hC_
  go_wp2_with fail
  refine (sizes_is HS0.out HS1.out HS2.out HS3.out (HV.out.below (by (repeat' with_reducible first|assumption|exact Below.refl _ _|apply bl_alloc|apply bl_drewN|apply bl_drew|refine bl_set ?_ (by simp<;>omega) _|refine bl_then ?_ (by assumption))))).mono ?_
  rintro e3 w3 ⟨rfl, hb⟩
  obtain ⟨hm_, hC_⟩ := stp0 hb HM.out hC; clear HM hC hb hK hL; have hK := hm_.cells; have hL := hm_.lts; simp only [BCells, CellsAt, BLts, Nat.reduceAdd, Nat.zero_add, and_true] at hK hL; have HM := Lib.hid hm_; have hC := hC_; clear hm_ hC_
  go_wp2_with fail
  refine (clash_is HCL.out HE.out ⟨_, _, rfl, HV.out.below (by (repeat' with_reducible first|assumption|exact Below.refl _ _|apply bl_alloc|apply bl_drewN|apply bl_drew|refine bl_set ?_ (by simp<;>omega) _|refine bl_then ?_ (by assumption))), HS.out.below (by (repeat' with_reducible first|assumption|exact Below.refl _ _|apply bl_alloc|apply bl_drewN|apply bl_drew|refine bl_set ?_ (by simp<;>omega) _|refine bl_then ?_ (by assumption)))⟩).mono ?_
  rintro e4 w4 ⟨A3, c3, rfl, hown, hb⟩
  obtain ⟨hm_, hC_⟩ := stp0 hb HM.out hC; clear HM hC hb hK hL; have hK := hm_.cells; have hL := hm_.lts; simp only [BCells, CellsAt, BLts, Nat.reduceAdd, Nat.zero_add, and_true] at hK hL; have HM := Lib.hid hm_; have hC := hC_; clear hm_ hC_
  clear hown
  go_wp2
  go_ret
  exact ⟨rfl, by (repeat' with_reducible first|assumption|exact Below.refl _ _|apply bl_alloc|apply bl_drewN|apply bl_drew|refine bl_set ?_ (by simp<;>omega) _|refine bl_then ?_ (by assumption))⟩
theorem three_any {v lv : Value} {f : Fl} {l : List Int} {w : World} (hf : Fv w v f) (hl : Sl inC 1 w lv l) : Calls Tryz.prog 11 #[v, lv] w fun e w' => e = .returned (.bool true) ∧ Below w.heap.size w w' := by
  have key : f.possE = 0 → f.good → f.okB = true → Calls Tryz.prog 11 #[v, lv] w fun e w' => e = .returned (.bool true) ∧ Below w.heap.size w w' := fun hE hg ho => by
    cases d1 : decide (24 < (l.length : Int)) with
    | true => exact three_len hf hl hE d1
    | false =>
      cases dH : decide (1000 < f.H) with
      | true => exact three_high hf hl hE d1 hg.v rfl rfl rfl rfl dH
      | false =>
        have hH : f.H ≤ 1000 := by simpa using dH
        have hcore : f.clI = true → f.core f.clL := fun h => by
          unfold Fl.clI at h
          unfold Fl.clL
          rw [ho] at h ⊢
          exact clash_core hg (by simpa using h)
        have hol : f.clL.length ≤ 100 := by
          cases hc : f.clI with
          | true => have := (core_small hg (hcore hc)).2; omega
          | false =>
            unfold Fl.clI at hc
            rw [ho] at hc
            unfold Fl.clL Fl.clash
            rw [ho, if_pos rfl, if_neg (by simpa using hc)]
            simp
        exact three_main hf hl hE d1 hg.v rfl rfl rfl hH hcore hol (fun x hx => three_core hg hH ((clErr_core hg).1 hx)) hg
  rcases @possE_rdy f with ⟨hE, _⟩ | ⟨hE, hg, ho, _⟩ | ⟨hE, hg, ho, _⟩
  · exact three_30 hf hl hE
  · exact key hE hg ho
  · exact key hE hg ho
end Go.Proofs.YtjpagpplkldbkaaGreat
