/- Are these levels, is there such a reading; the closures that ask it. Reached, Level, Start, asked, Surely. -/
import Derived.Test.YtjpagpplkldbkaaGreatLib16
set_option linter.unusedVariables false
set_option linter.unusedSimpArgs false
namespace Go.Proofs.YtjpagpplkldbkaaGreat
open Go.RowKit Go.Shelf WH
/-- A closure over whole numbers. -/
def AskI (fid : Nat) (lb : Array Value) (q : Int → Bool) (w : World) : Prop := ∀ (n : Int) W, Below w.heap.size w W → Calls Tryz.prog fid (#[.int .i64 n] ++ lb) W fun e w' => e = .returned (.bool (q n)) ∧ Below W.heap.size W w'
set_option maxRecDepth 100000 in
set_option maxHeartbeats 1000000 in
theorem index_in_any (v : Value) (l : List Int) (fid : Nat) (lb : Array Value) (q : Int → Bool) (w : World) (hv : Sl inC 1 w v l) (ef : Enters Tryz.prog fid) (hq : AskI fid lb q w) :
    Calls Tryz.prog 153 #[v, .func (.func fid) #[] lb] w fun e w' => ∃ r : Int, e = .returned (.int .i64 r) ∧ (decide (0 ≤ r) = l.any q) ∧ Below w.heap.size w w' := by
  obtain ⟨A, c, rfl, hl, hc, hcs⟩ := id hv
  have hlen : l.length ≤ 9223372036854775807 := by omega
  have HQ := Lib.hid hq
  clear hq
  unfold Enters at ef
  go_enter Tryz.func153, Tryz.ntmps153
  go_wp2
  go_loopw [8] (fun i W => ∃ k : Nat, k ≤ l.length ∧ i = .int .i64 k ∧ Below w.heap.size w W ∧ ∀ p ∈ l.take k, q p = false) (fun i _ => l.length - (intOf i).toNat)
  case atStart => exact ⟨0, by omega, rfl, by (repeat' with_reducible first|assumption|exact Below.refl _ _|apply bl_alloc|apply bl_drewN|apply bl_drew|refine bl_set ?_ (by simp<;>omega) _|refine bl_then ?_ (by assumption)), by simp⟩
  case round =>
    obtain ⟨k, hk, rfl, hB, hok⟩ := hrel
    by_cases hlt : k < l.length
    · obtain ⟨b, off, rfl, hcell⟩ := hcs (by intro h; simp [h] at hlt)
      have c0 := Sl.cells hcell hlt (i := 0) (by omega) rfl
      have d0 := cl_below hB c0
      simp only [Nat.mul_one, Nat.add_zero] at d0
      clear c0
      have hk63 : (k : Int) < 9223372036854775807 := by omega
      have HO := Lib.hid hok
      clear hok
      cases hbp : q l[k] with
      | true =>
        have HF := Lib.hid hbp
        clear hbp
        go_wp2_with fail
        refine (HQ.out l[k] _ (by (repeat' with_reducible first|assumption|exact Below.refl _ _|apply bl_alloc|apply bl_drewN|apply bl_drew|refine bl_set ?_ (by simp<;>omega) _|refine bl_then ?_ (by assumption)))).mono ?_
        rintro e1 w1 ⟨rfl, hb1⟩
        rw [HF.out]
        go_wp2
        go_ret
        refine ⟨k, rfl, ?_, by (repeat' with_reducible first|assumption|exact Below.refl _ _|apply bl_alloc|apply bl_drewN|apply bl_drew|refine bl_set ?_ (by simp<;>omega) _|refine bl_then ?_ (by assumption))⟩
        rw [List.any_eq_true.2 ⟨l[k], List.getElem_mem hlt, HF.out⟩]
        simp
      | false =>
        have HF := Lib.hid hbp
        clear hbp
        go_wp2_with fail
        refine (HQ.out l[k] _ (by (repeat' with_reducible first|assumption|exact Below.refl _ _|apply bl_alloc|apply bl_drewN|apply bl_drew|refine bl_set ?_ (by simp<;>omega) _|refine bl_then ?_ (by assumption)))).mono ?_
        rintro e1 w1 ⟨rfl, hb1⟩
        rw [HF.out]
        go_wp2
        go_roundw
        case rel =>
          refine ⟨k + 1, by omega, by go_num, by (repeat' with_reducible first|assumption|exact Below.refl _ _|apply bl_alloc|apply bl_drewN|apply bl_drew|refine bl_set ?_ (by simp<;>omega) _|refine bl_then ?_ (by assumption)), ?_⟩
          rw [List.take_succ_eq_append_getElem hlt]
          intro p hp
          rcases List.mem_append.1 hp with hp | hp
          · exact HO.out p hp
          · rw [List.mem_singleton.1 hp]; exact HF.out
        case measure => simp [intOf]; omega
    · obtain rfl : k = l.length := by omega
      go_wp2
      go_ret
      refine ⟨-1, rfl, ?_, by (repeat' with_reducible first|assumption|exact Below.refl _ _|apply bl_alloc|apply bl_drewN|apply bl_drew|refine bl_set ?_ (by simp<;>omega) _|refine bl_then ?_ (by assumption))⟩
      rw [List.take_of_length_le (Nat.le_refl _)] at hok
      rw [show l.any q = false from List.any_eq_false.2 (fun p hp => by rw [hok p hp]; simp)]
      rfl
set_option maxRecDepth 100000 in
set_option maxHeartbeats 1000000 in
theorem contains_in_any (v : Value) (l : List Int) (fid : Nat) (lb : Array Value) (q : Int → Bool) (w : World) (hv : Sl inC 1 w v l) (ef : Enters Tryz.prog fid) (hq : AskI fid lb q w) :
    Calls Tryz.prog 55 #[v, .func (.func fid) #[] lb] w fun e w' => e = .returned (.bool (l.any q)) ∧ Below w.heap.size w w' := by
  have HV := Lib.hid hv
  have HQ := Lib.hid hq
  clear hv hq
  go_enter Tryz.func55, Tryz.ntmps55
  go_wp2_with fail
  refine (index_in_any v l fid lb q _ HV.out ef HQ.out).mono ?_
  rintro e' w1 ⟨r, rfl, hr, hb⟩
  have HR := Lib.hid hr
  clear hr
  go_wp2
  go_ret
  exact ⟨congrArg (fun x => Ending.returned (.bool x)) HR.out, by (repeat' with_reducible first|assumption|exact Below.refl _ _|apply bl_alloc|apply bl_drewN|apply bl_drew|refine bl_set ?_ (by simp<;>omega) _|refine bl_then ?_ (by assumption))⟩
set_option maxRecDepth 100000 in
set_option maxHeartbeats 1000000 in
theorem isLevel1_any (g pb : Nat) (f : Fl) (n : Int) (w : World) (hs : St w g f) (hp : w.cell? ⟨pb, 0, none⟩ = some (.pointer (some ⟨g, 0, none⟩))) :
    Calls Tryz.prog 173 #[.int .i64 n, .pointer (some ⟨pb, 0, none⟩)] w fun e w' => e = .returned (.bool (!fromB n 0 f.H)) ∧ Below w.heap.size w w' := by
  obtain ⟨vv, sv, tv, hk, _⟩ := hs
  have hg := bk_lt hk
  have c7 := bk_cell hk 7
  simp [stC] at c7
  clear hk
  go_enter Tryz.func173, Tryz.ntmps173
  go_wp2_with (go_at_call 94; refine (from_any _ _ _ _).mono ?_; rintro e' w' ⟨rfl, rfl⟩)
  go_ret
  exact ⟨rfl, by (repeat' with_reducible first|assumption|exact Below.refl _ _|apply bl_alloc|apply bl_drewN|apply bl_drew|refine bl_set ?_ (by simp<;>omega) _|refine bl_then ?_ (by assumption))⟩
set_option maxRecDepth 100000 in
set_option maxHeartbeats 1000000 in
theorem isLevel_any (g : Nat) (v : Value) (l : List Int) (f : Fl) (w : World) (hs : St w g f) (hv : Sl inC 1 w v l) :
    Calls Tryz.prog 87 #[.pointer (some ⟨g, 0, none⟩), v] w fun e w' => e = .returned (.bool (l.all fun n => fromB n 0 f.H)) ∧ Below w.heap.size w w' := by
  have HV := Lib.hid hv
  have HS := Lib.hid hs
  have HE : Hid ((!l.any fun n => !fromB n 0 f.H) = l.all fun n => fromB n 0 f.H) := Lib.hid (by rw [List.all_eq_not_any_not])
  obtain ⟨A, c, rfl, _⟩ := id hv
  clear hv hs
  go_enter Tryz.func87, Tryz.ntmps87
  go_wp2_with fail
  have hq : AskI 173 #[.pointer (some ⟨w.heap.size, 0, none⟩)] (fun n => !fromB n 0 f.H) (w.alloc (.cells #[.pointer (some ⟨g, 0, none⟩)] 118)) := by
    intro n W hb
    have h0 : W.cell? ⟨w.heap.size, 0, none⟩ = some (.pointer (some ⟨g, 0, none⟩)) := cl_below hb (bk_cell (bk_new w (.cells #[.pointer (some ⟨g, 0, none⟩)] 118)) 0)
    have h1 : Below w.heap.size w W := by (repeat' with_reducible first|assumption|exact Below.refl _ _|apply bl_alloc|apply bl_drewN|apply bl_drew|refine bl_set ?_ (by simp<;>omega) _|refine bl_then ?_ (by assumption))
    exact isLevel1_any g _ f n W (HS.out.below h1) h0
  refine (contains_in_any _ l 173 _ (fun n => !fromB n 0 f.H) _ (HV.out.below (by (repeat' with_reducible first|assumption|exact Below.refl _ _|apply bl_alloc|apply bl_drewN|apply bl_drew|refine bl_set ?_ (by simp<;>omega) _|refine bl_then ?_ (by assumption)))) (enters_of Tryz.func173 (by kernel_rfl) rfl) hq).mono ?_
  rintro e1 w1 ⟨rfl, hb1⟩
  go_wp2
  go_ret
  exact ⟨by rw [← HE.out]; rfl, by (repeat' with_reducible first|assumption|exact Below.refl _ _|apply bl_alloc|apply bl_drewN|apply bl_drew|refine bl_set ?_ (by simp<;>omega) _|refine bl_then ?_ (by assumption))⟩
set_option maxRecDepth 100000 in
set_option maxHeartbeats 1000000 in
theorem reading_any (g : Nat) (f : Fl) (n : Int) (w : World) (hs : St w g f) :
    Calls Tryz.prog 98 #[.pointer (some ⟨g, 0, none⟩), .int .i64 n] w fun e w' => e = .returned (.bool (fromB n 0 ((f.seen.length : Int) - 1))) ∧ Below w.heap.size w w' := by
  obtain ⟨vv, sv, tv, hk, _, hsv, _⟩ := hs
  obtain ⟨A, c, rfl, hl, ⟨hc, _⟩, _⟩ := hsv
  have hg := bk_lt hk
  have c5 := bk_cell hk 5
  simp [stC] at c5
  clear hk
  have ew1 : IntKind.i64.wrap ((f.seen.length : Int) - 1) = (f.seen.length : Int) - 1 := wrapI (by omega) (by omega)
  go_enter Tryz.func98, Tryz.ntmps98
  go_wp2_with (go_at_call 94; refine (from_any _ _ _ _).mono ?_; rintro e' w' ⟨rfl, rfl⟩)
  go_ret
  exact ⟨rfl, by (repeat' with_reducible first|assumption|exact Below.refl _ _|apply bl_alloc|apply bl_drewN|apply bl_drew|refine bl_set ?_ (by simp<;>omega) _|refine bl_then ?_ (by assumption))⟩
set_option maxRecDepth 100000 in
set_option maxHeartbeats 1000000 in
theorem qReached_any (g pb : Nat) (f : Fl) (n : Int) (w : World) (hs : St w g f) (hp : w.cell? ⟨pb, 0, none⟩ = some (.int .i64 n)) :
    Calls Tryz.prog 86 #[.pointer (some ⟨g, 0, none⟩), .pointer (some ⟨pb, 0, none⟩)] w fun e w' => e = .returned (.bool (fromB n 0 f.H)) ∧ Below w.heap.size w w' := by
  have HS := Lib.hid hs
  clear hs
  go_enter Tryz.func86, Tryz.ntmps86
  go_wp2_with fail
  refine (isLevel_any g _ [n] f _ (HS.out.below (by (repeat' with_reducible first|assumption|exact Below.refl _ _|apply bl_alloc|apply bl_drewN|apply bl_drew|refine bl_set ?_ (by simp<;>omega) _|refine bl_then ?_ (by assumption)))) (Sl.new1 inC_len w n _ _ rfl)).mono ?_
  rintro e1 w1 ⟨rfl, hb1⟩
  go_wp2
  go_ret
  exact ⟨by simp, by (repeat' with_reducible first|assumption|exact Below.refl _ _|apply bl_alloc|apply bl_drewN|apply bl_drew|refine bl_set ?_ (by simp<;>omega) _|refine bl_then ?_ (by assumption))⟩
set_option maxRecDepth 100000 in
set_option maxHeartbeats 1000000 in
theorem qLevel_any (g pb : Nat) (n : Int) (w : World) (hp : w.cell? ⟨pb, 0, none⟩ = some (.int .i64 n)) :
    Calls Tryz.prog 93 #[.pointer (some ⟨g, 0, none⟩), .pointer (some ⟨pb, 0, none⟩)] w fun e w' => e = .returned (.bool (fromB n 0 2097152)) ∧ Below w.heap.size w w' := by
  go_enter Tryz.func93, Tryz.ntmps93
  go_wp2_with (go_at_call 94; refine (from_any _ _ _ _).mono ?_; rintro e' w' ⟨rfl, rfl⟩)
  go_ret
  exact ⟨rfl, by (repeat' with_reducible first|assumption|exact Below.refl _ _|apply bl_alloc|apply bl_drewN|apply bl_drew|refine bl_set ?_ (by simp<;>omega) _|refine bl_then ?_ (by assumption))⟩
set_option maxRecDepth 100000 in
set_option maxHeartbeats 1000000 in
theorem qSeen_any (g pb : Nat) (f : Fl) (n : Int) (w : World) (hs : St w g f) (hp : w.cell? ⟨pb, 0, none⟩ = some (.int .i64 n)) :
    Calls Tryz.prog 97 #[.pointer (some ⟨g, 0, none⟩), .pointer (some ⟨pb, 0, none⟩)] w fun e w' => e = .returned (.bool (fromB n 0 ((f.seen.length : Int) - 1))) ∧ Below w.heap.size w w' := by
  have HS := Lib.hid hs
  clear hs
  go_enter Tryz.func97, Tryz.ntmps97
  go_wp2_with fail
  refine (reading_any g f n _ HS.out).mono ?_
  rintro e1 w1 ⟨rfl, hb1⟩
  go_wp2
  go_ret
  exact ⟨rfl, by (repeat' with_reducible first|assumption|exact Below.refl _ _|apply bl_alloc|apply bl_drewN|apply bl_drew|refine bl_set ?_ (by simp<;>omega) _|refine bl_then ?_ (by assumption))⟩
theorem Sl.new2 (w : World) (x y : Int) (t : TypeId) : Sl inC 1 (w.alloc (.cells #[.int .i64 x, .int .i64 y] t)) (.slice (some ⟨w.heap.size, 0, none⟩) 2 2) [x, y] := by
  refine ⟨_, 2, rfl, by simp, ⟨by omega, fun h => by cases h⟩, fun _ => ⟨w.heap.size, 0, rfl, fun j i u hj hu hi => ?_⟩⟩
  have hi0 : i = 0 := by omega
  subst hi0
  rw [bk_cell (bk_new w (.cells #[.int .i64 x, .int .i64 y] t))]
  match j, hj with
  | 0, _ => simpa [inC] using hu
  | 1, _ => simpa [inC] using hu
def sinkB (f : Fl) (hi lo : Int) : Bool := (fromB hi 0 f.H && fromB lo 0 f.H) && decide (lo ≤ hi)
set_option maxRecDepth 100000 in
set_option maxHeartbeats 1000000 in
theorem qSinks_any (g pb qb : Nat) (f : Fl) (x y : Int) (w : World) (hs : St w g f) (hp : w.cell? ⟨pb, 0, none⟩ = some (.int .i64 x)) (hq : w.cell? ⟨qb, 0, none⟩ = some (.int .i64 y)) :
    Calls Tryz.prog 101 #[.pointer (some ⟨g, 0, none⟩), .pointer (some ⟨pb, 0, none⟩), .pointer (some ⟨qb, 0, none⟩)] w fun e w' => e = .returned (.bool (sinkB f x y)) ∧ Below w.heap.size w w' := by
  have HS := Lib.hid hs
  clear hs
  go_enter Tryz.func101, Tryz.ntmps101
  go_wp2_with fail
  refine (isLevel_any g _ [x, y] f _ (HS.out.below (by (repeat' with_reducible first|assumption|exact Below.refl _ _|apply bl_alloc|apply bl_drewN|apply bl_drew|refine bl_set ?_ (by simp<;>omega) _|refine bl_then ?_ (by assumption)))) (Sl.new2 w x y _)).mono ?_
  rintro e1 w1 ⟨rfl, hb1⟩
  have p1 := cl_below hb1 (cl_alloc hp _)
  have q1 := cl_below hb1 (cl_alloc hq _)
  have hB : Below w.heap.size w w1 := by (repeat' with_reducible first|assumption|exact Below.refl _ _|apply bl_alloc|apply bl_drewN|apply bl_drew|refine bl_set ?_ (by simp<;>omega) _|refine bl_then ?_ (by assumption))
  have he : ([x, y].all fun n => fromB n 0 f.H) = (fromB x 0 f.H && fromB y 0 f.H) := by simp
  rw [he]
  clear he hb1 hp hq
  have HE : Hid (sinkB f x y = ((fromB x 0 f.H && fromB y 0 f.H) && decide (y ≤ x))) := Lib.hid rfl
  cases hb : fromB x 0 f.H && fromB y 0 f.H with
  | true =>
    go_wp2
    go_ret
    exact ⟨by rw [HE.out, hb]; rfl, by (repeat' with_reducible first|assumption|exact Below.refl _ _|apply bl_alloc|apply bl_drewN|apply bl_drew|refine bl_set ?_ (by simp<;>omega) _|refine bl_then ?_ (by assumption))⟩
  | false =>
    go_wp2
    go_ret
    exact ⟨by rw [HE.out, hb]; rfl, by (repeat' with_reducible first|assumption|exact Below.refl _ _|apply bl_alloc|apply bl_drewN|apply bl_drew|refine bl_set ?_ (by simp<;>omega) _|refine bl_then ?_ (by assumption))⟩
set_option maxRecDepth 100000 in
set_option maxHeartbeats 1000000 in
theorem qAsked_any (g pb qb : Nat) (f : Fl) (x y : Int) (w : World) (hs : St w g f) (hp : w.cell? ⟨pb, 0, none⟩ = some (.int .i64 x)) (hq : w.cell? ⟨qb, 0, none⟩ = some (.int .i64 y)) :
    Calls Tryz.prog 188 #[.pointer (some ⟨g, 0, none⟩), .pointer (some ⟨pb, 0, none⟩), .pointer (some ⟨qb, 0, none⟩)] w fun e w' => e = .returned (.bool (fromB x 0 f.H && fromB y 0 2097152)) ∧ Below w.heap.size w w' := by
  have HS := Lib.hid hs
  clear hs
  go_enter Tryz.func188, Tryz.ntmps188
  go_wp2_with fail
  refine (isLevel_any g _ [x] f _ (HS.out.below (by (repeat' with_reducible first|assumption|exact Below.refl _ _|apply bl_alloc|apply bl_drewN|apply bl_drew|refine bl_set ?_ (by simp<;>omega) _|refine bl_then ?_ (by assumption)))) (Sl.new1 inC_len w x _ _ rfl)).mono ?_
  rintro e1 w1 ⟨rfl, hb1⟩
  have q1 := cl_below hb1 (cl_alloc hq _)
  have hB : Below w.heap.size w w1 := by (repeat' with_reducible first|assumption|exact Below.refl _ _|apply bl_alloc|apply bl_drewN|apply bl_drew|refine bl_set ?_ (by simp<;>omega) _|refine bl_then ?_ (by assumption))
  have he : ([x].all fun n => fromB n 0 f.H) = fromB x 0 f.H := by simp
  rw [he]
  clear he hb1 hp hq
  cases hb : fromB x 0 f.H with
  | true =>
    go_wp2_with (go_at_call 94; refine (from_any _ _ _ _).mono ?_; rintro e' w' ⟨rfl, rfl⟩)
    go_ret
    exact ⟨by rw [hb]; rfl, by (repeat' with_reducible first|assumption|exact Below.refl _ _|apply bl_alloc|apply bl_drewN|apply bl_drew|refine bl_set ?_ (by simp<;>omega) _|refine bl_then ?_ (by assumption))⟩
  | false =>
    go_wp2
    go_ret
    exact ⟨by rw [hb]; rfl, by (repeat' with_reducible first|assumption|exact Below.refl _ _|apply bl_alloc|apply bl_drewN|apply bl_drew|refine bl_set ?_ (by simp<;>omega) _|refine bl_then ?_ (by assumption))⟩
end Go.Proofs.YtjpagpplkldbkaaGreat
set_option linter.unusedVariables false
set_option linter.unusedSimpArgs false
namespace Go.Proofs.YtjpagpplkldbkaaGreat
open Go.RowKit Go.Shelf WH
def Fl.rcE (f : Fl) (l : Int) : Int := f.rdy (fromB l 0 f.H)
def Fl.rcLo (f : Fl) (l : Int) : Int := if f.rcE l = 0 then f.reachLo l else 0
def Fl.rcHi (f : Fl) (l : Int) : Int := if f.rcE l = 0 then f.reachHi l else 0
def Fl.lvE (f : Fl) (m : Int) : Int := f.rdy (fromB m 0 2097152)
def Fl.lv0 (f : Fl) (m : Int) : Int := if f.lvE m = 0 then f.levelLo m else 0
def Fl.lv1 (f : Fl) (m : Int) : Int := if f.lvE m = 0 then f.levelHi m else 0
def AskS (fid : Nat) (lb : Array Value) (f : Fl) (rb : Bool) (w : World) : Prop := f.good → ∀ g W, Below w.heap.size w W → St W g f → Calls Tryz.prog fid (#[.pointer (some ⟨g, 0, none⟩)] ++ lb) W fun e w' => e = .returned (.bool rb) ∧ Below W.heap.size W w'
theorem fromB_iff {n lo hi : Int} : fromB n lo hi = true ↔ lo ≤ n ∧ n ≤ hi := by simp [fromB]
theorem rdy_yes {f : Fl} {rb : Bool} (h : f.rdy rb = 0) : f.okB = true ∧ rb = true ∧ f.sol.empty = false := by
  unfold Fl.rdy at h
  cases h1 : f.okB <;> cases h2 : rb <;> cases h3 : f.sol.empty <;> simp_all
set_option maxRecDepth 100000 in
set_option maxHeartbeats 1000000 in
theorem reached_api (v : Value) (f : Fl) (l : Int) (w : World) (hf : Fv w v f) : Calls Tryz.prog 21 #[v, .int .i64 l] w fun e w' => e = .returned (.tuple #[.agg #[.int .i64 (f.rcLo l), .int .i64 (f.rcHi l)], .int .i64 (f.rcE l)]) ∧ Below w.heap.size w w' := by
  obtain ⟨vv, sv, rfl, hv, hs⟩ := hf
  have HV := Lib.hid hv
  have HSE := Lib.hid hs
  clear hv hs
  unfold flC
  go_enter Tryz.func21, Tryz.ntmps21
  go_wp2_with fail
  have hq : AskS 86 #[.pointer (some ⟨w.heap.size + 1, 0, none⟩)] f (fromB l 0 f.H) (((w.alloc (.cells #[vv, .int .i64 f.lv, .int .i64 f.er, .int .i64 f.wl, .int .i64 f.wh, sv] 30)).alloc (.cells #[.int .i64 l] 3)).alloc (.cells #[.int .i64 0, .int .i64 0] 27)) := by
    intro _ g W hb hst
    have h1 := bk_alloc (bk_new (w.alloc (.cells #[vv, .int .i64 f.lv, .int .i64 f.er, .int .i64 f.wl, .int .i64 f.wh, sv] 30)) (.cells #[.int .i64 l] 3)) (.cells #[.int .i64 0, .int .i64 0] 27)
    rw [World.size_alloc] at h1
    have h0 : W.cell? ⟨w.heap.size + 1, 0, none⟩ = some (.int .i64 l) := cl_below hb (bk_cell h1 0)
    exact qReached_any g (w.heap.size + 1) f l W hst h0
  refine (ready_any _ f 86 _ (fromB l 0 f.H) _ ⟨vv, sv, rfl, HV.out.below (by (repeat' with_reducible first|assumption|exact Below.refl _ _|apply bl_alloc|apply bl_drewN|apply bl_drew|refine bl_set ?_ (by simp<;>omega) _|refine bl_then ?_ (by assumption))), HSE.out.below (by (repeat' with_reducible first|assumption|exact Below.refl _ _|apply bl_alloc|apply bl_drewN|apply bl_drew|refine bl_set ?_ (by simp<;>omega) _|refine bl_then ?_ (by assumption)))⟩ (enters_of Tryz.func86 (by kernel_rfl) rfl) hq).mono ?_
  clear hq
  intro e1 w1 hrd
  have hA : ∀ {W : World}, Below (((w.alloc (.cells #[vv, .int .i64 f.lv, .int .i64 f.er, .int .i64 f.wl, .int .i64 f.wh, sv] 30)).alloc (.cells #[.int .i64 l] 3)).alloc (.cells #[.int .i64 0, .int .i64 0] 27)).heap.size (((w.alloc (.cells #[vv, .int .i64 f.lv, .int .i64 f.er, .int .i64 f.wl, .int .i64 f.wh, sv] 30)).alloc (.cells #[.int .i64 l] 3)).alloc (.cells #[.int .i64 0, .int .i64 0] 27)) W →
      W.heap[w.heap.size + 1]? = some (.cells #[.int .i64 l] 3 (0, 0)) ∧ W.heap[w.heap.size + 2]? = some (.cells #[.int .i64 0, .int .i64 0] 27 (0, 0)) := fun hb => by
    have h1 := bk_below (bk_alloc (bk_new (w.alloc (.cells #[vv, .int .i64 f.lv, .int .i64 f.er, .int .i64 f.wl, .int .i64 f.wh, sv] 30)) (.cells #[.int .i64 l] 3)) _) hb
    have h2 := bk_below (bk_new ((w.alloc (.cells #[vv, .int .i64 f.lv, .int .i64 f.er, .int .i64 f.wl, .int .i64 f.wh, sv] 30)).alloc (.cells #[.int .i64 l] 3)) (.cells #[.int .i64 0, .int .i64 0] 27)) hb
    rw [World.size_alloc] at h1
    rw [World.size_alloc, World.size_alloc] at h2
    exact ⟨h1, h2⟩
  rcases hrd with ⟨hno, rfl, hb1⟩ | ⟨h0, hg, hrb, hem, kv, rfl, hkn, hb1⟩
  · obtain ⟨h1, h2⟩ := hA hb1
    obtain ⟨⟨z2, z3⟩, f2, f3⟩ := blk2 h2
    have hlt := bk_lt h2
    have H2 := Lib.hid h2
    have HE : Hid (f.rcLo l = 0 ∧ f.rcHi l = 0 ∧ f.rcE l = f.rdy (fromB l 0 f.H)) := Lib.hid ⟨if_neg hno, if_neg hno, rfl⟩
    have hne : (f.rdy (fromB l 0 f.H) == 0) = false := by simpa using hno
    have hne2 : (f.rdy (fromB l 0 f.H) != 0) = true := by simpa using hno
    clear h1 h2 hno hA
    unfold knZ
    generalize hn : f.rdy (fromB l 0 f.H) = n at *
    have HN := Lib.hid hn
    clear hn
    go_wp2
    refine bodyPost_ret (v := .tuple #[.agg #[.int .i64 0, .int .i64 0], .int .i64 n]) (res_list (vs := [_, _]) rfl (by simp) (.cell (w.heap.size + 2) 27 _ (0, 0) _ rfl (by first | exact bk_alloc (bk_put2 H2.out) _ | exact bk_put2 (bk_alloc H2.out _)) Tryz.underlying27 rfl (by kernel_rfl) (.tmp rfl .nil))) rfl ?_
    exact ⟨by rw [HE.out.1, HE.out.2.1, HE.out.2.2], by (repeat' with_reducible first|assumption|exact Below.refl _ _|apply bl_alloc|apply bl_drewN|apply bl_drew|refine bl_set ?_ (by simp<;>omega) _|refine bl_then ?_ (by assumption))⟩
  · obtain ⟨h1, h2⟩ := hA hb1
    have H1 := Lib.hid h1
    have H2 := Lib.hid h2
    have HE : Hid (f.rcLo l = f.reachLo l ∧ f.rcHi l = f.reachHi l ∧ f.rcE l = 0) := Lib.hid ⟨if_pos h0, if_pos h0, h0⟩
    have HL := Lib.hid (fromB_iff.1 hrb)
    have HG := Lib.hid hg
    have HK := Lib.hid hkn
    obtain ⟨g, va, vb, rfl, _, hka, hkb⟩ := hkn
    obtain ⟨Aa, ka, rfl, _⟩ := hka
    obtain ⟨Ab, kb, rfl, _⟩ := hkb
    have x0 := bk_cell h1 0
    simp at x0
    have hlt1 := bk_lt h1
    have hlt2 := bk_lt h2
    clear h1 h2 hA hem hg h0 hrb
    unfold knC
    unfold knC at HK
    go_wp2_with fail
    refine (reached_any _ f l _ (HK.out.below (by (repeat' with_reducible first|assumption|exact Below.refl _ _|apply bl_alloc|apply bl_drewN|apply bl_drew|refine bl_set ?_ (by simp<;>omega) _|refine bl_then ?_ (by assumption)))) HG.out HL.out.1 HL.out.2).mono ?_
    rintro e2 w2 ⟨rfl, hb2⟩
    have h2 := bk_below (bk_alloc H2.out _) hb2
    have hlt := bk_lt h2
    obtain ⟨⟨z0, z1⟩, f0, f1⟩ := blk2 h2
    have H2' := Lib.hid h2
    have hB2 : Below w.heap.size w w2 := by (repeat' with_reducible first|assumption|exact Below.refl _ _|apply bl_alloc|apply bl_drewN|apply bl_drew|refine bl_set ?_ (by simp<;>omega) _|refine bl_then ?_ (by assumption))
    clear h2 H2 hb1 hb2 H1 x0
    go_wp2
    refine bodyPost_ret (v := .tuple #[.agg #[.int .i64 (f.reachLo l), .int .i64 (f.reachHi l)], .int .i64 0]) (res_list (vs := [_, _]) rfl (by simp) (.cell (w.heap.size + 2) 27 _ (0, 0) _ rfl (bk_put2 H2'.out) Tryz.underlying27 rfl (by kernel_rfl) (.tmp rfl .nil))) rfl ?_
    exact ⟨by rw [HE.out.1, HE.out.2.1, HE.out.2.2], by (repeat' with_reducible first|assumption|exact Below.refl _ _|apply bl_alloc|apply bl_drewN|apply bl_drew|refine bl_set ?_ (by simp<;>omega) _|refine bl_then ?_ (by assumption))⟩
set_option maxRecDepth 100000 in
set_option maxHeartbeats 1000000 in
theorem level_api (v : Value) (f : Fl) (l : Int) (w : World) (hf : Fv w v f) : Calls Tryz.prog 23 #[v, .int .i64 l] w fun e w' => e = .returned (.tuple #[.agg #[.int .i64 (f.lv0 l), .int .i64 (f.lv1 l)], .int .i64 (f.lvE l)]) ∧ Below w.heap.size w w' := by
  obtain ⟨vv, sv, rfl, hv, hs⟩ := hf
  have HV := Lib.hid hv
  have HSE := Lib.hid hs
  clear hv hs
  unfold flC
  go_enter Tryz.func23, Tryz.ntmps23
  go_wp2_with fail
  have hq : AskS 93 #[.pointer (some ⟨w.heap.size + 1, 0, none⟩)] f (fromB l 0 2097152) (((w.alloc (.cells #[vv, .int .i64 f.lv, .int .i64 f.er, .int .i64 f.wl, .int .i64 f.wh, sv] 30)).alloc (.cells #[.int .i64 l] 3)).alloc (.cells #[.int .i64 0, .int .i64 0] 27)) := by
    intro _ g W hb hst
    have h1 := bk_alloc (bk_new (w.alloc (.cells #[vv, .int .i64 f.lv, .int .i64 f.er, .int .i64 f.wl, .int .i64 f.wh, sv] 30)) (.cells #[.int .i64 l] 3)) (.cells #[.int .i64 0, .int .i64 0] 27)
    rw [World.size_alloc] at h1
    have h0 : W.cell? ⟨w.heap.size + 1, 0, none⟩ = some (.int .i64 l) := cl_below hb (bk_cell h1 0)
    exact qLevel_any g (w.heap.size + 1) l W h0
  refine (ready_any _ f 93 _ (fromB l 0 2097152) _ ⟨vv, sv, rfl, HV.out.below (by (repeat' with_reducible first|assumption|exact Below.refl _ _|apply bl_alloc|apply bl_drewN|apply bl_drew|refine bl_set ?_ (by simp<;>omega) _|refine bl_then ?_ (by assumption))), HSE.out.below (by (repeat' with_reducible first|assumption|exact Below.refl _ _|apply bl_alloc|apply bl_drewN|apply bl_drew|refine bl_set ?_ (by simp<;>omega) _|refine bl_then ?_ (by assumption)))⟩ (enters_of Tryz.func93 (by kernel_rfl) rfl) hq).mono ?_
  clear hq
  intro e1 w1 hrd
  have hA : ∀ {W : World}, Below (((w.alloc (.cells #[vv, .int .i64 f.lv, .int .i64 f.er, .int .i64 f.wl, .int .i64 f.wh, sv] 30)).alloc (.cells #[.int .i64 l] 3)).alloc (.cells #[.int .i64 0, .int .i64 0] 27)).heap.size (((w.alloc (.cells #[vv, .int .i64 f.lv, .int .i64 f.er, .int .i64 f.wl, .int .i64 f.wh, sv] 30)).alloc (.cells #[.int .i64 l] 3)).alloc (.cells #[.int .i64 0, .int .i64 0] 27)) W →
      W.heap[w.heap.size + 1]? = some (.cells #[.int .i64 l] 3 (0, 0)) ∧ W.heap[w.heap.size + 2]? = some (.cells #[.int .i64 0, .int .i64 0] 27 (0, 0)) := fun hb => by
    have h1 := bk_below (bk_alloc (bk_new (w.alloc (.cells #[vv, .int .i64 f.lv, .int .i64 f.er, .int .i64 f.wl, .int .i64 f.wh, sv] 30)) (.cells #[.int .i64 l] 3)) _) hb
    have h2 := bk_below (bk_new ((w.alloc (.cells #[vv, .int .i64 f.lv, .int .i64 f.er, .int .i64 f.wl, .int .i64 f.wh, sv] 30)).alloc (.cells #[.int .i64 l] 3)) (.cells #[.int .i64 0, .int .i64 0] 27)) hb
    rw [World.size_alloc] at h1
    rw [World.size_alloc, World.size_alloc] at h2
    exact ⟨h1, h2⟩
  rcases hrd with ⟨hno, rfl, hb1⟩ | ⟨h0, hg, hrb, hem, kv, rfl, hkn, hb1⟩
  · obtain ⟨h1, h2⟩ := hA hb1
    obtain ⟨⟨z2, z3⟩, f2, f3⟩ := blk2 h2
    have hlt := bk_lt h2
    have H2 := Lib.hid h2
    have HE : Hid (f.lv0 l = 0 ∧ f.lv1 l = 0 ∧ f.lvE l = f.rdy (fromB l 0 2097152)) := Lib.hid ⟨if_neg hno, if_neg hno, rfl⟩
    have hne : (f.rdy (fromB l 0 2097152) == 0) = false := by simpa using hno
    have hne2 : (f.rdy (fromB l 0 2097152) != 0) = true := by simpa using hno
    clear h1 h2 hno hA
    unfold knZ
    generalize hn : f.rdy (fromB l 0 2097152) = n at *
    have HN := Lib.hid hn
    clear hn
    go_wp2
    refine bodyPost_ret (v := .tuple #[.agg #[.int .i64 0, .int .i64 0], .int .i64 n]) (res_list (vs := [_, _]) rfl (by simp) (.cell (w.heap.size + 2) 27 _ (0, 0) _ rfl (by first | exact bk_alloc (bk_put2 H2.out) _ | exact bk_put2 (bk_alloc H2.out _)) Tryz.underlying27 rfl (by kernel_rfl) (.tmp rfl .nil))) rfl ?_
    exact ⟨by rw [HE.out.1, HE.out.2.1, HE.out.2.2], by (repeat' with_reducible first|assumption|exact Below.refl _ _|apply bl_alloc|apply bl_drewN|apply bl_drew|refine bl_set ?_ (by simp<;>omega) _|refine bl_then ?_ (by assumption))⟩
  · obtain ⟨h1, h2⟩ := hA hb1
    have H1 := Lib.hid h1
    have H2 := Lib.hid h2
    have HE : Hid (f.lv0 l = f.levelLo l ∧ f.lv1 l = f.levelHi l ∧ f.lvE l = 0) := Lib.hid ⟨if_pos h0, if_pos h0, h0⟩
    have HL := Lib.hid (fromB_iff.1 hrb)
    have HG := Lib.hid hg
    have HK := Lib.hid hkn
    obtain ⟨g, va, vb, rfl, _, hka, hkb⟩ := hkn
    obtain ⟨Aa, ka, rfl, _⟩ := hka
    obtain ⟨Ab, kb, rfl, _⟩ := hkb
    have x0 := bk_cell h1 0
    simp at x0
    have hlt1 := bk_lt h1
    have hlt2 := bk_lt h2
    clear h1 h2 hA hem hg h0 hrb
    unfold knC
    unfold knC at HK
    go_wp2_with fail
    refine (level_any _ f l _ (HK.out.below (by (repeat' with_reducible first|assumption|exact Below.refl _ _|apply bl_alloc|apply bl_drewN|apply bl_drew|refine bl_set ?_ (by simp<;>omega) _|refine bl_then ?_ (by assumption)))) HG.out HL.out.1 HL.out.2).mono ?_
    rintro e2 w2 ⟨rfl, hb2⟩
    have h2 := bk_below (bk_alloc H2.out _) hb2
    have hlt := bk_lt h2
    obtain ⟨⟨z0, z1⟩, f0, f1⟩ := blk2 h2
    have H2' := Lib.hid h2
    have hB2 : Below w.heap.size w w2 := by (repeat' with_reducible first|assumption|exact Below.refl _ _|apply bl_alloc|apply bl_drewN|apply bl_drew|refine bl_set ?_ (by simp<;>omega) _|refine bl_then ?_ (by assumption))
    clear h2 H2 hb1 hb2 H1 x0
    go_wp2
    refine bodyPost_ret (v := .tuple #[.agg #[.int .i64 (f.levelLo l), .int .i64 (f.levelHi l)], .int .i64 0]) (res_list (vs := [_, _]) rfl (by simp) (.cell (w.heap.size + 2) 27 _ (0, 0) _ rfl (bk_put2 H2'.out) Tryz.underlying27 rfl (by kernel_rfl) (.tmp rfl .nil))) rfl ?_
    exact ⟨by rw [HE.out.1, HE.out.2.1, HE.out.2.2], by (repeat' with_reducible first|assumption|exact Below.refl _ _|apply bl_alloc|apply bl_drewN|apply bl_drew|refine bl_set ?_ (by simp<;>omega) _|refine bl_then ?_ (by assumption))⟩
set_option maxRecDepth 100000 in
set_option maxHeartbeats 1000000 in
theorem start_api (v : Value) (f : Fl) (w : World) (hf : Fv w v f) : Calls Tryz.prog 42 #[v] w fun e w' => e = .returned (.tuple #[.agg #[.int .i64 (f.lv0 0), .int .i64 (f.lv1 0)], .int .i64 (f.lvE 0)]) ∧ Below w.heap.size w w' := by
  obtain ⟨vv, sv, rfl, hv, hs⟩ := hf
  have HV := Lib.hid hv
  have HSE := Lib.hid hs
  clear hv hs
  unfold flC
  go_enter Tryz.func42, Tryz.ntmps42
  go_wp2_with fail
  refine (level_api _ f 0 _ ⟨vv, sv, rfl, HV.out.below (by (repeat' with_reducible first|assumption|exact Below.refl _ _|apply bl_alloc|apply bl_drewN|apply bl_drew|refine bl_set ?_ (by simp<;>omega) _|refine bl_then ?_ (by assumption))), HSE.out.below (by (repeat' with_reducible first|assumption|exact Below.refl _ _|apply bl_alloc|apply bl_drewN|apply bl_drew|refine bl_set ?_ (by simp<;>omega) _|refine bl_then ?_ (by assumption)))⟩).mono ?_
  rintro e1 w1 ⟨rfl, hb1⟩
  have h2 := bk_below (bk_new (w.alloc (.cells #[vv, .int .i64 f.lv, .int .i64 f.er, .int .i64 f.wl, .int .i64 f.wh, sv] 30)) (.cells #[.int .i64 0, .int .i64 0] 27)) hb1
  rw [World.size_alloc] at h2
  have hlt := bk_lt h2
  obtain ⟨⟨z0, z1⟩, f0, f1⟩ := blk2 h2
  have H2 := Lib.hid h2
  clear h2
  go_wp2
  refine bodyPost_ret (v := .tuple #[.agg #[.int .i64 (f.lv0 0), .int .i64 (f.lv1 0)], .int .i64 (f.lvE 0)]) (res_list (vs := [_, _]) rfl (by simp) (.cell (w.heap.size + 1) 27 _ (0, 0) _ rfl (bk_put2 H2.out) Tryz.underlying27 rfl (by kernel_rfl) (.tmp rfl .nil))) rfl ?_
  exact ⟨rfl, by (repeat' with_reducible first|assumption|exact Below.refl _ _|apply bl_alloc|apply bl_drewN|apply bl_drew|refine bl_set ?_ (by simp<;>omega) _|refine bl_then ?_ (by assumption))⟩
end Go.Proofs.YtjpagpplkldbkaaGreat
