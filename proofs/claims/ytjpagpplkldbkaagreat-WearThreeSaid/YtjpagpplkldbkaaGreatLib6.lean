/- Curves: Check. The curve of a vessel. Emptying, and what a curve is at a place. A line of a curve. -/
import Derived.RangeFuncNested
import Derived.RangeFuncBound
import Derived.RangeFuncCalls
import Derived.RangeFuncLeaves
import Derived.Shelf.Abstract
import Derived.Shelf.RegionOpen
import Derived.WalkKit
import Derived.OwnWalkIn
import Derived.TacticsInMore
import Derived.LoopNIn
import Derived.LoopIn
import Derived.Test.YtjpagpplkldbkaaGreatLib5
set_option linter.unusedVariables false
set_option linter.unusedSimpArgs false
namespace Go.Proofs.YtjpagpplkldbkaaGreat
open Go.RowKit Go.Shelf
attribute [local go_sem] Oper.semAt_some
theorem lines_stops (Bs n₀ : Nat) (A : Option Addr) (cap : Nat) (zs : List Pt) (hz : 1 ≤ zs.length) (w : World) (hW : n₀ ≤ w.heap.size) (hBs : w.cell? ⟨Bs, 0, none⟩ = some (.slice A zs.length cap)) (hBn : Bs < n₀) (hv : Sl ptC 2 w (.slice A zs.length cap) zs) (hbn : ∀ b, (Value.slice A zs.length cap).ownBlock = some b → b < n₀) :
    SeqStopsK Fence.wide 3 Tryz.prog 242 #[.pointer (some ⟨Bs, 0, none⟩)] sgC (Below n₀) (fun ys => ys = segs zs) (fun pre => ∃ k, k ≤ (segs zs).length ∧ pre = (segs zs).take k) (segs zs).length w := fun l J Jx W hw hJ _ hY h0 =>
  lines1_in l Bs n₀ A cap zs hz J Jx (fun pre W' hj => hJ pre W' W'.drew none hj (gb_below (bl_drew (Below.refl _ _)) none) (fun _ h => by cases h)) hY W (Nat.le_trans hW hw.size) (cl_below hw hBs) hBn (hv.below hw) hbn h0
theorem heap_kept {A B : World} {row : Option Nat} {g : Nat} {cs : Array Value} {t : TypeId} {fr : Nat × Nat} (h : A.heap[g]? = some (.cells cs t fr)) (hg : A.grownBy B row) (hr : ∀ r, row = some r → ∃ o : Obj, A.heap[r]? = some o ∧ o.isCells = false) : B.heap[g]? = some (.cells cs t fr) :=
  (hg.block g (bk_lt h) (fun e => by obtain ⟨o, ho, hc⟩ := hr g e.symm; rw [h] at ho; cases ho; simp [Obj.isCells] at hc)).trans h
def sgC' (x : Pt × Pt) : Array Value := #[.int .i64 x.1.x, .int .i64 x.1.y, .int .i64 x.2.x, .int .i64 x.2.y]
def rises (x : Pt × Pt) : Bool := decide (x.1.x < x.2.x) && decide (x.1.y < x.2.y)
def curveB (l : List Pt) : Bool := decide (2 ≤ l.length) && decide (l.length ≤ 64) && !l.any badP && (segs l).all rises
def cErr (l : List Pt) : Int := if curveB l then 0 else 10
theorem cErr_good {l : List Pt} (h1 : 2 ≤ l.length) (h2 : l.length ≤ 64) (h3 : l.any badP = false) (h : ∀ x ∈ segs l, rises x = true) : cErr l = 0 := by
  have ha : (segs l).all rises = true := List.all_eq_true.2 h
  unfold cErr curveB
  rw [h3, ha, decide_eq_true h1, decide_eq_true h2]; rfl
theorem cErr_bad {l : List Pt} {x : Pt × Pt} (hx : x ∈ segs l) (hf : rises x = false) : cErr l = 10 := by
  have ha : (segs l).all rises = false := List.all_eq_false.2 ⟨x, hx, by simp [hf]⟩
  unfold cErr curveB
  rw [ha]; simp
theorem cErr_short {l : List Pt} (h : l.length < 2 ∨ 64 < l.length) : cErr l = 10 := by
  unfold cErr curveB
  rw [if_neg]
  simp
  intros
  omega
theorem cErr_coord {l : List Pt} (h : l.any badP = true) : cErr l = 10 := by
  unfold cErr curveB
  rw [h]; simp
def ckI (w W0 : World) (pre : List (Pt × Pt)) (W : World) : Prop := (∀ x ∈ pre, rises x = true) ∧ W.heap[w.heap.size]? = some (.cells #[.int .i64 0] 33 (0, 0)) ∧ Below w.heap.size w W ∧ W0.heap.size ≤ W.heap.size
def ckX (w : World) (cd : Code) (pre : List (Pt × Pt)) (W : World) : Prop := cd = .ret ∧ (∃ x ∈ pre, rises x = false) ∧ W.heap[w.heap.size]? = some (.cells #[.int .i64 10] 33 (0, 0)) ∧ Below w.heap.size w W
set_option maxRecDepth 100000 in
set_option maxHeartbeats 1000000 in
theorem ccheck_main (v : Value) (l : List Pt) (w : World) (hv : Sl ptC 2 w v l) (h1 : 2 ≤ l.length) (h2 : l.length ≤ 64) (h3 : l.any badP = false) :
    Calls Tryz.prog 134 #[v] w fun e w' => e = .returned (.int .i64 (cErr l)) ∧ Below w.heap.size w w' := by
  obtain ⟨A, c, rfl, hl, hc, hcs⟩ := id hv
  have HV := Lib.hid hv
  clear hv
  have t1 : decide ((l.length : Int) < 2) = false := by simp; omega
  have t2 : decide ((64 : Int) < (l.length : Int)) = false := by simp; omega
  refine (callsIn_wide (n := 4)).1 ?_
  refine callsIn_of_wp_marks Tryz.func134 rfl trivial ?_ rfl
  simp only [Tryz.ntmps134, List.size_toArray, List.length_cons, List.length_nil, Nat.reduceAdd, Nat.reduceSub, Array.replicate_succ, Array.replicate_zero, List.push_toArray, List.append_toArray, List.nil_append, List.cons_append]
  gi_wp2_with (first | (refine ⟨trivial, ?_⟩; gi_at_call 206; refine (callsIn_wide.2 (right_any _ l _ (HV.out.below (by (repeat' with_reducible first|assumption|exact Below.refl _ _|apply bl_alloc|apply bl_drewN|apply bl_drew|refine bl_set ?_ (by simp<;>omega) _|refine bl_then ?_ (by assumption)))))).mono ?_; rintro e1 w1 ⟨rfl, hb1⟩; rw [h3]) | (refine ⟨trivial, ?_⟩; gi_at_call 207; refine (callsIn_wide.2 (lines_any _ _ _ _)).mono ?_; rintro e2 w2 ⟨rfl, rfl⟩))
  have R0 : (w1.alloc (.cells #[.slice A l.length c] 61)).heap[w.heap.size]? = some (.cells #[.int .i64 0] 33 (0, 0)) := bk_alloc (bk_below (bk_new w _) hb1) _
  have hB0 : Below w.heap.size w (w1.alloc (.cells #[.slice A l.length c] 61)) := by (repeat' with_reducible first|assumption|exact Below.refl _ _|apply bl_alloc|apply bl_drewN|apply bl_drew|refine bl_set ?_ (by simp<;>omega) _|refine bl_then ?_ (by assumption))
  have hBS : (w1.alloc (.cells #[.slice A l.length c] 61)).cell? ⟨w1.heap.size, 0, none⟩ = some (.slice A l.length c) := bk_cell (bk_new w1 _) 0
  have hVW := HV.out.below hB0
  have hs1 := hb1.size
  rw [World.size_alloc] at hs1
  have hsz : (w1.alloc (.cells #[.slice A l.length c] 61)).heap.size = w1.heap.size + 1 := World.size_alloc _ _
  have hsz2 : w1.heap.size < (w1.alloc (.cells #[.slice A l.length c] 61)).heap.size := by omega
  clear hsz
  generalize hW0 : w1.alloc (.cells #[.slice A l.length c] 61) = W0 at *
  clear hW0
  refine wpIn_rangeFunc_ownH rfl (by omega) (gf := 242) (lb := #[.pointer (some ⟨w1.heap.size, 0, none⟩)]) rfl trivial (enters_of Tryz.func242 (by kernel_rfl) rfl)
    (lines_stops w1.heap.size W0.heap.size A c l (by omega) W0 (Nat.le_refl _) hBS (by omega) hVW (fun b hb => Sl.lt ptC_len (by decide) hVW (by intro h; simp [h] at h1) b hb)) belowK_t (belowK_b (Nat.le_refl _)) (Below.refl _ _) (fun _ => rfl)
    (ckI w W0)
    (ckX w)
    (fun pre X Y row hs hg hr => ⟨hs.1, heap_kept hs.2.1 hg (fun r e => (hr r e).2), ownFrom_below (β := Unit) (Nat.le_refl _) (by omega) () X Y row hs.2.2.1 hg hr, Nat.le_trans hs.2.2.2 hg.size⟩)
    (fun cd pre X Y row hs hg hr => ⟨hs.1, hs.2.1, heap_kept hs.2.2.1 hg (fun r e => (hr r e).2), ownFrom_below (β := Unit) (Nat.le_refl _) (by omega) () X Y row hs.2.2.2 hg hr⟩)
    ⟨by simp, R0, hB0, Nat.le_refl _⟩
    (fun x a' W => ∃ Bx, w.heap.size < Bx ∧ W.heap[Bx]? = some (.cells (sgC' x) 189 (0, 0)) ∧ a' = { tmps := #[.slice A l.length c, undef, .pointer (some ⟨w.heap.size, 0, none⟩), .pointer (some ⟨Bx, 0, none⟩), .slice A l.length c, .int .i64 (l.length : Int), .bool false, .bool false, .slice A l.length c, .int .i64 (l.length : Int), .bool false, .bool false, .bool false, .slice A l.length c, .bool true, .bool false, .bool false, .slice A l.length c, .func (.func 242) #[] #[.pointer (some ⟨w1.heap.size, 0, none⟩)], .agg #[.int .i64 x.1.x, .int .i64 x.1.y, .int .i64 x.2.x, .int .i64 x.2.y], undef, undef, undef, undef, undef, undef, undef, undef, undef, undef, undef, undef, undef, undef, undef, undef], defers := [] })
    (fun x a' _ X Y row hs hg hr => by obtain ⟨Bx, h1, h2, h3⟩ := hs; exact ⟨Bx, h1, heap_kept h2 hg (fun r e => (hr r e).2), h3⟩) ?assign ?body ?done ?stop
  case assign =>
    rintro l' pre x W K ⟨hp, hR, hB, hZ⟩ hK
    dsimp only [sgC]
    gi_wp2
    exact hK _ _ ((KeepsOthers.alloc _ _).from _) (Below.alloc (Below.refl _ _) hZ _) ⟨hp, bk_alloc hR _, hB.alloc hB.size _, by rw [World.size_alloc]; omega⟩ ⟨W.heap.size, bk_lt hR, bk_new _ _, rfl⟩
  case body =>
    rintro l' pre x a' W hl' ⟨r, hr⟩ ⟨hp, hR, hB, hZ⟩ ⟨Bx, hBx, hX, rfl⟩ hlt
    have c0 := bk_cell hX 0
    have c1 := bk_cell hX 1
    have c2 := bk_cell hX 2
    have c3 := bk_cell hX 3
    have e0 := bk_cell hR 0
    have e1 := bk_fro hR 0
    simp [sgC'] at c0 c1 c2 c3 e0
    have HR := Lib.hid hR
    have HP := Lib.hid hp
    clear hX hR hp hr
    have hbad : rises x = false → ownPostG W0.heap.size (Below W0.heap.size) (ckI w W0)
        (ckX w) (pre ++ [x]) W .ret { tmps := #[], defers := [] } (W.setCell ⟨w.heap.size, 0, none⟩ (.int .i64 10)) := fun hf =>
      ⟨(KeepsOthers.setCell _ _ _).from _, rfl, ⟨x, by simp, hf⟩, bk_put1 HR.out 0 _ rfl, bl_set hB (Nat.le_refl _) _⟩
    have HBAD := Lib.hid hbad
    clear hbad
    by_cases a1 : x.1.x < x.2.x
    · have b1 : decide (x.2.x ≤ x.1.x) = false := by simp; omega
      by_cases a2 : x.1.y < x.2.y
      · have b2 : decide (x.2.y ≤ x.1.y) = false := by simp; omega
        gi_wp2
        refine ⟨KeepsFrom.refl _ _, Below.refl _ _, fun z hz => ?_, HR.out, hB, hZ⟩
        rcases List.mem_append.1 hz with hz | hz
        · exact HP.out z hz
        · rw [List.mem_singleton.1 hz]; simp [rises, a1, a2]
      · have b2 : decide (x.2.y ≤ x.1.y) = true := by simp; omega
        gi_wp2
        exact HBAD.out (by simp [rises]; omega)
    · have b1 : decide (x.2.x ≤ x.1.x) = true := by simp; omega
      gi_wp2
      exact HBAD.out (by simp [rises]; omega)
  case done =>
    rintro D ys W hD rfl ⟨hp, hR, hB, hZ⟩ hK
    have e0 := bk_cell hR 0
    have e1 := bk_fro hR 0
    simp at e0
    have HR := Lib.hid hR
    have HP := Lib.hid hp
    clear hR hp
    gi_wp2
    have hK' := (KeepsOthers.setCell W ⟨w.heap.size, 0, none⟩ (.int .i64 0)).same D _ hK rfl
    refine ⟨by simp, .inl ⟨_, _, rfl, run_takeDeferred hK', ?_⟩⟩
    have hR2 := heap_kept (bk_put1 HR.out 0 (.int .i64 0) rfl) (grownBy_putObj' _ D (.deferred none)) (fun r e => by cases e; exact ⟨_, hK', rfl⟩)
    have hc5 := bk_cell hR2 0
    simp at hc5
    refine ⟨.int .i64 0, ?_, ?_, (bl_set hB (Nat.le_refl _) _).trans (belowK_b (w := w) (Nat.le_refl _) _ D _ _ (by omega) hK' rfl rfl)⟩
    · simp [results, Tryz.results134, go_sem, hc5]
    · rw [cErr_good h1 h2 h3 HP.out]
  case stop =>
    rintro D cd pre W hD ⟨k, hk, rfl⟩ ⟨rfl, ⟨x, hx, hf⟩, hR, hB⟩ hK
    have hR2 := heap_kept hR (grownBy_putObj' _ D (.deferred none)) (fun r e => by cases e; exact ⟨_, hK, rfl⟩)
    have hc5 := bk_cell hR2 0
    simp at hc5
    gi_wp2
    refine ⟨by simp, .inl ⟨_, _, rfl, run_takeDeferred hK, ?_⟩⟩
    refine ⟨.int .i64 10, ?_, ?_, hB.trans (belowK_b (w := w) (Nat.le_refl _) W D _ _ (by omega) hK rfl rfl)⟩
    · simp [results, Tryz.results134, go_sem, hc5]
    · rw [cErr_bad (List.mem_of_mem_take hx) hf]
set_option maxRecDepth 100000 in
set_option maxHeartbeats 1000000 in
theorem ccheck_any (v : Value) (l : List Pt) (w : World) (hv : Sl ptC 2 w v l) :
    Calls Tryz.prog 134 #[v] w fun e w' => e = .returned (.int .i64 (cErr l)) ∧ Below w.heap.size w w' := by
  by_cases h1 : l.length < 2
  · obtain ⟨A, c, rfl, hl, hc, hcs⟩ := id hv
    have t1 : decide ((l.length : Int) < 2) = true := by simp; omega
    rw [cErr_short (Or.inl h1)]
    go_enter Tryz.func134, Tryz.ntmps134
    go_wp2
    have hc5 := bk_cell (bk_put1 (bk_new w (.cells #[.int .i64 0] 33)) 0 (.int .i64 10) rfl) 0
    simp at hc5
    refine bodyPost_ret (v := .int .i64 10) (by simp [results, Tryz.results134, go_sem, hc5]) rfl ?_
    exact ⟨rfl, by (repeat' with_reducible first|assumption|exact Below.refl _ _|apply bl_alloc|apply bl_drewN|apply bl_drew|refine bl_set ?_ (by simp<;>omega) _|refine bl_then ?_ (by assumption))⟩
  by_cases h2 : 64 < l.length
  · obtain ⟨A, c, rfl, hl, hc, hcs⟩ := id hv
    have t1 : decide ((l.length : Int) < 2) = false := by simp; omega
    have t2 : decide ((64 : Int) < (l.length : Int)) = true := by simp; omega
    rw [cErr_short (Or.inr h2)]
    go_enter Tryz.func134, Tryz.ntmps134
    go_wp2
    have hc5 := bk_cell (bk_put1 (bk_new w (.cells #[.int .i64 0] 33)) 0 (.int .i64 10) rfl) 0
    simp at hc5
    refine bodyPost_ret (v := .int .i64 10) (by simp [results, Tryz.results134, go_sem, hc5]) rfl ?_
    exact ⟨rfl, by (repeat' with_reducible first|assumption|exact Below.refl _ _|apply bl_alloc|apply bl_drewN|apply bl_drew|refine bl_set ?_ (by simp<;>omega) _|refine bl_then ?_ (by assumption))⟩
  cases h3 : l.any badP with
  | false => exact ccheck_main v l w hv (by omega) (by omega) h3
  | true =>
    obtain ⟨A, c, rfl, hl, hc, hcs⟩ := id hv
    have t1 : decide ((l.length : Int) < 2) = false := by simp; omega
    have t2 : decide ((64 : Int) < (l.length : Int)) = false := by simp; omega
    have HV := Lib.hid hv
    clear hv
    rw [cErr_coord h3]
    go_enter Tryz.func134, Tryz.ntmps134
    go_wp2_with fail
    refine (right_any _ l _ (HV.out.below (by (repeat' with_reducible first|assumption|exact Below.refl _ _|apply bl_alloc|apply bl_drewN|apply bl_drew|refine bl_set ?_ (by simp<;>omega) _|refine bl_then ?_ (by assumption))))).mono ?_
    rintro e1 w1 ⟨rfl, hb1⟩
    rw [h3]
    have hR := bk_below (bk_new w (.cells #[.int .i64 0] 33)) hb1
    have c0 := bk_cell hR 0
    have c1 := bk_fro hR 0
    simp at c0
    have hB : Below w.heap.size w w1 := by (repeat' with_reducible first|assumption|exact Below.refl _ _|apply bl_alloc|apply bl_drewN|apply bl_drew|refine bl_set ?_ (by simp<;>omega) _|refine bl_then ?_ (by assumption))
    have HR := Lib.hid hR
    clear hb1 hR
    go_wp2
    have hc5 := bk_cell (bk_put1 HR.out 0 (.int .i64 10) rfl) 0
    simp at hc5
    refine bodyPost_ret (v := .int .i64 10) (by simp [results, Tryz.results134, go_sem, hc5]) rfl ?_
    exact ⟨rfl, by (repeat' with_reducible first|assumption|exact Below.refl _ _|apply bl_alloc|apply bl_drewN|apply bl_drew|refine bl_set ?_ (by simp<;>omega) _|refine bl_then ?_ (by assumption))⟩
end Go.Proofs.YtjpagpplkldbkaaGreat
set_option linter.unusedVariables false
set_option linter.unusedSimpArgs false
namespace Go.Proofs.YtjpagpplkldbkaaGreat
open Go.RowKit
def drawnTo (l : List Rn) (k : Nat) : List Pt := (List.range k).map fun j => ⟨sumTo (l.map Rn.h) j, sumTo (l.map Rn.d) j⟩
def drawnL (l : List Rn) : List Pt := drawnTo l (l.length + 1)
theorem drawnTo_len (l : List Rn) (k : Nat) : (drawnTo l k).length = k := by simp [drawnTo]
theorem drawnTo_snoc (l : List Rn) (k : Nat) : drawnTo l (k + 1) = drawnTo l k ++ [⟨sumTo (l.map Rn.h) k, sumTo (l.map Rn.d) k⟩] := by simp [drawnTo, List.range_succ]
theorem ring_bds {l : List Rn} (hr : ∀ k, k < l.length → ringOk l k = true) : ∀ r ∈ l, 1 ≤ r.h ∧ r.h ≤ 1000 ∧ 1 ≤ r.v ∧ r.v ≤ 100000 ∧ 1 ≤ r.d ∧ r.d ≤ 20000 := by
  intro r hm
  obtain ⟨k, hk, rfl⟩ := List.getElem_of_mem hm
  have := hr k hk
  rw [ringOk_eq hk] at this
  simp only [Bool.and_eq_true] at this
  exact ringB_bd this.1
theorem sumTo_rise {l : List Int} {k : Nat} (h : k < l.length) (hp : ∀ x ∈ l, 1 ≤ x) : sumTo l k + 1 ≤ sumTo l (k + 1) := by
  rw [sumTo_succ l k h]
  have := hp _ (List.getElem_mem h)
  omega
theorem sumTo_mono {l : List Int} (hp : ∀ x ∈ l, 1 ≤ x) {i j : Nat} (h : i ≤ j) : sumTo l i ≤ sumTo l j := by
  induction j with
  | zero => obtain rfl : i = 0 := by omega
            omega
  | succ j ih =>
    rcases Nat.lt_or_ge i (j + 1) with h1 | h1
    · have := ih (by omega)
      rcases Nat.lt_or_ge j l.length with h2 | h2
      · have := sumTo_rise h2 hp; omega
      · have e : sumTo l (j + 1) = sumTo l j := by unfold sumTo; rw [List.take_of_length_le (by omega), List.take_of_length_le h2]
        omega
    · obtain rfl : i = j + 1 := by omega
      omega
theorem drawnL_get (l : List Rn) (k : Nat) (hk : k < (drawnL l).length) : (drawnL l)[k] = ⟨sumTo (l.map Rn.h) k, sumTo (l.map Rn.d) k⟩ := by simp [drawnL, drawnTo]
theorem drawnL_len (l : List Rn) : (drawnL l).length = l.length + 1 := drawnTo_len l _
theorem drawn_ok {l : List Rn} (h1 : 1 ≤ l.length) (h2 : l.length ≤ 24) (hr : ∀ k, k < l.length → ringOk l k = true) : cErr (drawnL l) = 0 := by
  have hb := ring_bds hr
  have hh : ∀ x ∈ l.map Rn.h, 0 ≤ x ∧ x ≤ 1000 := by intro x hx; obtain ⟨r, hr', rfl⟩ := List.mem_map.1 hx; have := hb r hr'; omega
  have hd : ∀ x ∈ l.map Rn.d, 0 ≤ x ∧ x ≤ 20000 := by intro x hx; obtain ⟨r, hr', rfl⟩ := List.mem_map.1 hx; have := hb r hr'; omega
  refine cErr_good (by rw [drawnL_len]; omega) (by rw [drawnL_len]; omega) ?_ ?_
  · refine List.any_eq_false.2 fun p hp => ?_
    obtain ⟨k, hk, rfl⟩ := List.getElem_of_mem hp
    rw [drawnL_get]
    rw [drawnL_len] at hk
    have a1 := sumTo_bd _ k 1000 (by decide) hh
    have a2 := sumTo_bd _ k 20000 (by decide) hd
    have : (k : Int) ≤ 24 := by omega
    simp [badP, coordB]
    omega
  · intro x hx
    obtain ⟨k, hk, rfl⟩ := List.getElem_of_mem hx
    have hl := segs_len (drawnL l)
    rw [drawnL_len] at hl
    rw [segs_get (drawnL l) k hk (by rw [drawnL_len]; omega) (by rw [drawnL_len]; omega), drawnL_get, drawnL_get]
    have a1 := sumTo_rise (l := l.map Rn.h) (k := k) (by simp; omega) (by intro x hx; obtain ⟨r, hr', rfl⟩ := List.mem_map.1 hx; exact (hb r hr').1)
    have a2 := sumTo_rise (l := l.map Rn.d) (k := k) (by simp; omega) (by intro x hx; obtain ⟨r, hr', rfl⟩ := List.mem_map.1 hx; exact (hb r hr').2.2.2.2.1)
    simp [rises]
    omega
theorem ptZ : (Tryz.prog.info? 182).map (fun i => (i.zero, i.size, i.bytes)) = some (some (.agg #[.int .i64 0, .int .i64 0]), 2, 16) := by kernel_rfl
set_option maxRecDepth 100000 in
set_option maxHeartbeats 1000000 in
theorem drawn_bad (v : Value) (l : List Rn) (w : World) (hv : Sl rnC 3 w v l) (h0 : vErr l = 20) :
    Calls Tryz.prog 130 #[v, .func (.func 131) #[] #[]] w fun e w' => e = .returned (.tuple #[.slice none 0 0, .int .i64 20]) ∧ Below w.heap.size w w' := by
  have HV := Lib.hid hv
  clear hv
  go_enter Tryz.func130, Tryz.ntmps130
  go_wp2_with fail
  refine (vcheck_any v l _ HV.out).mono ?_
  rintro e1 w1 ⟨rfl, hb1⟩
  rw [h0]
  go_wp2
  go_ret2
  exact ⟨rfl, by (repeat' with_reducible first|assumption|exact Below.refl _ _|apply bl_alloc|apply bl_drewN|apply bl_drew|refine bl_set ?_ (by simp<;>omega) _|refine bl_then ?_ (by assumption))⟩
set_option maxRecDepth 100000 in
set_option maxHeartbeats 1000000 in
theorem drawn_good (v : Value) (l : List Rn) (w : World) (hv : Sl rnC 3 w v l) (h0 : vErr l = 0) :
    Calls Tryz.prog 130 #[v, .func (.func 131) #[] #[]] w fun e w' => ∃ c, e = .returned (.tuple #[c, .int .i64 0]) ∧ Sl ptC 2 w' c (drawnL l) ∧ Below w.heap.size w w' := by
  have HV := Lib.hid hv
  clear hv
  obtain ⟨h1, h2, h3⟩ := vErr_zero h0
  have H0 := Lib.hid (drawn_ok h1 h2 h3)
  have hb := ring_bds h3
  have b1 : ∀ r ∈ l, 0 ≤ r.h ∧ r.h ≤ 1000000 := fun r hm => by have := hb r hm; omega
  have b3 : ∀ r ∈ l, 0 ≤ r.d ∧ r.d ≤ 1000000 := fun r hm => by have := hb r hm; omega
  have B1 := Lib.hid b1
  have B3 := Lib.hid b3
  clear b1 b3 hb h3
  go_enter Tryz.func130, Tryz.ntmps130
  go_wp2_with fail
  refine (vcheck_any v l _ HV.out).mono ?_
  rintro e1 w1 ⟨rfl, hb1⟩
  rw [h0]
  clear h0
  go_wp2_with fail
  refine (scaledH_any _ l _ (HV.out.below (by (repeat' with_reducible first|assumption|exact Below.refl _ _|apply bl_alloc|apply bl_drewN|apply bl_drew|refine bl_set ?_ (by simp<;>omega) _|refine bl_then ?_ (by assumption)))) (by omega) B1.out).mono ?_
  rintro e1 w2 ⟨g1, x1, y1, rfl, k1, s1, t1, hb2⟩
  have S1 : Hid (Sc 254 w2 g1 (l.map Rn.h)) := Lib.hid ⟨x1, y1, k1, s1, by simpa using t1⟩
  clear k1 s1 t1
  go_wp2_with fail
  refine (scaledD_any _ l _ (HV.out.below (by (repeat' with_reducible first|assumption|exact Below.refl _ _|apply bl_alloc|apply bl_drewN|apply bl_drew|refine bl_set ?_ (by simp<;>omega) _|refine bl_then ?_ (by assumption)))) (by omega) B3.out).mono ?_
  rintro e1 w3 ⟨g2, x2, y2, rfl, k2, s2, t2, hb3⟩
  obtain ⟨u1, u2, k1, s1, t1⟩ := S1.out.below hb3
  obtain ⟨A2, c2, rfl, hl2, hc2, hr2⟩ := id t2
  obtain ⟨A1, c1, rfl, hl1, hc1, hr1⟩ := id t1
  have hB3 : Below w.heap.size w w3 := by (repeat' with_reducible first|assumption|exact Below.refl _ _|apply bl_alloc|apply bl_drewN|apply bl_drew|refine bl_set ?_ (by simp<;>omega) _|refine bl_then ?_ (by assumption))
  clear S1 hb1 hb2 hb3 w1 w2
  rw [sums_len] at k1 k2
  rw [List.length_map] at k1
  obtain ⟨b1, o1, rfl, hcell1⟩ := hr1 (by simp [sums])
  obtain ⟨b2, o2, rfl, hcell2⟩ := hr2 (by simp [sums])
  have z1 := bk_cell k1 1
  have z2 := bk_cell k2 1
  simp at z1 z2
  have HB0 := Lib.hid hB3
  clear k1 k2 s1 s2 t1 t2 hr1 hr2 hl1 hl2 hB3
  have hI1 := ptZ
  go_wp2
  go_loopw [9, 27] (fun cv i W => ∃ k : Nat, k ≤ l.length + 1 ∧ i = .int .i64 k ∧ Below w3.heap.size w3 W ∧ W.ownsRow w3.heap.size 182 2 cv k (flat ptC (drawnTo l k))) (fun _ i _ => l.length + 1 - (intOf i).toNat)
  case atStart => exact ⟨0, by omega, rfl, Below.refl _ _, World.ownsRow_nil _ _ _ _⟩
  case round =>
    obtain ⟨k, hk, rfl, hB, ho⟩ := hrel
    obtain ⟨A3, c3, rfl⟩ := own_sl ho
    by_cases hlt : k < l.length + 1
    · have d1 := in_cell hcell1 (k := k) (by rw [sums_len]; simpa using hlt)
      have d2 := in_cell hcell2 (k := k) (by rw [sums_len]; exact hlt)
      rw [sums_get] at d1 d2
      have e1 := cl_below hB d1
      have e2 := cl_below hB d2
      have e3 := cl_below hB z2
      clear d1 d2
      have hki : (k : Int) < (l.length : Int) + 1 := by omega
      have HO := Lib.hid ho
      clear ho
      go_wp2_with (first
        | (at_builtin; refine app_own ptC_len (by decide) ptC_one rfl (.tmp 32) (.tmp 42) 61 rfl 182 _ 16 Tryz.underlying61 hI1 rfl w3.heap.size (.slice A3 k c3) k (drawnTo l k) [⟨sumTo (l.map Rn.h) k, sumTo (l.map Rn.d) k⟩] (drawnTo_len l k).symm rfl (own_bel HO.out (bl_alloc (Below.refl _ _) _)) _ rfl (Sl.new1 ptC_len _ _ _ _ rfl) (by simp; have := hB.size; omega) (by simp; omega) (by simp; omega) ?_; intro v' W1 hv' hg1 hat; rw [← drawnTo_snoc] at hv'))
      go_roundw
      case rel => exact ⟨k + 1, by omega, by go_num, (bl_alloc hB _).grown hg1 (by have := hB.size; simp; omega) (fun z hz => (HO.out.lt z hz).1), hv'⟩
      case measure => simp [intOf]; omega
    · obtain rfl : k = l.length + 1 := by omega
      have hge : decide (((l.length : Int) + 1) < (l.length : Int) + 1) = false := by simp
      have hS : Sl ptC 2 wr (.slice A3 (l.length + 1) c3) (drawnL l) := Sl.of_own (base := w3.heap.size) (e := 182) ptC_len (by decide) (by rw [drawnL_len]; exact ho)
      have HS := Lib.hid hS
      have hBw : Below w.heap.size w wr := HB0.out.trans (hB.mono HB0.out.size)
      clear hS ho
      go_wp2_with fail
      refine (ccheck_any _ _ _ HS.out).mono ?_
      rintro e4 w4 ⟨rfl, hb4⟩
      rw [H0.out]
      go_wp2
      go_ret2
      exact ⟨_, rfl, HS.out.below hb4, by (repeat' with_reducible first|assumption|exact Below.refl _ _|apply bl_alloc|apply bl_drewN|apply bl_drew|refine bl_set ?_ (by simp<;>omega) _|refine bl_then ?_ (by assumption))⟩
end Go.Proofs.YtjpagpplkldbkaaGreat
set_option linter.unusedVariables false
set_option linter.unusedSimpArgs false
namespace Go.Proofs.YtjpagpplkldbkaaGreat
open Go.RowKit
set_option maxRecDepth 100000 in
set_option maxHeartbeats 1000000 in
theorem emptying_bad (v : Value) (l : List Rn) (w : World) (hv : Sl rnC 3 w v l) (h0 : vErr l = 20) :
    Calls Tryz.prog 44 #[v] w fun e w' => e = .returned (.tuple #[.slice none 0 0, .int .i64 20]) ∧ Below w.heap.size w w' := by
  have HV := Lib.hid hv
  clear hv
  go_enter Tryz.func44, Tryz.ntmps44
  go_wp2_with fail
  refine (drawn_bad v l _ HV.out h0).mono ?_
  rintro e1 w1 ⟨rfl, hb1⟩
  go_wp2
  go_ret2
  exact ⟨rfl, by (repeat' with_reducible first|assumption|exact Below.refl _ _|apply bl_alloc|apply bl_drewN|apply bl_drew|refine bl_set ?_ (by simp<;>omega) _|refine bl_then ?_ (by assumption))⟩
set_option maxRecDepth 100000 in
set_option maxHeartbeats 1000000 in
theorem emptying_good (v : Value) (l : List Rn) (w : World) (hv : Sl rnC 3 w v l) (h0 : vErr l = 0) :
    Calls Tryz.prog 44 #[v] w fun e w' => ∃ c, e = .returned (.tuple #[c, .int .i64 0]) ∧ Sl ptC 2 w' c (drawnL l) ∧ Below w.heap.size w w' := by
  have HV := Lib.hid hv
  clear hv
  go_enter Tryz.func44, Tryz.ntmps44
  go_wp2_with fail
  refine (drawn_good v l _ HV.out h0).mono ?_
  rintro e1 w1 ⟨c, rfl, hc, hb1⟩
  obtain ⟨A, n, rfl, _⟩ := id hc
  have HC := Lib.hid hc
  clear hc
  go_wp2
  go_ret2
  exact ⟨_, rfl, HC.out, by (repeat' with_reducible first|assumption|exact Below.refl _ _|apply bl_alloc|apply bl_drewN|apply bl_drew|refine bl_set ?_ (by simp<;>omega) _|refine bl_then ?_ (by assumption))⟩
def cWithin (l : List Pt) (x : Int) : Bool := decide ((l.head?.map Pt.x).getD 0 ≤ x) && decide (x ≤ (l.getLast?.map Pt.x).getD 0)
set_option maxRecDepth 100000 in
set_option maxHeartbeats 1000000 in
theorem cwithin_any (v : Value) (l : List Pt) (x : Int) (w : World) (hv : Sl ptC 2 w v l) (hl : 1 ≤ l.length) :
    Calls Tryz.prog 201 #[v, .int .i64 x] w fun e w' => e = .returned (.bool (cWithin l x)) ∧ w = w' := by
  obtain ⟨A, c, rfl, hlc, hc, hcs⟩ := id hv
  obtain ⟨b, off, rfl, hcell⟩ := hcs (by intro h; simp [h] at hl)
  obtain ⟨c0, _⟩ := pt_cells hcell (k := 0) (by omega)
  obtain ⟨c1, _⟩ := pt_cells hcell (k := l.length - 1) (by omega)
  have e0 : (l.head?.map Pt.x).getD 0 = l[0].x := by cases l with
    | nil => simp at hl
    | cons a l => rfl
  have e1 : (l.getLast?.map Pt.x).getD 0 = (l[l.length - 1]).x := by rw [List.getLast?_eq_getElem?]; simp [List.getElem?_eq_getElem (show l.length - 1 < l.length by omega)]
  unfold cWithin
  rw [e0, e1]
  obtain ⟨m, hm⟩ : ∃ m, l.length = m + 1 := ⟨l.length - 1, by omega⟩
  have hw : IntKind.i64.wrap ((l.length : Int) - 1) = ((l.length - 1 : Nat) : Int) := by rw [wrapI (by omega) (by omega)]; omega
  generalize hp : l[0].x = p at *
  generalize hq : (l[l.length - 1]).x = q at *
  clear hp hq e0 e1 hv hcs hcell
  simp only [hm, Nat.add_sub_cancel] at c1 hw hlc
  rw [hm]
  have hmi : (0 : Int) ≤ m := by omega
  have hm63 : (m : Int) < 9223372036854775807 := by omega
  simp at c0
  go_enter Tryz.func201, Tryz.ntmps201
  by_cases a1 : p ≤ x
  · by_cases a2 : x ≤ q
    · have b1 : decide (p ≤ x) = true := by simpa using a1
      have b2 : decide (x ≤ q) = true := by simpa using a2
      go_wp2
      go_ret
      first | exact ⟨rfl, rfl⟩ | exact ⟨by rw [b1, b2]; rfl, rfl⟩
    · have b1 : decide (p ≤ x) = true := by simpa using a1
      have b2 : decide (x ≤ q) = false := by simpa using a2
      go_wp2
      go_ret
      first | exact ⟨rfl, rfl⟩ | exact ⟨by rw [b1, b2]; rfl, rfl⟩
  · have b1 : decide (p ≤ x) = false := by simpa using a1
    go_wp2
    go_ret
    first | exact ⟨rfl, rfl⟩ | exact ⟨by rw [b1]; rfl, rfl⟩
end Go.Proofs.YtjpagpplkldbkaaGreat
set_option linter.unusedVariables false
set_option linter.unusedSimpArgs false
namespace Go.Proofs.YtjpagpplkldbkaaGreat
open Go.RowKit
set_option maxRecDepth 100000 in
set_option maxHeartbeats 1000000 in
theorem lhas_any (a b c d x : Int) (w : World) : Calls Tryz.prog 237 #[.agg #[.int .i64 a, .int .i64 b, .int .i64 c, .int .i64 d], .int .i64 x] w fun e w' => e = .returned (.bool (decide (a ≤ x) && decide (x ≤ c))) ∧ Below w.heap.size w w' := by
  go_enter Tryz.func237, Tryz.ntmps237
  by_cases a1 : a ≤ x <;> by_cases a2 : x ≤ c
  all_goals go_wp2
  all_goals go_ret
  all_goals exact ⟨by simp [a1, a2], by (repeat' with_reducible first|assumption|exact Below.refl _ _|apply bl_alloc|apply bl_drewN|apply bl_drew|refine bl_set ?_ (by simp<;>omega) _|refine bl_then ?_ (by assumption))⟩
set_option maxRecDepth 100000 in
set_option maxHeartbeats 1000000 in
theorem lwide_any (a b c d : Int) (w : World) (h1 : 0 ≤ a ∧ a ≤ 16777216) (h2 : 0 ≤ c ∧ c ≤ 16777216) : Calls Tryz.prog 204 #[.agg #[.int .i64 a, .int .i64 b, .int .i64 c, .int .i64 d]] w fun e w' => e = .returned (.int .i64 (c - a)) ∧ Below w.heap.size w w' := by
  obtain ⟨k1, k2⟩ := h1
  obtain ⟨k3, k4⟩ := h2
  have hw : IntKind.i64.wrap (c - a) = c - a := wrapI (by omega) (by omega)
  go_enter Tryz.func204, Tryz.ntmps204
  go_wp2
  go_ret
  exact ⟨rfl, by (repeat' with_reducible first|assumption|exact Below.refl _ _|apply bl_alloc|apply bl_drewN|apply bl_drew|refine bl_set ?_ (by simp<;>omega) _|refine bl_then ?_ (by assumption))⟩
set_option maxRecDepth 100000 in
set_option maxHeartbeats 1000000 in
theorem lhigh_any (a b c d : Int) (w : World) (h1 : 0 ≤ b ∧ b ≤ 16777216) (h2 : 0 ≤ d ∧ d ≤ 16777216) : Calls Tryz.prog 238 #[.agg #[.int .i64 a, .int .i64 b, .int .i64 c, .int .i64 d]] w fun e w' => e = .returned (.int .i64 (d - b)) ∧ Below w.heap.size w w' := by
  obtain ⟨k1, k2⟩ := h1
  obtain ⟨k3, k4⟩ := h2
  have hw : IntKind.i64.wrap (d - b) = d - b := wrapI (by omega) (by omega)
  go_enter Tryz.func238, Tryz.ntmps238
  go_wp2
  go_ret
  exact ⟨rfl, by (repeat' with_reducible first|assumption|exact Below.refl _ _|apply bl_alloc|apply bl_drewN|apply bl_drew|refine bl_set ?_ (by simp<;>omega) _|refine bl_then ?_ (by assumption))⟩
end Go.Proofs.YtjpagpplkldbkaaGreat
