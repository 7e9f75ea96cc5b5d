/- The items. All items in a list. A region in memory, with rows of its own; lines added to it. The later, the lower: plain. CheckCase and the ends of the wear: plain. Contradictions: plain. Plain laws: how great the ends are; the cases at the ends; what CheckCase accepts lies between the ends. Plain laws: a filling whose cases are among another's; a further reading; a reading left out. -/
import Derived.RangeFuncNested
import Derived.RangeFuncBound
import Derived.RangeFuncCalls
import Derived.RangeFuncLeaves
import Derived.Shelf.Abstract
import Derived.Shelf.RegionOpen
import Derived.WalkKit
import Derived.OwnWalkIn
import Derived.TacticsInMore
import Derived.LoopNIn
import Derived.LoopIn
import Derived.Test.YtjpagpplkldbkaaGreatLib10
import Derived.Test.YtjpagpplkldbkaaGreatLib11
import Derived.Test.YtjpagpplkldbkaaGreatLib4
set_option linter.unusedVariables false
set_option linter.unusedSimpArgs false
namespace Go.Proofs.YtjpagpplkldbkaaGreat
open Go.RowKit Go.Shelf WH
attribute [local go_sem] Oper.semAt_some
set_option maxRecDepth 100000 in
set_option maxHeartbeats 1000000 in
theorem items_any (g : Nat) (w : World) : Calls Tryz.prog 195 #[.pointer (some ⟨g, 0, none⟩)] w fun e w' => e = .returned (.func (.func 235) #[] #[.pointer (some ⟨w.heap.size, 0, none⟩)]) ∧ w' = w.alloc (.cells #[.pointer (some ⟨g, 0, none⟩)] 118) := by
  go_enter Tryz.func195, Tryz.ntmps195
  go_wp2
  go_ret
  exact ⟨rfl, rfl⟩
theorem all_len (f : Fl) : f.all.length = f.seen.length + 2 := by unfold Fl.all; simp
theorem all_get (f : Fl) (k : Nat) (h : k < f.all.length) : f.all[k] = (k : Int) - 2 := by simp [Fl.all]
/-- What a round keeps: all that lay ahead, and the iterator's own box. -/
def KpI (n₀ Bs : Nat) (W W' : World) : Prop := Below n₀ W W' ∧ W'.heap[Bs]? = W.heap[Bs]?
theorem KpI.refl (n₀ Bs : Nat) (W : World) : KpI n₀ Bs W W := ⟨Below.refl _ _, rfl⟩
theorem KpI.trans {n₀ Bs : Nat} {A B C : World} (h : KpI n₀ Bs A B) (k : KpI n₀ Bs B C) : KpI n₀ Bs A C := ⟨h.1.trans k.1, k.2.trans h.2⟩
theorem KpI.put {n₀ Bs : Nat} {w : World} (hn : n₀ ≤ w.heap.size) (hB : Bs < w.heap.size) (W : World) (l : Nat) (o o' : Obj) (hl : w.heap.size ≤ l) (h : W.heap[l]? = some o) (h1 : o.isCells = false) (h2 : o.isWalk = false) : KpI n₀ Bs W (W.putObj l o') :=
  ⟨belowK_b (n₀ := n₀) hn W l o o' hl h h1 h2, (grownBy_putObj' W l o').block Bs (by have := bk_lt h; omega) (fun e => by cases e; omega)⟩
def itC (k : Int) : Array Value := #[.int .i64 k]
set_option maxRecDepth 100000 in
set_option maxHeartbeats 1000000 in
theorem items1_in (l Bs n₀ g : Nat) (f : Fl) (hf : f.seen.length ≤ 24) (J Jx : List Int → World → Prop) (hJd : ∀ pre W, J pre W → J pre W.drew)
    (hY : ∀ pre x W, J pre W → pre.length < f.all.length → YieldAt Fence.wide 2 Tryz.prog l (itC x) W fun e W' =>
      (e = .returned (.bool true) ∧ J (pre ++ [x]) W' ∧ KpI n₀ Bs W W') ∨ (e = .returned (.bool false) ∧ Jx (pre ++ [x]) W'))
    (W : World) (hW : n₀ ≤ W.heap.size) (hBs : W.cell? ⟨Bs, 0, none⟩ = some (.pointer (some ⟨g, 0, none⟩))) (hgn : g < n₀) (hs : St W g f) (h0 : J [] W) :
    CallsIn Fence.wide 3 Tryz.prog 235 #[.func (.yield l) #[] #[], .pointer (some ⟨Bs, 0, none⟩)] W fun e W' => (∃ v, e = .returned v) ∧
      ((∃ ys, ys = f.all ∧ J ys W') ∨ (∃ pre, (∃ k, k ≤ f.all.length ∧ pre = f.all.take k) ∧ Jx pre W')) := by
  obtain ⟨vv, sv, tv, hk, hs1, hs2, hs3⟩ := hs
  obtain ⟨A, c, rfl, _⟩ := id hs2
  have c5 := bk_cell hk 5
  simp [stC] at c5
  have hal := all_len f
  clear hs1 hs2 hs3 hk
  refine callsIn_of_wp Tryz.func235 rfl trivial ?_ rfl
  simp only [Tryz.ntmps235, List.size_toArray, List.length_cons, List.length_nil, Nat.reduceAdd, Nat.reduceSub, Array.replicate_succ, Array.replicate_zero, List.push_toArray, List.append_toArray, List.nil_append, List.cons_append]
  gi_wp2
  gi_loopw [3] (fun i wr => ∃ k : Nat, k ≤ f.all.length ∧ i = .int .i64 ((k : Int) - 2) ∧ J (f.all.take k) wr ∧ KpI n₀ Bs W wr) (fun i _ => f.all.length - (intOf i + 2).toNat)
  case atStart => exact ⟨0, Nat.zero_le _, rfl, h0, KpI.refl _ _ _⟩
  case round =>
    obtain ⟨k, hk, rfl, hJs, hnx⟩ := hrel
    have hbox : wr.cell? ⟨Bs, 0, none⟩ = some (.pointer (some ⟨g, 0, none⟩)) := (World.cell?_of_block hnx.2).trans hBs
    have hst : wr.cell? ⟨g, 5, none⟩ = some (.slice A f.seen.length c) := (hnx.1.cell (p := ⟨g, 5, none⟩) hgn).trans c5
    by_cases hlt : k < f.all.length
    · obtain ⟨fn, tmps, assign, body, hy, hR⟩ := hY _ (f.all[k]) wr (hJs) (by rw [List.length_take]; omega)
      rw [all_get] at hy hR
      dsimp only [itC] at hy
      have hwk : IntKind.i64.wrap ((k : Int) - 2 + 1) = (k : Int) - 2 + 1 := wrapI (by omega) (by omega)
      have hd1 : decide ((k : Int) - 2 < (f.seen.length : Int)) = true := by simp; omega
      have hd2 : (k : Int) - 2 < (f.seen.length : Int) := by omega
      have hlo : -2 ≤ (k : Int) - 2 := by omega
      have hhi : (k : Int) - 2 ≤ 23 := by omega
      have hR' := RoundIn.mono (R' := fun e W' => ∃ bb, e = Ending.returned (.bool bb) ∧ Hid ((bb = true ∧ J (f.all.take k ++ [(k : Int) - 2]) W' ∧ KpI n₀ Bs wr W') ∨ (bb = false ∧ Jx (f.all.take k ++ [(k : Int) - 2]) W'))) hR (by rintro e W' (⟨rfl, h1, h2⟩ | ⟨rfl, h1⟩); exact ⟨true, rfl, Lib.hid (.inl ⟨rfl, h1, h2⟩)⟩; exact ⟨false, rfl, Lib.hid (.inr ⟨rfl, h1⟩)⟩)
      clear hR
      have HT : Hid (f.all.take k ++ [(k : Int) - 2] = f.all.take (k + 1)) := Lib.hid (by rw [List.take_succ_eq_append_getElem hlt, all_get])
      generalize hj : (k : Int) - 2 = j at *
      have HJ := Lib.hid hj
      clear hj
      gi_wp2_with (refine hR'.mono ?_; rintro e W3 ⟨bb, rfl, hcase⟩; cases bb)
      · obtain ⟨_, hJx3⟩ := hcase.out.resolve_left (by simp)
        refine bodyPost_ret (results_none rfl _ _ _) rfl ?_
        exact ⟨⟨_, rfl⟩, .inr ⟨_, ⟨k + 1, by omega, HT.out⟩, hJx3⟩⟩
      · obtain ⟨_, hJ3, hk3⟩ := hcase.out.resolve_right (by simp)
        have hj := HJ.out
        go_roundw
        case rel => exact ⟨k + 1, by omega, by congr 1; omega, by rw [← HT.out]; exact hJ3, hnx.trans hk3⟩
        case measure => simp [intOf]; omega
    · obtain rfl : k = f.all.length := by omega
      have hge : decide (((f.all.length : Int)) - 2 < (f.seen.length : Int)) = false := by simp; omega
      have hge2 : ¬ ((f.all.length : Int) - 2 < (f.seen.length : Int)) := by omega
      have hlo : -2 ≤ (f.all.length : Int) - 2 := by omega
      have hhi : (f.all.length : Int) - 2 ≤ 24 := by omega
      generalize (f.all.length : Int) - 2 = j at *
      gi_wp2
      go_end0
      rw [List.take_of_length_le (Nat.le_refl _)] at hJs
      first | exact hJs | exact ⟨⟨_, rfl⟩, .inl hJs⟩ | exact ⟨⟨_, rfl⟩, .inl ⟨_, rfl, hJs⟩⟩
end Go.Proofs.YtjpagpplkldbkaaGreat
set_option linter.unusedVariables false
set_option linter.unusedSimpArgs false
namespace Go.Proofs.YtjpagpplkldbkaaGreat
open Go.RowKit Go.Shelf WH
attribute [local go_sem] Oper.semAt_some
theorem items_stops (Bs n₀ g : Nat) (f : Fl) (hf : f.seen.length ≤ 24) (w : World) (hW : n₀ ≤ w.heap.size) (hBs : w.cell? ⟨Bs, 0, none⟩ = some (.pointer (some ⟨g, 0, none⟩))) (hgn : g < n₀) (hs : St w g f) :
    SeqStopsK Fence.wide 3 Tryz.prog 235 #[.pointer (some ⟨Bs, 0, none⟩)] itC (KpI n₀ Bs) (fun ys => ys = f.all) (fun pre => ∃ k, k ≤ f.all.length ∧ pre = f.all.take k) f.all.length w := fun l J Jx W hw hJ _ hY h0 =>
  items1_in l Bs n₀ g f hf J Jx (fun pre W' hj => hJ pre W' W'.drew none hj (gb_below (bl_drew (Below.refl _ _)) none) (fun _ h => by cases h)) hY W (Nat.le_trans hW hw.size) (cl_below hw hBs) hgn (hs.below hw) h0
theorem own_cells {w : World} {base n sz : Nat} {e : TypeId} {v : Value} {xs : List Value} (h : w.ownsRow base e sz v n xs) (j : Nat) (o : Obj) (hj : v.ownBlock = some j) (ho : w.heap[j]? = some o) : o.isCells = true := by
  rcases h.2 with ⟨rfl, _⟩ | ⟨g, cap, cur, rfl, _, hh, _⟩
  · cases hj
  · have e' : g = j := by simpa [Value.ownBlock] using hj
    subst e'
    rw [hh] at ho
    cases ho
    rfl
theorem own_far {w w' : World} {row : Option Nat} {base n sz : Nat} {e : TypeId} {v : Value} {xs : List Value} (h : w.ownsRow base e sz v n xs) (hg : w.grownBy w' row) (hr : ∀ r, row = some r → ∃ o : Obj, w.heap[r]? = some o ∧ o.isCells = false) : w'.ownsRow base e sz v n xs := by
  refine h.kept hg ?_
  rcases h.2 with ⟨rfl, _⟩ | ⟨g, cap, cur, rfl, _, hh, _⟩
  · exact .inl rfl
  · right
    intro e
    have e' : row = some g := by simpa [Value.ownBlock] using e.symm
    obtain ⟨o, ho, hc⟩ := hr g e'
    rw [hh] at ho
    cases ho
    simp [Obj.isCells] at hc
def inC' (k : Int) : List Value := [.int .i64 k]
def alI (w W0 : World) (pre : List Int) (W : World) : Prop := ∃ v, W.heap[w.heap.size]? = some (.cells #[v] 53 (0, 0)) ∧ W.ownsRow W0.heap.size 3 1 v pre.length (flat inC pre) ∧ Below w.heap.size w W ∧ W0.heap.size ≤ W.heap.size
theorem intZ : (Tryz.prog.info? 3).map (fun i => (i.zero, i.size, i.bytes)) = some (some (.int .i64 0), 1, 8) := by kernel_rfl
theorem one_new (w : World) (v : Value) (t : TypeId) (j : Nat) (u : Value) (h : [v][j]? = some u) : (w.alloc (.cells #[v] t)).cell? ((⟨w.heap.size, 0, none⟩ : Addr).add j) = some u := by
  cases j with
  | zero => simp at h; subst h; exact bk_cell (bk_new w (.cells #[v] t)) 0
  | succ j => simp at h
theorem one_one (k : IntKind) (n : Int) : ∀ u ∈ [Value.int k n], u.oneCell' = true := by intro u hu; simp at hu; subst hu; rfl
set_option maxRecDepth 100000 in
set_option maxHeartbeats 1000000 in
theorem all_any (g : Nat) (f : Fl) (w : World) (hs : St w g f) (hf : f.seen.length ≤ 24) :
    Calls Tryz.prog 120 #[.pointer (some ⟨g, 0, none⟩)] w fun e w' => ∃ v, e = .returned v ∧ Sl inC 1 w' v f.all ∧ Below w.heap.size w w' := by
  have HS := Lib.hid hs
  have hg : g < w.heap.size := by obtain ⟨_, _, _, h, _⟩ := hs; exact bk_lt h
  clear hs
  refine (callsIn_wide (n := 4)).1 ?_
  refine callsIn_of_wp_marks Tryz.func120 rfl trivial ?_ rfl
  simp only [Tryz.ntmps120, List.size_toArray, List.length_cons, List.length_nil, Nat.reduceAdd, Nat.reduceSub, Array.replicate_succ, Array.replicate_zero, List.push_toArray, List.append_toArray, List.nil_append, List.cons_append]
  gi_wp2_with (first | (refine ⟨trivial, ?_⟩; gi_at_call 195; refine (callsIn_wide.2 (items_any _ _)).mono ?_; rintro e2 w2 ⟨rfl, rfl⟩))
  have R0 : ((w.alloc (.cells #[.slice none 0 0] 53)).alloc (.cells #[.pointer (some ⟨g, 0, none⟩)] 118)).heap[w.heap.size]? = some (.cells #[.slice none 0 0] 53 (0, 0)) := bk_alloc (bk_new w _) _
  have hBS : ((w.alloc (.cells #[.slice none 0 0] 53)).alloc (.cells #[.pointer (some ⟨g, 0, none⟩)] 118)).cell? ⟨w.heap.size + 1, 0, none⟩ = some (.pointer (some ⟨g, 0, none⟩)) := by
    have := bk_cell (bk_new (w.alloc (.cells #[.slice none 0 0] 53)) (.cells #[.pointer (some ⟨g, 0, none⟩)] 118)) 0
    rwa [World.size_alloc] at this
  have hB0 : Below w.heap.size w ((w.alloc (.cells #[.slice none 0 0] 53)).alloc (.cells #[.pointer (some ⟨g, 0, none⟩)] 118)) := by (repeat' with_reducible first|assumption|exact Below.refl _ _|apply bl_alloc|apply bl_drewN|apply bl_drew|refine bl_set ?_ (by simp<;>omega) _|refine bl_then ?_ (by assumption))
  have hSW := HS.out.below hB0
  have hsz : ((w.alloc (.cells #[.slice none 0 0] 53)).alloc (.cells #[.pointer (some ⟨g, 0, none⟩)] 118)).heap.size = w.heap.size + 2 := by rw [World.size_alloc, World.size_alloc]
  have hsz2 : w.heap.size + 1 < ((w.alloc (.cells #[.slice none 0 0] 53)).alloc (.cells #[.pointer (some ⟨g, 0, none⟩)] 118)).heap.size := by omega
  clear hsz
  generalize hW0 : (w.alloc (.cells #[.slice none 0 0] 53)).alloc (.cells #[.pointer (some ⟨g, 0, none⟩)] 118) = W0 at *
  clear hW0
  refine wpIn_rangeFunc_ownH rfl (by omega) (gf := 235) (lb := #[.pointer (some ⟨w.heap.size + 1, 0, none⟩)]) rfl trivial (enters_of Tryz.func235 (by kernel_rfl) rfl)
    (items_stops (w.heap.size + 1) w.heap.size g f hf W0 hB0.size hBS hg hSW) KpI.trans (KpI.put hB0.size (by omega)) (Below.refl _ _) (fun _ => rfl)
    (alI w W0)
    (fun _ _ _ => False)
    (fun pre X Y row hs hg hr => by
      obtain ⟨v, h1, h2, h3, h4⟩ := hs
      exact ⟨v, heap_kept h1 hg (fun r e => (hr r e).2), own_far h2 hg (fun r e => (hr r e).2), ownFrom_below (β := Unit) (Nat.le_refl _) (by omega) () X Y row h3 hg hr, Nat.le_trans h4 hg.size⟩)
    (fun cd pre X Y row hs hg hr => hs)
    ⟨_, R0, World.ownsRow_nil _ _ _ _, hB0, Nat.le_refl _⟩
    (fun x a' W => a' = { tmps := #[.pointer (some ⟨g, 0, none⟩), undef, .pointer (some ⟨w.heap.size, 0, none⟩), .int .i64 x, .pointer (some ⟨g, 0, none⟩), .func (.func 235) #[] #[.pointer (some ⟨w.heap.size + 1, 0, none⟩)], .int .i64 x, undef, undef, undef, undef, undef], defers := [] })
    (fun x a' _ X Y row hs hg hr => hs) ?assign ?body ?done ?stop
  case assign =>
    rintro l' pre x W K hI hK
    dsimp only [itC]
    gi_wp2
    exact hK _ _ (KeepsFrom.refl _ _) (KpI.refl _ _ _) hI rfl
  case body =>
    rintro l' pre x a' W hl' ⟨r, hr⟩ ⟨v, hR, ho, hB, hZ⟩ rfl hlt
    obtain ⟨A, c, rfl⟩ := own_sl ho
    have c0 := bk_cell hR 0
    have f0 := bk_fro hR 0
    simp at c0
    have hlt0 := bk_lt hR
    have HR := Lib.hid hR
    have HO := Lib.hid ho
    have hI1 := intZ
    have hpl : pre.length ≤ 26 := by have := all_len f; omega
    clear hR ho hr
    obtain ⟨i0, hi, hzz⟩ := Option.map_eq_some_iff.1 intZ
    simp only [Prod.mk.injEq] at hzz
    obtain ⟨hz0, hz1, hz2⟩ := hzz
    have HI0 := Lib.hid hi
    have HZ0 := Lib.hid hz0
    have HZ1 := Lib.hid hz1
    have HZ2 := Lib.hid hz2
    clear hi hz0 hz1 hz2 hI1
    gi_wp2_with (first
      | (gi_at_builtin; refine wpListIn_append_own _ rfl (.tmp 7) (.tmp 9) 53 rfl W0.heap.size 3 i0 (.int .i64 0) 1 8 Tryz.underlying53 HI0.out HZ0.out HZ1.out HZ2.out rfl (by omega) (.slice A pre.length c) pre.length (flat inC pre) rfl (own_bel HO.out (bl_alloc (Below.refl _ _) _)) ⟨W.heap.size, 0, none⟩ 1 1 [.int .i64 x] rfl rfl (one_new W _ _) (one_one _ _) (by simp only [maxLen]; omega) (by omega) (by simp; omega) ?_; intro v' W1 hv' hg1 hnil; obtain ⟨A3, c3, rfl⟩ := own_sl hv'; (have hR1 := bk_grown (bk_alloc HR.out (.cells #[.int .i64 x] 3)) hg1 (fun e => by have := (HO.out.lt _ e.symm).1; omega)); (have z0 := bk_cell hR1 0); (have y0 := bk_fro hR1 0); simp at z0; (have HR1 := Lib.hid hR1); clear hR1 c0 f0))
    have hBW : Below w.heap.size W W1 := (Below.alloc (Below.refl _ _) (by omega) _).grown hg1 (by simp; omega) (fun z hz => by have := (HO.out.lt z hz).1; omega)
    have hIB : W1.heap[w.heap.size + 1]? = W.heap[w.heap.size + 1]? := (hg1.block _ (by simp; omega) (fun e => by have := (HO.out.lt _ e.symm).1; omega)).trans (Below.heap_alloc W _ _ (by omega))
    have hKF : KeepsFrom W0.heap.size W W1 := ((KeepsOthers.alloc W (.cells #[.int .i64 x] 3)).trans (KeepsOthers.of_grownBy hg1 (own_cells (own_bel HO.out (bl_alloc (Below.refl _ _) _))))).from _
    refine ⟨hKF.trans ((KeepsOthers.setCell _ _ _).from _), ⟨hBW.setCell (Nat.le_refl _) _, (Below.heap_setCell W1 _ _ _ (fun e => by have e' : w.heap.size + 1 = w.heap.size := e; omega)).trans hIB⟩, _, bk_put1 HR1.out 0 _ rfl, ?_, (hB.trans hBW).setCell (Nat.le_refl _) _, ?_⟩
    · have := own_set hv' (p := ⟨w.heap.size, 0, none⟩) (by show w.heap.size < W0.heap.size; omega) (.slice A3 (pre.length + 1) c3)
      rw [show (pre ++ [x]).length = pre.length + 1 by simp, flat_append, flat_one]
      exact this
    · have := hBW.size; simp; omega
  case done =>
    rintro D ys W hD rfl ⟨v, hR, ho, hB, hZ⟩ hK
    obtain ⟨A, c, rfl⟩ := own_sl ho
    have c0 := bk_cell hR 0
    have f0 := bk_fro hR 0
    simp at c0
    have HR := Lib.hid hR
    have HO := Lib.hid ho
    clear hR ho
    gi_wp2
    have hK' := (KeepsOthers.setCell W ⟨w.heap.size, 0, none⟩ (.slice A f.all.length c)).same D _ hK rfl
    refine ⟨by simp, .inl ⟨_, _, rfl, run_takeDeferred hK', ?_⟩⟩
    have hR2 := heap_kept (bk_put1 HR.out 0 (.slice A f.all.length c) rfl) (grownBy_putObj' _ D (.deferred none)) (fun r e => by cases e; exact ⟨_, hK', rfl⟩)
    have hc5 := bk_cell hR2 0
    simp at hc5
    have hO2 := own_far (own_set HO.out (p := ⟨w.heap.size, 0, none⟩) (by show w.heap.size < W0.heap.size; omega) (.slice A f.all.length c)) (grownBy_putObj' _ D (.deferred none)) (fun r e => by cases e; exact ⟨_, hK', rfl⟩)
    refine ⟨.slice A f.all.length c, ?_, ⟨_, rfl, Sl.of_own inC_len (by decide) hO2, (bl_set hB (Nat.le_refl _) _).trans (belowK_b (w := w) (Nat.le_refl _) _ D _ _ (by omega) hK' rfl rfl)⟩⟩
    simp [results, Tryz.results120, go_sem, hc5]
  case stop =>
    rintro D cd pre W hD _ hF
    exact hF.elim
end Go.Proofs.YtjpagpplkldbkaaGreat
set_option linter.unusedVariables false
set_option linter.unusedSimpArgs false
namespace Go.Proofs.YtjpagpplkldbkaaGreat
open Go.RowKit WH
theorem lnZ : (Tryz.prog.info? 164).map (fun i => (i.zero, i.size, i.bytes)) = some (some (.agg #[.int .i64 0, .int .i64 0, .int .i64 0, .bool false]), 4, 32) := by kernel_rfl
structure RgM (W : World) (Rb : Nat) (r : Rg) (va vb : Value) : Prop where
  blk : W.heap[Rb]? = some (.cells (rgC r va vb) 123 (0, 0))
  a : W.ownsRow (Rb + 1) 164 4 va r.above.length (flat lnC r.above)
  b : W.ownsRow (Rb + 1) 164 4 vb r.below.length (flat lnC r.below)
  ap : ∀ x, va.ownBlock = some x → vb.ownBlock ≠ some x
section
variable {W W1 : World} {Rb : Nat} {r : Rg} {va vb : Value}
theorem RgM.below (h : RgM W Rb r va vb) (hb : Below W.heap.size W W1) : RgM W1 Rb r va vb := ⟨bk_below h.blk hb, own_bel h.a hb, own_bel h.b hb, h.ap⟩
theorem RgM.row (h : RgM W Rb r va vb) {r' : Rg} (hk : W1.heap[Rb]? = some (.cells (rgC r' va vb) 123 (0, 0))) (hg : W.grownBy W1 (some Rb)) (ha : r'.above = r.above) (hb : r'.below = r.below) : RgM W1 Rb r' va vb := by
  have ne : ∀ {v : Value} {n : Nat} {xs : List Value}, W.ownsRow (Rb + 1) 164 4 v n xs → v.ownBlock = none ∨ v.ownBlock ≠ some Rb := fun ho => by
    right
    intro e
    have := (ho.lt _ e).1
    omega
  exact ⟨hk, by rw [ha]; exact h.a.kept hg (ne h.a), by rw [hb]; exact h.b.kept hg (ne h.b), h.ap⟩
/-- What is as it was behind an append and the store of what it gave. -/
structure Beh (W2 W5 : World) (Rb : Nat) (v : Value) : Prop where
  blk : ∀ (b : Nat) (o : Obj), W2.heap[b]? = some o → b ≠ Rb → v.ownBlock ≠ some b → W5.heap[b]? = some o
  size : W2.heap.size ≤ W5.heap.size
  bel : ∀ (B : Nat) (w : World), B ≤ Rb → B ≤ W2.heap.size → Below B w W2 → Below B w W5
theorem beh_of {W2 W3 W4 : World} (o : Obj) {v v' : Value} {n i : Nat} {xs : List Value} (ho : W2.ownsRow (Rb + 1) 164 4 v n xs) (hS : Below W2.heap.size W2 W3) (hg : (W3.alloc o).grownBy W4 v.ownBlock) : Beh W2 (W4.setCell ⟨Rb, i, none⟩ v') Rb v := by
  refine ⟨fun b o' hb h1 h2 => bk_far (bk_grown (bk_alloc (bk_below hb hS) _) hg (fun e => h2 e.symm)) h1 _, ?_, fun B w h1 h2 h3 => ?_⟩
  · have := hS.size
    have := hg.size
    simp at this ⊢
    omega
  · refine Below.setCell (Below.grown (Below.alloc (h3.trans (hS.mono h2)) ?_ _) hg ?_ (fun k hk => ?_)) h1 _
    · exact Nat.le_trans h2 hS.size
    · have := hS.size; simp; omega
    · have := (ho.lt _ hk).1; omega
theorem rg_addA (h : RgM W Rb r va vb) {W3 W4 : World} (hS : Below W.heap.size W W3) (o : Obj) (l : Ln) {v' : Value} (hv : W4.ownsRow (Rb + 1) 164 4 v' (r.above.length + 1) (flat lnC (r.above ++ [l])))
    (hg : (W3.alloc o).grownBy W4 va.ownBlock) (hat : v'.ownBlock = va.ownBlock ∨ v'.ownBlock = some (W3.alloc o).heap.size) : RgM (W4.setCell ⟨Rb, 6, none⟩ v') Rb { r with above := r.above ++ [l] } v' vb := by
  have h3 := (h.below hS).below (bl_alloc (Below.refl _ _) o)
  have hR := bk_grown h3.blk hg (fun e => by have := (h3.a.lt _ e.symm).1; omega)
  refine ⟨bk_put1 hR 6 v' (by simp [rgC]), ?_, own_set (h3.b.kept hg (own_ne_of (fun x hx hx' => h.ap x hx' hx))) (by show Rb < Rb + 1; omega) _, ?_⟩
  · have := own_set hv (p := ⟨Rb, 6, none⟩) (by show Rb < Rb + 1; omega) v'
    simpa using this
  · intro x hx
    exact at_apart hat (fun b hb hb' => h.ap b hb' hb) (fun b hb => (h3.b.lt b hb).2) hx
theorem rg_addB (h : RgM W Rb r va vb) {W3 W4 : World} (hS : Below W.heap.size W W3) (o : Obj) (l : Ln) {v' : Value} (hv : W4.ownsRow (Rb + 1) 164 4 v' (r.below.length + 1) (flat lnC (r.below ++ [l])))
    (hg : (W3.alloc o).grownBy W4 vb.ownBlock) (hat : v'.ownBlock = vb.ownBlock ∨ v'.ownBlock = some (W3.alloc o).heap.size) : RgM (W4.setCell ⟨Rb, 7, none⟩ v') Rb { r with below := r.below ++ [l] } va v' := by
  have h3 := (h.below hS).below (bl_alloc (Below.refl _ _) o)
  have hR := bk_grown h3.blk hg (fun e => by have := (h3.b.lt _ e.symm).1; omega)
  refine ⟨bk_put1 hR 7 v' (by simp [rgC]), own_set (h3.a.kept hg (own_ne_of (fun x hx hx' => h.ap x hx hx'))) (by show Rb < Rb + 1; omega) _, ?_, ?_⟩
  · have := own_set hv (p := ⟨Rb, 7, none⟩) (by show Rb < Rb + 1; omega) v'
    simpa using this
  · intro x hx hx'
    exact at_apart hat (fun b hb => h.ap b hb) (fun b hb => (h3.a.lt b hb).2) hx' hx
end
end Go.Proofs.YtjpagpplkldbkaaGreat
set_option linter.unusedVariables false
set_option linter.unusedSimpArgs false
namespace Go.Proofs.YtjpagpplkldbkaaGreat
open Go.RowKit WH
section
variable {f : Fl}
theorem some_poss (hf : f.good) (hn : f.sol.empty = false) : ∃ g e, f.poss g e := (sol_empty hf).1 hn
/-- Where it is neither below one line nor above a lower one there is no case. -/
theorem no_gap (hf : f.good) (hn : f.sol.empty = false) {a b x y : Int} (ha : 0 ≤ x) (hx : x ≤ f.H) (hb : 0 ≤ y) (hy : y ≤ f.H) (h1 : f.under x a = false) (h2 : f.over y b = false)
    (h : ∀ g e, f.poss g e → (b : Rat) * g + f.tv y < (a : Rat) * g + f.tv x) : False := by
  obtain ⟨g, e, hp⟩ := some_poss hf hn
  have k1 : (a : Rat) * g + f.tv x ≤ e := Rat.not_lt.1 fun hl => by
    rw [(under_iff hf ha hx a).2 ⟨g, e, hp, hl⟩] at h1; cases h1
  have k2 : e ≤ (b : Rat) * g + f.tv y := Rat.not_lt.1 fun hl => by
    rw [(over_iff hf hb hy b).2 ⟨g, e, hp, hl⟩] at h2; cases h2
  have := h g e hp
  grind
theorem level_le (hf : f.good) (hn : f.sol.empty = false) (m : Int) : f.levelLo m ≤ f.levelHi m := by
  obtain ⟨a1, a2, a3, a4⟩ := levelLo_spec hf m
  obtain ⟨b1, b2, b3, b4⟩ := levelHi_spec hf m
  refine Int.not_lt.1 fun h => ?_
  exact no_gap hf hn (by omega) a2 b1 b2 (a3 _ (by omega) (Int.le_refl _)) (b4 _ (Int.le_refl _) (by omega)) (fun g e hp => by
    have := tv_lt hf.v b1 h a2
    grind)
theorem reach_le (hf : f.good) (hn : f.sol.empty = false) {x : Int} (h0 : 0 ≤ x) (h1 : x ≤ f.H) : f.reachLo x ≤ f.reachHi x := by
  obtain ⟨a1, a2, a3, a4⟩ := reachLo_spec hf h0 h1
  obtain ⟨b1, b2, b3, b4⟩ := reachHi_spec hf h0 h1
  refine Int.not_lt.1 fun h => ?_
  exact no_gap hf hn h0 h1 h0 h1 (a3 _ (by omega) (Int.le_refl _)) (b4 _ (Int.le_refl _)) (fun g e hp => line_lt (poss_g hp).1 h)
theorem level_later (hf : f.good) {m n : Int} (h : m ≤ n) : f.levelLo n ≤ f.levelLo m ∧ f.levelHi n ≤ f.levelHi m := by
  have h0 : 0 ≤ f.H := by have := H_bd hf.v; omega
  refine ⟨out_lo_anti h0 (lvl_lo_mono hf m) (lvl_lo_mono hf n) fun x a b p => ?_, out_hi_mono h0 (lvl_hi_mono hf n) (lvl_hi_mono hf m) fun x a b p => ?_⟩
  · simp only [Bool.and_eq_true, decide_eq_true_eq] at p ⊢
    exact ⟨a, under_mono hf (by omega) (Int.le_refl x) b h p.2⟩
  · exact over_anti hf a (Int.le_refl x) (by omega) h p
theorem reach_lower (hf : f.good) {x y : Int} (h0 : 0 ≤ x) (h : x ≤ y) (h1 : y ≤ f.H) : f.reachLo y ≤ f.reachLo x ∧ f.reachHi y ≤ f.reachHi x := by
  refine ⟨out_lo_anti (by omega) (rch_lo_mono hf h0 (by omega)) (rch_lo_mono hf (by omega) h1) fun m a b p => ?_, out_hi_mono (by omega) (rch_hi_mono hf (by omega) h1) (rch_hi_mono hf h0 (by omega)) fun m a b p => ?_⟩
  · simp only [Bool.and_eq_true, decide_eq_true_eq] at p ⊢
    exact ⟨a, under_mono hf h0 h h1 (Int.le_refl m) p.2⟩
  · exact over_anti hf h0 h h1 (Int.le_refl m) p
theorem sure_ever (hf : f.good) (hn : f.sol.empty = false) {x m : Int} (h0 : 0 ≤ x) (h1 : x ≤ f.H) (h : f.over x m = false) : f.ever x m = true := by
  obtain ⟨g, e, hp⟩ := some_poss hf hn
  refine (ever_iff hf h0 h1 m).2 ⟨g, e, hp, Rat.not_lt.1 fun hl => ?_⟩
  rw [(over_iff hf h0 h1 m).2 ⟨g, e, hp, hl⟩] at h
  cases h
theorem sure_iff (hf : f.good) {x m : Int} (h0 : 0 ≤ x) (h1 : x ≤ f.H) (hm : 0 ≤ m) : f.over x m = false ↔ f.reachHi x ≤ m := by
  obtain ⟨b1, b2, b3, b4⟩ := reachHi_spec hf h0 h1
  constructor
  · intro h
    refine Int.not_lt.1 fun hl => ?_
    rw [b3 m hm hl] at h; cases h
  · exact b4 m
theorem ever_not (hf : f.good) {x m : Int} (h0 : 0 ≤ x) (h1 : x ≤ f.H) (h : m < f.reachLo x) (hm : 0 ≤ m) : f.ever x m = false := by
  obtain ⟨a1, a2, a3, a4⟩ := reachLo_spec hf h0 h1
  refine Bool.eq_false_iff.2 fun he => ?_
  obtain ⟨g, e, hp, hl⟩ := (ever_iff hf h0 h1 m).1 he
  have := line_lt (t := f.tv x) (poss_g hp).1 h
  have hu := (under_iff hf h0 h1 (f.reachLo x)).2 ⟨g, e, hp, by grind⟩
  rw [a3 _ (by omega) (Int.le_refl _)] at hu
  cases hu
theorem ever_yes (hf : f.good) {x m : Int} (h0 : 0 ≤ x) (h1 : x ≤ f.H) (h : f.reachLo x < m) (hm : m ≤ 2097152) : f.ever x m = true := by
  obtain ⟨a1, a2, a3, a4⟩ := reachLo_spec hf h0 h1
  obtain ⟨g, e, hp, hl⟩ := (under_iff hf h0 h1 m).1 (a4 m h hm)
  exact (ever_iff hf h0 h1 m).2 ⟨g, e, hp, Rat.le_of_lt hl⟩
end
/-! Narrower wears. -/
section
variable {f : Fl}
def Fl.narrow (f : Fl) (n : Int) : Fl := { f with wl := n, wh := n }
theorem narrow_good (hf : f.good) {n : Int} (h1 : f.wl ≤ n) (h2 : n ≤ f.wh) : (f.narrow n).good := by
  obtain ⟨a, b, c, d, e⟩ := hf
  refine ⟨a, b, ?_, d, e⟩
  have := within_bd c
  unfold withinB Fl.narrow
  simp
  omega
theorem div_anti {a b : Rat} (ha : 0 < a) (h : a ≤ b) : (1000 : Rat) / b ≤ 1000 / a := by
  rw [le_div_iff ha]
  have hb : 0 < b := by grind
  have h1 : (1000 : Rat) / b * b = 1000 := by grind
  have h2 : (0 : Rat) ≤ 1000 / b := by rw [le_div_iff hb]; grind
  have := Rat.mul_le_mul_of_nonneg_left h h2
  grind
theorem narrow_poss (hf : f.good) {n : Int} (h1 : f.wl ≤ n) (h2 : n ≤ f.wh) (g e : Rat) : (f.narrow n).poss g e ↔ f.poss g e ∧ g = 1000 / (n : Rat) := by
  have hw := within_bd hf.wear
  have p1 := cast_pos (show 0 < f.wl by omega)
  have p2 := cast_pos (show 0 < n by omega)
  have d1 := div_anti p1 (cast_le' h1)
  have d2 := div_anti p2 (cast_le' h2)
  rw [poss_iff, poss_iff]
  have e1 : (f.narrow n).base g e ↔ f.base g e := Iff.rfl
  have e2 : (f.narrow n).item (-1) g e ↔ f.item (-1) g e := Iff.rfl
  have e3 : ∀ i : Nat, ((f.narrow n).item i g e ↔ f.item i g e) := by
    intro i
    unfold Fl.item
    rw [if_neg (by omega), if_neg (by omega), if_neg (by omega), if_neg (by omega)]
    exact Iff.rfl
  have e4 : (f.narrow n).item (-2) g e ↔ g = 1000 / (n : Rat) := by
    unfold Fl.item
    rw [if_pos rfl]
    show (1000 : Rat) / (n : Rat) ≤ g ∧ g ≤ 1000 / (n : Rat) ↔ _
    constructor
    · rintro ⟨a, b⟩; grind
    · intro h; rw [h]; exact ⟨Rat.le_refl, Rat.le_refl⟩
  have e5 : f.item (-2) g e ↔ 1000 / (f.wh : Rat) ≤ g ∧ g ≤ 1000 / (f.wl : Rat) := by
    unfold Fl.item
    rw [if_pos rfl]
  rw [e1, e2, e4, e5]
  have e3' : (∀ i : Nat, i < (f.narrow n).seen.length → (f.narrow n).item i g e) ↔ ∀ i : Nat, i < f.seen.length → f.item i g e := forall_congr' fun i => forall_congr' fun _ => e3 i
  rw [e3']
  constructor
  · rintro ⟨a, b, c, d⟩; exact ⟨⟨a, ⟨by grind, by grind⟩, c, d⟩, b⟩
  · rintro ⟨⟨a, b, c, d⟩, h⟩; exact ⟨a, h, c, d⟩
theorem lo_pos {r : Rg} (hr : r.tidy) : 1 ≤ r.lo.r.n ∧ 1 ≤ r.lo.r.d := ⟨hr.lo.n0, hr.lo.d0⟩
theorem hi_pos {r : Rg} (hr : r.tidy) : 1 ≤ r.hi.r.n ∧ 1 ≤ r.hi.r.d := ⟨hr.hi.n0, hr.hi.d0⟩
/-- With the wear narrowed to a number there is a case exactly if this lies between the bounds. -/
theorem narrow_law (hf : f.good) {n : Int} (h1 : f.wl ≤ n) (h2 : n ≤ f.wh) :
    (f.narrow n).sol.empty = (f.sol.empty || !(decide (f.lo.n ≤ n * f.lo.d) && decide (n * f.hi.d ≤ f.hi.n))) := by
  have hg := narrow_good hf h1 h2
  have hw := within_bd hf.wear
  have p2 := cast_pos (show 0 < n by omega)
  have key : (f.narrow n).sol.empty = false ↔ f.sol.empty = false ∧ f.lo.n ≤ n * f.lo.d ∧ n * f.hi.d ≤ f.hi.n := by
    rw [sol_empty hg]
    simp only [narrow_poss hf h1 h2]
    have e1 : (∃ g e, f.poss g e ∧ g = 1000 / (n : Rat)) ↔ ∃ e, f.poss (1000 / (n : Rat)) e := by
      constructor
      · rintro ⟨g, e, h, rfl⟩; exact ⟨e, h⟩
      · rintro ⟨e, h⟩; exact ⟨_, e, h, rfl⟩
    rw [e1]
    have s := sol_tidy hf
    have e2 : f.lo.n ≤ n * f.lo.d ↔ 1000 / (n : Rat) ≤ f.sol.hi.r.v := by
      obtain ⟨a1, a2, a3⟩ := wearR_v (hi_pos s).1 (hi_pos s).2
      obtain ⟨b1, b2, b3, b4, b5, b6⟩ := wearR_spec (hi_pos s).1 (hi_pos s).2
      have q := cast_pos (show 0 < f.lo.d from b3)
      have e : f.lo.n ≤ n * f.lo.d ↔ f.lo.v ≤ (n : Rat) := by
        unfold Ra.v
        rw [div_le_iff q]
        exact_mod_cast Iff.rfl
      rw [e, show f.lo.v = 1000 / f.sol.hi.r.v from a1, div_le_iff a2, div_le_iff p2]
      constructor <;> intro h <;> grind
    have e3 : n * f.hi.d ≤ f.hi.n ↔ f.sol.lo.r.v ≤ 1000 / (n : Rat) := by
      obtain ⟨a1, a2, a3⟩ := wearR_v (lo_pos s).1 (lo_pos s).2
      obtain ⟨b1, b2, b3, b4, b5, b6⟩ := wearR_spec (lo_pos s).1 (lo_pos s).2
      have q := cast_pos (show 0 < f.hi.d from b3)
      have e : n * f.hi.d ≤ f.hi.n ↔ (n : Rat) ≤ f.hi.v := by
        unfold Ra.v
        rw [le_div_iff q]
        exact_mod_cast Iff.rfl
      rw [e, show f.hi.v = 1000 / f.sol.lo.r.v from a1, le_div_iff a2, le_div_iff p2]
      constructor <;> intro h <;> grind
    rw [e2, e3]
    constructor
    · rintro ⟨e, h⟩
      have hn := (sol_empty hf).2 ⟨_, e, h⟩
      have := (sol_span hf hn _).1 ⟨e, h⟩
      exact ⟨hn, this.2, this.1⟩
    · rintro ⟨hn, h3, h4⟩
      exact (sol_span hf hn _).2 ⟨h4, h3⟩
  cases h3 : (f.narrow n).sol.empty with
  | false =>
    obtain ⟨a, b, c⟩ := key.1 h3
    simp [a, b, c]
  | true =>
    symm
    refine (Bool.not_eq_false _).mp fun h => ?_
    simp only [Bool.or_eq_false_iff, Bool.not_eq_false', Bool.and_eq_true, decide_eq_true_eq] at h
    rw [key.2 ⟨h.1, h.2.1, h.2.2⟩] at h3
    cases h3
end
end Go.Proofs.YtjpagpplkldbkaaGreat
set_option linter.unusedVariables false
set_option linter.unusedSimpArgs false
namespace Go.Proofs.YtjpagpplkldbkaaGreat
open Go.RowKit WH
section
variable {f : Fl}
/-- The number g that belongs to a wear. -/
def gOf (w : Ra) : Rat := 1000 * (w.d : Rat) / (w.n : Rat)
theorem cast5 {k w d n m : Int} : (1000 * (k : Rat) * (w : Rat) * (d : Rat) ≤ (n : Rat) * (m : Rat)) ↔ 1000 * k * w * d ≤ n * m := by
  rw [← Rat.intCast_le_intCast (a := 1000 * k * w * d), Rat.intCast_mul, Rat.intCast_mul, Rat.intCast_mul, Rat.intCast_mul]
  exact Iff.rfl
theorem atL_spec {l u : Ln} (hl : Ln.ok l) (hu : Ln.ok u) {w : Ra} (h1 : 1 ≤ w.n) (h2 : 1 ≤ w.d) : atL l u w ≤ 0 ↔ l.at (gOf w) ≤ u.at (gOf w) := by
  have pl : l.t.pos := by have := hl.d0; show 0 < _; omega
  have pu : u.t.pos := by have := hu.d0; show 0 < _; omega
  have hd := less_pos pu pl
  have key := okPair_iff (l := { l with strict := false }) (u := { u with strict := false }) pl pu (gOf w)
  unfold okPair at key
  simp only [Bool.or_self, lq_false] at key
  have e1 : ({ l with strict := false } : Ln).at (gOf w) = l.at (gOf w) := rfl
  have e2 : ({ u with strict := false } : Ln).at (gOf w) = u.at (gOf w) := rfl
  rw [e1, e2] at key
  rw [key]
  unfold atL
  generalize hk : l.slope - u.slope = k
  generalize hn : lessN u.t l.t = n
  generalize hD : lessD u.t l.t = d at hd
  have q1 := cast_pos (show 0 < w.n by omega)
  have q2 := cast_pos (show 0 < w.d by omega)
  have q3 := cast_pos hd
  have e3 : ((k : Rat) * gOf w ≤ (n : Rat) / (d : Rat)) ↔ 1000 * k * w.d * d ≤ n * w.n := by
    rw [le_div_iff q3]
    unfold gOf
    rw [show (k : Rat) * (1000 * (w.d : Rat) / (w.n : Rat)) * (d : Rat) = (1000 * (k : Rat) * (w.d : Rat) * (d : Rat)) / (w.n : Rat) by grind, div_le_iff q1]
    exact cast5
  rw [e3]
  have p1 : 0 < w.d * d := Int.mul_pos (by omega) hd
  have e4 : 1000 * k * w.d * d = 1000 * (k * (w.d * d)) := by grind
  rw [e4]
  split
  · rename_i h
    have m1 : k * (w.d * d) ≤ 0 := Int.mul_nonpos_of_nonpos_of_nonneg h.1 (by omega)
    have m2 : 0 ≤ n * w.n := Int.mul_nonneg h.2 (by omega)
    split <;> (constructor <;> intro _ <;> omega)
  · split
    · rename_i h h'
      have m1 : 0 ≤ k * (w.d * d) := Int.mul_nonneg h'.1 (by omega)
      have m2 : n * w.n ≤ 0 := Int.mul_nonpos_of_nonpos_of_nonneg h'.2 (by omega)
      have m3 : 0 < k ∨ n < 0 := by omega
      constructor
      · intro h3; omega
      · intro h3
        exfalso
        rcases m3 with m3 | m3
        · have : 0 < k * (w.d * d) := Int.mul_pos m3 p1
          omega
        · have : n * w.n < 0 := Int.mul_neg_of_neg_of_pos m3 (by omega)
          omega
    · split
      · rename_i h h' h3
        unfold cmpI
        split
        · constructor <;> intro _ <;> omega
        · split <;> (constructor <;> intro _ <;> omega)
      · rename_i h h' h3
        have e5 : -1000 * k * w.d * d = -(1000 * (k * (w.d * d))) := by grind
        have e6 : -n * w.n = -(n * w.n) := by grind
        rw [e5, e6]
        unfold cmpI
        split
        · constructor <;> intro _ <;> omega
        · split <;> (constructor <;> intro _ <;> omega)
theorem regAt_within (hf : f.good) {r : Rg} (hr : r.tidy) (k : Int) (g : Rat) : (f.regAt r k).within g ↔ r.within g ∧ (k = -2 → 1000 / (f.wh : Rat) ≤ g ∧ g ≤ 1000 / (f.wl : Rat)) := by
  obtain ⟨w1, w2, w3⟩ := within_bd hf.wear
  by_cases h2 : k = -2
  · subst h2
    have f1 := wear_fit (n := f.wh) (by omega) w3
    have t1 := least_tidy hr f1 rfl
    have er : f.regAt r (-2) = (r.least ⟨⟨1000, f.wh⟩, false⟩).most ⟨⟨1000, f.wl⟩, false⟩ := rfl
    rw [er, most_within (b := ⟨⟨1000, f.wl⟩, false⟩) t1.whole.fine (show (0 : Int) < f.wl by omega) g, least_within (b := ⟨⟨1000, f.wh⟩, false⟩) hr.whole.fine (show (0 : Int) < f.wh by omega) g]
    simp only [lq_false, Ra.v]
    push_cast
    grind
  · have e : (f.regAt r k).lo = r.lo ∧ (f.regAt r k).hi = r.hi ∧ (f.regAt r k).empty = r.empty := by
      unfold Fl.regAt
      rw [if_neg h2]
      split
      · exact ⟨rfl, rfl, rfl⟩
      · split <;> exact ⟨rfl, rfl, rfl⟩
    unfold Rg.within
    rw [e.1, e.2.1, e.2.2]
    simp [h2]
theorem reg_within (hf : f.good) (l : List Int) (g : Rat) : (f.reg l).within g ↔ ((1 / 4 : Rat) ≤ g ∧ g ≤ 1000) ∧ (-2 ∈ l → 1000 / (f.wh : Rat) ≤ g ∧ g ≤ 1000 / (f.wl : Rat)) := by
  have key : ∀ (l : List Int) (r : Rg), r.tidy → ((l.foldl f.regAt r).within g ↔ r.within g ∧ (-2 ∈ l → 1000 / (f.wh : Rat) ≤ g ∧ g ≤ 1000 / (f.wl : Rat))) := by
    intro l
    induction l with
    | nil => intro r _; simp
    | cons k l ih =>
      intro r hr
      rw [List.foldl_cons, ih _ (regAt_spec hf hr k).1, regAt_within hf hr k]
      simp only [List.mem_cons]
      constructor
      · rintro ⟨⟨a, b⟩, c⟩
        exact ⟨a, fun h => h.elim (fun e => b e.symm) c⟩
      · rintro ⟨a, b⟩
        exact ⟨⟨a, fun e => b (.inl e.symm)⟩, fun h => b (.inr h)⟩
  unfold Fl.reg
  rw [key l f.reg0 (reg0_tidy hf.v)]
  refine and_congr ?_ Iff.rfl
  unfold Rg.within Fl.reg0
  simp only [lq_false, Ra.v]
  push_cast
  grind
theorem first_ln (hf : f.good) {k : Int} (h1 : -1 ≤ k) (h2 : k < f.seen.length) : Ln.ok (f.first k) ∧ (f.first k).strict = false ∧ (f.first k).slope ≤ 1048576 := by
  unfold Fl.first
  by_cases h : k = -1
  · rw [if_pos h]
    obtain ⟨a1, a2, a3, a4⟩ := lv_bd hf.look
    have hbd := look_bd hf.look
    exact ⟨T_ln hf.v a1 (by omega) (by omega) (by omega) false, rfl, by dsimp only; omega⟩
  · rw [if_neg h]
    have hk : k.toNat < f.seen.length := by omega
    rw [List.getElem?_eq_getElem hk]
    obtain ⟨⟨s1, s2, s3⟩, hl⟩ := okSn_bd (hf.seen _ (List.getElem_mem hk))
    obtain ⟨a1, a2, a3, a4⟩ := lv_bd hl
    have hbd := look_bd hl
    exact ⟨T_ln hf.v a1 (by omega) s1 (by omega) false, rfl, by dsimp only; omega⟩
theorem wear_g {w : Ra} (h1 : 1 ≤ w.n) (h2 : 1 ≤ w.d) {n : Int} (hn : 1 ≤ n) : (n * w.d ≤ w.n ↔ gOf w ≤ 1000 / (n : Rat)) ∧ (w.n ≤ n * w.d ↔ 1000 / (n : Rat) ≤ gOf w) := by
  have q1 := cast_pos (show 0 < w.n by omega)
  have q2 := cast_pos (show 0 < n by omega)
  unfold gOf
  constructor
  · rw [div_le_iff q1, show (1000 : Rat) / (n : Rat) * (w.n : Rat) = (1000 * (w.n : Rat)) / (n : Rat) by grind, le_div_iff q2]
    constructor
    · intro h; have : (n : Rat) * (w.d : Rat) ≤ (w.n : Rat) := by exact_mod_cast h
      grind
    · intro h; have : (n : Rat) * (w.d : Rat) ≤ (w.n : Rat) := by grind
      exact_mod_cast this
  · rw [le_div_iff q1, show (1000 : Rat) / (n : Rat) * (w.n : Rat) = (1000 * (w.n : Rat)) / (n : Rat) by grind, div_le_iff q2]
    constructor
    · intro h; have : (w.n : Rat) ≤ (n : Rat) * (w.d : Rat) := by exact_mod_cast h
      grind
    · intro h; have : (w.n : Rat) ≤ (n : Rat) * (w.d : Rat) := by grind
      exact_mod_cast this
/-- CheckCase's answer. -/
theorem cc_spec (hf : f.good) {w : Ra} (h1 : 1 ≤ w.n) (h2 : 1 ≤ w.d) {k : Int} (k1 : -1 ≤ k) (k2 : k < f.seen.length) :
    f.ccB w k = true ↔ f.poss (gOf w) ((f.first k).at (gOf w)) := by
  obtain ⟨w1, w2, w3⟩ := within_bd hf.wear
  obtain ⟨t1, t2⟩ := reg_spec hf f.all
  obtain ⟨l1, l2, l3⟩ := first_ln hf k1 k2
  have e1 := (wear_g h1 h2 w1).1
  have e2 := (wear_g h1 h2 (n := f.wh) (by omega)).2
  have e3 : f.poss (gOf w) ((f.first k).at (gOf w)) ↔ (f.reg f.all).sat (gOf w) ((f.first k).at (gOf w)) := (t2 _ _).symm
  rw [e3]
  unfold Fl.ccB Rg.sat
  simp only [Bool.and_eq_true, decide_eq_true_eq, List.all_eq_true]
  rw [reg_within hf, e1, e2]
  have m2 : (-2 : Int) ∈ f.all := mem_all.2 (by omega)
  have p1 := cast_pos (show 0 < f.wl by omega)
  have p2 := cast_pos (show 0 < f.wh by omega)
  have b1 : (1000 : Rat) / (f.wl : Rat) ≤ 1000 := by
    have := div_anti (show (0 : Rat) < 1 by grind) (show (1 : Rat) ≤ (f.wl : Rat) by exact_mod_cast w1)
    grind
  have b2 : (1 / 4 : Rat) ≤ 1000 / (f.wh : Rat) := by
    have := div_anti p2 (show (f.wh : Rat) ≤ 4000 from cast_le' w3)
    grind
  have ea : (∀ l ∈ (f.reg f.all).above, atL l (f.first k) w ≤ 0) ↔ ∀ l ∈ (f.reg f.all).above, lq l.strict (l.at (gOf w)) ((f.first k).at (gOf w)) := by
    refine forall_congr' fun l => forall_congr' fun hl => ?_
    rw [t1.plain.2.2.1 l hl, lq_false, atL_spec (t1.above l hl) l1 h1 h2]
  have eb : (∀ l ∈ (f.reg f.all).below, atL (f.first k) l w ≤ 0) ↔ ∀ l ∈ (f.reg f.all).below, lq l.strict ((f.first k).at (gOf w)) (l.at (gOf w)) := by
    refine forall_congr' fun l => forall_congr' fun hl => ?_
    rw [t1.plain.2.2.2 l hl, lq_false, atL_spec l1 (t1.below l hl) h1 h2]
  rw [ea, eb]
  constructor
  · rintro ⟨⟨⟨a, b⟩, c⟩, d⟩
    exact ⟨⟨⟨by grind, by grind⟩, fun _ => ⟨b, a⟩⟩, c, d⟩
  · rintro ⟨⟨⟨a, a'⟩, b⟩, c, d⟩
    exact ⟨⟨⟨(b m2).2, (b m2).1⟩, c⟩, d⟩
/-- The lines from below are the frame's and those by which the first level is known. -/
theorem above_first (k : Int) (r : Rg) (l : Ln) (h : l ∈ (f.regAt r k).above) : l ∈ r.above ∨ (-1 ≤ k ∧ k < f.seen.length ∧ l = f.first k) ∨ (k < -2 ∧ l ∈ (f.regAt r 0).above) := by
  by_cases h2 : k = -2
  · subst h2
    have e : (f.regAt r (-2)).above = r.above := (most_rest _ _).2.1.trans (least_rest _ _).2.1
    rw [e] at h
    exact .inl h
  · by_cases h1 : k = -1
    · subst h1
      have e : (f.regAt r (-1)).above = r.above ++ [⟨0, f.T (lvLo f.lv f.er), false⟩] := rfl
      rw [e] at h
      rcases List.mem_append.1 h with h | h
      · exact .inl h
      · exact .inr (.inl ⟨by omega, by omega, List.mem_singleton.1 h⟩)
    · cases h3 : f.seen[k.toNat]? with
      | none => rw [regAt_none h2 h1 h3] at h; exact .inl h
      | some s =>
        by_cases h0 : k < -2
        · refine .inr (.inr ⟨h0, ?_⟩)
          have h3' : f.seen[(0 : Int).toNat]? = some s := by rw [show (0 : Int).toNat = k.toNat by omega]; exact h3
          rw [regAt_some h2 h1 h3] at h
          rw [regAt_some (by omega) (by omega) h3']
          exact h
        · rw [regAt_some h2 h1 h3] at h
          rcases List.mem_append.1 h with h | h
          · exact .inl h
          · have hlt : k.toNat < f.seen.length := (List.getElem?_eq_some_iff.1 h3).1
            refine .inr (.inl ⟨by omega, by omega, ?_⟩)
            unfold Fl.first
            rw [if_neg h1, h3]
            split at h
            · exact List.mem_singleton.1 h
            · cases h
theorem above_all (l : Ln) (h : l ∈ (f.reg f.all).above) : l = ⟨0, ⟨0, 1⟩, false⟩ ∨ ∃ k : Int, -1 ≤ k ∧ k < f.seen.length ∧ l = f.first k := by
  have key : ∀ (ks : List Int) (r : Rg), (∀ k ∈ ks, -2 ≤ k) → l ∈ (ks.foldl f.regAt r).above → l ∈ r.above ∨ ∃ k : Int, -1 ≤ k ∧ k < f.seen.length ∧ l = f.first k := by
    intro ks
    induction ks with
    | nil => intro r _ h; exact .inl h
    | cons k ks ih =>
      intro r hk h
      rcases ih _ (fun x hx => hk x (List.mem_cons_of_mem _ hx)) h with h | h
      · rcases above_first k r l h with h | ⟨a, b, c⟩ | ⟨a, _⟩
        · exact .inl h
        · exact .inr ⟨k, a, b, c⟩
        · have := hk k List.mem_cons_self; omega
      · exact .inr h
  rcases key f.all f.reg0 (fun k hk => (mem_all.1 hk).1) h with h | h
  · exact .inl (List.mem_singleton.1 h)
  · exact .inr h
theorem first_above : f.first (-1) ∈ (f.reg f.all).above := by
  have mono : ∀ (ks : List Int) (r : Rg) (l : Ln), l ∈ r.above → l ∈ (ks.foldl f.regAt r).above := by
    intro ks
    induction ks with
    | nil => intro r l h; exact h
    | cons k ks ih =>
      intro r l h
      refine ih _ l ?_
      unfold Fl.regAt
      split
      · rw [(most_rest _ _).2.1, (least_rest _ _).2.1]; exact h
      · split
        · exact List.mem_append_left _ h
        · split
          · exact h
          · exact List.mem_append_left _ h
  have key : ∀ (ks : List Int) (r : Rg), -1 ∈ ks → f.first (-1) ∈ (ks.foldl f.regAt r).above := by
    intro ks
    induction ks with
    | nil => intro r h; cases h
    | cons k ks ih =>
      intro r h
      rcases List.mem_cons.1 h with h | h
      · rw [← h]
        refine mono ks _ _ ?_
        show _ ∈ r.above ++ [_]
        exact List.mem_append_right _ (List.mem_singleton.2 rfl)
      · exact ih _ h
  exact key f.all f.reg0 (mem_all.2 (by omega))
/-- In a possible case the first level can be one that is known by an item. -/
theorem case_first (hf : f.good) {g e : Rat} (hp : f.poss g e) : ∃ k : Int, -1 ≤ k ∧ k < f.seen.length ∧ f.poss g ((f.first k).at g) := by
  obtain ⟨t1, t2⟩ := reg_spec hf f.all
  have hs := (t2 g e).2 hp
  obtain ⟨a, ha, hall⟩ := highest ((f.reg f.all).above.map fun l => (l.at g, false)) (by simpa using t1.whole.some1)
  obtain ⟨l, hl, rfl⟩ := List.mem_map.1 ha
  have hmax : ∀ u ∈ (f.reg f.all).above, u.at g ≤ l.at g := fun u hu => by
    have := hall (u.at g, false) (List.mem_map.2 ⟨u, hu, rfl⟩) (l.at g) (lq_false.2 Rat.le_refl)
    exact lq_false.1 this
  have hle : l.at g ≤ e := by have := hs.2.1 l hl; exact lq_le this
  have good : ∀ k : Int, -1 ≤ k → k < f.seen.length → (f.first k).at g = l.at g → f.poss g ((f.first k).at g) := by
    intro k k1 k2 he
    refine (t2 _ _).1 ⟨hs.1, fun u hu => ?_, fun u hu => ?_⟩
    · rw [t1.plain.2.2.1 u hu, lq_false, he]; exact hmax u hu
    · rw [t1.plain.2.2.2 u hu, lq_false, he]
      have := lq_le (hs.2.2 u hu)
      grind
  rcases above_all l hl with h | ⟨k, k1, k2, h⟩
  · refine ⟨-1, by omega, by omega, good (-1) (by omega) (by omega) ?_⟩
    have h1 := hmax _ (first_above (f := f))
    have h2 : l.at g = 0 := by rw [h, at_zero]; unfold Ra.v; push_cast; grind
    have h3 : 0 ≤ (f.first (-1)).at g := by
      unfold Fl.first
      rw [if_pos rfl, at_zero]
      obtain ⟨a1, a2, a3, a4⟩ := lv_bd hf.look
      have hbd := look_bd hf.look
      have := tv_mono hf.v (Int.le_refl 0) a1 (show lvLo f.lv f.er ≤ f.H by omega)
      rw [tv_zero hf.v] at this
      exact this
    grind
  · exact ⟨k, k1, k2, good k k1 k2 (by rw [h])⟩
end
end Go.Proofs.YtjpagpplkldbkaaGreat
set_option linter.unusedVariables false
set_option linter.unusedSimpArgs false
namespace Go.Proofs.YtjpagpplkldbkaaGreat
open Go.RowKit WH
section
variable {f : Fl}
theorem half_cvx {P : Rat → Rat → Prop} (a b c : Rat) (h : ∀ g e, P g e ↔ a * g + b * e + c ≤ 0) : Cvx P := by
  intro g e g' e' s t hs ht hst h1 h2
  rw [h] at h1 h2 ⊢
  have k1 := Rat.mul_le_mul_of_nonneg_left h1 hs
  have k2 := Rat.mul_le_mul_of_nonneg_left h2 ht
  have e0 : a * ((s * g + t * g') / (s + t)) + b * ((s * e + t * e') / (s + t)) + c = (s * (a * g + b * e + c) + t * (a * g' + b * e' + c)) / (s + t) := by grind
  rw [e0, div_le_iff hst]
  grind
theorem _root_.WH.Cvx.and {P Q : Rat → Rat → Prop} (hP : Cvx P) (hQ : Cvx Q) : Cvx (fun g e => P g e ∧ Q g e) :=
  fun g e g' e' s t hs ht hst h1 h2 => ⟨hP g e g' e' s t hs ht hst h1.1 h2.1, hQ g e g' e' s t hs ht hst h1.2 h2.2⟩
theorem cvx_true : Cvx (fun _ _ => True) := fun _ _ _ _ _ _ _ _ _ _ _ => trivial
theorem _root_.WH.Cvx.imp {p : Prop} {P : Rat → Rat → Prop} (hP : Cvx P) : Cvx (fun g e => p → P g e) := fun g e g' e' s t hs ht hst h1 h2 hp => hP g e g' e' s t hs ht hst (h1 hp) (h2 hp)
theorem base_cvx : Cvx f.base := by
  have h1 : Cvx (fun g _ => (1 / 4 : Rat) ≤ g) := half_cvx (-1) 0 (1 / 4) fun g e => by constructor <;> intro h <;> grind
  have h2 : Cvx (fun g _ => g ≤ 1000) := half_cvx 1 0 (-1000) fun g e => by constructor <;> intro h <;> grind
  have h3 : Cvx (fun _ e => 0 ≤ e) := half_cvx 0 (-1) 0 fun g e => by constructor <;> intro h <;> grind
  have h4 : Cvx (fun _ e => e ≤ f.tv f.H) := half_cvx 0 1 (-f.tv f.H) fun g e => by constructor <;> intro h <;> grind
  exact h1.and (h2.and (h3.and h4))
theorem item_cvx (k : Int) : Cvx (f.item k) := by
  by_cases h2 : k = -2
  · have e : f.item k = fun g _ => (1000 : Rat) / (f.wh : Rat) ≤ g ∧ g ≤ (1000 : Rat) / (f.wl : Rat) := by funext g e; unfold Fl.item; rw [if_pos h2]
    rw [e]
    exact Cvx.and (half_cvx (-1) 0 ((1000 : Rat) / (f.wh : Rat)) fun g e => by constructor <;> intro h <;> grind) (half_cvx 1 0 (-((1000 : Rat) / (f.wl : Rat))) fun g e => by constructor <;> intro h <;> grind)
  · by_cases h1 : k = -1
    · have e : f.item k = fun _ e => f.tv (lvLo f.lv f.er) ≤ e ∧ e ≤ f.tv (lvHi f.H f.lv f.er) := by funext g e; unfold Fl.item; rw [if_neg h2, if_pos h1]
      rw [e]
      exact Cvx.and (half_cvx 0 (-1) (f.tv (lvLo f.lv f.er)) fun g e => by constructor <;> intro h <;> grind) (half_cvx 0 1 (-(f.tv (lvHi f.H f.lv f.er))) fun g e => by constructor <;> intro h <;> grind)
    · cases h3 : f.seen[k.toNat]? with
      | none =>
        have e : f.item k = fun _ _ => True := by funext g e; unfold Fl.item; rw [if_neg h2, if_neg h1, h3]
        rw [e]; exact cvx_true
      | some s =>
        have e : f.item k = fun g e => (0 < lvLo s.lv s.er → (s.lo : Rat) * g + f.tv (lvLo s.lv s.er) ≤ e) ∧ e ≤ (s.hi : Rat) * g + f.tv (lvHi f.H s.lv s.er) := by funext g e; unfold Fl.item; rw [if_neg h2, if_neg h1, h3]
        rw [e]
        exact Cvx.and (Cvx.imp (half_cvx (s.lo : Rat) (-1) (f.tv (lvLo s.lv s.er)) fun g e => by constructor <;> intro h <;> grind)) (half_cvx (-(s.hi : Rat)) 1 (-(f.tv (lvHi f.H s.lv s.er))) fun g e => by constructor <;> intro h <;> grind)
/-- Fewer items, more cases. -/
theorem apart_mono (hf : f.good) {l l' : List Int} (h : ∀ k ∈ l', k ∈ l) (ha : f.apart l' = true) : f.apart l = true := by
  rw [apart_iff hf] at ha ⊢
  rintro ⟨g, e, h1, h2⟩
  exact ha ⟨g, e, h1, fun k hk => h2 k (h k hk)⟩
theorem apart_nil (hf : f.good) : f.apart [] = false := by
  refine Bool.eq_false_iff.2 fun h => ?_
  rw [apart_iff hf] at h
  refine h ⟨1, 0, ⟨by grind, by grind, by grind, ?_⟩, by simp⟩
  have hH := H_bd hf.v
  have := tv_mono hf.v (Int.le_refl 0) (show 0 ≤ f.H by omega) (Int.le_refl _)
  rwa [tv_zero hf.v] at this
theorem but_mem {l : List Int} {i : Nat} {k : Int} (h : k ∈ but l i) : k ∈ l := by
  unfold but at h
  rcases List.mem_append.1 h with h | h
  · exact List.mem_of_mem_take h
  · exact List.mem_of_mem_drop h
theorem but_of {l : List Int} {i j : Nat} (hj : j < l.length) (h : j ≠ i) : l[j] ∈ but l i := by
  unfold but
  rw [List.mem_append]
  rcases Nat.lt_or_ge j i with h1 | h1
  · left
    rw [List.mem_take_iff_getElem]
    exact ⟨j, by omega, rfl⟩
  · right
    rw [List.mem_drop_iff_getElem]
    exact ⟨j - (i + 1), by omega, by congr 1; omega⟩
theorem but_but {l : List Int} {i j : Nat} (h : j < i) (hi : i < l.length) {k : Int} (hk : k ∈ but (but l i) j) : k ∈ but l j := by
  have ht : (l.take i).length = i := by simp; omega
  unfold but at hk ⊢
  rw [List.take_append_of_le_length (by omega), List.take_take, Nat.min_eq_left (by omega), List.drop_append_of_le_length (by omega), List.drop_take] at hk
  rcases List.mem_append.1 hk with hk | hk
  · exact List.mem_append_left _ hk
  · rcases List.mem_append.1 hk with hk | hk
    · exact List.mem_append_right _ (List.mem_of_mem_take hk)
    · refine List.mem_append_right _ (List.mem_of_mem_drop (i := i - j) ?_)
      rw [List.drop_drop, show j + 1 + (i - j) = i + 1 by omega]
      exact hk
theorem but_len {l : List Int} {i : Nat} (hi : i < l.length) : (but l i).length = l.length - 1 := by unfold but; simp; omega
theorem but_pw {l : List Int} {i : Nat} (h : l.Pairwise (· < ·)) : (but l i).Pairwise (· < ·) := by
  unfold but
  have := List.eraseIdx_eq_take_drop_succ l i
  rw [← this]
  exact h.sublist (List.eraseIdx_sublist l i)
theorem rising_of {l : List Int} (h : l.Pairwise (· < ·)) : rising l = true := by
  induction l with
  | nil => rfl
  | cons a l ih =>
    cases l with
    | nil => rfl
    | cons b l =>
      have h1 := (List.pairwise_cons.1 h).1 b List.mem_cons_self
      have h2 := ih (List.pairwise_cons.1 h).2
      simp [rising, h1, h2]
theorem rising_pw {l : List Int} (h : rising l = true) : l.Pairwise (· < ·) := by
  induction l with
  | nil => exact List.Pairwise.nil
  | cons a l ih =>
    cases l with
    | nil => simp
    | cons b l =>
      simp only [rising, Bool.and_eq_true, decide_eq_true_eq] at h
      have h2 := ih h.2
      refine List.pairwise_cons.2 ⟨fun x hx => ?_, h2⟩
      rcases List.mem_cons.1 hx with rfl | hx
      · exact h.1
      · have := (List.pairwise_cons.1 h2).1 x hx; omega
/-- Lists of items that contradict each other, none of which can be left out. -/
structure Fl.core (f : Fl) (l : List Int) : Prop where
  mem : ∀ k ∈ l, k ∈ f.all
  pw : l.Pairwise (· < ·)
  apart : f.apart l = true
  each : ∀ i, i < l.length → f.apart (but l i) = false
theorem clB_iff {l : List Int} : f.clB l = true ↔ f.core l := by
  unfold Fl.clB
  simp only [Bool.and_eq_true, List.all_eq_true, List.mem_range, Bool.not_eq_true']
  constructor
  · rintro ⟨⟨⟨a, b⟩, c⟩, d⟩
    refine ⟨fun k hk => mem_all.2 ?_, rising_pw b, c, d⟩
    have := a k hk
    unfold fromB at this
    simp at this
    omega
  · rintro ⟨a, b, c, d⟩
    refine ⟨⟨⟨fun k hk => ?_, rising_of b⟩, c⟩, d⟩
    have := mem_all.1 (a k hk)
    unfold fromB
    simp
    omega
theorem core_small (hf : f.good) {l : List Int} (h : f.core l) : 1 ≤ l.length ∧ l.length ≤ 3 := by
  constructor
  · rcases Nat.eq_zero_or_pos l.length with h0 | h0
    · have : l = [] := List.eq_nil_of_length_eq_zero h0
      subst this
      have := h.apart
      rw [apart_nil hf] at this
      cases this
    · exact h0
  · refine Nat.not_lt.1 fun hlt => ?_
    have ha := (apart_iff hf l).1 h.apart
    refine ha ?_
    obtain ⟨g, e, h1, h2⟩ := helly (base_cvx (f := f)) (item_cvx (f := f)) l hlt (fun i hi => by
      have hb := h.each i hi
      have : ¬ f.apart (but l i) = true := by rw [hb]; simp
      rw [apart_iff hf] at this
      obtain ⟨g, e, h1, h2⟩ := Classical.not_not.1 this
      exact ⟨g, e, h1, fun j hj hne => h2 _ (but_of hj hne)⟩)
    exact ⟨g, e, h1, h2⟩
theorem core_all (hf : f.good) {l : List Int} (h : f.core l) : f.apart f.all = true := apart_mono hf h.mem h.apart
theorem less_core (hf : f.good) : ∀ (k : Nat) (l : List Int) (i : Nat), l.length - i < k → (∀ x ∈ l, x ∈ f.all) → l.Pairwise (· < ·) → f.apart l = true → (∀ j, j < i → j < l.length → f.apart (but l j) = false) → f.core (f.less k l i)
  | 0, _, _, h, _, _, _, _ => absurd h (by omega)
  | k + 1, l, i, hk, h1, h2, h3, h4 => by
    unfold Fl.less
    split
    · rename_i hi
      split
      · rename_i ha
        refine less_core hf k (but l i) i (by rw [but_len hi]; omega) (fun x hx => h1 x (but_mem hx)) (but_pw h2) ha (fun j hj hl => ?_)
        rw [but_len hi] at hl
        refine Bool.eq_false_iff.2 fun hb => ?_
        have := apart_mono hf (l := but l j) (fun x hx => but_but hj hi hx) hb
        rw [h4 j hj (by omega)] at this
        cases this
      · rename_i ha
        refine less_core hf k l (i + 1) (by omega) h1 h2 h3 (fun j hj hl => ?_)
        rcases Nat.lt_or_ge j i with h5 | h5
        · exact h4 j h5 hl
        · obtain rfl : j = i := by omega
          simpa using ha
    · exact ⟨h1, h2, h3, fun j hj => h4 j (by omega) hj⟩
theorem all_pw : f.all.Pairwise (· < ·) := by
  unfold Fl.all
  rw [List.pairwise_map]
  exact List.Pairwise.imp (fun {a b} h => by omega) List.pairwise_lt_range
theorem clash_core (hf : f.good) (h : f.apart f.all = true) : f.core f.clash := by
  unfold Fl.clash
  rw [if_pos h]
  exact less_core hf _ _ _ (by omega) (fun x hx => hx) all_pw h (fun j hj => by omega)
end
end Go.Proofs.YtjpagpplkldbkaaGreat
set_option linter.unusedVariables false
set_option linter.unusedSimpArgs false
namespace Go.Proofs.YtjpagpplkldbkaaGreat
open Go.RowKit WH
section
variable {f : Fl}
def Sm (r : Rg) : Prop := r.lo.r.d ≤ 1048576000000 ∧ r.hi.r.d ≤ 1048576000000
def Low (ls : List Ln) : Prop := ∀ l ∈ ls, l.slope ≤ 1048576
theorem pair_sm {r : Rg} {l u : Ln} (h : Sm r) (hl : Ln.ok l) (hu : Ln.ok u) (sl : l.slope ≤ 1048576) (su : u.slope ≤ 1048576) : Sm (r.pair l u) := by
  obtain ⟨a1, a2, a3, a4⟩ := less_bd hu hl
  have b1 := hl.s0; have b3 := hu.s0
  have m : ∀ k : Int, 1 ≤ k → k ≤ 1048576 → lessD u.t l.t * k ≤ 1048576000000 := fun k k1 k2 => by
    have := Int.mul_le_mul a4 k2 (by omega) (by omega)
    omega
  unfold Rg.pair
  split
  · exact h
  · split
    · split
      · exact h
      · refine ⟨by rw [(most_rest _ _).1]; exact h.1, ?_⟩
        rcases most_pick r ⟨⟨lessN u.t l.t, lessD u.t l.t * (l.slope - u.slope)⟩, l.strict || u.strict⟩ with e | e <;> rw [e]
        · exact h.2
        · exact m _ (by omega) (by omega)
    · split
      · refine ⟨?_, by rw [(least_rest _ _).1]; exact h.2⟩
        rcases least_pick r ⟨⟨-lessN u.t l.t, lessD u.t l.t * -(l.slope - u.slope)⟩, l.strict || u.strict⟩ with e | e <;> rw [e]
        · exact h.1
        · exact m _ (by omega) (by omega)
      · exact h
theorem row_sm {l : Ln} (hl : Ln.ok l) (sl : l.slope ≤ 1048576) : ∀ (us : List Ln) (r : Rg), Sm r → (∀ u ∈ us, Ln.ok u) → Low us → Sm (r.row l us)
  | [], _, h, _, _ => h
  | u :: us, r, h, hu, su => row_sm hl sl us (r.pair l u) (pair_sm h hl (hu u List.mem_cons_self) sl (su u List.mem_cons_self)) (fun x hx => hu x (List.mem_cons_of_mem _ hx)) (fun x hx => su x (List.mem_cons_of_mem _ hx))
theorem pairs_sm : ∀ (ls us : List Ln) (r : Rg), Sm r → (∀ l ∈ ls, Ln.ok l) → Low ls → (∀ u ∈ us, Ln.ok u) → Low us → Sm (r.pairs ls us)
  | [], _, _, h, _, _, _, _ => h
  | l :: ls, us, r, h, hl, sl, hu, su => pairs_sm ls us (r.row l us) (row_sm (hl l List.mem_cons_self) (sl l List.mem_cons_self) us r h hu su) (fun x hx => hl x (List.mem_cons_of_mem _ hx)) (fun x hx => sl x (List.mem_cons_of_mem _ hx)) hu su
theorem low_app {a b : List Ln} (ha : Low a) (hb : Low b) : Low (a ++ b) := fun l hl => by
  rcases List.mem_append.1 hl with h | h
  · exact ha l h
  · exact hb l h
theorem regAt_sm (hf : f.good) {r : Rg} (h : Sm r) (ha : Low r.above) (hb : Low r.below) (k : Int) : Sm (f.regAt r k) ∧ Low (f.regAt r k).above ∧ Low (f.regAt r k).below := by
  by_cases h2 : k = -2
  · subst h2
    have er : f.regAt r (-2) = (r.least ⟨⟨1000, f.wh⟩, false⟩).most ⟨⟨1000, f.wl⟩, false⟩ := rfl
    obtain ⟨w1, w2, w3⟩ := within_bd hf.wear
    obtain ⟨a1, a2, a3, _⟩ := least_rest r ⟨⟨1000, f.wh⟩, false⟩
    obtain ⟨b1, b2, b3, _⟩ := most_rest (r.least ⟨⟨1000, f.wh⟩, false⟩) ⟨⟨1000, f.wl⟩, false⟩
    rw [er]
    refine ⟨⟨?_, ?_⟩, by rw [b2, a2]; exact ha, by rw [b3, a3]; exact hb⟩
    · rw [b1]
      rcases least_pick r ⟨⟨1000, f.wh⟩, false⟩ with e | e <;> rw [e]
      · exact h.1
      · dsimp only; omega
    · rcases most_pick (r.least ⟨⟨1000, f.wh⟩, false⟩) ⟨⟨1000, f.wl⟩, false⟩ with e | e <;> rw [e]
      · rw [a1]; exact h.2
      · dsimp only; omega
  · by_cases h1 : k = -1
    · subst h1
      have er : f.regAt r (-1) = { r with above := r.above ++ [⟨0, f.T (lvLo f.lv f.er), false⟩], below := r.below ++ [⟨0, f.T (lvHi f.H f.lv f.er), false⟩] } := rfl
      rw [er]
      refine ⟨h, low_app ha ?_, low_app hb ?_⟩ <;> (intro l hl; rw [List.mem_singleton.1 hl]; dsimp only; omega)
    · cases h3 : f.seen[k.toNat]? with
      | none => rw [regAt_none h2 h1 h3]; exact ⟨h, ha, hb⟩
      | some s =>
        rw [regAt_some h2 h1 h3]
        obtain ⟨⟨s1, s2, s3⟩, hl⟩ := okSn_bd (hf.seen s (List.mem_of_getElem? h3))
        refine ⟨h, low_app ha ?_, low_app hb ?_⟩
        · intro l hl
          split at hl
          · rw [List.mem_singleton.1 hl]; dsimp only; omega
          · cases hl
        · intro l hl; rw [List.mem_singleton.1 hl]; dsimp only; omega
theorem reg_sm (hf : f.good) (l : List Int) : Sm (f.reg l) ∧ Low (f.reg l).above ∧ Low (f.reg l).below := by
  have key : ∀ (l : List Int) (r : Rg), Sm r → Low r.above → Low r.below → Sm (l.foldl f.regAt r) ∧ Low (l.foldl f.regAt r).above ∧ Low (l.foldl f.regAt r).below := by
    intro l
    induction l with
    | nil => intro r h1 h2 h3; exact ⟨h1, h2, h3⟩
    | cons k l ih =>
      intro r h1 h2 h3
      obtain ⟨a, b, c⟩ := regAt_sm hf h1 h2 h3 k
      exact ih _ a b c
  refine key l f.reg0 ⟨by unfold Fl.reg0; dsimp only; omega, by unfold Fl.reg0; dsimp only; omega⟩ ?_ ?_ <;> (intro l hl; rw [List.mem_singleton.1 hl]; dsimp only; omega)
theorem sol_sm (hf : f.good) : Sm f.sol := by
  obtain ⟨h1, h2, h3⟩ := reg_sm hf f.all
  have ht := (reg_spec hf f.all).1
  exact pairs_sm _ _ _ h1 ht.above h2 ht.below h3
/-- The ends of the wear: positive, and not too great. -/
theorem lo_bd (hf : f.good) : 1 ≤ f.lo.n ∧ f.lo.n ≤ 1048576000000000 ∧ 1 ≤ f.lo.d ∧ f.lo.d ≤ 480000000000 := by
  have ht := sol_tidy hf
  obtain ⟨a1, a2, a3, a4, _⟩ := wearR_spec ht.hi.n0 ht.hi.d0
  have h1 := ht.hi.n1
  have h2 := (sol_sm hf).2
  have e : f.lo = wearR f.sol.hi.r := rfl
  rw [e]
  refine ⟨a1, by omega, a3, by omega⟩
theorem hi_bd (hf : f.good) : 1 ≤ f.hi.n ∧ f.hi.n ≤ 1048576000000000 ∧ 1 ≤ f.hi.d ∧ f.hi.d ≤ 480000000000 := by
  have ht := sol_tidy hf
  obtain ⟨a1, a2, a3, a4, _⟩ := wearR_spec ht.lo.n0 ht.lo.d0
  have h1 := ht.lo.n1
  have h2 := (sol_sm hf).1
  have e : f.hi = wearR f.sol.lo.r := rfl
  rw [e]
  refine ⟨a1, by omega, a3, by omega⟩
theorem gOf_wear {r : Ra} (h1 : 1 ≤ r.n) (h2 : 1 ≤ r.d) : gOf (wearR r) = r.v := by
  obtain ⟨a1, a2, a3, a4, a5, a6⟩ := wearR_spec h1 h2
  have p1 := cast_pos (show 0 < r.n by omega)
  have p2 := cast_pos (show 0 < r.d by omega)
  have p3 := cast_pos (show 0 < (wearR r).n by omega)
  have p4 := cast_pos (show 0 < (wearR r).d by omega)
  have e : ((wearR r).n : Rat) * (r.n : Rat) = 1000 * (r.d : Rat) * ((wearR r).d : Rat) := cast4 a5
  unfold gOf Ra.v
  generalize ((wearR r).n : Rat) = A at *
  generalize ((wearR r).d : Rat) = B at *
  generalize (r.n : Rat) = C at *
  generalize (r.d : Rat) = D at *
  grind
/-- A case that is possible at a number g is one that CheckCase accepts, with some item. -/
theorem case_at (hf : f.good) {w : Ra} (h1 : 1 ≤ w.n) (h2 : 1 ≤ w.d) (h3 : w.n ≤ 1125899906842624) (h4 : w.d ≤ 1125899906842624) {e : Rat} (hp : f.poss (gOf w) e) : ∃ k : Int, -1 ≤ k ∧ k < f.seen.length ∧ f.ccErr w k = 0 := by
  obtain ⟨k, k1, k2, k3⟩ := case_first hf hp
  refine ⟨k, k1, k2, ?_⟩
  have := (cc_spec hf h1 h2 k1 k2).2 k3
  unfold Fl.ccErr
  rw [if_pos (good_iff.2 hf), if_pos (by unfold fromB; simp; omega), if_pos this]
theorem lo_case (hf : f.good) (hn : f.sol.empty = false) : ∃ k : Int, -1 ≤ k ∧ k < f.seen.length ∧ f.ccErr f.lo k = 0 := by
  have ht := sol_tidy hf
  obtain ⟨a1, a2, a3, a4⟩ := lo_bd hf
  have eg : gOf f.lo = f.sol.hi.r.v := gOf_wear ht.hi.n0 ht.hi.d0
  obtain ⟨g, e, hp⟩ := some_poss hf hn
  have hs := (sol_span hf hn g).1 ⟨e, hp⟩
  obtain ⟨e2, hp2⟩ := (sol_span hf hn f.sol.hi.r.v).2 ⟨by grind, Rat.le_refl⟩
  exact case_at hf a1 a3 (by omega) (by omega) (by rw [eg]; exact hp2)
theorem hi_case (hf : f.good) (hn : f.sol.empty = false) : ∃ k : Int, -1 ≤ k ∧ k < f.seen.length ∧ f.ccErr f.hi k = 0 := by
  have ht := sol_tidy hf
  obtain ⟨a1, a2, a3, a4⟩ := hi_bd hf
  have eg : gOf f.hi = f.sol.lo.r.v := gOf_wear ht.lo.n0 ht.lo.d0
  obtain ⟨g, e, hp⟩ := some_poss hf hn
  have hs := (sol_span hf hn g).1 ⟨e, hp⟩
  obtain ⟨e2, hp2⟩ := (sol_span hf hn f.sol.lo.r.v).2 ⟨Rat.le_refl, by grind⟩
  exact case_at hf a1 a3 (by omega) (by omega) (by rw [eg]; exact hp2)
/-- What CheckCase accepts. -/
theorem cc_zero {w : Ra} {k : Int} (h : f.ccErr w k = 0) : f.good ∧ (1 ≤ w.n ∧ w.n ≤ 1125899906842624) ∧ (1 ≤ w.d ∧ w.d ≤ 1125899906842624) ∧ (-1 ≤ k ∧ k < f.seen.length) ∧ f.ccB w k = true := by
  unfold Fl.ccErr at h
  by_cases h1 : f.okB = true
  · rw [if_pos h1] at h
    by_cases h2 : (fromB w.n 1 1125899906842624 && fromB w.d 1 1125899906842624 && fromB k (-1) ((f.seen.length : Int) - 1)) = true
    · rw [if_pos h2] at h
      by_cases h3 : f.ccB w k = true
      · unfold fromB at h2
        simp at h2
        exact ⟨good_iff.1 h1, by omega, by omega, by omega, h3⟩
      · rw [if_neg h3] at h; cases h
    · rw [if_neg h2] at h; cases h
  · rw [if_neg h1] at h; cases h
theorem cc_poss {w : Ra} {k : Int} (h : f.ccErr w k = 0) : f.sol.empty = false := by
  obtain ⟨hf, ⟨a, _⟩, ⟨b, _⟩, ⟨c, d⟩, e⟩ := cc_zero h
  exact (sol_empty hf).2 ⟨_, _, (cc_spec hf a b c d).1 e⟩
/-- A case that CheckCase accepts has a wear between the ends. -/
theorem cc_span {w : Ra} {k : Int} (h : f.ccErr w k = 0) : f.lo.n * w.d ≤ w.n * f.lo.d ∧ w.n * f.hi.d ≤ f.hi.n * w.d := by
  obtain ⟨hf, ⟨a, _⟩, ⟨b, _⟩, ⟨c, d⟩, e⟩ := cc_zero h
  have hn := cc_poss h
  have ht := sol_tidy hf
  obtain ⟨s1, s2⟩ := (sol_span hf hn (gOf w)).1 ⟨_, (cc_spec hf a b c d).1 e⟩
  obtain ⟨a1, _, a3, _⟩ := lo_bd hf
  obtain ⟨b1, _, b3, _⟩ := hi_bd hf
  have eg : gOf f.lo = f.sol.hi.r.v := gOf_wear ht.hi.n0 ht.hi.d0
  have eh : gOf f.hi = f.sol.lo.r.v := gOf_wear ht.lo.n0 ht.lo.d0
  rw [← eg] at s2
  rw [← eh] at s1
  have key : ∀ {x y : Ra}, 1 ≤ x.n → 1 ≤ x.d → 1 ≤ y.n → 1 ≤ y.d → gOf x ≤ gOf y → y.n * x.d ≤ x.n * y.d := by
    intro x y x1 x2 y1 y2 hxy
    have q1 := cast_pos (show 0 < x.n by omega)
    have q2 := cast_pos (show 0 < y.n by omega)
    unfold gOf at hxy
    rw [div_le_iff q1, show (1000 : Rat) * (y.d : Rat) / (y.n : Rat) * (x.n : Rat) = (1000 * (y.d : Rat) * (x.n : Rat)) / (y.n : Rat) by grind, le_div_iff q2] at hxy
    have : (y.n : Rat) * (x.d : Rat) ≤ (x.n : Rat) * (y.d : Rat) := by grind
    exact_mod_cast this
  have := key a b a1 a3 s2
  have := key b1 b3 a b s1
  omega
end
end Go.Proofs.YtjpagpplkldbkaaGreat
set_option linter.unusedVariables false
set_option linter.unusedSimpArgs false
namespace Go.Proofs.YtjpagpplkldbkaaGreat
open Go.RowKit WH
theorem ediv_mono {a b c d : Int} (hb : 0 < b) (hd : 0 < d) (h : a * d ≤ c * b) : a / b ≤ c / d := by
  rw [Int.le_ediv_iff_mul_le hd]
  have h1 : a / b * b ≤ a := Int.ediv_mul_le a (by omega)
  have h2 : a / b * b * d ≤ a * d := Int.mul_le_mul_of_nonneg_right h1 (by omega)
  have h3 : a / b * d * b ≤ c * b := by
    have : a / b * d * b = a / b * b * d := by grind
    omega
  exact Int.le_of_mul_le_mul_right h3 hb
theorem eceil_iff {n d c : Int} (hd : 0 < d) : (n + d - 1) / d ≤ c ↔ n ≤ c * d := by
  constructor
  · intro h
    have h1 := Int.emod_add_mul_ediv (n + d - 1) d
    have h2 := Int.emod_lt_of_pos (n + d - 1) hd
    have h3 : (n + d - 1) / d * d ≤ c * d := Int.mul_le_mul_of_nonneg_right h (by omega)
    have h4 : d * ((n + d - 1) / d) = (n + d - 1) / d * d := Int.mul_comm _ _
    omega
  · intro h
    have : (n + d - 1) / d < c + 1 := by
      rw [Int.ediv_lt_iff_lt_mul hd]
      have : (c + 1) * d = c * d + d := by grind
      omega
    omega
theorem eceil_mono {a b c d : Int} (hb : 0 < b) (hd : 0 < d) (h : a * d ≤ c * b) : (a + b - 1) / b ≤ (c + d - 1) / d := by
  rw [eceil_iff hb]
  have h1 := (eceil_iff (n := c) (c := (c + d - 1) / d) hd).1 (Int.le_refl _)
  generalize (c + d - 1) / d = q at *
  have h2 : c * b ≤ q * d * b := Int.mul_le_mul_of_nonneg_right h1 (by omega)
  have h3 : a * d ≤ q * b * d := by
    have : q * b * d = q * d * b := by grind
    omega
  exact Int.le_of_mul_le_mul_right h3 hd
section
variable {f g : Fl}
/-- The cases of g are among those of f. -/
def Sub (g f : Fl) : Prop := ∀ a e, g.poss a e → f.poss a e
theorem sub_some (hf : f.good) (hg : g.good) (hs : Sub g f) (hn : g.sol.empty = false) : f.sol.empty = false := by
  obtain ⟨a, e, h⟩ := some_poss hg hn
  exact (sol_empty hf).2 ⟨a, e, hs a e h⟩
theorem sub_ends (hf : f.good) (hg : g.good) (hs : Sub g f) (hn : g.sol.empty = false) : f.sol.lo.r.v ≤ g.sol.lo.r.v ∧ g.sol.hi.r.v ≤ f.sol.hi.r.v := by
  obtain ⟨a, e, h⟩ := some_poss hg hn
  have h1 := (sol_span hg hn a).1 ⟨e, h⟩
  have hfn := sub_some hf hg hs hn
  obtain ⟨e1, h2⟩ := (sol_span hg hn g.sol.lo.r.v).2 ⟨Rat.le_refl, by grind⟩
  obtain ⟨e2, h3⟩ := (sol_span hg hn g.sol.hi.r.v).2 ⟨by grind, Rat.le_refl⟩
  exact ⟨((sol_span hf hfn _).1 ⟨_, hs _ _ h2⟩).1, ((sol_span hf hfn _).1 ⟨_, hs _ _ h3⟩).2⟩
theorem wear_le {r s : Ra} (h1 : 1 ≤ r.n) (h2 : 1 ≤ r.d) (h3 : 1 ≤ s.n) (h4 : 1 ≤ s.d) (h : r.v ≤ s.v) : (wearR s).n * (wearR r).d ≤ (wearR r).n * (wearR s).d := by
  obtain ⟨a1, a2, a3, a4, a5, a6⟩ := wearR_spec h1 h2
  obtain ⟨b1, b2, b3, b4, b5, b6⟩ := wearR_spec h3 h4
  have e1 := gOf_wear h1 h2
  have e2 := gOf_wear h3 h4
  rw [← e1, ← e2] at h
  have q1 := cast_pos (show 0 < (wearR r).n by omega)
  have q2 := cast_pos (show 0 < (wearR s).n by omega)
  unfold gOf at h
  generalize (wearR r) = x at *
  generalize (wearR s) = y at *
  rw [div_le_iff q1, show (1000 : Rat) * (y.d : Rat) / (y.n : Rat) * (x.n : Rat) = (1000 * (y.d : Rat) * (x.n : Rat)) / (y.n : Rat) by grind, le_div_iff q2] at h
  have : (y.n : Rat) * (x.d : Rat) ≤ (x.n : Rat) * (y.d : Rat) := by grind
  exact_mod_cast this
/-- The wear, rounded outward, is not wider. -/
theorem sub_wear (hf : f.good) (hg : g.good) (hs : Sub g f) (hn : g.sol.empty = false) : f.lo.n / f.lo.d ≤ g.lo.n / g.lo.d ∧ (g.hi.n + g.hi.d - 1) / g.hi.d ≤ (f.hi.n + f.hi.d - 1) / f.hi.d := by
  obtain ⟨s1, s2⟩ := sub_ends hf hg hs hn
  have tf := sol_tidy hf
  have tg := sol_tidy hg
  obtain ⟨_, _, a3, _⟩ := lo_bd hf
  obtain ⟨_, _, b3, _⟩ := lo_bd hg
  obtain ⟨_, _, c3, _⟩ := hi_bd hf
  obtain ⟨_, _, d3, _⟩ := hi_bd hg
  exact ⟨ediv_mono (by omega) (by omega) (wear_le tg.hi.n0 tg.hi.d0 tf.hi.n0 tf.hi.d0 s2), eceil_mono (by omega) (by omega) (wear_le tf.lo.n0 tf.lo.d0 tg.lo.n0 tg.lo.d0 s1)⟩
theorem sub_under (hf : f.good) (hg : g.good) (hs : Sub g f) (hv : g.v = f.v) {x m : Int} (h0 : 0 ≤ x) (h1 : x ≤ f.H) (h : g.under x m = true) : f.under x m = true := by
  have hH : g.H = f.H := by unfold Fl.H; rw [hv]
  have ht : g.tv x = f.tv x := by unfold Fl.tv Fl.T; rw [hv]
  obtain ⟨a, e, hp, hl⟩ := (under_iff hg h0 (by omega) m).1 h
  rw [ht] at hl
  exact (under_iff hf h0 h1 m).2 ⟨a, e, hs a e hp, hl⟩
theorem sub_over (hf : f.good) (hg : g.good) (hs : Sub g f) (hv : g.v = f.v) {x m : Int} (h0 : 0 ≤ x) (h1 : x ≤ f.H) (h : g.over x m = true) : f.over x m = true := by
  have hH : g.H = f.H := by unfold Fl.H; rw [hv]
  have ht : g.tv x = f.tv x := by unfold Fl.tv Fl.T; rw [hv]
  obtain ⟨a, e, hp, hl⟩ := (over_iff hg h0 (by omega) m).1 h
  rw [ht] at hl
  exact (over_iff hf h0 h1 m).2 ⟨a, e, hs a e hp, hl⟩
theorem sub_reach (hf : f.good) (hg : g.good) (hs : Sub g f) (hv : g.v = f.v) {x : Int} (h0 : 0 ≤ x) (h1 : x ≤ f.H) : f.reachLo x ≤ g.reachLo x ∧ g.reachHi x ≤ f.reachHi x := by
  have hH : g.H = f.H := by unfold Fl.H; rw [hv]
  refine ⟨out_lo_anti (by omega) (rch_lo_mono hg h0 (by omega)) (rch_lo_mono hf h0 h1) fun m a b p => ?_, out_hi_mono (by omega) (rch_hi_mono hg h0 (by omega)) (rch_hi_mono hf h0 h1) fun m a b p => sub_over hf hg hs hv h0 h1 p⟩
  simp only [Bool.and_eq_true, decide_eq_true_eq] at p ⊢
  exact ⟨a, sub_under hf hg hs hv h0 h1 p.2⟩
theorem sub_level (hf : f.good) (hg : g.good) (hs : Sub g f) (hv : g.v = f.v) (m : Int) : f.levelLo m ≤ g.levelLo m ∧ g.levelHi m ≤ f.levelHi m := by
  have hH : g.H = f.H := by unfold Fl.H; rw [hv]
  have h0 : 0 ≤ f.H := by have := H_bd hf.v; omega
  unfold Fl.levelLo Fl.levelHi
  have ml := lvl_lo_mono hg m
  have mh := lvl_hi_mono hg m
  rw [hH] at ml mh ⊢
  refine ⟨out_lo_anti h0 ml (lvl_lo_mono hf m) fun n a b p => ?_, out_hi_mono h0 mh (lvl_hi_mono hf m) fun n a b p => sub_over hf hg hs hv a (by omega) p⟩
  simp only [Bool.and_eq_true, decide_eq_true_eq] at p ⊢
  exact ⟨a, sub_under hf hg hs hv (by omega) b p.2⟩
/-- A filling with a further reading. -/
def Fl.more (f : Fl) (s : Sn) : Fl := { f with seen := f.seen ++ [s] }
theorem more_good (hf : f.good) (hl : f.seen.length ≤ 23) (s : Sn) : (f.more s).good ↔ okSn f.H s = true := by
  constructor
  · intro h; exact h.seen s (by unfold Fl.more; simp)
  · intro h
    refine ⟨hf.v, hf.look, hf.wear, by unfold Fl.more; simp; omega, fun u hu => ?_⟩
    rcases List.mem_append.1 hu with h1 | h1
    · exact hf.seen u h1
    · rw [List.mem_singleton.1 h1]; exact h
theorem item_same (hv : g.v = f.v) (hw : g.wl = f.wl ∧ g.wh = f.wh) (hl : g.lv = f.lv ∧ g.er = f.er) {i j : Nat} (hs : g.seen[i]? = f.seen[j]?) (a e : Rat) : (g.item (-2) a e ↔ f.item (-2) a e) ∧ (g.item (-1) a e ↔ f.item (-1) a e) ∧ (g.item i a e ↔ f.item j a e) := by
  have hH : g.H = f.H := by unfold Fl.H; rw [hv]
  have ht : ∀ x, g.tv x = f.tv x := fun x => by unfold Fl.tv Fl.T; rw [hv]
  refine ⟨?_, ?_, ?_⟩
  · unfold Fl.item; rw [if_pos rfl, if_pos rfl, hw.1, hw.2]
  · unfold Fl.item; rw [if_neg (by decide), if_pos rfl, if_neg (by decide), if_pos rfl, hl.1, hl.2, ht, ht, hH]
  · unfold Fl.item
    rw [if_neg (by omega), if_neg (by omega), if_neg (by omega), if_neg (by omega)]
    simp only [Int.toNat_natCast, hs, ht, hH]
theorem base_same (hv : g.v = f.v) (a e : Rat) : g.base a e ↔ f.base a e := by
  have hH : g.H = f.H := by unfold Fl.H; rw [hv]
  have ht : ∀ x, g.tv x = f.tv x := fun x => by unfold Fl.tv Fl.T; rw [hv]
  unfold Fl.base
  rw [ht, hH]
theorem more_sub (s : Sn) : Sub (f.more s) f := by
  intro a e h
  rw [poss_iff] at h ⊢
  obtain ⟨h1, h2, h3, h4⟩ := h
  refine ⟨(base_same rfl a e).1 h1, ((item_same (i := 0) (j := f.seen.length + 1) (g := { f.more s with seen := [] }) (f := f) rfl ⟨rfl, rfl⟩ ⟨rfl, rfl⟩ (by simp) a e).1).1 h2, ((item_same (i := 0) (j := f.seen.length + 1) (g := { f.more s with seen := [] }) (f := f) rfl ⟨rfl, rfl⟩ ⟨rfl, rfl⟩ (by simp) a e).2.1).1 h3, fun i hi => ?_⟩
  refine ((item_same (g := f.more s) (f := f) (i := i) (j := i) rfl ⟨rfl, rfl⟩ ⟨rfl, rfl⟩ ?_ a e).2.2).1 (h4 i (by unfold Fl.more; simp; omega))
  unfold Fl.more
  simp [List.getElem?_append_left hi]
theorem without_good (hf : f.good) (i : Nat) : (f.without i).good := by
  refine ⟨hf.v, hf.look, hf.wear, ?_, fun u hu => hf.seen u (List.mem_of_mem_eraseIdx hu)⟩
  have := hf.len
  have h2 := List.length_eraseIdx_le f.seen i
  show (f.seen.eraseIdx i).length ≤ 24
  omega
theorem without_sub (i : Nat) : Sub f (f.without i) := by
  intro a e h
  rw [poss_iff] at h ⊢
  obtain ⟨h1, h2, h3, h4⟩ := h
  have sm := fun (p q : Nat) hs => item_same (g := f.without i) (f := f) (i := p) (j := q) rfl ⟨rfl, rfl⟩ ⟨rfl, rfl⟩ hs a e
  have big := sm (f.seen.length + 1) (f.seen.length + 1) (by
    have h2 := List.length_eraseIdx_le f.seen i
    show (f.seen.eraseIdx i)[f.seen.length + 1]? = _
    rw [List.getElem?_eq_none (by omega), List.getElem?_eq_none (by omega)])
  refine ⟨(base_same (g := f.without i) (f := f) rfl a e).2 h1, big.1.2 h2, big.2.1.2 h3, fun j hj => ?_⟩
  have hj' : j < (f.seen.eraseIdx i).length := hj
  rw [List.length_eraseIdx] at hj'
  by_cases hlt : j < i
  · exact ((sm j j (by show (f.seen.eraseIdx i)[j]? = _; rw [List.getElem?_eraseIdx, if_pos hlt])).2.2).2 (h4 j (by split at hj' <;> omega))
  · have := sm j (j + 1) (by show (f.seen.eraseIdx i)[j]? = _; rw [List.getElem?_eraseIdx, if_neg hlt])
    exact (this.2.2).2 (h4 (j + 1) (by split at hj' <;> omega))
end
end Go.Proofs.YtjpagpplkldbkaaGreat
