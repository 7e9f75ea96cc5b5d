/- Curves: lines and Check. -/
import Derived.RangeFuncNested
import Derived.RangeFuncBound
import Derived.RangeFuncCalls
import Derived.RangeFuncLeaves
import Derived.Shelf.Abstract
import Derived.Shelf.RegionOpen
import Derived.WalkKit
import Derived.OwnWalkIn
import Derived.TacticsInMore
import Derived.LoopNIn
import Derived.LoopIn
import Derived.Test.YtjpagpplkldbkaaGreatLib4
set_option linter.unusedVariables false
set_option linter.unusedSimpArgs false
namespace Go.Proofs.YtjpagpplkldbkaaGreat
open Go.RowKit Go.Shelf
attribute [local go_sem] Oper.semAt_some
set_option maxRecDepth 100000 in
set_option maxHeartbeats 1000000 in
theorem lines_any (A : Option Addr) (n c : Nat) (w : World) : Calls Tryz.prog 207 #[.slice A n c] w fun e w' => e = .returned (.func (.func 242) #[] #[.pointer (some ⟨w.heap.size, 0, none⟩)]) ∧ w' = w.alloc (.cells #[.slice A n c] 61) := by
  go_enter Tryz.func207, Tryz.ntmps207
  go_wp2
  go_ret
  exact ⟨rfl, rfl⟩
/-- The lines of a curve. -/
def segs (l : List Pt) : List (Pt × Pt) := l.zip l.tail
def sgC (x : Pt × Pt) : Array Value := #[.agg #[.int .i64 x.1.x, .int .i64 x.1.y, .int .i64 x.2.x, .int .i64 x.2.y]]
theorem segs_len (l : List Pt) : (segs l).length = l.length - 1 := by simp [segs]
theorem segs_get (l : List Pt) (k : Nat) (h : k < (segs l).length) (h1 : k < l.length) (h2 : k + 1 < l.length) : (segs l)[k] = (l[k], l[k+1]) := by simp [segs]
set_option maxRecDepth 100000 in
set_option maxHeartbeats 1000000 in
theorem lines1_in (l Bs n₀ : Nat) (A : Option Addr) (cap : Nat) (zs : List Pt) (hz : 1 ≤ zs.length) (J Jx : List (Pt × Pt) → World → Prop) (hJd : ∀ pre W, J pre W → J pre W.drew)
    (hY : ∀ pre x W, J pre W → pre.length < (segs zs).length → YieldAt Fence.wide 2 Tryz.prog l (sgC x) W fun e W' =>
      (e = .returned (.bool true) ∧ J (pre ++ [x]) W' ∧ Below n₀ W W') ∨ (e = .returned (.bool false) ∧ Jx (pre ++ [x]) W'))
    (W : World) (hW : n₀ ≤ W.heap.size) (hBs : W.cell? ⟨Bs, 0, none⟩ = some (.slice A zs.length cap)) (hBn : Bs < n₀) (hv : Sl ptC 2 W (.slice A zs.length cap) zs) (hbn : ∀ b, (Value.slice A zs.length cap).ownBlock = some b → b < n₀) (h0 : J [] W) :
    CallsIn Fence.wide 3 Tryz.prog 242 #[.func (.yield l) #[] #[], .pointer (some ⟨Bs, 0, none⟩)] W fun e W' => (∃ v, e = .returned v) ∧
      ((∃ ys, ys = segs zs ∧ J ys W') ∨ (∃ pre, (∃ k, k ≤ (segs zs).length ∧ pre = (segs zs).take k) ∧ Jx pre W')) := by
  obtain ⟨A', c', e1, hl, hc, hcs⟩ := id hv
  cases e1
  obtain ⟨b, off, rfl, hcell⟩ := hcs (by intro h; simp [h] at hz)
  have hb : b < n₀ := hbn b rfl
  have hsl := segs_len zs
  refine callsIn_of_wp Tryz.func242 rfl trivial ?_ rfl
  simp only [Tryz.ntmps242, List.size_toArray, List.length_cons, List.length_nil, Nat.reduceAdd, Nat.reduceSub, Array.replicate_succ, Array.replicate_zero, List.push_toArray, List.append_toArray, List.nil_append, List.cons_append]
  gi_wp2
  gi_loopw [3] (fun i wr => ∃ k : Nat, k ≤ (segs zs).length ∧ i = .int .i64 (k + 1 : Nat) ∧ J ((segs zs).take k) wr ∧ Below n₀ W wr) (fun i _ => zs.length - (intOf i).toNat)
  case atStart => exact ⟨0, Nat.zero_le _, rfl, h0, Below.refl _ _⟩
  case round =>
    obtain ⟨k, hk, rfl, hJs, hnx⟩ := hrel
    have hbox : wr.cell? ⟨Bs, 0, none⟩ = some (.slice (some ⟨b, off, none⟩) zs.length cap) := (hnx.cell (p := ⟨Bs, 0, none⟩) hBn).trans hBs
    by_cases hlt : k < (segs zs).length
    · have h1 : k < zs.length := by omega
      have h2 : k + 1 < zs.length := by omega
      obtain ⟨p0, p1⟩ := pt_cells hcell h1
      obtain ⟨q0, q1⟩ := pt_cells hcell h2
      have d0 : wr.cell? ⟨b, off + k * 2, none⟩ = some (.int .i64 zs[k].x) := (hnx.cell (p := ⟨b, off + k * 2, none⟩) hb).trans p0
      have d1 : wr.cell? ⟨b, off + k * 2 + 1, none⟩ = some (.int .i64 zs[k].y) := (hnx.cell (p := ⟨b, off + k * 2 + 1, none⟩) hb).trans p1
      have d2 : wr.cell? ⟨b, off + (k + 1) * 2, none⟩ = some (.int .i64 zs[k+1].x) := (hnx.cell (p := ⟨b, off + (k + 1) * 2, none⟩) hb).trans q0
      have d3 : wr.cell? ⟨b, off + (k + 1) * 2 + 1, none⟩ = some (.int .i64 zs[k+1].y) := (hnx.cell (p := ⟨b, off + (k + 1) * 2 + 1, none⟩) hb).trans q1
      clear p0 p1 q0 q1
      obtain ⟨fn, tmps, assign, body, hy, hR⟩ := hY _ (zs[k], zs[k+1]) wr.drew (hJd _ _ hJs) (by rw [List.length_take]; omega)
      dsimp only [sgC] at hy
      have hwk : IntKind.i64.wrap (k : Int) = k := wrapI (by omega) (by omega)
      have hR' := RoundIn.mono (R' := fun e W' => ∃ bb, e = Ending.returned (.bool bb) ∧ Hid ((bb = true ∧ J ((segs zs).take k ++ [(zs[k], zs[k+1])]) W' ∧ Below n₀ wr.drew W') ∨ (bb = false ∧ Jx ((segs zs).take k ++ [(zs[k], zs[k+1])]) W'))) hR (by rintro e W' (⟨rfl, h1, h2⟩ | ⟨rfl, h1⟩); exact ⟨true, rfl, Lib.hid (.inl ⟨rfl, h1, h2⟩)⟩; exact ⟨false, rfl, Lib.hid (.inr ⟨rfl, h1⟩)⟩)
      clear hR
      gi_wp2
      gi_region_with (refine hR'.mono ?_; rintro e W3 ⟨bb, rfl, hcase⟩)
      all_goals
        rcases hcase.out with ⟨rfl, hJ3, hk3⟩ | ⟨rfl, hJx3⟩
        · gi_wp2
          go_roundw
          case rel => exact ⟨k + 1, by omega, by go_num, by rw [List.take_succ_eq_append_getElem hlt, segs_get zs k hlt h1 h2]; exact hJ3, hnx.trans ((Below.mono (bl_drew (Below.refl _ _)) (by have := hnx.size; omega)).trans hk3)⟩
          case measure => simp [intOf]; omega
        · gi_wp2
          refine bodyPost_ret (results_none rfl _ _ _) rfl ?_
          exact ⟨⟨_, rfl⟩, .inr ⟨_, ⟨k + 1, by omega, by rw [List.take_succ_eq_append_getElem hlt, segs_get zs k hlt h1 h2]⟩, hJx3⟩⟩
    · obtain rfl : k = (segs zs).length := by omega
      have hge : decide (((segs zs).length : Int) + 1 < (zs.length : Int)) = false := by simp; omega
      gi_wp2
      go_end0
      exact ⟨⟨_, rfl⟩, .inl ⟨_, (List.take_of_length_le (Nat.le_refl _)), hJs⟩⟩
end Go.Proofs.YtjpagpplkldbkaaGreat
