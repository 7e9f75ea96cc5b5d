/- What slices in memory read as, whatever lies above them. Leaves: functions on numbers alone. Slices: their cells in one list; appends. A region that draws its order, by an invariant: each operation, whenever it comes up, keeps what is known. Steps of a region that draws its order, guards and all: used by fill.py's macro 'held'. A region that draws its order: operations that come to the same value in every world that meets S, and keep S, may be taken in the text's order, calls too; what waits for all of them is walked behind them. -/
import Derived.WalkKit
import Derived.WalkSpells
import Derived.WalkLawsBesides
import Derived.Lib.Hide
import Derived.Test.YtjpagpplkldbkaaGreatProg
import Derived.Lib.Mul64
import Derived.Laws.Bits64b
import Derived.RegionTactic
import Derived.BigRegion
import Derived.Deep.QuietTactic
import Derived.BigQuiet
import Derived.IntWalk
import Derived.ArgAppend
import Derived.Maps.AppendAt
import Derived.Deep.AppendLies
import Derived.Laws.MakeOwn
import Derived.Orders
import Derived.Deep.RegionHeld3
namespace Go.Proofs.YtjpagpplkldbkaaGreat
open Go.RowKit
theorem bl_alloc {w W : World} (h : Below w.heap.size w W) (o : Obj) : Below w.heap.size w (W.alloc o) := h.alloc h.size o
theorem bl_drew {w W : World} (h : Below w.heap.size w W) : Below w.heap.size w W.drew := ⟨h.os, h.tape, h.output, h.size, h.block⟩
theorem bl_drewN {w W : World} (h : Below w.heap.size w W) (n : Nat) : Below w.heap.size w (W.drewN n) := ⟨h.os, h.tape, h.output, h.size, h.block⟩
theorem bl_then {w w1 w2 : World} (h : Below w.heap.size w w1) (k : Below w1.heap.size w1 w2) : Below w.heap.size w w2 :=
  h.trans ⟨k.os, k.tape, k.output, k.size, fun i hi => k.block i (Nat.lt_of_lt_of_le hi h.size)⟩
theorem bl_set {w W : World} (h : Below w.heap.size w W) {p : Addr} (hp : w.heap.size ≤ p.block) (u : Value) : Below w.heap.size w (W.setCell p u) := h.setCell hp u
/-- A slice value whose elements, of sz cells each, read as xs. -/
def Sl {α : Type} (enc : α → List Value) (sz : Nat) (w : World) (v : Value) (xs : List α) : Prop :=
  ∃ A c, v = .slice A xs.length c ∧ xs.length ≤ c ∧ (c ≤ 9223372036854775807 ∧ (A = none → c = 0)) ∧
    (xs ≠ [] → ∃ b off, A = some ⟨b, off, none⟩ ∧ ∀ j i u, j < xs.length → (xs[j]?.bind fun x => (enc x)[i]?) = some u → i < sz → w.cell? ⟨b, off + j * sz + i, none⟩ = some u)
theorem Sl.below {α : Type} {enc : α → List Value} {sz : Nat} {w w1 : World} {v : Value} {xs : List α} (h : Sl enc sz w v xs) (hb : Below w.heap.size w w1) : Sl enc sz w1 v xs := by
  obtain ⟨A, c, h1, h2, h2', h3⟩ := h
  refine ⟨A, c, h1, h2, h2', fun hne => ?_⟩
  obtain ⟨b, off, h4, h5⟩ := h3 hne
  refine ⟨b, off, h4, fun j i u hj hu hi => ?_⟩
  have := h5 j i u hj hu hi
  exact (hb.cell (World.block_lt_of_cell? w _ this)).trans this
theorem Sl.cutcap {α : Type} {enc : α → List Value} {sz : Nat} {w : World} {A : Option Addr} {n c : Nat} {xs : List α} (h : Sl enc sz w (.slice A n c) xs) : Sl enc sz w (.slice A n n) xs := by
  obtain ⟨A', c', e, hle, hc, hr⟩ := h
  injection e with e1 e2 e3
  subst e1; subst e2; subst e3
  exact ⟨A, _, rfl, Nat.le_refl _, ⟨by omega, fun h => by have := hc.2 h; omega⟩, hr⟩
theorem Sl.len {α : Type} {enc : α → List Value} {sz : Nat} {w : World} {A : Option Addr} {n c : Nat} {xs : List α} (h : Sl enc sz w (.slice A n c) xs) : n = xs.length ∧ n ≤ c := by
  obtain ⟨A', c', e, hle, hc, hr⟩ := h
  injection e with e1 e2 e3
  subst e1; subst e2; subst e3
  exact ⟨rfl, hle⟩
theorem Sl.keep {α : Type} {enc : α → List Value} {sz : Nat} {w w1 : World} {v : Value} {xs : List α} (h : Sl enc sz w v xs) (hk : xs ≠ [] → ∀ b, v.ownBlock = some b → w1.heap[b]? = w.heap[b]?) : Sl enc sz w1 v xs := by
  obtain ⟨A, c, rfl, h2, h2', h3⟩ := h
  refine ⟨A, c, rfl, h2, h2', fun hne => ?_⟩
  obtain ⟨b, off, rfl, h5⟩ := h3 hne
  refine ⟨b, off, rfl, fun j i u hj hu hi => ?_⟩
  exact (World.cell?_of_block (hk hne b rfl)).trans (h5 j i u hj hu hi)
/-- A slice's block, if it has elements, is an old one, or a new one. -/
def Off {α : Type} (w0 w : World) (v : Value) (xs : List α) : Prop := xs ≠ [] → ∀ b, v.ownBlock = some b → b < w0.heap.size ∨ w.heap.size ≤ b
theorem Sl.set {α : Type} {enc : α → List Value} {sz : Nat} {w0 w w1 : World} {v : Value} {xs : List α} (h : Sl enc sz w1 v xs) (ho : Off w0 w v xs) {p : Addr} (h1 : w0.heap.size ≤ p.block) (h2 : p.block < w.heap.size) (u : Value) : Sl enc sz (w1.setCell p u) v xs :=
  h.keep fun hne b hb => Below.heap_setCell w1 p u b (fun e => by have := ho hne b hb; omega)
theorem Sl.nil {α : Type} (enc : α → List Value) (sz : Nat) (w : World) : Sl enc sz w (.slice none 0 0) [] := ⟨none, 0, rfl, by simp, ⟨by simp, fun _ => rfl⟩, fun h => absurd rfl h⟩
theorem cl_below {w w1 : World} (hb : Below w.heap.size w w1) {a : Addr} {v : Value} (h : w.cell? a = some v) : w1.cell? a = some v := (hb.cell (World.block_lt_of_cell? w a h)).trans h
theorem cl_alloc {w : World} {a : Addr} {v : Value} (h : w.cell? a = some v) (o : Obj) : (w.alloc o).cell? a = some v := (World.cell?_alloc_lt _ _ _ (World.block_lt_of_cell? w a h)).trans h
theorem kp1 {w W W1 : World} {a0 : Addr} {v0 : Value} (hb : Below W.heap.size W W1) (h : Below w.heap.size w W ∧ W.cell? a0 = some v0) : Below w.heap.size w W1 ∧ W1.cell? a0 = some v0 := by
  obtain ⟨g, h0⟩ := h
  exact ⟨bl_then g hb, cl_below hb h0⟩
theorem kp2 {w W W1 : World} {a0 : Addr} {v0 : Value} {a1 : Addr} {v1 : Value} (hb : Below W.heap.size W W1) (h : Below w.heap.size w W ∧ W.cell? a0 = some v0 ∧ W.cell? a1 = some v1) : Below w.heap.size w W1 ∧ W1.cell? a0 = some v0 ∧ W1.cell? a1 = some v1 := by
  obtain ⟨g, h0, h1⟩ := h
  exact ⟨bl_then g hb, cl_below hb h0, cl_below hb h1⟩
theorem kp3 {w W W1 : World} {a0 : Addr} {v0 : Value} {a1 : Addr} {v1 : Value} {a2 : Addr} {v2 : Value} (hb : Below W.heap.size W W1) (h : Below w.heap.size w W ∧ W.cell? a0 = some v0 ∧ W.cell? a1 = some v1 ∧ W.cell? a2 = some v2) : Below w.heap.size w W1 ∧ W1.cell? a0 = some v0 ∧ W1.cell? a1 = some v1 ∧ W1.cell? a2 = some v2 := by
  obtain ⟨g, h0, h1, h2⟩ := h
  exact ⟨bl_then g hb, cl_below hb h0, cl_below hb h1, cl_below hb h2⟩
theorem kp4 {w W W1 : World} {a0 : Addr} {v0 : Value} {a1 : Addr} {v1 : Value} {a2 : Addr} {v2 : Value} {a3 : Addr} {v3 : Value} (hb : Below W.heap.size W W1) (h : Below w.heap.size w W ∧ W.cell? a0 = some v0 ∧ W.cell? a1 = some v1 ∧ W.cell? a2 = some v2 ∧ W.cell? a3 = some v3) : Below w.heap.size w W1 ∧ W1.cell? a0 = some v0 ∧ W1.cell? a1 = some v1 ∧ W1.cell? a2 = some v2 ∧ W1.cell? a3 = some v3 := by
  obtain ⟨g, h0, h1, h2, h3⟩ := h
  exact ⟨bl_then g hb, cl_below hb h0, cl_below hb h1, cl_below hb h2, cl_below hb h3⟩
theorem kp5 {w W W1 : World} {a0 : Addr} {v0 : Value} {a1 : Addr} {v1 : Value} {a2 : Addr} {v2 : Value} {a3 : Addr} {v3 : Value} {a4 : Addr} {v4 : Value} (hb : Below W.heap.size W W1) (h : Below w.heap.size w W ∧ W.cell? a0 = some v0 ∧ W.cell? a1 = some v1 ∧ W.cell? a2 = some v2 ∧ W.cell? a3 = some v3 ∧ W.cell? a4 = some v4) : Below w.heap.size w W1 ∧ W1.cell? a0 = some v0 ∧ W1.cell? a1 = some v1 ∧ W1.cell? a2 = some v2 ∧ W1.cell? a3 = some v3 ∧ W1.cell? a4 = some v4 := by
  obtain ⟨g, h0, h1, h2, h3, h4⟩ := h
  exact ⟨bl_then g hb, cl_below hb h0, cl_below hb h1, cl_below hb h2, cl_below hb h3, cl_below hb h4⟩
theorem kp6 {w W W1 : World} {a0 : Addr} {v0 : Value} {a1 : Addr} {v1 : Value} {a2 : Addr} {v2 : Value} {a3 : Addr} {v3 : Value} {a4 : Addr} {v4 : Value} {a5 : Addr} {v5 : Value} (hb : Below W.heap.size W W1) (h : Below w.heap.size w W ∧ W.cell? a0 = some v0 ∧ W.cell? a1 = some v1 ∧ W.cell? a2 = some v2 ∧ W.cell? a3 = some v3 ∧ W.cell? a4 = some v4 ∧ W.cell? a5 = some v5) : Below w.heap.size w W1 ∧ W1.cell? a0 = some v0 ∧ W1.cell? a1 = some v1 ∧ W1.cell? a2 = some v2 ∧ W1.cell? a3 = some v3 ∧ W1.cell? a4 = some v4 ∧ W1.cell? a5 = some v5 := by
  obtain ⟨g, h0, h1, h2, h3, h4, h5⟩ := h
  exact ⟨bl_then g hb, cl_below hb h0, cl_below hb h1, cl_below hb h2, cl_below hb h3, cl_below hb h4, cl_below hb h5⟩
theorem kp7 {w W W1 : World} {a0 : Addr} {v0 : Value} {a1 : Addr} {v1 : Value} {a2 : Addr} {v2 : Value} {a3 : Addr} {v3 : Value} {a4 : Addr} {v4 : Value} {a5 : Addr} {v5 : Value} {a6 : Addr} {v6 : Value} (hb : Below W.heap.size W W1) (h : Below w.heap.size w W ∧ W.cell? a0 = some v0 ∧ W.cell? a1 = some v1 ∧ W.cell? a2 = some v2 ∧ W.cell? a3 = some v3 ∧ W.cell? a4 = some v4 ∧ W.cell? a5 = some v5 ∧ W.cell? a6 = some v6) : Below w.heap.size w W1 ∧ W1.cell? a0 = some v0 ∧ W1.cell? a1 = some v1 ∧ W1.cell? a2 = some v2 ∧ W1.cell? a3 = some v3 ∧ W1.cell? a4 = some v4 ∧ W1.cell? a5 = some v5 ∧ W1.cell? a6 = some v6 := by
  obtain ⟨g, h0, h1, h2, h3, h4, h5, h6⟩ := h
  exact ⟨bl_then g hb, cl_below hb h0, cl_below hb h1, cl_below hb h2, cl_below hb h3, cl_below hb h4, cl_below hb h5, cl_below hb h6⟩
theorem kp8 {w W W1 : World} {a0 : Addr} {v0 : Value} {a1 : Addr} {v1 : Value} {a2 : Addr} {v2 : Value} {a3 : Addr} {v3 : Value} {a4 : Addr} {v4 : Value} {a5 : Addr} {v5 : Value} {a6 : Addr} {v6 : Value} {a7 : Addr} {v7 : Value} (hb : Below W.heap.size W W1) (h : Below w.heap.size w W ∧ W.cell? a0 = some v0 ∧ W.cell? a1 = some v1 ∧ W.cell? a2 = some v2 ∧ W.cell? a3 = some v3 ∧ W.cell? a4 = some v4 ∧ W.cell? a5 = some v5 ∧ W.cell? a6 = some v6 ∧ W.cell? a7 = some v7) : Below w.heap.size w W1 ∧ W1.cell? a0 = some v0 ∧ W1.cell? a1 = some v1 ∧ W1.cell? a2 = some v2 ∧ W1.cell? a3 = some v3 ∧ W1.cell? a4 = some v4 ∧ W1.cell? a5 = some v5 ∧ W1.cell? a6 = some v6 ∧ W1.cell? a7 = some v7 := by
  obtain ⟨g, h0, h1, h2, h3, h4, h5, h6, h7⟩ := h
  exact ⟨bl_then g hb, cl_below hb h0, cl_below hb h1, cl_below hb h2, cl_below hb h3, cl_below hb h4, cl_below hb h5, cl_below hb h6, cl_below hb h7⟩
theorem kp9 {w W W1 : World} {a0 : Addr} {v0 : Value} {a1 : Addr} {v1 : Value} {a2 : Addr} {v2 : Value} {a3 : Addr} {v3 : Value} {a4 : Addr} {v4 : Value} {a5 : Addr} {v5 : Value} {a6 : Addr} {v6 : Value} {a7 : Addr} {v7 : Value} {a8 : Addr} {v8 : Value} (hb : Below W.heap.size W W1) (h : Below w.heap.size w W ∧ W.cell? a0 = some v0 ∧ W.cell? a1 = some v1 ∧ W.cell? a2 = some v2 ∧ W.cell? a3 = some v3 ∧ W.cell? a4 = some v4 ∧ W.cell? a5 = some v5 ∧ W.cell? a6 = some v6 ∧ W.cell? a7 = some v7 ∧ W.cell? a8 = some v8) : Below w.heap.size w W1 ∧ W1.cell? a0 = some v0 ∧ W1.cell? a1 = some v1 ∧ W1.cell? a2 = some v2 ∧ W1.cell? a3 = some v3 ∧ W1.cell? a4 = some v4 ∧ W1.cell? a5 = some v5 ∧ W1.cell? a6 = some v6 ∧ W1.cell? a7 = some v7 ∧ W1.cell? a8 = some v8 := by
  obtain ⟨g, h0, h1, h2, h3, h4, h5, h6, h7, h8⟩ := h
  exact ⟨bl_then g hb, cl_below hb h0, cl_below hb h1, cl_below hb h2, cl_below hb h3, cl_below hb h4, cl_below hb h5, cl_below hb h6, cl_below hb h7, cl_below hb h8⟩
theorem kp10 {w W W1 : World} {a0 : Addr} {v0 : Value} {a1 : Addr} {v1 : Value} {a2 : Addr} {v2 : Value} {a3 : Addr} {v3 : Value} {a4 : Addr} {v4 : Value} {a5 : Addr} {v5 : Value} {a6 : Addr} {v6 : Value} {a7 : Addr} {v7 : Value} {a8 : Addr} {v8 : Value} {a9 : Addr} {v9 : Value} (hb : Below W.heap.size W W1) (h : Below w.heap.size w W ∧ W.cell? a0 = some v0 ∧ W.cell? a1 = some v1 ∧ W.cell? a2 = some v2 ∧ W.cell? a3 = some v3 ∧ W.cell? a4 = some v4 ∧ W.cell? a5 = some v5 ∧ W.cell? a6 = some v6 ∧ W.cell? a7 = some v7 ∧ W.cell? a8 = some v8 ∧ W.cell? a9 = some v9) : Below w.heap.size w W1 ∧ W1.cell? a0 = some v0 ∧ W1.cell? a1 = some v1 ∧ W1.cell? a2 = some v2 ∧ W1.cell? a3 = some v3 ∧ W1.cell? a4 = some v4 ∧ W1.cell? a5 = some v5 ∧ W1.cell? a6 = some v6 ∧ W1.cell? a7 = some v7 ∧ W1.cell? a8 = some v8 ∧ W1.cell? a9 = some v9 := by
  obtain ⟨g, h0, h1, h2, h3, h4, h5, h6, h7, h8, h9⟩ := h
  exact ⟨bl_then g hb, cl_below hb h0, cl_below hb h1, cl_below hb h2, cl_below hb h3, cl_below hb h4, cl_below hb h5, cl_below hb h6, cl_below hb h7, cl_below hb h8, cl_below hb h9⟩
/-- The cells of one element. -/
theorem Sl.cells {α : Type} {enc : α → List Value} {sz : Nat} {w : World} {b off : Nat} {xs : List α}
    (h : ∀ j i u, j < xs.length → (xs[j]?.bind fun x => (enc x)[i]?) = some u → i < sz → w.cell? ⟨b, off + j * sz + i, none⟩ = some u) {k : Nat} (hk : k < xs.length) {i : Nat} (hi : i < sz) {u : Value} (hu : (enc xs[k])[i]? = some u) :
    w.cell? ⟨b, off + k * sz + i, none⟩ = some u := h k i u hk (by rw [List.getElem?_eq_getElem hk]; exact hu) hi
/-! A block of the heap, known whole. -/
section
variable {w w1 : World} {g : Nat} {o : Obj} {t : TypeId} {cs : Array Value}
theorem bk_new (w : World) (o : Obj) : (w.alloc o).heap[w.heap.size]? = some o := by
  unfold World.alloc
  simp
theorem bk_lt (h : w.heap[g]? = some o) : g < w.heap.size := (Array.getElem?_eq_some_iff.1 h).1
theorem bk_cell (h : w.heap[g]? = some (.cells cs t (0, 0))) (i : Nat) : w.cell? ⟨g, i, none⟩ = cs[i]? := cell_of_row w g i cs t (0, 0) h
theorem bk_fro (h : w.heap[g]? = some (.cells cs t (0, 0))) (i : Nat) : w.frozen? ⟨g, i, none⟩ = false := by simp [World.frozen?, h]
theorem bk_set (h : w.heap[g]? = some (.cells cs t (0, 0))) (i : Nat) (u : Value) : (w.setCell ⟨g, i, none⟩ u).heap[g]? = some (.cells (cs.setIfInBounds i u) t (0, 0)) := by
  simp [World.setCell, Array.getElem?_modify, h]
theorem bk_far (h : w.heap[g]? = some o) {p : Addr} (hp : g ≠ p.block) (u : Value) : (w.setCell p u).heap[g]? = some o := (Below.heap_setCell w p u g hp).trans h
theorem bk_alloc (h : w.heap[g]? = some o) (o' : Obj) : (w.alloc o').heap[g]? = some o := (Below.heap_alloc w o' g (bk_lt h)).trans h
theorem bk_below (h : w.heap[g]? = some o) (hb : Below w.heap.size w w1) : w1.heap[g]? = some o := (hb.block g (bk_lt h)).trans h
theorem bk_drew (h : w.heap[g]? = some o) : w.drew.heap[g]? = some o := h
theorem bk_drewN (h : w.heap[g]? = some o) (n : Nat) : (w.drewN n).heap[g]? = some o := h
theorem bk_put3 {cs' : Array Value} (h : w.heap[g]? = some (.cells cs t (0, 0))) (i j k : Nat) (u v x : Value) (e : ((cs.setIfInBounds i u).setIfInBounds j v).setIfInBounds k x = cs') :
    (((w.setCell ⟨g, i, none⟩ u).setCell ⟨g, j, none⟩ v).setCell ⟨g, k, none⟩ x).heap[g]? = some (.cells cs' t (0, 0)) := e ▸ bk_set (bk_set (bk_set h i u) j v) k x
theorem bk_put1 {cs' : Array Value} (h : w.heap[g]? = some (.cells cs t (0, 0))) (i : Nat) (u : Value) (e : cs.setIfInBounds i u = cs') :
    (w.setCell ⟨g, i, none⟩ u).heap[g]? = some (.cells cs' t (0, 0)) := e ▸ bk_set h i u
theorem gb_refl (w : World) (row : Option Nat) : w.grownBy w row := ⟨rfl, rfl, rfl, Nat.le_refl _, fun _ _ _ => rfl⟩
theorem gb_below (h : Below w.heap.size w w1) (row : Option Nat) : w.grownBy w1 row := ⟨h.os, h.tape, h.output, h.size, fun i hi _ => h.block i hi⟩
theorem gb_set (w : World) (g i : Nat) (u : Value) : w.grownBy (w.setCell ⟨g, i, none⟩ u) (some g) :=
  ⟨by simp [World.setCell], by simp [World.setCell], by simp [World.setCell], by simp [World.setCell], fun k _ hk => Below.heap_setCell w _ u k (fun e => hk (by rw [e]))⟩
theorem gb_set3 (w : World) (g i j k : Nat) (u v x : Value) : w.grownBy (((w.setCell ⟨g, i, none⟩ u).setCell ⟨g, j, none⟩ v).setCell ⟨g, k, none⟩ x) (some g) :=
  ((gb_set w g i u).trans (gb_set _ g j v)).trans (gb_set _ g k x)
theorem gb_trans {w2 : World} {row : Option Nat} (h : w.grownBy w1 row) (k : w1.grownBy w2 row) : w.grownBy w2 row := h.trans k
theorem bk_grown {row : Option Nat} (h : w.heap[g]? = some o) (hg : w.grownBy w1 row) (hne : some g ≠ row) : w1.heap[g]? = some o := (hg.block g (bk_lt h) hne).trans h
end
/-! Results that lie in blocks. -/
inductive Vals (P : Program) (tmps : Array Value) (w : World) : List ResultVar → List Value → Prop where
  | nil : Vals P tmps w [] []
  | tmp {u : Tmp} {v : Value} {rs : List ResultVar} {vs : List Value} (hv : tmps.getD u undef = v) (h : Vals P tmps w rs vs) : Vals P tmps w (.tmp u :: rs) (v :: vs)
  | cell {p : Tmp} {ty : TypeId} {rs : List ResultVar} {vs : List Value} (g : Nat) (t : TypeId) (cs : Array Value) (fr : Nat × Nat) (d : TypeDesc)
      (hp : tmps.getD p undef = .pointer (some ⟨g, 0, none⟩)) (hg : w.heap[g]? = some (.cells cs t fr))
      (hu : P.underlying ty = some d) (hd : (match d with | .struct _ | .array _ _ => true | _ => false) = true) (hi : (P.info? ty).map (·.size) = some cs.size)
      (h : Vals P tmps w rs vs) : Vals P tmps w (.cell p ty :: rs) (.agg cs :: vs)
section
variable {P : Program} {tmps : Array Value} {w : World}
theorem vals_run {rs : List ResultVar} {vs : List Value} (hv : Vals P tmps w rs vs) (f : ResultVar → Sem Value) (hf : ∀ u, f (.tmp u) = pure (tmps.getD u undef)) (hc : ∀ a t, f (.cell a t) = (do loadVar t (← asAddr (tmps.getD a undef)))) :
    (rs.mapM f).run P w = .ok vs w := by
  induction hv with
  | nil => simp
  | tmp hv h ih => simp [List.mapM_cons, hf, ih, hv]
  | cell g t cs fr d hp hg hu hd hi h ih =>
    rw [List.mapM_cons, hc, hp]
    simp [asAddr, run_loadVar_row w g t _ cs fr d hg hu hd hi, ih]
theorem res_list {fn : Func} {rs : List ResultVar} {vs : List Value} (h : fn.results = rs.toArray) (hl : vs.length ≠ 1) (hv : Vals P tmps w rs vs) : (results fn tmps).run P w = .ok (.tuple vs.toArray) w := by
  unfold results
  rw [h, List.mapM_toArray]
  simp only [Sem.run_bind, Sem.run_map]
  rw [vals_run hv]
  · simp [hl]
  · intro u
    rfl
  · intro a t
    rfl
theorem res_one {fn : Func} {r : ResultVar} {v : Value} (h : fn.results = #[r]) (hv : Vals P tmps w [r] [v]) : (results fn tmps).run P w = .ok v w := by
  unfold results
  rw [show fn.results = [r].toArray from h, List.mapM_toArray]
  simp only [Sem.run_bind, Sem.run_map]
  rw [vals_run hv]
  · simp
  · intro u
    rfl
  · intro a t
    rfl
end
theorem bk_put9 {w : World} {g : Nat} {t : TypeId} {a b c d e f v x y a' b' c' d' e' f' v' x' y' : Value} (h : w.heap[g]? = some (.cells #[a', b', c', d', e', f', v', x', y'] t (0, 0))) :
    (((((((((w.setCell ⟨g, 0, none⟩ a).setCell ⟨g, 1, none⟩ b).setCell ⟨g, 2, none⟩ c).setCell ⟨g, 3, none⟩ d).setCell ⟨g, 4, none⟩ e).setCell ⟨g, 5, none⟩ f).setCell ⟨g, 6, none⟩ v).setCell ⟨g, 7, none⟩ x).setCell ⟨g, 8, none⟩ y).heap[g]? = some (.cells #[a, b, c, d, e, f, v, x, y] t (0, 0)) := by
  have h0 := bk_put1 (cs' := #[a, b', c', d', e', f', v', x', y']) h 0 a rfl
  have h1 := bk_put1 (cs' := #[a, b, c', d', e', f', v', x', y']) h0 1 b rfl
  have h2 := bk_put1 (cs' := #[a, b, c, d', e', f', v', x', y']) h1 2 c rfl
  have h3 := bk_put1 (cs' := #[a, b, c, d, e', f', v', x', y']) h2 3 d rfl
  have h4 := bk_put1 (cs' := #[a, b, c, d, e, f', v', x', y']) h3 4 e rfl
  have h5 := bk_put1 (cs' := #[a, b, c, d, e, f, v', x', y']) h4 5 f rfl
  have h6 := bk_put1 (cs' := #[a, b, c, d, e, f, v, x', y']) h5 6 v rfl
  have h7 := bk_put1 (cs' := #[a, b, c, d, e, f, v, x, y']) h6 7 x rfl
  have h8 := bk_put1 (cs' := #[a, b, c, d, e, f, v, x, y]) h7 8 y rfl
  exact h8
end Go.Proofs.YtjpagpplkldbkaaGreat
set_option linter.unusedVariables false
set_option linter.unusedSimpArgs false
namespace Go.Proofs.YtjpagpplkldbkaaGreat
open Go.RowKit
def fromB (n lo hi : Int) : Bool := decide (lo ≤ n) && decide (n ≤ hi)
set_option maxRecDepth 100000 in
set_option maxHeartbeats 1000000 in
theorem from_any (a lo hi : Int) (w : World) : Calls Tryz.prog 94 #[.int .i64 a, .int .i64 lo, .int .i64 hi] w fun e w' => e = .returned (.bool (fromB a lo hi)) ∧ w = w' := by
  go_enter Tryz.func94, Tryz.ntmps94
  go_wp2
  all_goals go_ret
  · exact ⟨by simp [fromB, *], rfl⟩
  · exact ⟨by simp [fromB, *]; omega, rfl⟩
def withinB (a b lo hi : Int) : Bool := decide (lo ≤ a) && decide (a ≤ b) && decide (b ≤ hi)
set_option maxRecDepth 100000 in
set_option maxHeartbeats 1000000 in
theorem within_any (a b lo hi : Int) (w : World) : Calls Tryz.prog 191 #[.agg #[.int .i64 a, .int .i64 b], .int .i64 lo, .int .i64 hi] w fun e w' => e = .returned (.bool (withinB a b lo hi)) ∧ Below w.heap.size w w' := by
  go_enter Tryz.func191, Tryz.ntmps191
  go_wp2
  all_goals go_ret
  all_goals refine ⟨?_, by (repeat' with_reducible first|assumption|exact Below.refl _ _|apply bl_alloc|apply bl_drewN|apply bl_drew|refine bl_set ?_ (by simp<;>omega) _|refine bl_then ?_ (by assumption))⟩
  all_goals simp [withinB, *]
  all_goals omega
def lookB (l e h : Int) : Bool := fromB l 0 h && fromB e 0 1000
set_option maxRecDepth 100000 in
set_option maxHeartbeats 1000000 in
theorem look_any (l e h : Int) (w : World) : Calls Tryz.prog 190 #[.agg #[.int .i64 l, .int .i64 e], .int .i64 h] w fun e' w' => e' = .returned (.bool (lookB l e h)) ∧ Below w.heap.size w w' := by
  go_enter Tryz.func190, Tryz.ntmps190
  go_wp2_with (go_at_call 94; refine (from_any _ _ _ _).mono ?_; rintro e' w' ⟨rfl, rfl⟩)
  all_goals go_ret
  all_goals refine ⟨?_, by (repeat' with_reducible first|assumption|exact Below.refl _ _|apply bl_alloc|apply bl_drewN|apply bl_drew|refine bl_set ?_ (by simp<;>omega) _|refine bl_then ?_ (by assumption))⟩
  all_goals simp [lookB, *]
def ringB (h v d : Int) : Bool := decide (1 ≤ h) && decide (h ≤ 1000) && decide (1 ≤ v) && decide (v ≤ 100000) && decide (1 ≤ d) && decide (d ≤ 20000)
set_option maxRecDepth 100000 in
set_option maxHeartbeats 1000000 in
theorem isRing_any (h v d : Int) (w : World) : Calls Tryz.prog 222 #[.agg #[.int .i64 h, .int .i64 v, .int .i64 d]] w fun e' w' => e' = .returned (.bool (ringB h v d)) ∧ Below w.heap.size w w' := by
  go_enter Tryz.func222, Tryz.ntmps222
  go_wp2
  all_goals go_ret
  all_goals refine ⟨?_, by (repeat' with_reducible first|assumption|exact Below.refl _ _|apply bl_alloc|apply bl_drewN|apply bl_drew|refine bl_set ?_ (by simp<;>omega) _|refine bl_then ?_ (by assumption))⟩
  all_goals simp [ringB, *]
  all_goals omega
set_option maxRecDepth 100000 in
set_option maxHeartbeats 1000000 in
theorem heightOf_any (h v d : Int) (w : World) : Calls Tryz.prog 199 #[.agg #[.int .i64 h, .int .i64 v, .int .i64 d]] w fun e' w' => e' = .returned (.int .i64 h) ∧ Below w.heap.size w w' := by
  go_enter Tryz.func199, Tryz.ntmps199
  go_wp2
  go_ret
  exact ⟨rfl, by (repeat' with_reducible first|assumption|exact Below.refl _ _|apply bl_alloc|apply bl_drewN|apply bl_drew|refine bl_set ?_ (by simp<;>omega) _|refine bl_then ?_ (by assumption))⟩
set_option maxRecDepth 100000 in
set_option maxHeartbeats 1000000 in
theorem volumeOf_any (h v d : Int) (w : World) : Calls Tryz.prog 224 #[.agg #[.int .i64 h, .int .i64 v, .int .i64 d]] w fun e' w' => e' = .returned (.int .i64 v) ∧ Below w.heap.size w w' := by
  go_enter Tryz.func224, Tryz.ntmps224
  go_wp2
  go_ret
  exact ⟨rfl, by (repeat' with_reducible first|assumption|exact Below.refl _ _|apply bl_alloc|apply bl_drewN|apply bl_drew|refine bl_set ?_ (by simp<;>omega) _|refine bl_then ?_ (by assumption))⟩
set_option maxRecDepth 100000 in
set_option maxHeartbeats 1000000 in
theorem minuteOf_any (h v d : Int) (w : World) : Calls Tryz.prog 131 #[.agg #[.int .i64 h, .int .i64 v, .int .i64 d]] w fun e' w' => e' = .returned (.int .i64 d) ∧ Below w.heap.size w w' := by
  go_enter Tryz.func131, Tryz.ntmps131
  go_wp2
  go_ret
  exact ⟨rfl, by (repeat' with_reducible first|assumption|exact Below.refl _ _|apply bl_alloc|apply bl_drewN|apply bl_drew|refine bl_set ?_ (by simp<;>omega) _|refine bl_then ?_ (by assumption))⟩
set_option maxRecDepth 100000 in
set_option maxHeartbeats 1000000 in
theorem less_any (a b c d : Int) (w : World) (h1 : 0 ≤ a ∧ a ≤ 1000000000) (h2 : 0 ≤ b ∧ b ≤ 1000000) (h3 : 0 ≤ c ∧ c ≤ 1000000000) (h4 : 0 ≤ d ∧ d ≤ 1000000) :
    Calls Tryz.prog 102 #[.agg #[.int .i64 a, .int .i64 b], .agg #[.int .i64 c, .int .i64 d]] w fun e' w' => e' = .returned (.tuple #[.int .i64 (a * d - c * b), .int .i64 (b * d)]) ∧ Below w.heap.size w w' := by
  have k1 : 0 ≤ a * d ∧ a * d ≤ 1000000000000000 := ⟨Int.mul_nonneg h1.1 h4.1, by have := Int.mul_le_mul h1.2 h4.2 h4.1 (by omega); omega⟩
  have k2 : 0 ≤ c * b ∧ c * b ≤ 1000000000000000 := ⟨Int.mul_nonneg h3.1 h2.1, by have := Int.mul_le_mul h3.2 h2.2 h2.1 (by omega); omega⟩
  have k3 : 0 ≤ b * d ∧ b * d ≤ 1000000000000 := ⟨Int.mul_nonneg h2.1 h4.1, by have := Int.mul_le_mul h2.2 h4.2 h4.1 (by omega); omega⟩
  obtain ⟨k11, k12⟩ := k1
  obtain ⟨k21, k22⟩ := k2
  obtain ⟨k31, k32⟩ := k3
  go_enter Tryz.func102, Tryz.ntmps102
  go_wp2
  go_quiet (fail)
  go_wp2
  go_ret2
  exact ⟨rfl, by (repeat' with_reducible first|assumption|exact Below.refl _ _|apply bl_alloc|apply bl_drewN|apply bl_drew|refine bl_set ?_ (by simp<;>omega) _|refine bl_then ?_ (by assumption))⟩
end Go.Proofs.YtjpagpplkldbkaaGreat
set_option linter.unusedVariables false
set_option linter.unusedSimpArgs false
namespace Go.Proofs.YtjpagpplkldbkaaGreat
open Go.RowKit
section
variable {α : Type} {enc : α → List Value} {sz : Nat}
def flat (enc : α → List Value) (xs : List α) : List Value := xs.flatMap enc
theorem flat_length (hl : ∀ x, (enc x).length = sz) (xs : List α) : (flat enc xs).length = xs.length * sz := by
  induction xs with
  | nil => simp [flat]
  | cons x xs ih => simp only [flat, List.flatMap_cons, List.length_append, hl, List.length_cons] at ih ⊢; rw [ih, Nat.add_mul]; omega
theorem flat_append (xs ys : List α) : flat enc (xs ++ ys) = flat enc xs ++ flat enc ys := by simp [flat]
theorem flat_one (x : α) : flat enc [x] = enc x := by simp [flat]
theorem flat_get (hl : ∀ x, (enc x).length = sz) : ∀ (xs : List α) (j i : Nat), i < sz → (flat enc xs)[j * sz + i]? = xs[j]?.bind fun x => (enc x)[i]?
  | [], j, i, _ => by simp [flat]
  | x :: xs, 0, i, hi => by
    simp only [flat, List.flatMap_cons, Nat.zero_mul, Nat.zero_add, List.getElem?_cons_zero, Option.bind_some]
    rw [List.getElem?_append_left (by rw [hl]; exact hi)]
  | x :: xs, j + 1, i, hi => by
    have := flat_get hl xs j i hi
    simp only [flat, List.flatMap_cons, List.getElem?_cons_succ] at this ⊢
    rw [List.getElem?_append_right (by rw [hl, Nat.add_mul]; omega), hl, ← this]
    congr 1
    rw [Nat.add_mul]; omega
theorem flat_at (hl : ∀ x, (enc x).length = sz) (hs : 0 < sz) (xs : List α) (p : Nat) : (flat enc xs)[p]? = xs[p / sz]?.bind fun x => (enc x)[p % sz]? := by
  rw [← flat_get hl xs (p / sz) (p % sz) (Nat.mod_lt _ hs)]
  congr 1
  rw [Nat.mul_comm]; exact (Nat.div_add_mod p sz).symm
theorem flat_mem (h1 : ∀ x, ∀ u ∈ enc x, u.oneCell' = true) (xs : List α) : ∀ u ∈ flat enc xs, u.oneCell' = true := by
  intro u hu
  obtain ⟨x, _, hx⟩ := List.mem_flatMap.1 hu
  exact h1 x u hx
theorem add_plain' (g i j : Nat) : (⟨g, i, none⟩ : Addr).add j = ⟨g, i + j, none⟩ := by unfold Addr.add; split <;> simp_all
theorem Sl.reads {w : World} {A : Option Addr} {n c : Nat} {xs : List α} (hl : ∀ x, (enc x).length = sz) (hs : 0 < sz) (h : Sl enc sz w (.slice A n c) xs) :
    ∀ a, A = some a → ∀ j u, (flat enc xs)[j]? = some u → w.cell? (a.add j) = some u := by
  obtain ⟨A', c', e, hle, hc, hr⟩ := h
  injection e with e1 e2 e3
  subst e1; subst e2; subst e3
  intro a ha p u hu
  rw [flat_at hl hs] at hu
  have hlt : p / sz < xs.length := by
    rcases Nat.lt_or_ge (p / sz) xs.length with h | h
    · exact h
    · rw [List.getElem?_eq_none h] at hu; simp at hu
  obtain ⟨b, off, rfl, hcell⟩ := hr (by intro h; simp [h] at hlt)
  injection ha with ha
  subst ha
  rw [add_plain']
  have := hcell (p / sz) (p % sz) u hlt hu (Nat.mod_lt _ hs)
  rwa [show off + p / sz * sz + p % sz = off + p by rw [Nat.mul_comm]; have := Nat.div_add_mod p sz; omega] at this
theorem Sl.lt {w0 : World} {v : Value} {xs : List α} (hl : ∀ x, (enc x).length = sz) (hs : 0 < sz) (h : Sl enc sz w0 v xs) (hne : xs ≠ []) (b : Nat) (hb : v.ownBlock = some b) : b < w0.heap.size := by
  obtain ⟨A, c, rfl, h2, h2', h3⟩ := h
  obtain ⟨b', off, rfl, h5⟩ := h3 hne
  have : b' = b := by simpa [Value.ownBlock] using hb
  subst this
  have h0 : 0 < xs.length := List.length_pos_iff.2 hne
  have h1 : 0 < (enc xs[0]).length := by rw [hl]; exact hs
  exact World.block_lt_of_cell? w0 _ (h5 0 0 (enc xs[0])[0] h0 (by rw [List.getElem?_eq_getElem h0]; exact List.getElem?_eq_getElem h1) hs)
theorem Sl.old {w0 : World} {v : Value} {xs : List α} (hl : ∀ x, (enc x).length = sz) (hs : 0 < sz) (h : Sl enc sz w0 v xs) (w : World) : Off w0 w v xs := fun hne b hb => .inl (Sl.lt hl hs h hne b hb)
theorem Off.own {w0 w1 w : World} {base : Nat} {e : TypeId} {v : Value} {xs : List α} {ys : List Value} {n : Nat} (h : w1.ownsRow base e sz v n ys) (hb : w.heap.size ≤ base) : Off w0 w v xs := fun _ b hv => .inr (Nat.le_trans hb (h.lt b hv).1)
/-- A row of the call's own reads as its elements. -/
theorem Sl.of_own {w : World} {base : Nat} {e : TypeId} {v : Value} {xs : List α} (hl : ∀ x, (enc x).length = sz) (hs : 0 < sz) (h : w.ownsRow base e sz v xs.length (flat enc xs)) : Sl enc sz w v xs := by
  have h0 := h
  rcases h.2 with ⟨rfl, hn⟩ | ⟨g, cap, cur, rfl, hb, hh, hnc, hm, hcs, htake⟩
  · have : xs = [] := by
      exact List.eq_nil_of_length_eq_zero hn
    subst this
    exact Sl.nil _ _ _
  · refine ⟨_, _, rfl, hnc, ⟨by simp only [maxLen] at hm; omega, fun h => by cases h⟩, fun _ => ⟨g, 0, rfl, fun j i u hj hu hi => ?_⟩⟩
    have := h0.cells (g := g) rfl (j * sz + i) u (by rw [flat_get hl _ _ _ hi]; exact hu)
    rwa [add_plain', show 0 + (j * sz + i) = 0 + j * sz + i by omega] at this
end
section
variable {α : Type} {enc : α → List Value} {sz : Nat} {P : Program}
/-- append onto a slice that has no spare room. -/
theorem run_app_cut {w : World} (hl : ∀ x, (enc x).length = sz) (hs : 0 < sz) (h1 : ∀ x, ∀ u ∈ enc x, u.oneCell' = true) (t ty e : TypeId) (z : Value) (bytes : Nat)
    (ht : P.underlying t = some (.slice e)) (hinfo : (P.info? e).map (fun i => (i.zero, i.size, i.bytes)) = some (some z, sz, bytes)) (hz : z.cells.size = sz)
    (w0 : World) (hw0 : Below w0.heap.size w0 w) (A : Option Addr) (n : Nat) (xs ys : List α) (hS0 : Sl enc sz w0 (.slice A n n) xs) (vx : Value) (hX : Sl enc sz w vx ys) (b1 : (n + ys.length) * bytes ≤ 140737488355328) (b2 : n + ys.length ≤ 140737488355328) :
    ∃ v' w', (Builtin.append_ #[t, t] ty #[.slice A n n, vx]).run P w = .ok v' w' ∧ Sl enc sz w' v' (xs ++ ys) ∧ Below w.heap.size w w' ∧ Off w0 w v' (xs ++ ys) := by
  have hS := hS0.below hw0
  obtain ⟨i0, hi, hzz⟩ := Option.map_eq_some_iff.1 hinfo
  simp only [Prod.mk.injEq] at hzz
  obtain ⟨hz0, hz1, hz2⟩ := hzz
  have hreadS := Sl.reads hl hs hS
  obtain ⟨A', c', e1, hle, hc, hr⟩ := id hX
  subst e1
  have hn : n = xs.length := by obtain ⟨_, _, e, _⟩ := hS; injection e
  rcases Nat.eq_zero_or_pos ys.length with h0 | h0
  · obtain rfl : ys = [] := List.eq_nil_of_length_eq_zero h0
    refine ⟨.slice A n n, w, ?_, by simpa using hS, Below.refl _ _, by simpa using Sl.old hl hs hS0 w⟩
    have hf : (Builtin.firstCells sz 0 (.slice A' 0 c')).run P w = .ok #[] w := by
      cases A' with
      | none => simp [Builtin.firstCells]
      | some a => exact run_firstCells_some w sz 0 a 0 c' [] (by simp) (by simp)
    cases A with
    | none => simp [Builtin.append_, run_underlying ht, sizeOf, typeInfo, hi, Builtin.lenOf, hz1, hf]
    | some a => simp [Builtin.append_, run_underlying ht, sizeOf, typeInfo, hi, Builtin.lenOf, hz1, hf, storeCells]
  · obtain ⟨b, off, rfl, _⟩ := hr (by intro h; simp [h] at h0)
    have hreadX := Sl.reads hl hs hX ⟨b, off, none⟩ rfl
    have hno : ∀ v' w', w'.ownsRow w.heap.size e sz v' (n + ys.length) (flat enc xs ++ flat enc ys) → w.grownBy w' none → Sl enc sz w' v' (xs ++ ys) ∧ Below w.heap.size w w' ∧ Off w0 w v' (xs ++ ys) := by
      intro v' w' ho hg
      refine ⟨Sl.of_own hl hs (e := e) (base := w.heap.size) ?_, (Below.refl _ _).grown hg (Nat.le_refl _) (by intro k hk; cases hk), Off.own ho (Nat.le_refl _)⟩
      rw [flat_append, List.length_append, ← hn]; exact ho
    cases A with
    | some a =>
      obtain ⟨v', w', hrun, ho, hg⟩ := run_append_arg_grows (P := P) w t ty e i0 z sz bytes ht hi hz0 hz1 hz2 hz hs a n n (flat enc xs) (by rw [flat_length hl, hn]) (hreadS a rfl) ⟨b, off, none⟩ ys.length c' (flat enc ys) (flat_length hl ys) hreadX (by omega) (by simp only [maxLen]; omega) b1
      exact ⟨v', w', hrun, hno v' w' ho hg⟩
    | none =>
      have hn0 : n = 0 := by
        rcases Nat.eq_zero_or_pos n with h | h
        · exact h
        · obtain ⟨_, _, e, _, _, hr⟩ := hS
          injection e with e1 e2 e3
          obtain ⟨_, _, h4, _⟩ := hr (by intro h; simp [h] at hn; omega)
          rw [← e1] at h4; cases h4
      subst hn0
      obtain rfl : xs = [] := List.eq_nil_of_length_eq_zero hn.symm
      obtain ⟨v', w', hrun, ho, hg, _⟩ := run_append_own (P := P) w w.heap.size t ty e i0 z sz bytes ht hi hz0 hz1 hz2 hz hs (.slice none 0 0) 0 [] (World.ownsRow_nil w _ e sz) ⟨b, off, none⟩ ys.length c' (flat enc ys) (flat_length hl ys) hreadX (flat_mem h1 ys) (by simp only [maxLen]; omega) (by omega) (Nat.le_refl _)
      refine ⟨v', w', hrun, hno v' w' (by simpa [flat] using ho) ?_⟩
      simpa [Value.ownBlock] using hg
theorem app_cut {ops : Array Oper} {rest : List Oper} {o : Oper} {a : Act} {Q : Exit → Act → World → Prop} {w : World} (hl : ∀ x, (enc x).length = sz) (hs : 0 < sz) (h1 : ∀ x, ∀ u ∈ enc x, u.oneCell' = true)
    (hgd : o.guard = none) (s x : Operand) (t : TypeId) (ho : o.op = .call { callee := .builtin .append, args := #[s, x], argTypes := #[t, t] }) (e : TypeId) (z : Value) (bytes : Nat)
    (ht : P.underlying t = some (.slice e)) (hinfo : (P.info? e).map (fun i => (i.zero, i.size, i.bytes)) = some (some z, sz, bytes)) (hz : z.cells.size = sz)
    (w0 : World) (hw0 : Below w0.heap.size w0 w) (A : Option Addr) (n : Nat) (xs ys : List α) (hs' : a.eval s = .slice A n n) (hS : Sl enc sz w0 (.slice A n n) xs) (vx : Value) (hx' : a.eval x = vx) (hX : Sl enc sz w vx ys) (b1 : (n + ys.length) * bytes ≤ 140737488355328) (b2 : n + ys.length ≤ 140737488355328)
    (hK : ∀ v' w', Sl enc sz w' v' (xs ++ ys) → Below w.heap.size w w' → Off w0 w v' (xs ++ ys) → wpList P ops Q rest (a.put o.dst v') w') : wpList P ops Q (o :: rest) a w := by
  refine wpList_plain hgd fun K hK' => ?_
  obtain ⟨v', w', hrun, r1, r2, r3⟩ := run_app_cut (P := P) hl hs h1 t o.type e z bytes ht hinfo hz w0 hw0 A n xs ys hS vx hX b1 b2
  unfold Oper.wp
  simp [execOp, ho, resolve, invoke, builtin, hs', hx', hrun, Result.andThen]
  exact hK' _ _ (hK v' w' r1 r2 r3)
end
section
variable {α : Type} {enc : α → List Value} {sz : Nat} {P : Program}
/-- append onto a row of the call's own. -/
theorem run_app_own {w : World} (hl : ∀ x, (enc x).length = sz) (hs : 0 < sz) (h1 : ∀ x, ∀ u ∈ enc x, u.oneCell' = true) (t ty e : TypeId) (z : Value) (bytes : Nat)
    (ht : P.underlying t = some (.slice e)) (hinfo : (P.info? e).map (fun i => (i.zero, i.size, i.bytes)) = some (some z, sz, bytes)) (hz : z.cells.size = sz)
    (base : Nat) (v : Value) (n : Nat) (xs ys : List α) (hn : n = xs.length) (ho : w.ownsRow base e sz v n (flat enc xs)) (vx : Value) (hX : Sl enc sz w vx ys) (hb : base ≤ w.heap.size) (b1 : (n + ys.length) * bytes ≤ 140737488355328) (b2 : n + ys.length ≤ 140737488355328) :
    ∃ v' w', (Builtin.append_ #[t, t] ty #[v, vx]).run P w = .ok v' w' ∧ w'.ownsRow base e sz v' (n + ys.length) (flat enc (xs ++ ys)) ∧ w.grownBy w' v.ownBlock ∧ (v'.ownBlock = v.ownBlock ∨ v'.ownBlock = some w.heap.size) := by
  obtain ⟨i0, hi, hzz⟩ := Option.map_eq_some_iff.1 hinfo
  simp only [Prod.mk.injEq] at hzz
  obtain ⟨hz0, hz1, hz2⟩ := hzz
  obtain ⟨A', c', e1, hle, hc, hr⟩ := id hX
  subst e1
  rcases Nat.eq_zero_or_pos ys.length with h0 | h0
  · obtain rfl : ys = [] := List.eq_nil_of_length_eq_zero h0
    have hf : (Builtin.firstCells sz 0 (.slice A' 0 c')).run P w = .ok #[] w := by
      cases A' with
      | none => simp [Builtin.firstCells]
      | some a => exact run_firstCells_some w sz 0 a 0 c' [] (by simp) (by simp)
    refine ⟨v, w, ?_, by simpa using ho, World.grownBy.refl w _, .inl rfl⟩
    rcases ho.2 with ⟨rfl, rfl⟩ | ⟨g, cap, cur, rfl, _, _, hnc, _⟩
    · simp [Builtin.append_, run_underlying ht, sizeOf, typeInfo, hi, Builtin.lenOf, hz1, hf]
    · simp [Builtin.append_, run_underlying ht, sizeOf, typeInfo, hi, Builtin.lenOf, hz1, hf, hnc, storeCells]
  · obtain ⟨b, off, rfl, _⟩ := hr (by intro h; simp [h] at h0)
    have hreadX := Sl.reads hl hs hX ⟨b, off, none⟩ rfl
    obtain ⟨v', w', hrun, h2, h3, _, h5⟩ := run_append_own_at (P := P) w base t ty e i0 z sz bytes ht hi hz0 hz1 hz2 hz hs v n (flat enc xs) ho ⟨b, off, none⟩ ys.length c' (flat enc ys) (flat_length hl ys) hreadX (flat_mem h1 ys) (by simp only [maxLen]; omega) b1 hb
    exact ⟨v', w', hrun, by rw [flat_append]; exact h2, h3, h5⟩
theorem app_own {ops : Array Oper} {rest : List Oper} {o : Oper} {a : Act} {Q : Exit → Act → World → Prop} {w : World} (hl : ∀ x, (enc x).length = sz) (hs : 0 < sz) (h1 : ∀ x, ∀ u ∈ enc x, u.oneCell' = true)
    (hgd : o.guard = none) (s x : Operand) (t : TypeId) (hop : o.op = .call { callee := .builtin .append, args := #[s, x], argTypes := #[t, t] }) (e : TypeId) (z : Value) (bytes : Nat)
    (ht : P.underlying t = some (.slice e)) (hinfo : (P.info? e).map (fun i => (i.zero, i.size, i.bytes)) = some (some z, sz, bytes)) (hz : z.cells.size = sz)
    (base : Nat) (v : Value) (n : Nat) (xs ys : List α) (hn : n = xs.length) (hs' : a.eval s = v) (ho : w.ownsRow base e sz v n (flat enc xs)) (vx : Value) (hx' : a.eval x = vx) (hX : Sl enc sz w vx ys) (hb : base ≤ w.heap.size) (b1 : (n + ys.length) * bytes ≤ 140737488355328) (b2 : n + ys.length ≤ 140737488355328)
    (hK : ∀ v' w', w'.ownsRow base e sz v' (n + ys.length) (flat enc (xs ++ ys)) → w.grownBy w' v.ownBlock → (v'.ownBlock = v.ownBlock ∨ v'.ownBlock = some w.heap.size) → wpList P ops Q rest (a.put o.dst v') w') : wpList P ops Q (o :: rest) a w := by
  refine wpList_plain hgd fun K hK' => ?_
  obtain ⟨v', w', hrun, r1, r2, r3⟩ := run_app_own (P := P) hl hs h1 t o.type e z bytes ht hinfo hz base v n xs ys hn ho vx hX hb b1 b2
  unfold Oper.wp
  simp [execOp, hop, resolve, invoke, builtin, hs', hx', hrun, Result.andThen]
  exact hK' _ _ (hK v' w' r1 r2 r3)
/-- The same inside a region that draws its order. -/
theorem step_app_own {ops : Array Oper} {o : Oper} {a : Act} {K : Act → World → Prop} {Q : Exit → Act → World → Prop} {E : Prop} {w : World} (hl : ∀ x, (enc x).length = sz) (hs : 0 < sz) (h1 : ∀ x, ∀ u ∈ enc x, u.oneCell' = true)
    (hgd : o.guard = none) (s x : Operand) (t : TypeId) (hop : o.op = .call { callee := .builtin .append, args := #[s, x], argTypes := #[t, t] }) (e : TypeId) (z : Value) (bytes : Nat)
    (ht : P.underlying t = some (.slice e)) (hinfo : (P.info? e).map (fun i => (i.zero, i.size, i.bytes)) = some (some z, sz, bytes)) (hz : z.cells.size = sz)
    (base : Nat) (v : Value) (n : Nat) (xs ys : List α) (hn : n = xs.length) (hs' : a.eval s = v) (ho : w.ownsRow base e sz v n (flat enc xs)) (vx : Value) (hx' : a.eval x = vx) (hX : Sl enc sz w vx ys) (hb : base ≤ w.heap.size) (b1 : (n + ys.length) * bytes ≤ 140737488355328) (b2 : n + ys.length ≤ 140737488355328)
    (hK : ∀ v' w', w'.ownsRow base e sz v' (n + ys.length) (flat enc (xs ++ ys)) → w.grownBy w' v.ownBlock → (v'.ownBlock = v.ownBlock ∨ v'.ownBlock = some w.heap.size) → K (a.put o.dst v') w') :
    if Region.wanted o (yielded ops a.tmps) = true then Oper.wp P o a w K Q else E := by
  have hw : Region.wanted o (yielded ops a.tmps) = true := by simp [Region.wanted, hgd]
  rw [if_pos hw]
  obtain ⟨v', w', hrun, r1, r2, r3⟩ := run_app_own (P := P) hl hs h1 t o.type e z bytes ht hinfo hz base v n xs ys hn ho vx hX hb b1 b2
  unfold Oper.wp execOp
  simp only [hop, resolve, invoke, builtin, Sem.run_bind, Sem.run_pure, Result.andThen_ok, List.map_toArray, List.map_cons, List.map_nil, hs', hx', hrun]
  exact hK v' w' r1 r2 r3
/-- A slice of one element that was just made. -/
theorem Sl.new1 (hl : ∀ x, (enc x).length = sz) (w : World) (x : α) (cs : Array Value) (t : TypeId) (hcs : cs.toList = enc x) : Sl enc sz (w.alloc (.cells cs t)) (.slice (some ⟨w.heap.size, 0, none⟩) 1 1) [x] := by
  refine ⟨_, 1, rfl, by simp, ⟨by omega, fun h => by cases h⟩, fun _ => ⟨w.heap.size, 0, rfl, fun j i u hj hu hi => ?_⟩⟩
  have hj0 : j = 0 := by simpa using hj
  subst hj0
  simp at hu
  rw [bk_cell (bk_new w (.cells cs t)), ← hu, ← hcs]
  simp
end
end Go.Proofs.YtjpagpplkldbkaaGreat
set_option linter.unusedVariables false
set_option linter.unusedSimpArgs false
namespace Go.Proofs.YtjpagpplkldbkaaGreat
open Go.RowKit
def dagB (ops : Array Oper) : Bool := (List.range ops.size).all fun i => match ops[i]? with | some o => o.after.all (fun e => !Region.binds .any e || decide (e.on < i)) | none => true
theorem count_set : ∀ (l : List Bool) (i : Nat) (h : i < l.length), l[i] = false → (l.set i true).count false + 1 = l.count false
  | [], i, h, _ => absurd h (by simp)
  | b :: l, 0, _, hb => by
    have : b = false := hb
    subst this
    simp
  | b :: l, i + 1, h, hb => by
    have := count_set l i (by simpa using h) (by simpa using hb)
    simp only [List.set_cons_succ, List.count_cons]
    omega
section
variable {P : Program} {ops : Array Oper} {Q : Exit → Act → World → Prop}
theorem all_listed (hd : dagB ops = true) (L : Array Bool) (hL : L.size = ops.size) (hr : Region.ready .any ops L = []) : ∀ i, i < ops.size → L.getD i false = true := by
  intro i
  induction i using Nat.strongRecOn with
  | _ i ih =>
    intro hi
    cases hl : L.getD i false with
    | true => rfl
    | false =>
      exfalso
      have hm : i ∈ Region.ready .any ops L := by
        refine mem_ready.2 ⟨?_, ops[i], by simp [hi], fun e he hb => ?_⟩
        · have : i < L.size := by omega
          simp [this] at hl ⊢; exact hl
        · have h1 := List.all_eq_true.1 hd i (List.mem_range.2 hi)
          simp only [Array.getElem?_eq_getElem hi] at h1
          have h2 := Array.all_eq_true'.1 h1 e he
          have h3 : e.on < i := by simpa [hb] using h2
          exact ih e.on h3 (by omega)
      rw [hr] at hm
      cases hm
/-- Whatever has come up, all that it waited for has come up. -/
def Closed (ops : Array Oper) (L : Array Bool) : Prop := ∀ j oj, ops[j]? = some oj → L.getD j false = true → ∀ e ∈ oj.after, Region.binds .any e = true → L.getD e.on false = true
theorem Closed.set {i : Nat} {L : Array Bool} {o : Oper} (h : Closed ops L) (ho : ops[i]? = some o) (hd : ∀ e ∈ o.after, Region.binds .any e = true → L.getD e.on false = true) : Closed ops (L.setIfInBounds i true) := by
  intro j oj hj hl e he hb
  by_cases hij : i = j
  · subst hij
    have : oj = o := Option.some.inj (hj.symm.trans ho)
    subst this
    exact getD_set_true (hd e he hb)
  · rw [getD_set_ne false hij] at hl
    exact getD_set_true (h j oj hj hl e he hb)
theorem region_inv_any (hd : dagB ops = true) (J : Array Bool → Act → World → Prop)
    (hs : ∀ i o, ops[i]? = some o → ∀ (L : Array Bool) a w, L.size = ops.size → L.getD i false = false → Closed ops L → (∀ e ∈ o.after, Region.binds .any e = true → L.getD e.on false = true) → J L a w → wpOp P ops Q i (fun a' w' => J (L.setIfInBounds i true) a' w') a w)
    (he : ∀ L a w, (∀ i, i < ops.size → L.getD i false = true) → J L a w → Q .normal a w) :
    ∀ (f : Nat) (L : Array Bool) (a : Act) (w : World), L.size = ops.size → Closed ops L → L.toList.count false ≤ f → J L a w → wpAny P .any ops Q f L a w
  | 0, L, a, w, hL, hcl, hc, hJ => by
    have hall : ∀ i, i < ops.size → L.getD i false = true := by
      intro i hi
      cases hl : L.getD i false with
      | true => rfl
      | false =>
        exfalso
        have hi' : i < L.toList.length := by simp; omega
        have : L.toList[i] = false := by have : i < L.size := by omega
                                         simp [this] at hl ⊢; exact hl
        have := List.count_pos_iff.2 (List.getElem_mem hi' |> (this ▸ ·))
        omega
    refine ⟨?_, he L a w hall hJ⟩
    cases hr : Region.ready .any ops L with
    | nil => rfl
    | cons i rs =>
      exfalso
      have hm : i ∈ Region.ready .any ops L := by rw [hr]; exact List.mem_cons_self
      obtain ⟨h1, o, ho, _⟩ := mem_ready.1 hm
      have hi : i < ops.size := (Array.getElem?_eq_some_iff.1 ho).1
      have h2 := hall i hi
      have : i < L.size := by omega
      simp [this] at h1 h2
      rw [h1] at h2; cases h2
  | f + 1, L, a, w, hL, hcl, hc, hJ => by
    refine ⟨fun hr => he L a w (all_listed hd L hL hr) hJ, fun i hi => ?_⟩
    obtain ⟨h1, o, ho, hall⟩ := mem_ready.1 hi
    have hi : i < ops.size := (Array.getElem?_eq_some_iff.1 ho).1
    have hiL : i < L.size := by omega
    have h0 : L.getD i false = false := by simp [hiL] at h1 ⊢; exact h1
    refine wpOp_mono (fun a' w' hJ' => ?_) (hs i o ho L a w hL h0 hcl hall hJ)
    refine region_inv_any hd J hs he f (L.setIfInBounds i true) a' w' (by simpa using hL) (hcl.set ho hall) ?_ hJ'
    have h2 : L.toList[i]'(by simpa using hiL) = false := by simp [hiL] at h1 ⊢; exact h1
    have := count_set L.toList i (by simpa using hiL) h2
    simp only [Array.toList_setIfInBounds]
    omega
theorem region_inv {id : Nat} {a : Act} {w : World} (hm : P.follows .mixedOrders = true) (hd : dagB ops = true) (J : Array Bool → Act → World → Prop) (h0 : J (Array.replicate ops.size false) a w.drew)
    (hs : ∀ i o, ops[i]? = some o → ∀ (L : Array Bool) a w, L.size = ops.size → L.getD i false = false → Closed ops L → (∀ e ∈ o.after, Region.binds .any e = true → L.getD e.on false = true) → J L a w → wpOp P ops Q i (fun a' w' => J (L.setIfInBounds i true) a' w') a w)
    (he : ∀ L a w, (∀ i, i < ops.size → L.getD i false = true) → J L a w → Q .normal a w) : (Code.region id ops true).wp P Q a w :=
  wp_region_any hm (region_inv_any hd J hs he _ _ _ _ (by simp) (fun j oj _ hl => by rcases Nat.lt_or_ge j ops.size with h | h <;> simp [h] at hl) (by simp) h0)
/-- The operations from number k on, one goal each. -/
def Steps (P : Program) (ops : Array Oper) (Q : Exit → Act → World → Prop) (J : Array Bool → Act → World → Prop) : Nat → List Oper → Prop
  | _, [] => True
  | k, o :: l => (∀ (L : Array Bool) a w, L.size = ops.size → L.getD k false = false → Closed ops L → (∀ e ∈ o.after, Region.binds .any e = true → L.getD e.on false = true) → J L a w → wpOp P ops Q k (fun a' w' => J (L.setIfInBounds k true) a' w') a w) ∧ Steps P ops Q J (k + 1) l
theorem Steps.at {J : Array Bool → Act → World → Prop} : ∀ (l : List Oper) (k : Nat), Steps P ops Q J k l → ∀ i o, l[i]? = some o → ∀ (L : Array Bool) a w, L.size = ops.size → L.getD (k + i) false = false → Closed ops L → (∀ e ∈ o.after, Region.binds .any e = true → L.getD e.on false = true) → J L a w → wpOp P ops Q (k + i) (fun a' w' => J (L.setIfInBounds (k + i) true) a' w') a w
  | [], k, _, i, o, ho => by simp at ho
  | x :: l, k, h, 0, o, ho => by
    have : x = o := by simpa using ho
    subst this
    exact h.1
  | x :: l, k, h, i + 1, o, ho => by
    have := Steps.at l (k + 1) h.2 i o (by simpa using ho)
    rwa [show k + 1 + i = k + (i + 1) by omega] at this
theorem region_steps {id : Nat} {a : Act} {w : World} (hm : P.follows .mixedOrders = true) (hd : dagB ops = true) (J : Array Bool → Act → World → Prop) (h0 : J (Array.replicate ops.size false) a w.drew)
    (hs : Steps P ops Q J 0 ops.toList) (he : ∀ L a w, (∀ i, i < ops.size → L.getD i false = true) → J L a w → Q .normal a w) : (Code.region id ops true).wp P Q a w :=
  region_inv hm hd J h0 (fun i o ho L a w h1 h2 h3 h4 h5 => by
    have := Steps.at ops.toList 0 hs i o (by simpa using ho) L a w h1 (by rwa [Nat.zero_add]) h3 h4 h5
    rwa [Nat.zero_add] at this) he
end
end Go.Proofs.YtjpagpplkldbkaaGreat
set_option linter.unusedVariables false
set_option linter.unusedSimpArgs false
namespace Go.Proofs.YtjpagpplkldbkaaGreat
open Go.RowKit
def opN : List Oper → Nat → Option Oper
  | [], _ => none
  | o :: _, 0 => some o
  | _ :: l, n + 1 => opN l n
theorem opN_get : ∀ {l : List Oper} {i : Nat} {o : Oper}, opN l i = some o → l.toArray[i]? = some o
  | [], _, _, h => by cases h
  | o :: _, 0, _, h => by simpa [opN] using h
  | _ :: l, n + 1, _, h => by have := opN_get (l := l) h; simpa using this
section
variable {P : Program} {l : List Oper} {Q : Exit → Act → World → Prop} {md : Region.Mode} {S : World → Prop}
theorem held_take (i : Nat) {oi : Oper} {v : Value} {fuel : Nat} {listed : Array Bool} {a : Act} {w : World} (hi : opN l i = some oi)
    (hs : Region.noSelect l.toArray = true) (hf : Region.free md l.toArray listed i = true) (hr : (Region.ready md l.toArray listed).contains i = true)
    (hQ : ∀ c a w, Q (.panic c) (a.put oi.dst v) w → Q (.panic c) a w) (hw : Region.wanted oi (yielded l.toArray a.tmps) = true) (hy : ∀ w, S w → (execOp a.eval oi).run P w = .ok (.value v) w) (hS : S w)
    (h : wpAnyH P md l.toArray Q S fuel (listed.setIfInBounds i true) (a.put oi.dst v) w) : wpAnyH P md l.toArray Q S (fuel + 1) listed a w :=
  wpAnyH_take (opN_get hi) hs hf hr hQ (.inl ⟨hw, hy⟩) hS h
theorem held_skip (i : Nat) {oi : Oper} {fuel : Nat} {listed : Array Bool} {a : Act} {w : World} (hi : opN l i = some oi)
    (hs : Region.noSelect l.toArray = true) (hf : Region.free md l.toArray listed i = true) (hr : (Region.ready md l.toArray listed).contains i = true)
    (hQ : ∀ c a w, Q (.panic c) (a.put oi.dst undef) w → Q (.panic c) a w) (hw : Region.wanted oi (yielded l.toArray a.tmps) = false) (hS : S w)
    (h : wpAnyH P md l.toArray Q S fuel (listed.setIfInBounds i true) (a.put oi.dst undef) w) : wpAnyH P md l.toArray Q S (fuel + 1) listed a w :=
  wpAnyH_take (opN_get hi) hs hf hr hQ (.inr ⟨hw, rfl⟩) hS h
theorem held_only (i : Nat) {oi : Oper} {fuel : Nat} {listed : Array Bool} {a : Act} {w : World} (hi : opN l i = some oi) (hr : Region.ready md l.toArray listed = [i])
    (h : ∀ K' : Act → World → Prop, Shut (∀ a w, S w → (S w → wpAnyH P md l.toArray Q S fuel (listed.setIfInBounds i true) a w) → K' a w) → if Region.wanted oi (yielded l.toArray a.tmps) = true then Oper.wp P oi a w K' Q else K' (a.put oi.dst undef) w) :
    wpAnyH P md l.toArray Q S (fuel + 1) listed a w := wpAnyH_ready hr (by simp) (AllReadyH.cons (opN_get hi) h AllReadyH.nil)
end
theorem wrapI {n : Int} (h1 : -9223372036854775808 ≤ n) (h2 : n ≤ 9223372036854775807) : IntKind.i64.wrap n = n := by rw [IntKind.wrap_i64]; omega
end Go.Proofs.YtjpagpplkldbkaaGreat
set_option linter.unusedVariables false
set_option linter.unusedSimpArgs false
namespace Go.Proofs.YtjpagpplkldbkaaGreat
open Go.RowKit
section
variable {P : Program} {ops : Array Oper} {Q : Exit → Act → World → Prop} {S : World → Prop}
def GivesX (P : Program) (S : World → Prop) (x : Sem Next) (v : Value) : Prop :=
  ∀ w, S w → (∃ w', x.run P w = .ok (.value v) w' ∧ S w') ∨ ∃ f args, x.run P w = .ok (.enter f args) w ∧ Calls P f args w fun e w' => e = .returned v ∧ S w'
def Gives (P : Program) (ops : Array Oper) (S : World → Prop) (o : Oper) (v : Value) (a : Act) : Prop :=
  (Region.wanted o (yielded ops a.tmps) = true ∧ GivesX P S (execOp a.eval o) v) ∨ (Region.wanted o (yielded ops a.tmps) = false ∧ v = undef)
theorem Gives.wpOp {i : Nat} {o : Oper} {v : Value} {a : Act} (hi : ops[i]? = some o) (hy : Gives P ops S o v a)
    {K : Act → World → Prop} {w : World} (hS : S w) (h : ∀ w', S w' → K (a.put o.dst v) w') : wpOp P ops Q i K a w := by
  unfold Go.wpOp
  simp only [hi]
  rcases hy with ⟨hw, hv⟩ | ⟨hw, rfl⟩
  · simp only [hw, if_true]
    left
    unfold Oper.wp
    rcases hv w hS with ⟨w', h1, h2⟩ | ⟨f, args, h1, h2⟩
    · rw [h1]; exact h w' h2
    · rw [h1]
      refine Calls.mono h2 ?_
      rintro e w' ⟨rfl, h3⟩
      exact h w' h3
  · simp only [hw, Bool.false_eq_true, if_false]; exact h w hS
theorem Gives.of_same {o : Oper} {v : Value} {a a' : Act} (hy : Gives P ops S o v a) (he : execOp a'.eval o = execOp a.eval o)
    (hw : Region.wanted o (yielded ops a'.tmps) = Region.wanted o (yielded ops a.tmps)) : Gives P ops S o v a' := by
  unfold Gives at *
  rw [he, hw]
  exact hy
theorem wpOp_putT {j : Nat} {oi oj : Oper} {v : Value} (hj : ops[j]? = some oj) (hap : oi.apart ops oj = true)
    (hsi : ∀ cs b, oi.op ≠ .select cs b) (hsj : ∀ cs b, oj.op ≠ .select cs b)
    (hQ : ∀ c a w, Q (.panic c) (a.put oi.dst v) w → Q (.panic c) a w) {K : Act → World → Prop} {a : Act} {w : World}
    (hy : Gives P ops S oi v a) (h : wpOp P ops Q j K (a.put oi.dst v) w) :
    wpOp P ops Q j (fun a' w' => Gives P ops S oi v a' ∧ K (a'.put oi.dst v) w') a w := by
  obtain ⟨h1, h2, h3⟩ := Oper.apart_spec hap
  have keep : ∀ (a : Act), Gives P ops S oi v a → ∀ u, Gives P ops S oi v (a.put oj.dst u) := fun a hy u =>
    hy.of_same (execOp_put oi hsi a oj.dst u h3) (wanted_put oi a oj.dst u h3)
  have keepD : ∀ d, Gives P ops S oi v { a with defers := d :: a.defers } := fun d => hy.of_same rfl rfl
  unfold wpOp at *
  simp only [hj] at *
  rw [wanted_put oj a oi.dst v h1] at h
  split
  · rename_i hw
    simp only [hw, if_true] at h
    rcases h with h | ⟨hasks, hlets⟩
    case inr => exact .inr ⟨by unfold Oper.asks at *; rw [execOp_put oj hsj a oi.dst v h1] at hasks; exact hasks, hlets⟩
    refine .inl ?_
    unfold Oper.wp at *
    rw [execOp_put oj hsj a oi.dst v h1] at h
    generalize (execOp a.eval oj).run P w = r at *
    cases r with
    | ok n w' =>
      cases n <;> simp only [Oper.upon] at h ⊢
      case value u => exact ⟨keep a hy u, by rw [← Act.put_comm a v u h2]; exact h⟩
      case skip => exact ⟨keep a hy _, by rw [← Act.put_comm a v undef h2]; exact h⟩
      case defer d =>
        refine ⟨keep _ (keepD d) _, ?_⟩
        rw [← Act.put_comm _ v undef h2, ← Act.put_defers]
        exact h
      case enter f args =>
        refine Calls.mono h fun e w'' he => ?_
        cases e with
        | returned u => exact ⟨keep a hy u, by rw [← Act.put_comm a v u h2]; exact he⟩
        | panicked c => exact hQ _ _ _ he
        | outgrown => exact he
      case row row args => exact Rows.mono h fun u w'' he => ⟨keep a hy u, by rw [← Act.put_comm a v u h2]; exact he⟩
    | halt x w' =>
      cases x <;> simp only [Oper.upon] at h ⊢
      case panic u => exact hQ _ _ _ h
  · rename_i hw
    simp only [hw] at h
    exact ⟨keep a hy _, by rw [← Act.put_comm a v undef h2]; exact h⟩
/-- From here on S is kept behind each operation, until number k is all that can come. -/
def wpX (P : Program) (ops : Array Oper) (Q : Exit → Act → World → Prop) (S : World → Prop) (k : Nat) : Nat → Array Bool → Act → World → Prop
  | 0, listed, a, w => Region.ready .any ops listed = [] ∧ Q .normal a w
  | fuel + 1, listed, a, w =>
    (Region.ready .any ops listed = [k] ∧ wpAny P .any ops Q (fuel + 1) listed a w) ∨
    (k ∉ Region.ready .any ops listed ∧ (Region.ready .any ops listed = [] → Q .normal a w) ∧ ∀ i ∈ Region.ready .any ops listed, wpOp P ops Q i (fun a' w' => S w' ∧ wpX P ops Q S k fuel (listed.setIfInBounds i true) a' w') a w)
theorem wpX_sound {k : Nat} : ∀ (fuel : Nat) (listed : Array Bool) (a : Act) (w : World), wpX P ops Q S k fuel listed a w → wpAny P .any ops Q fuel listed a w
  | 0, _, _, _, h => h
  | fuel + 1, listed, a, w, h => by
    rcases h with h | ⟨_, h2, h3⟩
    · exact h.2
    · exact ⟨h2, fun i hi => wpOp_mono (fun a' w' h' => wpX_sound fuel _ a' w' h'.2) (h3 i hi)⟩
theorem not_ready_of {i : Nat} {listed : Array Bool} {oj : Oper} (hr : i ∈ Region.ready .any ops listed) (hall : ∀ e ∈ oj.after, Region.binds .any e = true → listed.getD e.on false = true) : ∀ e ∈ oj.after, Region.binds .any e = true → e.on ≠ i := fun e he hb heq => by
  have h1 := hall e he hb
  have h0 := (mem_ready.1 hr).1
  rw [heq] at h1
  rcases Nat.lt_or_ge i listed.size with h' | h'
  · simp [h'] at h0 h1; rw [h0] at h1; cases h1
  · simp [Array.getElem?_eq_none h'] at h1
theorem free_set {i j : Nat} {oi : Oper} {listed : Array Bool} (hjun : listed.getD j true = false)
    (hfree : ∀ j oj, ops[j]? = some oj → j ≠ i → listed.getD j true = false → (∀ e ∈ oj.after, Region.binds .any e = true → e.on ≠ i) → oi.apart ops oj = true) :
    ∀ k ok, ops[k]? = some ok → k ≠ i → (listed.setIfInBounds j true).getD k true = false → (∀ e ∈ ok.after, Region.binds .any e = true → e.on ≠ i) → oi.apart ops ok = true := fun k ok hk hki hun hno => by
  refine hfree k ok hk hki ?_ hno
  by_cases hjk : j = k
  · subst hjk; exact hjun
  · rw [getD_set_ne true hjk] at hun; exact hun
/-- What comes to the same value wherever S holds, and changes nothing, may come first. -/
theorem wpX_first {i k : Nat} {oi : Oper} {v : Value} (hi : ops[i]? = some oi) (hsel : ∀ (j : Nat) (o : Oper) cs b, ops[j]? = some o → o.op ≠ .select cs b)
    (hQ : ∀ c a w, Q (.panic c) (a.put oi.dst v) w → Q (.panic c) a w)
    (hk : ∀ L, Closed ops L → L.getD i true = false → k ∉ Region.ready .any ops L) :
    ∀ (fuel : Nat) (listed : Array Bool) (a : Act) (w : World), Closed ops listed →
      (∀ j oj, ops[j]? = some oj → j ≠ i → listed.getD j true = false → (∀ e ∈ oj.after, Region.binds .any e = true → e.on ≠ i) → oi.apart ops oj = true) →
      i ∈ Region.ready .any ops listed → YieldsIf P ops S oi v a → S w →
      wpX P ops Q S k fuel (listed.setIfInBounds i true) (a.put oi.dst v) w → wpX P ops Q S k (fuel + 1) listed a w := by
  intro fuel
  induction fuel with
  | zero =>
    intro listed a w hc hfree hr hy hS H
    refine .inr ⟨hk listed hc (mem_ready.1 hr).1, fun h => (by rw [h] at hr; cases hr), fun j hj => ?_⟩
    by_cases hji : j = i
    · subst hji; exact hy.wpOp hi hS ⟨hS, H⟩
    · have := ready_mono hj hji
      rw [H.1] at this
      cases this
  | succ fuel ih =>
    intro listed a w hc hfree hr hy hS H
    have hki := hk listed hc (mem_ready.1 hr).1
    refine .inr ⟨hki, fun h => (by rw [h] at hr; cases hr), fun j hj => ?_⟩
    by_cases hji : j = i
    · subst hji; exact hy.wpOp hi hS ⟨hS, H⟩
    · have hj' := ready_mono hj hji
      rcases H with ⟨H1, _⟩ | ⟨_, _, H3⟩
      · exfalso
        rw [H1] at hj'
        rw [List.mem_singleton.1 hj'] at hj; exact hki hj
      · have h1 := H3 j hj'
        obtain ⟨hjun, oj, hoj, hall⟩ := mem_ready.1 hj
        have h2 := wpOp_putIf hoj (hfree j oj hoj hji hjun (not_ready_of hr hall)) (fun cs b => hsel i oi cs b hi) (fun cs b => hsel j oj cs b hoj) hQ hy h1
        refine wpOp_mono (fun a' w' h3 => ⟨h3.2.1, ih (listed.setIfInBounds j true) a' w' (hc.set hoj hall) (free_set hjun hfree) (ready_mono hr (Ne.symm hji)) h3.1 h3.2.1 ?_⟩) h2
        rw [Array.setIfInBounds_comm _ _ hji]
        exact h3.2.2
/-- From here on, whatever order is picked, S is kept, in whatever world that meets S; number k2, if there is one, comes behind all that is taken so. -/
def wpT (P : Program) (ops : Array Oper) (Q : Exit → Act → World → Prop) (S : World → Prop) (k k2 : Nat) : Nat → Array Bool → Act → Prop
  | 0, listed, a => Region.ready .any ops listed = [] ∧ ∀ w, S w → Q .normal a w
  | fuel + 1, listed, a =>
    ((Region.ready .any ops listed = [k2] ∨ Region.ready .any ops listed = []) ∧ ∀ w, S w → wpX P ops Q S k (fuel + 1) listed a w) ∨
    (k ∉ Region.ready .any ops listed ∧ k2 ∉ Region.ready .any ops listed ∧ Region.ready .any ops listed ≠ [] ∧ ∀ i ∈ Region.ready .any ops listed, ∀ w, S w → wpOp P ops Q i (fun a' w' => S w' ∧ wpT P ops Q S k k2 fuel (listed.setIfInBounds i true) a') a w)
theorem wpT_sound {k k2 : Nat} : ∀ (fuel : Nat) (listed : Array Bool) (a : Act), wpT P ops Q S k k2 fuel listed a → ∀ w, S w → wpX P ops Q S k fuel listed a w
  | 0, _, _, h, w, hS => ⟨h.1, h.2 w hS⟩
  | fuel + 1, listed, a, h, w, hS => by
    rcases h with h | ⟨h1, _, h2, h3⟩
    · exact h.2 w hS
    · exact .inr ⟨h1, fun h0 => absurd h0 h2, fun i hi => wpOp_mono (fun a' w' h' => ⟨h'.1, wpT_sound fuel _ a' h'.2 w' h'.1⟩) (h3 i hi w hS)⟩
theorem wpT_first {i k k2 : Nat} {oi : Oper} {v : Value} (hi : ops[i]? = some oi) (hsel : ∀ (j : Nat) (o : Oper) cs b, ops[j]? = some o → o.op ≠ .select cs b)
    (hQ : ∀ c a w, Q (.panic c) (a.put oi.dst v) w → Q (.panic c) a w)
    (hk : ∀ L, Closed ops L → L.getD i true = false → k ∉ Region.ready .any ops L) (hk2 : ∀ L, Closed ops L → L.getD i true = false → k2 ∉ Region.ready .any ops L) :
    ∀ (fuel : Nat) (listed : Array Bool) (a : Act), Closed ops listed →
      (∀ j oj, ops[j]? = some oj → j ≠ i → listed.getD j true = false → (∀ e ∈ oj.after, Region.binds .any e = true → e.on ≠ i) → oi.apart ops oj = true) →
      i ∈ Region.ready .any ops listed → Gives P ops S oi v a →
      wpT P ops Q S k k2 fuel (listed.setIfInBounds i true) (a.put oi.dst v) → wpT P ops Q S k k2 (fuel + 1) listed a := by
  intro fuel
  induction fuel with
  | zero =>
    intro listed a hc hfree hr hy H
    refine .inr ⟨hk listed hc (mem_ready.1 hr).1, hk2 listed hc (mem_ready.1 hr).1, fun h => (by rw [h] at hr; cases hr), fun j hj w hS => ?_⟩
    by_cases hji : j = i
    · subst hji; exact hy.wpOp hi hS fun w' hS' => ⟨hS', H⟩
    · have := ready_mono hj hji
      rw [H.1] at this
      cases this
  | succ fuel ih =>
    intro listed a hc hfree hr hy H
    have hki := hk listed hc (mem_ready.1 hr).1
    have hki2 := hk2 listed hc (mem_ready.1 hr).1
    refine .inr ⟨hki, hki2, fun h => (by rw [h] at hr; cases hr), fun j hj w hS => ?_⟩
    by_cases hji : j = i
    · subst hji; exact hy.wpOp hi hS fun w' hS' => ⟨hS', H⟩
    · have hj' := ready_mono hj hji
      rcases H with ⟨H1, _⟩ | ⟨_, _, _, H3⟩
      · exfalso
        rcases H1 with H1 | H1 <;> rw [H1] at hj'
        · rw [List.mem_singleton.1 hj'] at hj; exact hki2 hj
        · cases hj'
      · have h1 := H3 j hj' w hS
        obtain ⟨hjun, oj, hoj, hall⟩ := mem_ready.1 hj
        have h2 := wpOp_putT hoj (hfree j oj hoj hji hjun (not_ready_of hr hall)) (fun cs b => hsel i oi cs b hi) (fun cs b => hsel j oj cs b hoj) hQ hy h1
        refine wpOp_mono (fun a' w' h3 => ⟨h3.2.1, ih (listed.setIfInBounds j true) a' (hc.set hoj hall) (free_set hjun hfree) (ready_mono hr (Ne.symm hji)) h3.1 ?_⟩) h2
        rw [Array.setIfInBounds_comm _ _ hji]
        exact h3.2.2
/-- Does number k wait for number i? -/
def waits (ops : Array Oper) : Nat → Nat → Nat → Bool
  | 0, _, _ => false
  | n + 1, k, i => match ops[k]? with
    | none => false
    | some o => o.after.any fun e => Region.binds .any e && (e.on == i || waits ops n e.on i)
theorem waits_spec {L : Array Bool} (hc : Closed ops L) {i : Nat} : ∀ (n k : Nat) (o : Oper), ops[k]? = some o → (∀ e ∈ o.after, Region.binds .any e = true → L.getD e.on false = true) → waits ops n k i = true → L.getD i false = true
  | 0, _, _, _, _, h => by cases h
  | n + 1, k, o, ho, hd, h => by
    unfold waits at h
    simp only [ho] at h
    obtain ⟨e, he, hb⟩ := Array.any_eq_true'.1 h
    simp only [Bool.and_eq_true, Bool.or_eq_true, beq_iff_eq] at hb
    have hl := hd e he hb.1
    rcases hb.2 with h1 | h1
    · rw [← h1]; exact hl
    · cases ho' : ops[e.on]? with
      | none => cases n with
        | zero => cases h1
        | succ n => unfold waits at h1; rw [ho'] at h1; cases h1
      | some o' => exact waits_spec hc n e.on o' ho' (fun e' he' hb' => hc e.on o' ho' hl e' he' hb') h1
def closedB (ops : Array Oper) (L : Array Bool) : Bool := (List.range ops.size).all fun j => !L.getD j false || match ops[j]? with
  | none => true
  | some o => o.after.all fun e => !Region.binds .any e || L.getD e.on false
theorem closedB_spec {L : Array Bool} (h : closedB ops L = true) : Closed ops L := by
  intro j oj hj hl e he hb
  have h1 := List.all_eq_true.1 h j (List.mem_range.2 (Array.getElem?_eq_some_iff.1 hj).1)
  simp only [hl, hj, Bool.not_true, Bool.false_or] at h1
  have h2 := Array.all_eq_true'.1 h1 e he
  simpa [hb] using h2
/-- All that is asked of the order where number i is taken. -/
def tOk (ops : Array Oper) (listed : Array Bool) (k i : Nat) : Bool :=
  Region.noSelect ops && Region.free .any ops listed i && (Region.ready .any ops listed).contains i && closedB ops listed && (ops[k]?.isNone || waits ops ops.size k i)
theorem tOk_spec {listed : Array Bool} {k i : Nat} (hb : tOk ops listed k i = true) : Region.noSelect ops = true ∧ Region.free .any ops listed i = true ∧ (Region.ready .any ops listed).contains i = true ∧ closedB ops listed = true ∧ ∀ L, Closed ops L → L.getD i true = false → k ∉ Region.ready .any ops L := by
  unfold tOk at hb
  simp only [Bool.and_eq_true, Bool.or_eq_true] at hb
  obtain ⟨⟨⟨⟨b1, b2⟩, b3⟩, b4⟩, b5⟩ := hb
  refine ⟨b1, b2, b3, b4, fun L hL hun hmem => ?_⟩
  obtain ⟨_, o, ho, hall⟩ := mem_ready.1 hmem
  rcases b5 with b5 | b5
  · rw [ho] at b5; cases b5
  · have := waits_spec hL _ k o ho hall b5
    rcases Nat.lt_or_ge i L.size with h' | h'
    · simp [h'] at hun this; rw [hun] at this; cases this
    · simp [Array.getElem?_eq_none h'] at this
end
section
variable {P : Program} {l : List Oper} {Q : Exit → Act → World → Prop} {S : World → Prop} {k k2 : Nat}
theorem t_take (i : Nat) {oi : Oper} {v : Value} {fuel : Nat} {listed : Array Bool} {a : Act} (hi : opN l i = some oi) (hb : (tOk l.toArray listed k i && tOk l.toArray listed k2 i) = true)
    (hQ : ∀ c a w, Q (.panic c) (a.put oi.dst v) w → Q (.panic c) a w) (hy : Gives P l.toArray S oi v a)
    (h : wpT P l.toArray Q S k k2 fuel (listed.setIfInBounds i true) (a.put oi.dst v)) : wpT P l.toArray Q S k k2 (fuel + 1) listed a := by
  simp only [Bool.and_eq_true] at hb
  obtain ⟨b1, b2, b3, b4, b5⟩ := tOk_spec hb.1
  obtain ⟨_, _, _, _, b6⟩ := tOk_spec hb.2
  exact wpT_first (opN_get hi) (Region.noSelect_spec b1) hQ b5 b6 fuel listed a (closedB_spec b4) (Region.free_spec (opN_get hi) b2) (by simpa using b3) hy h
theorem t_pure (i : Nat) {oi : Oper} {v : Value} {fuel : Nat} {listed : Array Bool} {a : Act} (hi : opN l i = some oi) (hb : (tOk l.toArray listed k i && tOk l.toArray listed k2 i) = true)
    (hQ : ∀ c a w, Q (.panic c) (a.put oi.dst v) w → Q (.panic c) a w) (hw : Region.wanted oi (yielded l.toArray a.tmps) = true) (hy : ∀ w, S w → (execOp a.eval oi).run P w = .ok (.value v) w)
    (h : wpT P l.toArray Q S k k2 fuel (listed.setIfInBounds i true) (a.put oi.dst v)) : wpT P l.toArray Q S k k2 (fuel + 1) listed a :=
  t_take i hi hb hQ (.inl ⟨hw, fun w hS => .inl ⟨w, hy w hS, hS⟩⟩) h
theorem t_skip (i : Nat) {oi : Oper} {fuel : Nat} {listed : Array Bool} {a : Act} (hi : opN l i = some oi) (hb : (tOk l.toArray listed k i && tOk l.toArray listed k2 i) = true)
    (hQ : ∀ c a w, Q (.panic c) (a.put oi.dst undef) w → Q (.panic c) a w) (hw : Region.wanted oi (yielded l.toArray a.tmps) = false)
    (h : wpT P l.toArray Q S k k2 fuel (listed.setIfInBounds i true) (a.put oi.dst undef)) : wpT P l.toArray Q S k k2 (fuel + 1) listed a :=
  t_take i hi hb hQ (.inr ⟨hw, rfl⟩) h
theorem t_call (i : Nat) {oi : Oper} {v : Value} {fuel : Nat} {listed : Array Bool} {a : Act} (hi : opN l i = some oi) (hb : (tOk l.toArray listed k i && tOk l.toArray listed k2 i) = true)
    (hQ : ∀ c a w, Q (.panic c) (a.put oi.dst v) w → Q (.panic c) a w) (hw : Region.wanted oi (yielded l.toArray a.tmps) = true) (f : FuncId) (args : Array Value)
    (hy : ∀ w, S w → (execOp a.eval oi).run P w = .ok (.enter f args) w) (hc : ∀ w, S w → Calls P f args w fun e w' => e = .returned v ∧ S w')
    (h : wpT P l.toArray Q S k k2 fuel (listed.setIfInBounds i true) (a.put oi.dst v)) : wpT P l.toArray Q S k k2 (fuel + 1) listed a :=
  t_take i hi hb hQ (.inl ⟨hw, fun w hS => .inr ⟨f, args, hy w hS, hc w hS⟩⟩) h
theorem t_exit {fuel : Nat} {listed : Array Bool} {a : Act} (hr : Region.ready .any l.toArray listed = [k]) (h : ∀ w, S w → wpAny P .any l.toArray Q (fuel + 1) listed a w) : wpT P l.toArray Q S k k (fuel + 1) listed a := .inl ⟨.inl hr, fun w hS => .inl ⟨hr, h w hS⟩⟩
theorem t_exitX {fuel : Nat} {listed : Array Bool} {a : Act} (hr : Region.ready .any l.toArray listed = [k2]) (h : ∀ w, S w → wpX P l.toArray Q S k (fuel + 1) listed a w) : wpT P l.toArray Q S k k2 (fuel + 1) listed a := .inl ⟨.inl hr, h⟩
theorem t_done {listed : Array Bool} {a : Act} (hr : Region.ready .any l.toArray listed = []) (h : ∀ w, S w → Q .normal a w) : wpT P l.toArray Q S k k2 0 listed a := ⟨hr, h⟩
theorem p_start {id : Nat} {a : Act} {w : World} (hm : P.follows .mixedOrders = true) (h : wpAny P .any l.toArray Q l.toArray.size (Array.replicate l.toArray.size false) a w.drew) : (Code.region id l.toArray true).wp P Q a w := wp_region_any hm h
/-- What comes to a value in whatever world may come first. -/
theorem p_pure (i : Nat) {oi : Oper} {v : Value} {fuel : Nat} {listed : Array Bool} {a : Act} {w : World} (hi : opN l i = some oi)
    (hs : Region.noSelect l.toArray = true) (hf : Region.free .any l.toArray listed i = true) (hr : (Region.ready .any l.toArray listed).contains i = true)
    (hQ : ∀ c a w, Q (.panic c) (a.put oi.dst v) w → Q (.panic c) a w) (hw : Region.wanted oi (yielded l.toArray a.tmps) = true) (hy : ∀ w, (execOp a.eval oi).run P w = .ok (.value v) w)
    (h : wpAny P .any l.toArray Q fuel (listed.setIfInBounds i true) (a.put oi.dst v) w) : wpAny P .any l.toArray Q (fuel + 1) listed a w :=
  wpAny_take (opN_get hi) hs hf hr hQ (.inl ⟨hw, hy⟩) h
theorem t_enter' {fuel : Nat} {listed : Array Bool} {a : Act} {w : World} (k : Nat) (h : wpT P l.toArray Q (Below w.heap.size w) k k fuel listed a) : wpAny P .any l.toArray Q fuel listed a w.drew := wpX_sound fuel listed a w.drew (wpT_sound fuel listed a h w.drew (bl_drew (Below.refl _ _)))
theorem x_enter {fuel : Nat} {listed : Array Bool} {a : Act} {w : World} (k : Nat) (h : Below w.heap.size w w.drew → wpX P l.toArray Q (Below w.heap.size w) k fuel listed a w.drew) : wpAny P .any l.toArray Q fuel listed a w.drew := wpX_sound fuel listed a w.drew (h (bl_drew (Below.refl _ _)))
theorem x_t {fuel : Nat} {listed : Array Bool} {a : Act} {w : World} (k2 : Nat) (hS : S w) (h : wpT P l.toArray Q S k k2 fuel listed a) : wpX P l.toArray Q S k fuel listed a w := wpT_sound fuel listed a h w hS
theorem x_pure (i : Nat) {oi : Oper} {v : Value} {fuel : Nat} {listed : Array Bool} {a : Act} {w : World} (hi : opN l i = some oi) (hb : tOk l.toArray listed k i = true)
    (hQ : ∀ c a w, Q (.panic c) (a.put oi.dst v) w → Q (.panic c) a w) (hw : Region.wanted oi (yielded l.toArray a.tmps) = true) (hy : ∀ w, S w → (execOp a.eval oi).run P w = .ok (.value v) w) (hS : S w)
    (h : wpX P l.toArray Q S k fuel (listed.setIfInBounds i true) (a.put oi.dst v) w) : wpX P l.toArray Q S k (fuel + 1) listed a w := by
  obtain ⟨b1, b2, b3, b4, b5⟩ := tOk_spec hb
  exact wpX_first (opN_get hi) (Region.noSelect_spec b1) hQ b5 fuel listed a w (closedB_spec b4) (Region.free_spec (opN_get hi) b2) (by simpa using b3) (.inl ⟨hw, hy⟩) hS h
theorem x_exit {fuel : Nat} {listed : Array Bool} {a : Act} {w : World} (hr : Region.ready .any l.toArray listed = [k]) (h : wpAny P .any l.toArray Q (fuel + 1) listed a w) : wpX P l.toArray Q S k (fuel + 1) listed a w := .inl ⟨hr, h⟩
/-- The one operation that can come now, and S is kept. -/
theorem x_only (i : Nat) {oi : Oper} {fuel : Nat} {listed : Array Bool} {a : Act} {w : World} (hi : opN l i = some oi) (hr : Region.ready .any l.toArray listed = [i]) (hk : (k == i) = false)
    (h : ∀ K' : Act → World → Prop, Shut (∀ a w, S w → wpX P l.toArray Q S k fuel (listed.setIfInBounds i true) a w → K' a w) → if Region.wanted oi (yielded l.toArray a.tmps) = true then Oper.wp P oi a w K' Q else K' (a.put oi.dst undef) w) :
    wpX P l.toArray Q S k (fuel + 1) listed a w := by
  refine .inr ⟨by rw [hr]; simpa using hk, fun h0 => (by rw [hr] at h0; cases h0), fun j hj => ?_⟩
  rw [hr] at hj
  rw [List.mem_singleton.1 hj]
  exact wpOp_step (opN_get hi) fun K' hK => h K' (fun a w hS hX => hK a w ⟨hS, hX⟩)
/-- The one operation that can come now. -/
theorem p_only (i : Nat) {oi : Oper} {fuel : Nat} {listed : Array Bool} {a : Act} {w : World} (hi : opN l i = some oi) (hr : Region.ready .any l.toArray listed = [i])
    (h : ∀ K' : Act → World → Prop, Shut (∀ a w, wpAny P .any l.toArray Q fuel (listed.setIfInBounds i true) a w → K' a w) → if Region.wanted oi (yielded l.toArray a.tmps) = true then Oper.wp P oi a w K' Q else K' (a.put oi.dst undef) w) :
    wpAny P .any l.toArray Q (fuel + 1) listed a w := by
  refine wpAny_all hr (by simp) fun j hj => ?_
  rw [List.mem_singleton.1 hj]
  exact wpOp_step (opN_get hi) fun K' hK => h K' hK
end
end Go.Proofs.YtjpagpplkldbkaaGreat
