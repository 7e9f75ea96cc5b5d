/- Scales of a vessel. -/
import Derived.Deep.RegionHeld3
import Derived.Deep.AppendLies
import Derived.LoopTactic
import Derived.Test.YtjpagpplkldbkaaGreatLib1
set_option linter.unusedVariables false
set_option linter.unusedSimpArgs false
namespace Go.Proofs.YtjpagpplkldbkaaGreat
open Go.RowKit
structure Rn where
  h : Int
  v : Int
  d : Int
deriving DecidableEq, Inhabited
def rnC (r : Rn) : List Value := [.int .i64 r.h, .int .i64 r.v, .int .i64 r.d]
def inC (x : Int) : List Value := [.int .i64 x]
theorem rnC_len (l : Rn) : (rnC l).length = 3 := rfl
theorem rnC_one (l : Rn) : ∀ u ∈ rnC l, u.oneCell' = true := by intro u hu; simp [rnC] at hu; rcases hu with rfl | rfl | rfl <;> rfl
theorem inC_len (l : Int) : (inC l).length = 1 := rfl
theorem inC_one (l : Int) : ∀ u ∈ inC l, u.oneCell' = true := by intro u hu; simp [inC] at hu; subst hu; rfl
theorem rn_cells {w : World} {b off : Nat} {xs : List Rn} (h : ∀ j i u, j < xs.length → (xs[j]?.bind fun x => (rnC x)[i]?) = some u → i < 3 → w.cell? ⟨b, off + j * 3 + i, none⟩ = some u) {k : Nat} (hk : k < xs.length) :
    w.cell? ⟨b, off + k * 3, none⟩ = some (.int .i64 xs[k].h) ∧ w.cell? ⟨b, off + k * 3 + 1, none⟩ = some (.int .i64 xs[k].v) ∧ w.cell? ⟨b, off + k * 3 + 2, none⟩ = some (.int .i64 xs[k].d) :=
  ⟨Sl.cells h hk (i := 0) (by omega) rfl, Sl.cells h hk (i := 1) (by omega) rfl, Sl.cells h hk (i := 2) (by omega) rfl⟩
/-- Sums of some numbers, up to each place. -/
def sumTo (l : List Int) (k : Nat) : Int := (l.take k).foldl (· + ·) 0
def sums (l : List Int) (k : Nat) : List Int := (List.range k).map (sumTo l)
theorem own_sl {w : World} {base n : Nat} {e : TypeId} {size : Nat} {v : Value} {xs : List Value} (h : w.ownsRow base e size v n xs) : ∃ A c, v = .slice A n c := by
  rcases h.2 with ⟨rfl, rfl⟩ | ⟨g, cap, cur, rfl, _⟩
  · exact ⟨none, 0, rfl⟩
  · exact ⟨_, cap, rfl⟩
theorem own_bel {w w1 : World} {base n : Nat} {e : TypeId} {size : Nat} {v : Value} {xs : List Value} (h : w.ownsRow base e size v n xs) (hb : Below w.heap.size w w1) : w1.ownsRow base e size v n xs :=
  h.kept (gb_below hb none) (by cases v.ownBlock <;> simp)
theorem own_set {w : World} {base n : Nat} {e : TypeId} {size : Nat} {v : Value} {xs : List Value} (h : w.ownsRow base e size v n xs) {p : Addr} (hp : p.block < base) (u : Value) : (w.setCell p u).ownsRow base e size v n xs := by
  obtain ⟨h1, h2⟩ := h
  refine ⟨h1, ?_⟩
  rcases h2 with h2 | ⟨g, cap, cur, rfl, hg, hh, r⟩
  · exact .inl h2
  · exact .inr ⟨g, cap, cur, rfl, hg, (Below.heap_setCell w p u g (by omega)).trans hh, r⟩
theorem getD_set_eq {L : Array Bool} {i : Nat} (d : Bool) (h : i < L.size) : (L.setIfInBounds i true).getD i d = true := by simp [h]
theorem take_snoc' {α : Type} (l : List α) (k : Nat) (h : k < l.length) (x : α) (hx : l[k] = x) : l.take k ++ [x] = l.take (k + 1) := by rw [List.take_succ_eq_append_getElem h, hx]
theorem sums_snoc (l : List Int) (k : Nat) : sums l (k + 1) = sums l k ++ [sumTo l k] := by simp [sums, List.range_succ]
theorem sumTo_succ (l : List Int) (k : Nat) (h : k < l.length) : sumTo l (k + 1) = sumTo l k + l[k] := by unfold sumTo; rw [List.take_succ_eq_append_getElem h, List.foldl_append]; rfl
theorem hset {L : Array Bool} {i j : Nat} {p : Prop} (h : Hid (L.getD j false = true → p)) (hij : i ≠ j) : Hid ((L.setIfInBounds i true).getD j false = true → p) :=
  Lib.hid (fun hl => h.out (by rwa [getD_set_ne false hij] at hl))
theorem new_far {n m i j b : Nat} (h : n < m) (hb : (Value.slice (some ⟨m, 0, none⟩) i j).ownBlock = some b) : n < b := by
  have : m = b := by simpa [Value.ownBlock] using hb
  omega
theorem at_or {v v' : Value} {n m b : Nat} (hat : v'.ownBlock = v.ownBlock ∨ v'.ownBlock = some m) (h : n < m) (hb : v'.ownBlock = some b) : v.ownBlock = some b ∨ n < b := by
  rcases hat with e | e
  · exact .inl (e ▸ hb)
  · rw [e] at hb; injection hb with hb; right; omega
theorem at_apart {v v' x : Value} {m b : Nat} (hat : v'.ownBlock = v.ownBlock ∨ v'.ownBlock = some m) (hap : ∀ b, x.ownBlock = some b → v.ownBlock ≠ some b) (hlt : ∀ b, x.ownBlock = some b → b < m) (hb : v'.ownBlock = some b) : x.ownBlock ≠ some b := by
  intro hx
  rcases hat with e | e
  · exact hap b hx (e ▸ hb)
  · rw [e] at hb; injection hb with hb; have := hlt b hx; omega
theorem own_ne_of {v x : Value} (h : ∀ b, v.ownBlock = some b → x.ownBlock ≠ some b) : v.ownBlock = none ∨ v.ownBlock ≠ x.ownBlock := by
  cases hb : v.ownBlock with
  | none => exact .inl rfl
  | some b => exact .inr (fun e => h b hb e.symm)
theorem sumTo_bd (l : List Int) (k : Nat) (m : Int) (hm0 : 0 ≤ m) (hm : ∀ x ∈ l, 0 ≤ x ∧ x ≤ m) : 0 ≤ sumTo l k ∧ sumTo l k ≤ k * m := by
  induction k with
  | zero => simp [sumTo]
  | succ k ih =>
    have hk : ((k + 1 : Nat) : Int) * m = k * m + m := by rw [Int.natCast_add, Int.add_mul]; simp
    rcases Nat.lt_or_ge k l.length with h | h
    · rw [sumTo_succ l k h, hk]
      have := hm l[k] (List.getElem_mem h)
      omega
    · have e : sumTo l (k + 1) = sumTo l k := by unfold sumTo; rw [List.take_of_length_le (by omega), List.take_of_length_le h]
      rw [e, hk]
      omega
def scJH (w wo : World) (l : List Rn) (k b off c k1 k2 : Nat) (hlt : k < l.length) (A1 A2 : Option Addr) (u39 u40 u41 u42 u43 u44 : Value) (L : Array Bool) (a : Act) (W : World) : Prop := ∃ (x17 : Value) (x18 : Value) (x19 : Value) (x20 : Value) (x21 : Value) (x22 : Value) (x23 : Value) (x24 : Value) (x25 : Value) (x26 : Value) (x27 : Value) (x28 : Value) (x29 : Value) (x30 : Value) (x31 : Value) (x32 : Value) (x33 : Value) (x34 : Value) (x35 : Value) (x36 : Value) (x37 : Value) (x38 : Value) (y0 : Value) (y1 : Value), a = { tmps := #[Value.slice (some ⟨b, off, none⟩) l.length c, .func (.func 199) #[] #[], undef, undef, .pointer none, .pointer (some ⟨w.heap.size, 0, none⟩), .int .i64 (sumTo (l.map Rn.h) k), undef, .pointer (some ⟨wo.heap.size, 0, none⟩), .agg #[.slice none 0 0, .slice none 0 0], .pointer (some ⟨w.heap.size, 0, none⟩), .slice (some ⟨b, off, none⟩) l.length c, .int .i64 (l.length : Int), .int .i64 (k : Int), .bool true, .pointer (some ⟨b, off + k * 3, none⟩), .agg #[.int .i64 l[k].h, .int .i64 l[k].v, .int .i64 l[k].d], x17, x18, x19, x20, x21, x22, x23, x24, x25, x26, x27, x28, x29, x30, x31, x32, x33, x34, x35, x36, x37, x38, u39, u40, u41, u42, u43, u44, undef, undef, undef, undef, undef, undef, undef, undef, undef, undef, undef], defers := [] } ∧ (L.getD 0 false = true → x17 = .pointer (some ⟨w.heap.size, 0, none⟩)) ∧ (L.getD 1 false = true → x18 = .pointer (some ⟨w.heap.size, 0, none⟩)) ∧ (L.getD 2 false = true → x19 = .pointer (some ⟨w.heap.size, 0, none⟩)) ∧ (L.getD 3 false = true → x20 = .pointer (some ⟨w.heap.size, 0, none⟩)) ∧ (L.getD 4 false = true → x21 = .pointer (some ⟨w.heap.size, 0, none⟩)) ∧ (L.getD 5 false = true → x22 = .slice A1 k k1) ∧ (L.getD 6 false = true → x23 = .func (.func 199) #[] #[]) ∧ (L.getD 7 false = true → x24 = .agg #[.int .i64 l[k].h, .int .i64 l[k].v, .int .i64 l[k].d]) ∧ (L.getD 8 false = true → x25 = .int .i64 l[k].h) ∧ (L.getD 11 false = true → x28 = .pointer (some ⟨w.heap.size, 0, none⟩)) ∧ (L.getD 12 false = true → x29 = .pointer (some ⟨w.heap.size, 0, none⟩)) ∧ (L.getD 13 false = true → x30 = .pointer (some ⟨w.heap.size, 1, none⟩)) ∧ (L.getD 14 false = true → x31 = .slice A2 k k2) ∧ (L.getD 15 false = true → x32 = .int .i64 (sumTo (l.map Rn.h) k)) ∧ (L.getD 18 false = true → x35 = .pointer (some ⟨w.heap.size, 0, none⟩)) ∧ (L.getD 19 false = true → x36 = .pointer (some ⟨w.heap.size, 0, none⟩)) ∧ (L.getD 21 false = true → x37 = .pointer (some ⟨w.heap.size, 0, none⟩)) ∧ (L.getD 22 false = true → x38 = .pointer (some ⟨w.heap.size, 1, none⟩)) ∧ (Below w.heap.size w W) ∧ (wo.heap.size < W.heap.size) ∧ (W.heap[w.heap.size]? = some (.cells #[y0, y1] 254 (0, 0))) ∧ (W.heap[wo.heap.size]? = some (.cells #[.int .i64 l[k].h, .int .i64 l[k].v, .int .i64 l[k].d] 178 (0, 0))) ∧ (L.getD 20 false = false → y0 = .slice A1 k k1) ∧ (L.getD 23 false = false → y1 = .slice A2 k k2) ∧ (L.getD 20 false = true → y0 = x27) ∧ (L.getD 23 false = true → y1 = x34) ∧ (L.getD 10 false = false → W.ownsRow (w.heap.size + 1) 211 1 (.slice A1 k k1) k (flat inC ((l.map Rn.h).take k))) ∧ (L.getD 17 false = false → W.ownsRow (w.heap.size + 1) 211 1 (.slice A2 k k2) k (flat inC (sums (l.map Rn.h) k))) ∧ (L.getD 10 false = true → W.ownsRow (w.heap.size + 1) 211 1 x27 (k + 1) (flat inC ((l.map Rn.h).take (k + 1))) ∧ ∀ b, x27.ownBlock = some b → (Value.slice A1 k k1).ownBlock = some b ∨ wo.heap.size < b) ∧ (L.getD 17 false = true → W.ownsRow (w.heap.size + 1) 211 1 x34 (k + 1) (flat inC (sums (l.map Rn.h) (k + 1))) ∧ ∀ b, x34.ownBlock = some b → x27.ownBlock ≠ some b) ∧ (L.getD 9 false = true → L.getD 10 false = false → Sl inC 1 W x26 [l[k].h] ∧ ∀ b, x26.ownBlock = some b → wo.heap.size < b) ∧ (L.getD 16 false = true → L.getD 17 false = false → Sl inC 1 W x33 [sumTo (l.map Rn.h) k] ∧ ∀ b, x33.ownBlock = some b → wo.heap.size < b)
theorem scJH.elim (w wo : World) (l : List Rn) (k b off c k1 k2 : Nat) (hlt : k < l.length) (A1 A2 : Option Addr) (u39 u40 u41 u42 u43 u44 : Value) {L : Array Bool} {a : Act} {W : World} {G : Prop} (h : scJH w wo l k b off c k1 k2 hlt A1 A2 u39 u40 u41 u42 u43 u44 L a W) (k : ∀ (x17 : Value) (x18 : Value) (x19 : Value) (x20 : Value) (x21 : Value) (x22 : Value) (x23 : Value) (x24 : Value) (x25 : Value) (x26 : Value) (x27 : Value) (x28 : Value) (x29 : Value) (x30 : Value) (x31 : Value) (x32 : Value) (x33 : Value) (x34 : Value) (x35 : Value) (x36 : Value) (x37 : Value) (x38 : Value) (y0 : Value) (y1 : Value), a = { tmps := #[Value.slice (some ⟨b, off, none⟩) l.length c, .func (.func 199) #[] #[], undef, undef, .pointer none, .pointer (some ⟨w.heap.size, 0, none⟩), .int .i64 (sumTo (l.map Rn.h) k), undef, .pointer (some ⟨wo.heap.size, 0, none⟩), .agg #[.slice none 0 0, .slice none 0 0], .pointer (some ⟨w.heap.size, 0, none⟩), .slice (some ⟨b, off, none⟩) l.length c, .int .i64 (l.length : Int), .int .i64 (k : Int), .bool true, .pointer (some ⟨b, off + k * 3, none⟩), .agg #[.int .i64 l[k].h, .int .i64 l[k].v, .int .i64 l[k].d], x17, x18, x19, x20, x21, x22, x23, x24, x25, x26, x27, x28, x29, x30, x31, x32, x33, x34, x35, x36, x37, x38, u39, u40, u41, u42, u43, u44, undef, undef, undef, undef, undef, undef, undef, undef, undef, undef, undef], defers := [] } → Hid (L.getD 0 false = true → x17 = .pointer (some ⟨w.heap.size, 0, none⟩)) → Hid (L.getD 1 false = true → x18 = .pointer (some ⟨w.heap.size, 0, none⟩)) → Hid (L.getD 2 false = true → x19 = .pointer (some ⟨w.heap.size, 0, none⟩)) → Hid (L.getD 3 false = true → x20 = .pointer (some ⟨w.heap.size, 0, none⟩)) → Hid (L.getD 4 false = true → x21 = .pointer (some ⟨w.heap.size, 0, none⟩)) → Hid (L.getD 5 false = true → x22 = .slice A1 k k1) → Hid (L.getD 6 false = true → x23 = .func (.func 199) #[] #[]) → Hid (L.getD 7 false = true → x24 = .agg #[.int .i64 l[k].h, .int .i64 l[k].v, .int .i64 l[k].d]) → Hid (L.getD 8 false = true → x25 = .int .i64 l[k].h) → Hid (L.getD 11 false = true → x28 = .pointer (some ⟨w.heap.size, 0, none⟩)) → Hid (L.getD 12 false = true → x29 = .pointer (some ⟨w.heap.size, 0, none⟩)) → Hid (L.getD 13 false = true → x30 = .pointer (some ⟨w.heap.size, 1, none⟩)) → Hid (L.getD 14 false = true → x31 = .slice A2 k k2) → Hid (L.getD 15 false = true → x32 = .int .i64 (sumTo (l.map Rn.h) k)) → Hid (L.getD 18 false = true → x35 = .pointer (some ⟨w.heap.size, 0, none⟩)) → Hid (L.getD 19 false = true → x36 = .pointer (some ⟨w.heap.size, 0, none⟩)) → Hid (L.getD 21 false = true → x37 = .pointer (some ⟨w.heap.size, 0, none⟩)) → Hid (L.getD 22 false = true → x38 = .pointer (some ⟨w.heap.size, 1, none⟩)) → Hid (Below w.heap.size w W) → Hid (wo.heap.size < W.heap.size) → Hid (W.heap[w.heap.size]? = some (.cells #[y0, y1] 254 (0, 0))) → Hid (W.heap[wo.heap.size]? = some (.cells #[.int .i64 l[k].h, .int .i64 l[k].v, .int .i64 l[k].d] 178 (0, 0))) → Hid (L.getD 20 false = false → y0 = .slice A1 k k1) → Hid (L.getD 23 false = false → y1 = .slice A2 k k2) → Hid (L.getD 20 false = true → y0 = x27) → Hid (L.getD 23 false = true → y1 = x34) → Hid (L.getD 10 false = false → W.ownsRow (w.heap.size + 1) 211 1 (.slice A1 k k1) k (flat inC ((l.map Rn.h).take k))) → Hid (L.getD 17 false = false → W.ownsRow (w.heap.size + 1) 211 1 (.slice A2 k k2) k (flat inC (sums (l.map Rn.h) k))) → Hid (L.getD 10 false = true → W.ownsRow (w.heap.size + 1) 211 1 x27 (k + 1) (flat inC ((l.map Rn.h).take (k + 1))) ∧ ∀ b, x27.ownBlock = some b → (Value.slice A1 k k1).ownBlock = some b ∨ wo.heap.size < b) → Hid (L.getD 17 false = true → W.ownsRow (w.heap.size + 1) 211 1 x34 (k + 1) (flat inC (sums (l.map Rn.h) (k + 1))) ∧ ∀ b, x34.ownBlock = some b → x27.ownBlock ≠ some b) → Hid (L.getD 9 false = true → L.getD 10 false = false → Sl inC 1 W x26 [l[k].h] ∧ ∀ b, x26.ownBlock = some b → wo.heap.size < b) → Hid (L.getD 16 false = true → L.getD 17 false = false → Sl inC 1 W x33 [sumTo (l.map Rn.h) k] ∧ ∀ b, x33.ownBlock = some b → wo.heap.size < b) → G) : G := by
  obtain ⟨x17, x18, x19, x20, x21, x22, x23, x24, x25, x26, x27, x28, x29, x30, x31, x32, x33, x34, x35, x36, x37, x38, y0, y1, e, h0, h1, h2, h3, h4, h5, h6, h7, h8, h11, h12, h13, h14, h15, h18, h19, h21, h22, w0, w1, w2, w3, w4, w5, w6, w7, w8, w9, w10, w11, w12, w13⟩ := h
  exact k x17 x18 x19 x20 x21 x22 x23 x24 x25 x26 x27 x28 x29 x30 x31 x32 x33 x34 x35 x36 x37 x38 y0 y1 e (Lib.hid h0) (Lib.hid h1) (Lib.hid h2) (Lib.hid h3) (Lib.hid h4) (Lib.hid h5) (Lib.hid h6) (Lib.hid h7) (Lib.hid h8) (Lib.hid h11) (Lib.hid h12) (Lib.hid h13) (Lib.hid h14) (Lib.hid h15) (Lib.hid h18) (Lib.hid h19) (Lib.hid h21) (Lib.hid h22) (Lib.hid w0) (Lib.hid w1) (Lib.hid w2) (Lib.hid w3) (Lib.hid w4) (Lib.hid w5) (Lib.hid w6) (Lib.hid w7) (Lib.hid w8) (Lib.hid w9) (Lib.hid w10) (Lib.hid w11) (Lib.hid w12) (Lib.hid w13)
theorem scJH.mk_ (w wo : World) (l : List Rn) (k b off c k1 k2 : Nat) (hlt : k < l.length) (A1 A2 : Option Addr) (u39 u40 u41 u42 u43 u44 : Value) {L : Array Bool} {a : Act} {W : World} (x17 : Value) (x18 : Value) (x19 : Value) (x20 : Value) (x21 : Value) (x22 : Value) (x23 : Value) (x24 : Value) (x25 : Value) (x26 : Value) (x27 : Value) (x28 : Value) (x29 : Value) (x30 : Value) (x31 : Value) (x32 : Value) (x33 : Value) (x34 : Value) (x35 : Value) (x36 : Value) (x37 : Value) (x38 : Value) (y0 : Value) (y1 : Value) (e : a = { tmps := #[Value.slice (some ⟨b, off, none⟩) l.length c, .func (.func 199) #[] #[], undef, undef, .pointer none, .pointer (some ⟨w.heap.size, 0, none⟩), .int .i64 (sumTo (l.map Rn.h) k), undef, .pointer (some ⟨wo.heap.size, 0, none⟩), .agg #[.slice none 0 0, .slice none 0 0], .pointer (some ⟨w.heap.size, 0, none⟩), .slice (some ⟨b, off, none⟩) l.length c, .int .i64 (l.length : Int), .int .i64 (k : Int), .bool true, .pointer (some ⟨b, off + k * 3, none⟩), .agg #[.int .i64 l[k].h, .int .i64 l[k].v, .int .i64 l[k].d], x17, x18, x19, x20, x21, x22, x23, x24, x25, x26, x27, x28, x29, x30, x31, x32, x33, x34, x35, x36, x37, x38, u39, u40, u41, u42, u43, u44, undef, undef, undef, undef, undef, undef, undef, undef, undef, undef, undef], defers := [] }) (h0 : Hid (L.getD 0 false = true → x17 = .pointer (some ⟨w.heap.size, 0, none⟩))) (h1 : Hid (L.getD 1 false = true → x18 = .pointer (some ⟨w.heap.size, 0, none⟩))) (h2 : Hid (L.getD 2 false = true → x19 = .pointer (some ⟨w.heap.size, 0, none⟩))) (h3 : Hid (L.getD 3 false = true → x20 = .pointer (some ⟨w.heap.size, 0, none⟩))) (h4 : Hid (L.getD 4 false = true → x21 = .pointer (some ⟨w.heap.size, 0, none⟩))) (h5 : Hid (L.getD 5 false = true → x22 = .slice A1 k k1)) (h6 : Hid (L.getD 6 false = true → x23 = .func (.func 199) #[] #[])) (h7 : Hid (L.getD 7 false = true → x24 = .agg #[.int .i64 l[k].h, .int .i64 l[k].v, .int .i64 l[k].d])) (h8 : Hid (L.getD 8 false = true → x25 = .int .i64 l[k].h)) (h11 : Hid (L.getD 11 false = true → x28 = .pointer (some ⟨w.heap.size, 0, none⟩))) (h12 : Hid (L.getD 12 false = true → x29 = .pointer (some ⟨w.heap.size, 0, none⟩))) (h13 : Hid (L.getD 13 false = true → x30 = .pointer (some ⟨w.heap.size, 1, none⟩))) (h14 : Hid (L.getD 14 false = true → x31 = .slice A2 k k2)) (h15 : Hid (L.getD 15 false = true → x32 = .int .i64 (sumTo (l.map Rn.h) k))) (h18 : Hid (L.getD 18 false = true → x35 = .pointer (some ⟨w.heap.size, 0, none⟩))) (h19 : Hid (L.getD 19 false = true → x36 = .pointer (some ⟨w.heap.size, 0, none⟩))) (h21 : Hid (L.getD 21 false = true → x37 = .pointer (some ⟨w.heap.size, 0, none⟩))) (h22 : Hid (L.getD 22 false = true → x38 = .pointer (some ⟨w.heap.size, 1, none⟩))) (w0 : Hid (Below w.heap.size w W)) (w1 : Hid (wo.heap.size < W.heap.size)) (w2 : Hid (W.heap[w.heap.size]? = some (.cells #[y0, y1] 254 (0, 0)))) (w3 : Hid (W.heap[wo.heap.size]? = some (.cells #[.int .i64 l[k].h, .int .i64 l[k].v, .int .i64 l[k].d] 178 (0, 0)))) (w4 : Hid (L.getD 20 false = false → y0 = .slice A1 k k1)) (w5 : Hid (L.getD 23 false = false → y1 = .slice A2 k k2)) (w6 : Hid (L.getD 20 false = true → y0 = x27)) (w7 : Hid (L.getD 23 false = true → y1 = x34)) (w8 : Hid (L.getD 10 false = false → W.ownsRow (w.heap.size + 1) 211 1 (.slice A1 k k1) k (flat inC ((l.map Rn.h).take k)))) (w9 : Hid (L.getD 17 false = false → W.ownsRow (w.heap.size + 1) 211 1 (.slice A2 k k2) k (flat inC (sums (l.map Rn.h) k)))) (w10 : Hid (L.getD 10 false = true → W.ownsRow (w.heap.size + 1) 211 1 x27 (k + 1) (flat inC ((l.map Rn.h).take (k + 1))) ∧ ∀ b, x27.ownBlock = some b → (Value.slice A1 k k1).ownBlock = some b ∨ wo.heap.size < b)) (w11 : Hid (L.getD 17 false = true → W.ownsRow (w.heap.size + 1) 211 1 x34 (k + 1) (flat inC (sums (l.map Rn.h) (k + 1))) ∧ ∀ b, x34.ownBlock = some b → x27.ownBlock ≠ some b)) (w12 : Hid (L.getD 9 false = true → L.getD 10 false = false → Sl inC 1 W x26 [l[k].h] ∧ ∀ b, x26.ownBlock = some b → wo.heap.size < b)) (w13 : Hid (L.getD 16 false = true → L.getD 17 false = false → Sl inC 1 W x33 [sumTo (l.map Rn.h) k] ∧ ∀ b, x33.ownBlock = some b → wo.heap.size < b)) : scJH w wo l k b off c k1 k2 hlt A1 A2 u39 u40 u41 u42 u43 u44 L a W := ⟨x17, x18, x19, x20, x21, x22, x23, x24, x25, x26, x27, x28, x29, x30, x31, x32, x33, x34, x35, x36, x37, x38, y0, y1, e, h0.out, h1.out, h2.out, h3.out, h4.out, h5.out, h6.out, h7.out, h8.out, h11.out, h12.out, h13.out, h14.out, h15.out, h18.out, h19.out, h21.out, h22.out, w0.out, w1.out, w2.out, w3.out, w4.out, w5.out, w6.out, w7.out, w8.out, w9.out, w10.out, w11.out, w12.out, w13.out⟩
set_option maxRecDepth 100000 in
set_option maxHeartbeats 1000000 in
theorem scaledH_any (v : Value) (l : List Rn) (w : World) (hv : Sl rnC 3 w v l) (hn : l.length ≤ 30) (hr : ∀ r ∈ l, 0 ≤ r.h ∧ r.h ≤ 1000000) :
    Calls Tryz.prog 198 #[v, .func (.func 199) #[] #[]] w fun e w' => ∃ g v1 v2, e = .returned (.pointer (some ⟨g, 0, none⟩)) ∧ w'.heap[g]? = some (.cells #[v1, v2] 254 (0, 0)) ∧
      Sl inC 1 w' v1 (l.map Rn.h) ∧ Sl inC 1 w' v2 (sums (l.map Rn.h) (l.length + 1)) ∧ Below w.heap.size w w' := by
  obtain ⟨A, c, rfl, hl, hc, hcs⟩ := id hv
  go_enter Tryz.func198, Tryz.ntmps198
  go_wp2
  go_loopw [6, 13] (fun s i W => ∃ k : Nat, k ≤ l.length ∧ i = .int .i64 k ∧ s = .int .i64 (sumTo (l.map Rn.h) k) ∧ Below w.heap.size w W ∧ w.heap.size < W.heap.size ∧ ∃ v1 v2, W.heap[w.heap.size]? = some (.cells #[v1, v2] 254 (0, 0)) ∧
     W.ownsRow (w.heap.size + 1) 211 1 v1 k (flat inC ((l.map Rn.h).take k)) ∧ W.ownsRow (w.heap.size + 1) 211 1 v2 k (flat inC (sums (l.map Rn.h) k)) ∧ (∀ b, v1.ownBlock = some b → v2.ownBlock ≠ some b)) (fun _ i _ => l.length - (intOf i).toNat)
  case atStart => exact ⟨0, by omega, rfl, rfl, by (repeat' with_reducible first|assumption|exact Below.refl _ _|apply bl_alloc|apply bl_drewN|apply bl_drew|refine bl_set ?_ (by simp<;>omega) _|refine bl_then ?_ (by assumption)), by simp, _, _, bk_new _ _, World.ownsRow_nil _ _ _ _, World.ownsRow_nil _ _ _ _, by intro b hb; cases hb⟩
  case round =>
    obtain ⟨k, hk, rfl, rfl, hB, hsz, v1, v2, hblk, ho1, ho2, hne⟩ := hrel
    obtain ⟨wo, rfl⟩ : ∃ wo : World, wo = wr := ⟨_, rfl⟩
    by_cases hlt : k < l.length
    · obtain ⟨b, off, rfl, hcell⟩ := hcs (by intro h; simp [h] at hlt)
      obtain ⟨c0, c1', c2'⟩ := rn_cells hcell hlt
      have d0 := cl_below hB c0
      have d1 := cl_below hB c1'
      have d2 := cl_below hB c2'
      have z0 := bk_cell hblk 0
      have z1 := bk_cell hblk 1
      simp at z0 z1
      clear c0 c1' c2'
      have HB := Lib.hid hblk
      clear hblk
      have hsl1 := own_sl ho1
      have hsl2 := own_sl ho2
      obtain ⟨A1, k1, rfl⟩ := hsl1
      obtain ⟨A2, k2, rfl⟩ := hsl2
      have hI1 : (Tryz.prog.info? 211).map (fun i => (i.zero, i.size, i.bytes)) = some (some (.int .i64 0), 1, 8) := by kernel_rfl
      go_wp2
      have HOX1 := Lib.hid ho1
      have HOX2 := Lib.hid ho2
      refine region_steps (by kernel_rfl) (by kernel_rfl) (scJH w wo l k b off c k1 k2 hlt A1 A2 u39 u40 u41 u42 u43 u44) ?start ?steps ?done
      case start =>
        refine scJH.mk_ _ _ _ _ _ _ _ _ _ _ _ _ _ _ _ _ _ _ _ _ _ _ _ _ _ _ _ _ _ _ _ _ _ _ _ _ _ _ _ _ (.slice A1 k k1) (.slice A2 k k2) rfl (Lib.hid (fun hl => by simp at hl)) (Lib.hid (fun hl => by simp at hl)) (Lib.hid (fun hl => by simp at hl)) (Lib.hid (fun hl => by simp at hl)) (Lib.hid (fun hl => by simp at hl)) (Lib.hid (fun hl => by simp at hl)) (Lib.hid (fun hl => by simp at hl)) (Lib.hid (fun hl => by simp at hl)) (Lib.hid (fun hl => by simp at hl)) (Lib.hid (fun hl => by simp at hl)) (Lib.hid (fun hl => by simp at hl)) (Lib.hid (fun hl => by simp at hl)) (Lib.hid (fun hl => by simp at hl)) (Lib.hid (fun hl => by simp at hl)) (Lib.hid (fun hl => by simp at hl)) (Lib.hid (fun hl => by simp at hl)) (Lib.hid (fun hl => by simp at hl)) (Lib.hid (fun hl => by simp at hl)) (Lib.hid (bl_drew (bl_alloc hB _))) (Lib.hid (by simp)) (Lib.hid (bk_drew (bk_alloc HB.out _))) (Lib.hid (bk_drew (bk_new _ _))) (Lib.hid (fun _ => rfl)) (Lib.hid (fun _ => rfl)) (Lib.hid (fun hl => by simp at hl)) (Lib.hid (fun hl => by simp at hl)) (Lib.hid (fun _ => own_bel (HOX1.out.alloc _) (bl_drew (Below.refl _ _)))) (Lib.hid (fun _ => own_bel (HOX2.out.alloc _) (bl_drew (Below.refl _ _)))) (Lib.hid (fun hl => by simp at hl)) (Lib.hid (fun hl => by simp at hl)) (Lib.hid (fun hl => by simp at hl)) (Lib.hid (fun hl => by simp at hl))
      case steps =>
        refine ⟨?_, ?_, ?_, ?_, ?_, ?_, ?_, ?_, ?_, ?_, ?_, ?_, ?_, ?_, ?_, ?_, ?_, ?_, ?_, ?_, ?_, ?_, ?_, ?_, trivial⟩
        · -- 0
          intro L a W hL hu hcl hd hJ
          refine scJH.elim w wo l k b off c k1 k2 hlt A1 A2 u39 u40 u41 u42 u43 u44 hJ ?_
          clear hJ
          intro x17 x18 x19 x20 x21 x22 x23 x24 x25 x26 x27 x28 x29 x30 x31 x32 x33 x34 x35 x36 x37 x38 y0 y1 e h0 h1 h2 h3 h4 h5 h6 h7 h8 h11 h12 h13 h14 h15 h18 h19 h21 h22 w0 w1 w2 w3 w4 w5 w6 w7 w8 w9 w10 w11 w12 w13
          subst e
          refine wpOp_step rfl (fun K hK => ?_)
          go_simp
          exact hK _ _ (scJH.mk_ _ _ _ _ _ _ _ _ _ _ _ _ _ _ _ _ _ _ _ x18 x19 x20 x21 x22 x23 x24 x25 x26 x27 x28 x29 x30 x31 x32 x33 x34 x35 x36 x37 x38 y0 y1 rfl (Lib.hid (fun _ => rfl)) (hset h1 (by decide)) (hset h2 (by decide)) (hset h3 (by decide)) (hset h4 (by decide)) (hset h5 (by decide)) (hset h6 (by decide)) (hset h7 (by decide)) (hset h8 (by decide)) (hset h11 (by decide)) (hset h12 (by decide)) (hset h13 (by decide)) (hset h14 (by decide)) (hset h15 (by decide)) (hset h18 (by decide)) (hset h19 (by decide)) (hset h21 (by decide)) (hset h22 (by decide)) w0 w1 w2 w3 (Lib.hid (by have w := w4.out; simpa only [getD_set_ne false (show 0 ≠ 20 by decide)] using w)) (Lib.hid (by have w := w5.out; simpa only [getD_set_ne false (show 0 ≠ 23 by decide)] using w)) (Lib.hid (by have w := w6.out; simpa only [getD_set_ne false (show 0 ≠ 20 by decide)] using w)) (Lib.hid (by have w := w7.out; simpa only [getD_set_ne false (show 0 ≠ 23 by decide)] using w)) (Lib.hid (by have w := w8.out; simpa only [getD_set_ne false (show 0 ≠ 10 by decide)] using w)) (Lib.hid (by have w := w9.out; simpa only [getD_set_ne false (show 0 ≠ 17 by decide)] using w)) (Lib.hid (by have w := w10.out; simpa only [getD_set_ne false (show 0 ≠ 10 by decide)] using w)) (Lib.hid (by have w := w11.out; simpa only [getD_set_ne false (show 0 ≠ 17 by decide)] using w)) (Lib.hid (by have w := w12.out; simpa only [getD_set_ne false (show 0 ≠ 9 by decide), getD_set_ne false (show 0 ≠ 10 by decide)] using w)) (Lib.hid (by have w := w13.out; simpa only [getD_set_ne false (show 0 ≠ 16 by decide), getD_set_ne false (show 0 ≠ 17 by decide)] using w)))
        · -- 1
          intro L a W hL hu hcl hd hJ
          refine scJH.elim w wo l k b off c k1 k2 hlt A1 A2 u39 u40 u41 u42 u43 u44 hJ ?_
          clear hJ
          intro x17 x18 x19 x20 x21 x22 x23 x24 x25 x26 x27 x28 x29 x30 x31 x32 x33 x34 x35 x36 x37 x38 y0 y1 e h0 h1 h2 h3 h4 h5 h6 h7 h8 h11 h12 h13 h14 h15 h18 h19 h21 h22 w0 w1 w2 w3 w4 w5 w6 w7 w8 w9 w10 w11 w12 w13
          subst e
          refine wpOp_step rfl (fun K hK => ?_)
          go_simp
          exact hK _ _ (scJH.mk_ _ _ _ _ _ _ _ _ _ _ _ _ _ _ _ _ _ _ x17 _ x19 x20 x21 x22 x23 x24 x25 x26 x27 x28 x29 x30 x31 x32 x33 x34 x35 x36 x37 x38 y0 y1 rfl (hset h0 (by decide)) (Lib.hid (fun _ => rfl)) (hset h2 (by decide)) (hset h3 (by decide)) (hset h4 (by decide)) (hset h5 (by decide)) (hset h6 (by decide)) (hset h7 (by decide)) (hset h8 (by decide)) (hset h11 (by decide)) (hset h12 (by decide)) (hset h13 (by decide)) (hset h14 (by decide)) (hset h15 (by decide)) (hset h18 (by decide)) (hset h19 (by decide)) (hset h21 (by decide)) (hset h22 (by decide)) w0 w1 w2 w3 (Lib.hid (by have w := w4.out; simpa only [getD_set_ne false (show 1 ≠ 20 by decide)] using w)) (Lib.hid (by have w := w5.out; simpa only [getD_set_ne false (show 1 ≠ 23 by decide)] using w)) (Lib.hid (by have w := w6.out; simpa only [getD_set_ne false (show 1 ≠ 20 by decide)] using w)) (Lib.hid (by have w := w7.out; simpa only [getD_set_ne false (show 1 ≠ 23 by decide)] using w)) (Lib.hid (by have w := w8.out; simpa only [getD_set_ne false (show 1 ≠ 10 by decide)] using w)) (Lib.hid (by have w := w9.out; simpa only [getD_set_ne false (show 1 ≠ 17 by decide)] using w)) (Lib.hid (by have w := w10.out; simpa only [getD_set_ne false (show 1 ≠ 10 by decide)] using w)) (Lib.hid (by have w := w11.out; simpa only [getD_set_ne false (show 1 ≠ 17 by decide)] using w)) (Lib.hid (by have w := w12.out; simpa only [getD_set_ne false (show 1 ≠ 9 by decide), getD_set_ne false (show 1 ≠ 10 by decide)] using w)) (Lib.hid (by have w := w13.out; simpa only [getD_set_ne false (show 1 ≠ 16 by decide), getD_set_ne false (show 1 ≠ 17 by decide)] using w)))
        · -- 2
          intro L a W hL hu hcl hd hJ
          refine scJH.elim w wo l k b off c k1 k2 hlt A1 A2 u39 u40 u41 u42 u43 u44 hJ ?_
          clear hJ
          intro x17 x18 x19 x20 x21 x22 x23 x24 x25 x26 x27 x28 x29 x30 x31 x32 x33 x34 x35 x36 x37 x38 y0 y1 e h0 h1 h2 h3 h4 h5 h6 h7 h8 h11 h12 h13 h14 h15 h18 h19 h21 h22 w0 w1 w2 w3 w4 w5 w6 w7 w8 w9 w10 w11 w12 w13
          subst e
          refine wpOp_step rfl (fun K hK => ?_)
          go_simp
          exact hK _ _ (scJH.mk_ _ _ _ _ _ _ _ _ _ _ _ _ _ _ _ _ _ _ x17 x18 _ x20 x21 x22 x23 x24 x25 x26 x27 x28 x29 x30 x31 x32 x33 x34 x35 x36 x37 x38 y0 y1 rfl (hset h0 (by decide)) (hset h1 (by decide)) (Lib.hid (fun _ => rfl)) (hset h3 (by decide)) (hset h4 (by decide)) (hset h5 (by decide)) (hset h6 (by decide)) (hset h7 (by decide)) (hset h8 (by decide)) (hset h11 (by decide)) (hset h12 (by decide)) (hset h13 (by decide)) (hset h14 (by decide)) (hset h15 (by decide)) (hset h18 (by decide)) (hset h19 (by decide)) (hset h21 (by decide)) (hset h22 (by decide)) w0 w1 w2 w3 (Lib.hid (by have w := w4.out; simpa only [getD_set_ne false (show 2 ≠ 20 by decide)] using w)) (Lib.hid (by have w := w5.out; simpa only [getD_set_ne false (show 2 ≠ 23 by decide)] using w)) (Lib.hid (by have w := w6.out; simpa only [getD_set_ne false (show 2 ≠ 20 by decide)] using w)) (Lib.hid (by have w := w7.out; simpa only [getD_set_ne false (show 2 ≠ 23 by decide)] using w)) (Lib.hid (by have w := w8.out; simpa only [getD_set_ne false (show 2 ≠ 10 by decide)] using w)) (Lib.hid (by have w := w9.out; simpa only [getD_set_ne false (show 2 ≠ 17 by decide)] using w)) (Lib.hid (by have w := w10.out; simpa only [getD_set_ne false (show 2 ≠ 10 by decide)] using w)) (Lib.hid (by have w := w11.out; simpa only [getD_set_ne false (show 2 ≠ 17 by decide)] using w)) (Lib.hid (by have w := w12.out; simpa only [getD_set_ne false (show 2 ≠ 9 by decide), getD_set_ne false (show 2 ≠ 10 by decide)] using w)) (Lib.hid (by have w := w13.out; simpa only [getD_set_ne false (show 2 ≠ 16 by decide), getD_set_ne false (show 2 ≠ 17 by decide)] using w)))
        · -- 3
          intro L a W hL hu hcl hd hJ
          refine scJH.elim w wo l k b off c k1 k2 hlt A1 A2 u39 u40 u41 u42 u43 u44 hJ ?_
          clear hJ
          intro x17 x18 x19 x20 x21 x22 x23 x24 x25 x26 x27 x28 x29 x30 x31 x32 x33 x34 x35 x36 x37 x38 y0 y1 e h0 h1 h2 h3 h4 h5 h6 h7 h8 h11 h12 h13 h14 h15 h18 h19 h21 h22 w0 w1 w2 w3 w4 w5 w6 w7 w8 w9 w10 w11 w12 w13
          subst e
          have D2 : L.getD 2 false = true := hd ⟨2, .data⟩ (by simp) rfl
          obtain rfl := h2.out D2
          refine wpOp_step rfl (fun K hK => ?_)
          go_simp
          exact hK _ _ (scJH.mk_ _ _ _ _ _ _ _ _ _ _ _ _ _ _ _ _ _ _ x17 x18 _ _ x21 x22 x23 x24 x25 x26 x27 x28 x29 x30 x31 x32 x33 x34 x35 x36 x37 x38 y0 y1 rfl (hset h0 (by decide)) (hset h1 (by decide)) (Lib.hid (fun _ => rfl)) (Lib.hid (fun _ => rfl)) (hset h4 (by decide)) (hset h5 (by decide)) (hset h6 (by decide)) (hset h7 (by decide)) (hset h8 (by decide)) (hset h11 (by decide)) (hset h12 (by decide)) (hset h13 (by decide)) (hset h14 (by decide)) (hset h15 (by decide)) (hset h18 (by decide)) (hset h19 (by decide)) (hset h21 (by decide)) (hset h22 (by decide)) w0 w1 w2 w3 (Lib.hid (by have w := w4.out; simpa only [getD_set_ne false (show 3 ≠ 20 by decide)] using w)) (Lib.hid (by have w := w5.out; simpa only [getD_set_ne false (show 3 ≠ 23 by decide)] using w)) (Lib.hid (by have w := w6.out; simpa only [getD_set_ne false (show 3 ≠ 20 by decide)] using w)) (Lib.hid (by have w := w7.out; simpa only [getD_set_ne false (show 3 ≠ 23 by decide)] using w)) (Lib.hid (by have w := w8.out; simpa only [getD_set_ne false (show 3 ≠ 10 by decide)] using w)) (Lib.hid (by have w := w9.out; simpa only [getD_set_ne false (show 3 ≠ 17 by decide)] using w)) (Lib.hid (by have w := w10.out; simpa only [getD_set_ne false (show 3 ≠ 10 by decide)] using w)) (Lib.hid (by have w := w11.out; simpa only [getD_set_ne false (show 3 ≠ 17 by decide)] using w)) (Lib.hid (by have w := w12.out; simpa only [getD_set_ne false (show 3 ≠ 9 by decide), getD_set_ne false (show 3 ≠ 10 by decide)] using w)) (Lib.hid (by have w := w13.out; simpa only [getD_set_ne false (show 3 ≠ 16 by decide), getD_set_ne false (show 3 ≠ 17 by decide)] using w)))
        · -- 4
          intro L a W hL hu hcl hd hJ
          refine scJH.elim w wo l k b off c k1 k2 hlt A1 A2 u39 u40 u41 u42 u43 u44 hJ ?_
          clear hJ
          intro x17 x18 x19 x20 x21 x22 x23 x24 x25 x26 x27 x28 x29 x30 x31 x32 x33 x34 x35 x36 x37 x38 y0 y1 e h0 h1 h2 h3 h4 h5 h6 h7 h8 h11 h12 h13 h14 h15 h18 h19 h21 h22 w0 w1 w2 w3 w4 w5 w6 w7 w8 w9 w10 w11 w12 w13
          subst e
          have D3 : L.getD 3 false = true := hd ⟨3, .data⟩ (by simp) rfl
          obtain rfl := h3.out D3
          refine wpOp_step rfl (fun K hK => ?_)
          go_simp
          exact hK _ _ (scJH.mk_ _ _ _ _ _ _ _ _ _ _ _ _ _ _ _ _ _ _ x17 x18 x19 _ _ x22 x23 x24 x25 x26 x27 x28 x29 x30 x31 x32 x33 x34 x35 x36 x37 x38 y0 y1 rfl (hset h0 (by decide)) (hset h1 (by decide)) (hset h2 (by decide)) (Lib.hid (fun _ => rfl)) (Lib.hid (fun _ => rfl)) (hset h5 (by decide)) (hset h6 (by decide)) (hset h7 (by decide)) (hset h8 (by decide)) (hset h11 (by decide)) (hset h12 (by decide)) (hset h13 (by decide)) (hset h14 (by decide)) (hset h15 (by decide)) (hset h18 (by decide)) (hset h19 (by decide)) (hset h21 (by decide)) (hset h22 (by decide)) w0 w1 w2 w3 (Lib.hid (by have w := w4.out; simpa only [getD_set_ne false (show 4 ≠ 20 by decide)] using w)) (Lib.hid (by have w := w5.out; simpa only [getD_set_ne false (show 4 ≠ 23 by decide)] using w)) (Lib.hid (by have w := w6.out; simpa only [getD_set_ne false (show 4 ≠ 20 by decide)] using w)) (Lib.hid (by have w := w7.out; simpa only [getD_set_ne false (show 4 ≠ 23 by decide)] using w)) (Lib.hid (by have w := w8.out; simpa only [getD_set_ne false (show 4 ≠ 10 by decide)] using w)) (Lib.hid (by have w := w9.out; simpa only [getD_set_ne false (show 4 ≠ 17 by decide)] using w)) (Lib.hid (by have w := w10.out; simpa only [getD_set_ne false (show 4 ≠ 10 by decide)] using w)) (Lib.hid (by have w := w11.out; simpa only [getD_set_ne false (show 4 ≠ 17 by decide)] using w)) (Lib.hid (by have w := w12.out; simpa only [getD_set_ne false (show 4 ≠ 9 by decide), getD_set_ne false (show 4 ≠ 10 by decide)] using w)) (Lib.hid (by have w := w13.out; simpa only [getD_set_ne false (show 4 ≠ 16 by decide), getD_set_ne false (show 4 ≠ 17 by decide)] using w)))
        · -- 5
          intro L a W hL hu hcl hd hJ
          refine scJH.elim w wo l k b off c k1 k2 hlt A1 A2 u39 u40 u41 u42 u43 u44 hJ ?_
          clear hJ
          intro x17 x18 x19 x20 x21 x22 x23 x24 x25 x26 x27 x28 x29 x30 x31 x32 x33 x34 x35 x36 x37 x38 y0 y1 e h0 h1 h2 h3 h4 h5 h6 h7 h8 h11 h12 h13 h14 h15 h18 h19 h21 h22 w0 w1 w2 w3 w4 w5 w6 w7 w8 w9 w10 w11 w12 w13
          subst e
          have D4 : L.getD 4 false = true := hd ⟨4, .data⟩ (by simp) rfl
          obtain rfl := h4.out D4
          have hl : L.getD 20 false = false := by
            cases hl : L.getD 20 false with
            | false => rfl
            | true => exact absurd (hcl 20 _ rfl hl ⟨5, .phase⟩ (by simp) rfl) (by rw [hu]; decide)
          obtain rfl := w4.out hl
          have z := bk_cell w2.out 0
          simp at z
          refine wpOp_step rfl (fun K hK => ?_)
          go_simp
          exact hK _ _ (scJH.mk_ _ _ _ _ _ _ _ _ _ _ _ _ _ _ _ _ _ _ x17 x18 x19 x20 _ _ x23 x24 x25 x26 x27 x28 x29 x30 x31 x32 x33 x34 x35 x36 x37 x38 _ y1 rfl (hset h0 (by decide)) (hset h1 (by decide)) (hset h2 (by decide)) (hset h3 (by decide)) (Lib.hid (fun _ => rfl)) (Lib.hid (fun _ => rfl)) (hset h6 (by decide)) (hset h7 (by decide)) (hset h8 (by decide)) (hset h11 (by decide)) (hset h12 (by decide)) (hset h13 (by decide)) (hset h14 (by decide)) (hset h15 (by decide)) (hset h18 (by decide)) (hset h19 (by decide)) (hset h21 (by decide)) (hset h22 (by decide)) w0 w1 w2 w3 (Lib.hid (by have w := w4.out; simpa only [getD_set_ne false (show 5 ≠ 20 by decide)] using w)) (Lib.hid (by have w := w5.out; simpa only [getD_set_ne false (show 5 ≠ 23 by decide)] using w)) (Lib.hid (by have w := w6.out; simpa only [getD_set_ne false (show 5 ≠ 20 by decide)] using w)) (Lib.hid (by have w := w7.out; simpa only [getD_set_ne false (show 5 ≠ 23 by decide)] using w)) (Lib.hid (by have w := w8.out; simpa only [getD_set_ne false (show 5 ≠ 10 by decide)] using w)) (Lib.hid (by have w := w9.out; simpa only [getD_set_ne false (show 5 ≠ 17 by decide)] using w)) (Lib.hid (by have w := w10.out; simpa only [getD_set_ne false (show 5 ≠ 10 by decide)] using w)) (Lib.hid (by have w := w11.out; simpa only [getD_set_ne false (show 5 ≠ 17 by decide)] using w)) (Lib.hid (by have w := w12.out; simpa only [getD_set_ne false (show 5 ≠ 9 by decide), getD_set_ne false (show 5 ≠ 10 by decide)] using w)) (Lib.hid (by have w := w13.out; simpa only [getD_set_ne false (show 5 ≠ 16 by decide), getD_set_ne false (show 5 ≠ 17 by decide)] using w)))
        · -- 6
          intro L a W hL hu hcl hd hJ
          refine scJH.elim w wo l k b off c k1 k2 hlt A1 A2 u39 u40 u41 u42 u43 u44 hJ ?_
          clear hJ
          intro x17 x18 x19 x20 x21 x22 x23 x24 x25 x26 x27 x28 x29 x30 x31 x32 x33 x34 x35 x36 x37 x38 y0 y1 e h0 h1 h2 h3 h4 h5 h6 h7 h8 h11 h12 h13 h14 h15 h18 h19 h21 h22 w0 w1 w2 w3 w4 w5 w6 w7 w8 w9 w10 w11 w12 w13
          subst e
          refine wpOp_step rfl (fun K hK => ?_)
          go_simp
          exact hK _ _ (scJH.mk_ _ _ _ _ _ _ _ _ _ _ _ _ _ _ _ _ _ _ x17 x18 x19 x20 x21 x22 _ x24 x25 x26 x27 x28 x29 x30 x31 x32 x33 x34 x35 x36 x37 x38 y0 y1 rfl (hset h0 (by decide)) (hset h1 (by decide)) (hset h2 (by decide)) (hset h3 (by decide)) (hset h4 (by decide)) (hset h5 (by decide)) (Lib.hid (fun _ => rfl)) (hset h7 (by decide)) (hset h8 (by decide)) (hset h11 (by decide)) (hset h12 (by decide)) (hset h13 (by decide)) (hset h14 (by decide)) (hset h15 (by decide)) (hset h18 (by decide)) (hset h19 (by decide)) (hset h21 (by decide)) (hset h22 (by decide)) w0 w1 w2 w3 (Lib.hid (by have w := w4.out; simpa only [getD_set_ne false (show 6 ≠ 20 by decide)] using w)) (Lib.hid (by have w := w5.out; simpa only [getD_set_ne false (show 6 ≠ 23 by decide)] using w)) (Lib.hid (by have w := w6.out; simpa only [getD_set_ne false (show 6 ≠ 20 by decide)] using w)) (Lib.hid (by have w := w7.out; simpa only [getD_set_ne false (show 6 ≠ 23 by decide)] using w)) (Lib.hid (by have w := w8.out; simpa only [getD_set_ne false (show 6 ≠ 10 by decide)] using w)) (Lib.hid (by have w := w9.out; simpa only [getD_set_ne false (show 6 ≠ 17 by decide)] using w)) (Lib.hid (by have w := w10.out; simpa only [getD_set_ne false (show 6 ≠ 10 by decide)] using w)) (Lib.hid (by have w := w11.out; simpa only [getD_set_ne false (show 6 ≠ 17 by decide)] using w)) (Lib.hid (by have w := w12.out; simpa only [getD_set_ne false (show 6 ≠ 9 by decide), getD_set_ne false (show 6 ≠ 10 by decide)] using w)) (Lib.hid (by have w := w13.out; simpa only [getD_set_ne false (show 6 ≠ 16 by decide), getD_set_ne false (show 6 ≠ 17 by decide)] using w)))
        · -- 7
          intro L a W hL hu hcl hd hJ
          refine scJH.elim w wo l k b off c k1 k2 hlt A1 A2 u39 u40 u41 u42 u43 u44 hJ ?_
          clear hJ
          intro x17 x18 x19 x20 x21 x22 x23 x24 x25 x26 x27 x28 x29 x30 x31 x32 x33 x34 x35 x36 x37 x38 y0 y1 e h0 h1 h2 h3 h4 h5 h6 h7 h8 h11 h12 h13 h14 h15 h18 h19 h21 h22 w0 w1 w2 w3 w4 w5 w6 w7 w8 w9 w10 w11 w12 w13
          subst e
          have z0 := bk_cell w3.out 0
          have z1 := bk_cell w3.out 1
          have z2 := bk_cell w3.out 2
          simp at z0 z1 z2
          refine wpOp_step rfl (fun K hK => ?_)
          go_simp
          exact hK _ _ (scJH.mk_ _ _ _ _ _ _ _ _ _ _ _ _ _ _ _ _ _ _ x17 x18 x19 x20 x21 x22 x23 _ x25 x26 x27 x28 x29 x30 x31 x32 x33 x34 x35 x36 x37 x38 y0 y1 rfl (hset h0 (by decide)) (hset h1 (by decide)) (hset h2 (by decide)) (hset h3 (by decide)) (hset h4 (by decide)) (hset h5 (by decide)) (hset h6 (by decide)) (Lib.hid (fun _ => rfl)) (hset h8 (by decide)) (hset h11 (by decide)) (hset h12 (by decide)) (hset h13 (by decide)) (hset h14 (by decide)) (hset h15 (by decide)) (hset h18 (by decide)) (hset h19 (by decide)) (hset h21 (by decide)) (hset h22 (by decide)) w0 w1 w2 w3 (Lib.hid (by have w := w4.out; simpa only [getD_set_ne false (show 7 ≠ 20 by decide)] using w)) (Lib.hid (by have w := w5.out; simpa only [getD_set_ne false (show 7 ≠ 23 by decide)] using w)) (Lib.hid (by have w := w6.out; simpa only [getD_set_ne false (show 7 ≠ 20 by decide)] using w)) (Lib.hid (by have w := w7.out; simpa only [getD_set_ne false (show 7 ≠ 23 by decide)] using w)) (Lib.hid (by have w := w8.out; simpa only [getD_set_ne false (show 7 ≠ 10 by decide)] using w)) (Lib.hid (by have w := w9.out; simpa only [getD_set_ne false (show 7 ≠ 17 by decide)] using w)) (Lib.hid (by have w := w10.out; simpa only [getD_set_ne false (show 7 ≠ 10 by decide)] using w)) (Lib.hid (by have w := w11.out; simpa only [getD_set_ne false (show 7 ≠ 17 by decide)] using w)) (Lib.hid (by have w := w12.out; simpa only [getD_set_ne false (show 7 ≠ 9 by decide), getD_set_ne false (show 7 ≠ 10 by decide)] using w)) (Lib.hid (by have w := w13.out; simpa only [getD_set_ne false (show 7 ≠ 16 by decide), getD_set_ne false (show 7 ≠ 17 by decide)] using w)))
        · -- 8
          intro L a W hL hu hcl hd hJ
          refine scJH.elim w wo l k b off c k1 k2 hlt A1 A2 u39 u40 u41 u42 u43 u44 hJ ?_
          clear hJ
          intro x17 x18 x19 x20 x21 x22 x23 x24 x25 x26 x27 x28 x29 x30 x31 x32 x33 x34 x35 x36 x37 x38 y0 y1 e h0 h1 h2 h3 h4 h5 h6 h7 h8 h11 h12 h13 h14 h15 h18 h19 h21 h22 w0 w1 w2 w3 w4 w5 w6 w7 w8 w9 w10 w11 w12 w13
          subst e
          have D6 : L.getD 6 false = true := hd ⟨6, .data⟩ (by simp) rfl
          obtain rfl := h6.out D6
          have D7 : L.getD 7 false = true := hd ⟨7, .data⟩ (by simp) rfl
          obtain rfl := h7.out D7
          refine wpOp_step rfl (fun K hK => ?_)
          go_simp
          refine (heightOf_any _ _ _ _).mono ?_
          rintro e' W1 ⟨rfl, hb1⟩
          exact hK _ _ (scJH.mk_ _ _ _ _ _ _ _ _ _ _ _ _ _ _ _ _ _ _ x17 x18 x19 x20 x21 x22 _ _ _ x26 x27 x28 x29 x30 x31 x32 x33 x34 x35 x36 x37 x38 y0 y1 rfl (hset h0 (by decide)) (hset h1 (by decide)) (hset h2 (by decide)) (hset h3 (by decide)) (hset h4 (by decide)) (hset h5 (by decide)) (Lib.hid (fun _ => rfl)) (Lib.hid (fun _ => rfl)) (Lib.hid (fun _ => rfl)) (hset h11 (by decide)) (hset h12 (by decide)) (hset h13 (by decide)) (hset h14 (by decide)) (hset h15 (by decide)) (hset h18 (by decide)) (hset h19 (by decide)) (hset h21 (by decide)) (hset h22 (by decide)) (Lib.hid (bl_then w0.out hb1)) (Lib.hid ((Nat.lt_of_lt_of_le w1.out (hb1).size))) (Lib.hid (bk_below w2.out hb1)) (Lib.hid (bk_below w3.out hb1)) (Lib.hid ((by simp only [getD_set_ne false (show 8 ≠ 20 by decide)]; exact w4.out))) (Lib.hid ((by simp only [getD_set_ne false (show 8 ≠ 23 by decide)]; exact w5.out))) (Lib.hid ((by simp only [getD_set_ne false (show 8 ≠ 20 by decide)]; exact w6.out))) (Lib.hid ((by simp only [getD_set_ne false (show 8 ≠ 23 by decide)]; exact w7.out))) (Lib.hid ((by simp only [getD_set_ne false (show 8 ≠ 10 by decide)]; exact fun hl => own_bel (w8.out hl) hb1))) (Lib.hid ((by simp only [getD_set_ne false (show 8 ≠ 17 by decide)]; exact fun hl => own_bel (w9.out hl) hb1))) (Lib.hid ((by simp only [getD_set_ne false (show 8 ≠ 10 by decide)]; exact fun hl => ⟨own_bel (w10.out hl).1 hb1, (w10.out hl).2⟩))) (Lib.hid ((by simp only [getD_set_ne false (show 8 ≠ 17 by decide)]; exact fun hl => ⟨own_bel (w11.out hl).1 hb1, (w11.out hl).2⟩))) (Lib.hid ((by simp only [getD_set_ne false (show 8 ≠ 9 by decide), getD_set_ne false (show 8 ≠ 10 by decide)]; exact fun hl hm => ⟨(w12.out hl hm).1.below hb1, (w12.out hl hm).2⟩))) (Lib.hid ((by simp only [getD_set_ne false (show 8 ≠ 16 by decide), getD_set_ne false (show 8 ≠ 17 by decide)]; exact fun hl hm => ⟨(w13.out hl hm).1.below hb1, (w13.out hl hm).2⟩))))
        · -- 9
          intro L a W hL hu hcl hd hJ
          refine scJH.elim w wo l k b off c k1 k2 hlt A1 A2 u39 u40 u41 u42 u43 u44 hJ ?_
          clear hJ
          intro x17 x18 x19 x20 x21 x22 x23 x24 x25 x26 x27 x28 x29 x30 x31 x32 x33 x34 x35 x36 x37 x38 y0 y1 e h0 h1 h2 h3 h4 h5 h6 h7 h8 h11 h12 h13 h14 h15 h18 h19 h21 h22 w0 w1 w2 w3 w4 w5 w6 w7 w8 w9 w10 w11 w12 w13
          subst e
          have D8 : L.getD 8 false = true := hd ⟨8, .data⟩ (by simp) rfl
          obtain rfl := h8.out D8
          refine wpOp_step rfl (fun K hK => ?_)
          go_simp
          have hb1 : Below W.heap.size W (W.alloc (.cells #[.int .i64 l[k].h] 211)) := bl_alloc (Below.refl _ _) _
          exact hK _ _ (scJH.mk_ _ _ _ _ _ _ _ _ _ _ _ _ _ _ _ _ _ _ x17 x18 x19 x20 x21 x22 x23 x24 _ _ x27 x28 x29 x30 x31 x32 x33 x34 x35 x36 x37 x38 y0 y1 rfl (hset h0 (by decide)) (hset h1 (by decide)) (hset h2 (by decide)) (hset h3 (by decide)) (hset h4 (by decide)) (hset h5 (by decide)) (hset h6 (by decide)) (hset h7 (by decide)) (Lib.hid (fun _ => rfl)) (hset h11 (by decide)) (hset h12 (by decide)) (hset h13 (by decide)) (hset h14 (by decide)) (hset h15 (by decide)) (hset h18 (by decide)) (hset h19 (by decide)) (hset h21 (by decide)) (hset h22 (by decide)) (Lib.hid (bl_then w0.out hb1)) (Lib.hid ((Nat.lt_of_lt_of_le w1.out (hb1).size))) (Lib.hid (bk_below w2.out hb1)) (Lib.hid (bk_below w3.out hb1)) (Lib.hid ((by simp only [getD_set_ne false (show 9 ≠ 20 by decide)]; exact w4.out))) (Lib.hid ((by simp only [getD_set_ne false (show 9 ≠ 23 by decide)]; exact w5.out))) (Lib.hid ((by simp only [getD_set_ne false (show 9 ≠ 20 by decide)]; exact w6.out))) (Lib.hid ((by simp only [getD_set_ne false (show 9 ≠ 23 by decide)]; exact w7.out))) (Lib.hid ((by simp only [getD_set_ne false (show 9 ≠ 10 by decide)]; exact fun hl => own_bel (w8.out hl) hb1))) (Lib.hid ((by simp only [getD_set_ne false (show 9 ≠ 17 by decide)]; exact fun hl => own_bel (w9.out hl) hb1))) (Lib.hid ((by simp only [getD_set_ne false (show 9 ≠ 10 by decide)]; exact fun hl => ⟨own_bel (w10.out hl).1 hb1, (w10.out hl).2⟩))) (Lib.hid ((by simp only [getD_set_ne false (show 9 ≠ 17 by decide)]; exact fun hl => ⟨own_bel (w11.out hl).1 hb1, (w11.out hl).2⟩))) (Lib.hid (fun _ _ => ⟨Sl.new1 inC_len W _ _ _ rfl, fun b hb => new_far w1.out hb⟩)) (Lib.hid ((by simp only [getD_set_ne false (show 9 ≠ 16 by decide), getD_set_ne false (show 9 ≠ 17 by decide)]; exact fun hl hm => ⟨(w13.out hl hm).1.below hb1, (w13.out hl hm).2⟩))))
        · -- 10
          intro L a W hL hu hcl hd hJ
          refine scJH.elim w wo l k b off c k1 k2 hlt A1 A2 u39 u40 u41 u42 u43 u44 hJ ?_
          clear hJ
          intro x17 x18 x19 x20 x21 x22 x23 x24 x25 x26 x27 x28 x29 x30 x31 x32 x33 x34 x35 x36 x37 x38 y0 y1 e h0 h1 h2 h3 h4 h5 h6 h7 h8 h11 h12 h13 h14 h15 h18 h19 h21 h22 w0 w1 w2 w3 w4 w5 w6 w7 w8 w9 w10 w11 w12 w13
          subst e
          have D5 : L.getD 5 false = true := hd ⟨5, .data⟩ (by simp) rfl
          obtain rfl := h5.out D5
          have D9 : L.getD 9 false = true := hd ⟨9, .data⟩ (by simp) rfl
          have D8 : L.getD 8 false = true := hd ⟨8, .chain⟩ (by simp) rfl
          obtain rfl := h8.out D8
          -- D8 D5 D9
          have hr : ∀ b, (Value.slice A1 k k1).ownBlock = some b → w.heap.size + 1 ≤ b ∧ b < wo.heap.size := fun b hb => ho1.lt b hb
          have a8 := w8.out hu
          obtain ⟨a12, b12⟩ := w12.out D9 hu
          refine wpOp_step rfl (fun K hK => ?_)
          refine step_app_own inC_len (by decide) inC_one rfl (.tmp 22) (.tmp 26) 252 rfl 211 _ 8 Tryz.underlying252 hI1 rfl (w.heap.size + 1) (.slice A1 k k1) k ((l.map Rn.h).take k) [l[k].h] (by simp; omega) rfl a8 _ rfl a12 (by have := w1.out; omega) (by simp; omega) (by simp; omega) ?_
          intro v' W1 hv' hg1 hat
          rw [take_snoc' (l.map Rn.h) k (by simpa using hlt) l[k].h (by simp)] at hv'
          have hno : ∀ hl : L.getD 17 false = true, False := fun hl => absurd (hcl 17 _ rfl hl ⟨10, .chain⟩ (by simp) rfl) (by rw [hu]; decide)
          simp only [Act.put, List.setIfInBounds_toArray, List.set_cons_zero, List.set_cons_succ]
          exact hK _ _ (scJH.mk_ _ _ _ _ _ _ _ _ _ _ _ _ _ _ _ _ _ _ x17 x18 x19 x20 x21 _ x23 x24 _ x26 _ x28 x29 x30 x31 x32 x33 x34 x35 x36 x37 x38 y0 y1 rfl (hset h0 (by decide)) (hset h1 (by decide)) (hset h2 (by decide)) (hset h3 (by decide)) (hset h4 (by decide)) (Lib.hid (fun _ => rfl)) (hset h6 (by decide)) (hset h7 (by decide)) (Lib.hid (fun _ => rfl)) (hset h11 (by decide)) (hset h12 (by decide)) (hset h13 (by decide)) (hset h14 (by decide)) (hset h15 (by decide)) (hset h18 (by decide)) (hset h19 (by decide)) (hset h21 (by decide)) (hset h22 (by decide)) (Lib.hid ((w0.out.grown hg1 w0.out.size (fun b hb => by have := hr b hb; omega)))) (Lib.hid ((Nat.lt_of_lt_of_le w1.out (hg1).size))) (Lib.hid (bk_grown w2.out hg1 (fun e => by have := hr _ e.symm; omega))) (Lib.hid (bk_grown w3.out hg1 (fun e => by have := hr _ e.symm; omega))) (Lib.hid ((by simp only [getD_set_ne false (show 10 ≠ 20 by decide)]; exact w4.out))) (Lib.hid ((by simp only [getD_set_ne false (show 10 ≠ 23 by decide)]; exact w5.out))) (Lib.hid ((fun hl => by rw [getD_set_ne false (by decide)] at hl; exact absurd (hcl 20 _ rfl hl ⟨10, .data⟩ (by simp) rfl) (by rw [hu]; decide)))) (Lib.hid ((by simp only [getD_set_ne false (show 10 ≠ 23 by decide)]; exact w7.out))) (Lib.hid ((fun hl => by rw [getD_set_eq false (by rw [hL]; decide)] at hl; cases hl))) (Lib.hid ((by simp only [getD_set_ne false (show 10 ≠ 17 by decide)]; exact fun hl => (w9.out hl).kept hg1 (own_ne_of (fun b h2 h1 => hne b h1 h2))))) (Lib.hid ((fun _ => ⟨hv', fun b hb => at_or hat w1.out hb⟩))) (Lib.hid ((fun hl => by rw [getD_set_ne false (by decide)] at hl; exact (hno hl).elim))) (Lib.hid ((fun _ hl => by rw [getD_set_eq false (by rw [hL]; decide)] at hl; cases hl))) (Lib.hid ((by simp only [getD_set_ne false (show 10 ≠ 16 by decide), getD_set_ne false (show 10 ≠ 17 by decide)]; exact fun hl hm => ⟨(w13.out hl hm).1.keep (fun _ b hb => hg1.block b (Sl.lt inC_len (by decide) (w13.out hl hm).1 (by simp) b hb) (fun e => by have := hr b e.symm; have := (w13.out hl hm).2 b hb; omega)), (w13.out hl hm).2⟩))))
        · -- 11
          intro L a W hL hu hcl hd hJ
          refine scJH.elim w wo l k b off c k1 k2 hlt A1 A2 u39 u40 u41 u42 u43 u44 hJ ?_
          clear hJ
          intro x17 x18 x19 x20 x21 x22 x23 x24 x25 x26 x27 x28 x29 x30 x31 x32 x33 x34 x35 x36 x37 x38 y0 y1 e h0 h1 h2 h3 h4 h5 h6 h7 h8 h11 h12 h13 h14 h15 h18 h19 h21 h22 w0 w1 w2 w3 w4 w5 w6 w7 w8 w9 w10 w11 w12 w13
          subst e
          refine wpOp_step rfl (fun K hK => ?_)
          go_simp
          exact hK _ _ (scJH.mk_ _ _ _ _ _ _ _ _ _ _ _ _ _ _ _ _ _ _ x17 x18 x19 x20 x21 x22 x23 x24 x25 x26 x27 _ x29 x30 x31 x32 x33 x34 x35 x36 x37 x38 y0 y1 rfl (hset h0 (by decide)) (hset h1 (by decide)) (hset h2 (by decide)) (hset h3 (by decide)) (hset h4 (by decide)) (hset h5 (by decide)) (hset h6 (by decide)) (hset h7 (by decide)) (hset h8 (by decide)) (Lib.hid (fun _ => rfl)) (hset h12 (by decide)) (hset h13 (by decide)) (hset h14 (by decide)) (hset h15 (by decide)) (hset h18 (by decide)) (hset h19 (by decide)) (hset h21 (by decide)) (hset h22 (by decide)) w0 w1 w2 w3 (Lib.hid (by have w := w4.out; simpa only [getD_set_ne false (show 11 ≠ 20 by decide)] using w)) (Lib.hid (by have w := w5.out; simpa only [getD_set_ne false (show 11 ≠ 23 by decide)] using w)) (Lib.hid (by have w := w6.out; simpa only [getD_set_ne false (show 11 ≠ 20 by decide)] using w)) (Lib.hid (by have w := w7.out; simpa only [getD_set_ne false (show 11 ≠ 23 by decide)] using w)) (Lib.hid (by have w := w8.out; simpa only [getD_set_ne false (show 11 ≠ 10 by decide)] using w)) (Lib.hid (by have w := w9.out; simpa only [getD_set_ne false (show 11 ≠ 17 by decide)] using w)) (Lib.hid (by have w := w10.out; simpa only [getD_set_ne false (show 11 ≠ 10 by decide)] using w)) (Lib.hid (by have w := w11.out; simpa only [getD_set_ne false (show 11 ≠ 17 by decide)] using w)) (Lib.hid (by have w := w12.out; simpa only [getD_set_ne false (show 11 ≠ 9 by decide), getD_set_ne false (show 11 ≠ 10 by decide)] using w)) (Lib.hid (by have w := w13.out; simpa only [getD_set_ne false (show 11 ≠ 16 by decide), getD_set_ne false (show 11 ≠ 17 by decide)] using w)))
        · -- 12
          intro L a W hL hu hcl hd hJ
          refine scJH.elim w wo l k b off c k1 k2 hlt A1 A2 u39 u40 u41 u42 u43 u44 hJ ?_
          clear hJ
          intro x17 x18 x19 x20 x21 x22 x23 x24 x25 x26 x27 x28 x29 x30 x31 x32 x33 x34 x35 x36 x37 x38 y0 y1 e h0 h1 h2 h3 h4 h5 h6 h7 h8 h11 h12 h13 h14 h15 h18 h19 h21 h22 w0 w1 w2 w3 w4 w5 w6 w7 w8 w9 w10 w11 w12 w13
          subst e
          have D11 : L.getD 11 false = true := hd ⟨11, .data⟩ (by simp) rfl
          obtain rfl := h11.out D11
          refine wpOp_step rfl (fun K hK => ?_)
          go_simp
          exact hK _ _ (scJH.mk_ _ _ _ _ _ _ _ _ _ _ _ _ _ _ _ _ _ _ x17 x18 x19 x20 x21 x22 x23 x24 x25 x26 x27 _ _ x30 x31 x32 x33 x34 x35 x36 x37 x38 y0 y1 rfl (hset h0 (by decide)) (hset h1 (by decide)) (hset h2 (by decide)) (hset h3 (by decide)) (hset h4 (by decide)) (hset h5 (by decide)) (hset h6 (by decide)) (hset h7 (by decide)) (hset h8 (by decide)) (Lib.hid (fun _ => rfl)) (Lib.hid (fun _ => rfl)) (hset h13 (by decide)) (hset h14 (by decide)) (hset h15 (by decide)) (hset h18 (by decide)) (hset h19 (by decide)) (hset h21 (by decide)) (hset h22 (by decide)) w0 w1 w2 w3 (Lib.hid (by have w := w4.out; simpa only [getD_set_ne false (show 12 ≠ 20 by decide)] using w)) (Lib.hid (by have w := w5.out; simpa only [getD_set_ne false (show 12 ≠ 23 by decide)] using w)) (Lib.hid (by have w := w6.out; simpa only [getD_set_ne false (show 12 ≠ 20 by decide)] using w)) (Lib.hid (by have w := w7.out; simpa only [getD_set_ne false (show 12 ≠ 23 by decide)] using w)) (Lib.hid (by have w := w8.out; simpa only [getD_set_ne false (show 12 ≠ 10 by decide)] using w)) (Lib.hid (by have w := w9.out; simpa only [getD_set_ne false (show 12 ≠ 17 by decide)] using w)) (Lib.hid (by have w := w10.out; simpa only [getD_set_ne false (show 12 ≠ 10 by decide)] using w)) (Lib.hid (by have w := w11.out; simpa only [getD_set_ne false (show 12 ≠ 17 by decide)] using w)) (Lib.hid (by have w := w12.out; simpa only [getD_set_ne false (show 12 ≠ 9 by decide), getD_set_ne false (show 12 ≠ 10 by decide)] using w)) (Lib.hid (by have w := w13.out; simpa only [getD_set_ne false (show 12 ≠ 16 by decide), getD_set_ne false (show 12 ≠ 17 by decide)] using w)))
        · -- 13
          intro L a W hL hu hcl hd hJ
          refine scJH.elim w wo l k b off c k1 k2 hlt A1 A2 u39 u40 u41 u42 u43 u44 hJ ?_
          clear hJ
          intro x17 x18 x19 x20 x21 x22 x23 x24 x25 x26 x27 x28 x29 x30 x31 x32 x33 x34 x35 x36 x37 x38 y0 y1 e h0 h1 h2 h3 h4 h5 h6 h7 h8 h11 h12 h13 h14 h15 h18 h19 h21 h22 w0 w1 w2 w3 w4 w5 w6 w7 w8 w9 w10 w11 w12 w13
          subst e
          have D12 : L.getD 12 false = true := hd ⟨12, .data⟩ (by simp) rfl
          obtain rfl := h12.out D12
          refine wpOp_step rfl (fun K hK => ?_)
          go_simp
          exact hK _ _ (scJH.mk_ _ _ _ _ _ _ _ _ _ _ _ _ _ _ _ _ _ _ x17 x18 x19 x20 x21 x22 x23 x24 x25 x26 x27 x28 _ _ x31 x32 x33 x34 x35 x36 x37 x38 y0 y1 rfl (hset h0 (by decide)) (hset h1 (by decide)) (hset h2 (by decide)) (hset h3 (by decide)) (hset h4 (by decide)) (hset h5 (by decide)) (hset h6 (by decide)) (hset h7 (by decide)) (hset h8 (by decide)) (hset h11 (by decide)) (Lib.hid (fun _ => rfl)) (Lib.hid (fun _ => rfl)) (hset h14 (by decide)) (hset h15 (by decide)) (hset h18 (by decide)) (hset h19 (by decide)) (hset h21 (by decide)) (hset h22 (by decide)) w0 w1 w2 w3 (Lib.hid (by have w := w4.out; simpa only [getD_set_ne false (show 13 ≠ 20 by decide)] using w)) (Lib.hid (by have w := w5.out; simpa only [getD_set_ne false (show 13 ≠ 23 by decide)] using w)) (Lib.hid (by have w := w6.out; simpa only [getD_set_ne false (show 13 ≠ 20 by decide)] using w)) (Lib.hid (by have w := w7.out; simpa only [getD_set_ne false (show 13 ≠ 23 by decide)] using w)) (Lib.hid (by have w := w8.out; simpa only [getD_set_ne false (show 13 ≠ 10 by decide)] using w)) (Lib.hid (by have w := w9.out; simpa only [getD_set_ne false (show 13 ≠ 17 by decide)] using w)) (Lib.hid (by have w := w10.out; simpa only [getD_set_ne false (show 13 ≠ 10 by decide)] using w)) (Lib.hid (by have w := w11.out; simpa only [getD_set_ne false (show 13 ≠ 17 by decide)] using w)) (Lib.hid (by have w := w12.out; simpa only [getD_set_ne false (show 13 ≠ 9 by decide), getD_set_ne false (show 13 ≠ 10 by decide)] using w)) (Lib.hid (by have w := w13.out; simpa only [getD_set_ne false (show 13 ≠ 16 by decide), getD_set_ne false (show 13 ≠ 17 by decide)] using w)))
        · -- 14
          intro L a W hL hu hcl hd hJ
          refine scJH.elim w wo l k b off c k1 k2 hlt A1 A2 u39 u40 u41 u42 u43 u44 hJ ?_
          clear hJ
          intro x17 x18 x19 x20 x21 x22 x23 x24 x25 x26 x27 x28 x29 x30 x31 x32 x33 x34 x35 x36 x37 x38 y0 y1 e h0 h1 h2 h3 h4 h5 h6 h7 h8 h11 h12 h13 h14 h15 h18 h19 h21 h22 w0 w1 w2 w3 w4 w5 w6 w7 w8 w9 w10 w11 w12 w13
          subst e
          have D13 : L.getD 13 false = true := hd ⟨13, .data⟩ (by simp) rfl
          obtain rfl := h13.out D13
          have hl : L.getD 23 false = false := by
            cases hl : L.getD 23 false with
            | false => rfl
            | true => exact absurd (hcl 23 _ rfl hl ⟨14, .phase⟩ (by simp) rfl) (by rw [hu]; decide)
          obtain rfl := w5.out hl
          have z := bk_cell w2.out 1
          simp at z
          refine wpOp_step rfl (fun K hK => ?_)
          go_simp
          exact hK _ _ (scJH.mk_ _ _ _ _ _ _ _ _ _ _ _ _ _ _ _ _ _ _ x17 x18 x19 x20 x21 x22 x23 x24 x25 x26 x27 x28 x29 _ _ x32 x33 x34 x35 x36 x37 x38 y0 _ rfl (hset h0 (by decide)) (hset h1 (by decide)) (hset h2 (by decide)) (hset h3 (by decide)) (hset h4 (by decide)) (hset h5 (by decide)) (hset h6 (by decide)) (hset h7 (by decide)) (hset h8 (by decide)) (hset h11 (by decide)) (hset h12 (by decide)) (Lib.hid (fun _ => rfl)) (Lib.hid (fun _ => rfl)) (hset h15 (by decide)) (hset h18 (by decide)) (hset h19 (by decide)) (hset h21 (by decide)) (hset h22 (by decide)) w0 w1 w2 w3 (Lib.hid (by have w := w4.out; simpa only [getD_set_ne false (show 14 ≠ 20 by decide)] using w)) (Lib.hid (by have w := w5.out; simpa only [getD_set_ne false (show 14 ≠ 23 by decide)] using w)) (Lib.hid (by have w := w6.out; simpa only [getD_set_ne false (show 14 ≠ 20 by decide)] using w)) (Lib.hid (by have w := w7.out; simpa only [getD_set_ne false (show 14 ≠ 23 by decide)] using w)) (Lib.hid (by have w := w8.out; simpa only [getD_set_ne false (show 14 ≠ 10 by decide)] using w)) (Lib.hid (by have w := w9.out; simpa only [getD_set_ne false (show 14 ≠ 17 by decide)] using w)) (Lib.hid (by have w := w10.out; simpa only [getD_set_ne false (show 14 ≠ 10 by decide)] using w)) (Lib.hid (by have w := w11.out; simpa only [getD_set_ne false (show 14 ≠ 17 by decide)] using w)) (Lib.hid (by have w := w12.out; simpa only [getD_set_ne false (show 14 ≠ 9 by decide), getD_set_ne false (show 14 ≠ 10 by decide)] using w)) (Lib.hid (by have w := w13.out; simpa only [getD_set_ne false (show 14 ≠ 16 by decide), getD_set_ne false (show 14 ≠ 17 by decide)] using w)))
        · -- 15
          intro L a W hL hu hcl hd hJ
          refine scJH.elim w wo l k b off c k1 k2 hlt A1 A2 u39 u40 u41 u42 u43 u44 hJ ?_
          clear hJ
          intro x17 x18 x19 x20 x21 x22 x23 x24 x25 x26 x27 x28 x29 x30 x31 x32 x33 x34 x35 x36 x37 x38 y0 y1 e h0 h1 h2 h3 h4 h5 h6 h7 h8 h11 h12 h13 h14 h15 h18 h19 h21 h22 w0 w1 w2 w3 w4 w5 w6 w7 w8 w9 w10 w11 w12 w13
          subst e
          refine wpOp_step rfl (fun K hK => ?_)
          go_simp
          exact hK _ _ (scJH.mk_ _ _ _ _ _ _ _ _ _ _ _ _ _ _ _ _ _ _ x17 x18 x19 x20 x21 x22 x23 x24 x25 x26 x27 x28 x29 x30 x31 _ x33 x34 x35 x36 x37 x38 y0 y1 rfl (hset h0 (by decide)) (hset h1 (by decide)) (hset h2 (by decide)) (hset h3 (by decide)) (hset h4 (by decide)) (hset h5 (by decide)) (hset h6 (by decide)) (hset h7 (by decide)) (hset h8 (by decide)) (hset h11 (by decide)) (hset h12 (by decide)) (hset h13 (by decide)) (hset h14 (by decide)) (Lib.hid (fun _ => rfl)) (hset h18 (by decide)) (hset h19 (by decide)) (hset h21 (by decide)) (hset h22 (by decide)) w0 w1 w2 w3 (Lib.hid (by have w := w4.out; simpa only [getD_set_ne false (show 15 ≠ 20 by decide)] using w)) (Lib.hid (by have w := w5.out; simpa only [getD_set_ne false (show 15 ≠ 23 by decide)] using w)) (Lib.hid (by have w := w6.out; simpa only [getD_set_ne false (show 15 ≠ 20 by decide)] using w)) (Lib.hid (by have w := w7.out; simpa only [getD_set_ne false (show 15 ≠ 23 by decide)] using w)) (Lib.hid (by have w := w8.out; simpa only [getD_set_ne false (show 15 ≠ 10 by decide)] using w)) (Lib.hid (by have w := w9.out; simpa only [getD_set_ne false (show 15 ≠ 17 by decide)] using w)) (Lib.hid (by have w := w10.out; simpa only [getD_set_ne false (show 15 ≠ 10 by decide)] using w)) (Lib.hid (by have w := w11.out; simpa only [getD_set_ne false (show 15 ≠ 17 by decide)] using w)) (Lib.hid (by have w := w12.out; simpa only [getD_set_ne false (show 15 ≠ 9 by decide), getD_set_ne false (show 15 ≠ 10 by decide)] using w)) (Lib.hid (by have w := w13.out; simpa only [getD_set_ne false (show 15 ≠ 16 by decide), getD_set_ne false (show 15 ≠ 17 by decide)] using w)))
        · -- 16
          intro L a W hL hu hcl hd hJ
          refine scJH.elim w wo l k b off c k1 k2 hlt A1 A2 u39 u40 u41 u42 u43 u44 hJ ?_
          clear hJ
          intro x17 x18 x19 x20 x21 x22 x23 x24 x25 x26 x27 x28 x29 x30 x31 x32 x33 x34 x35 x36 x37 x38 y0 y1 e h0 h1 h2 h3 h4 h5 h6 h7 h8 h11 h12 h13 h14 h15 h18 h19 h21 h22 w0 w1 w2 w3 w4 w5 w6 w7 w8 w9 w10 w11 w12 w13
          subst e
          have D15 : L.getD 15 false = true := hd ⟨15, .data⟩ (by simp) rfl
          obtain rfl := h15.out D15
          refine wpOp_step rfl (fun K hK => ?_)
          go_simp
          have hb1 : Below W.heap.size W (W.alloc (.cells #[.int .i64 (sumTo (l.map Rn.h) k)] 211)) := bl_alloc (Below.refl _ _) _
          exact hK _ _ (scJH.mk_ _ _ _ _ _ _ _ _ _ _ _ _ _ _ _ _ _ _ x17 x18 x19 x20 x21 x22 x23 x24 x25 x26 x27 x28 x29 x30 x31 _ _ x34 x35 x36 x37 x38 y0 y1 rfl (hset h0 (by decide)) (hset h1 (by decide)) (hset h2 (by decide)) (hset h3 (by decide)) (hset h4 (by decide)) (hset h5 (by decide)) (hset h6 (by decide)) (hset h7 (by decide)) (hset h8 (by decide)) (hset h11 (by decide)) (hset h12 (by decide)) (hset h13 (by decide)) (hset h14 (by decide)) (Lib.hid (fun _ => rfl)) (hset h18 (by decide)) (hset h19 (by decide)) (hset h21 (by decide)) (hset h22 (by decide)) (Lib.hid (bl_then w0.out hb1)) (Lib.hid ((Nat.lt_of_lt_of_le w1.out (hb1).size))) (Lib.hid (bk_below w2.out hb1)) (Lib.hid (bk_below w3.out hb1)) (Lib.hid ((by simp only [getD_set_ne false (show 16 ≠ 20 by decide)]; exact w4.out))) (Lib.hid ((by simp only [getD_set_ne false (show 16 ≠ 23 by decide)]; exact w5.out))) (Lib.hid ((by simp only [getD_set_ne false (show 16 ≠ 20 by decide)]; exact w6.out))) (Lib.hid ((by simp only [getD_set_ne false (show 16 ≠ 23 by decide)]; exact w7.out))) (Lib.hid ((by simp only [getD_set_ne false (show 16 ≠ 10 by decide)]; exact fun hl => own_bel (w8.out hl) hb1))) (Lib.hid ((by simp only [getD_set_ne false (show 16 ≠ 17 by decide)]; exact fun hl => own_bel (w9.out hl) hb1))) (Lib.hid ((by simp only [getD_set_ne false (show 16 ≠ 10 by decide)]; exact fun hl => ⟨own_bel (w10.out hl).1 hb1, (w10.out hl).2⟩))) (Lib.hid ((by simp only [getD_set_ne false (show 16 ≠ 17 by decide)]; exact fun hl => ⟨own_bel (w11.out hl).1 hb1, (w11.out hl).2⟩))) (Lib.hid ((by simp only [getD_set_ne false (show 16 ≠ 9 by decide), getD_set_ne false (show 16 ≠ 10 by decide)]; exact fun hl hm => ⟨(w12.out hl hm).1.below hb1, (w12.out hl hm).2⟩))) (Lib.hid (fun _ _ => ⟨Sl.new1 inC_len W _ _ _ rfl, fun b hb => new_far w1.out hb⟩)))
        · -- 17
          intro L a W hL hu hcl hd hJ
          refine scJH.elim w wo l k b off c k1 k2 hlt A1 A2 u39 u40 u41 u42 u43 u44 hJ ?_
          clear hJ
          intro x17 x18 x19 x20 x21 x22 x23 x24 x25 x26 x27 x28 x29 x30 x31 x32 x33 x34 x35 x36 x37 x38 y0 y1 e h0 h1 h2 h3 h4 h5 h6 h7 h8 h11 h12 h13 h14 h15 h18 h19 h21 h22 w0 w1 w2 w3 w4 w5 w6 w7 w8 w9 w10 w11 w12 w13
          subst e
          have D14 : L.getD 14 false = true := hd ⟨14, .data⟩ (by simp) rfl
          obtain rfl := h14.out D14
          have D16 : L.getD 16 false = true := hd ⟨16, .data⟩ (by simp) rfl
          have D10 : L.getD 10 false = true := hd ⟨10, .chain⟩ (by simp) rfl
          -- D10 D14 D16
          have hr : ∀ b, (Value.slice A2 k k2).ownBlock = some b → w.heap.size + 1 ≤ b ∧ b < wo.heap.size := fun b hb => ho2.lt b hb
          have a9 := w9.out hu
          obtain ⟨a13, b13⟩ := w13.out D16 hu
          obtain ⟨a10, b10⟩ := w10.out D10
          refine wpOp_step rfl (fun K hK => ?_)
          refine step_app_own inC_len (by decide) inC_one rfl (.tmp 31) (.tmp 33) 252 rfl 211 _ 8 Tryz.underlying252 hI1 rfl (w.heap.size + 1) (.slice A2 k k2) k (sums (l.map Rn.h) k) [sumTo (l.map Rn.h) k] (by simp [sums]) rfl a9 _ rfl a13 (by have := w1.out; omega) (by simp; omega) (by simp; omega) ?_
          intro v' W1 hv' hg1 hat
          rw [← sums_snoc] at hv'
          have hap : ∀ b, x27.ownBlock = some b → (Value.slice A2 k k2).ownBlock ≠ some b := fun b hb e => by
            rcases b10 b hb with h | h
            · exact hne b h e
            · have := hr b e; omega
          simp only [Act.put, List.setIfInBounds_toArray, List.set_cons_zero, List.set_cons_succ]
          exact hK _ _ (scJH.mk_ _ _ _ _ _ _ _ _ _ _ _ _ _ _ _ _ _ _ x17 x18 x19 x20 x21 x22 x23 x24 x25 x26 x27 x28 x29 x30 _ x32 x33 _ x35 x36 x37 x38 y0 y1 rfl (hset h0 (by decide)) (hset h1 (by decide)) (hset h2 (by decide)) (hset h3 (by decide)) (hset h4 (by decide)) (hset h5 (by decide)) (hset h6 (by decide)) (hset h7 (by decide)) (hset h8 (by decide)) (hset h11 (by decide)) (hset h12 (by decide)) (hset h13 (by decide)) (Lib.hid (fun _ => rfl)) (hset h15 (by decide)) (hset h18 (by decide)) (hset h19 (by decide)) (hset h21 (by decide)) (hset h22 (by decide)) (Lib.hid ((w0.out.grown hg1 w0.out.size (fun b hb => by have := hr b hb; omega)))) (Lib.hid ((Nat.lt_of_lt_of_le w1.out (hg1).size))) (Lib.hid (bk_grown w2.out hg1 (fun e => by have := hr _ e.symm; omega))) (Lib.hid (bk_grown w3.out hg1 (fun e => by have := hr _ e.symm; omega))) (Lib.hid ((by simp only [getD_set_ne false (show 17 ≠ 20 by decide)]; exact w4.out))) (Lib.hid ((by simp only [getD_set_ne false (show 17 ≠ 23 by decide)]; exact w5.out))) (Lib.hid ((by simp only [getD_set_ne false (show 17 ≠ 20 by decide)]; exact w6.out))) (Lib.hid ((fun hl => by rw [getD_set_ne false (by decide)] at hl; exact absurd (hcl 23 _ rfl hl ⟨17, .data⟩ (by simp) rfl) (by rw [hu]; decide)))) (Lib.hid ((fun hl => by rw [getD_set_ne false (by decide), D10] at hl; cases hl))) (Lib.hid ((fun hl => by rw [getD_set_eq false (by rw [hL]; decide)] at hl; cases hl))) (Lib.hid ((fun _ => ⟨a10.kept hg1 (own_ne_of hap), b10⟩))) (Lib.hid ((fun _ => ⟨hv', fun b hb => at_apart hat hap (fun b hx => (a10.lt b hx).2) hb⟩))) (Lib.hid ((fun _ hl => by rw [getD_set_ne false (by decide), D10] at hl; cases hl))) (Lib.hid ((fun _ hl => by rw [getD_set_eq false (by rw [hL]; decide)] at hl; cases hl))))
        · -- 18
          intro L a W hL hu hcl hd hJ
          refine scJH.elim w wo l k b off c k1 k2 hlt A1 A2 u39 u40 u41 u42 u43 u44 hJ ?_
          clear hJ
          intro x17 x18 x19 x20 x21 x22 x23 x24 x25 x26 x27 x28 x29 x30 x31 x32 x33 x34 x35 x36 x37 x38 y0 y1 e h0 h1 h2 h3 h4 h5 h6 h7 h8 h11 h12 h13 h14 h15 h18 h19 h21 h22 w0 w1 w2 w3 w4 w5 w6 w7 w8 w9 w10 w11 w12 w13
          subst e
          have D0 : L.getD 0 false = true := hd ⟨0, .data⟩ (by simp) rfl
          obtain rfl := h0.out D0
          refine wpOp_step rfl (fun K hK => ?_)
          go_simp
          exact hK _ _ (scJH.mk_ _ _ _ _ _ _ _ _ _ _ _ _ _ _ _ _ _ _ _ x18 x19 x20 x21 x22 x23 x24 x25 x26 x27 x28 x29 x30 x31 x32 x33 x34 _ x36 x37 x38 y0 y1 rfl (Lib.hid (fun _ => rfl)) (hset h1 (by decide)) (hset h2 (by decide)) (hset h3 (by decide)) (hset h4 (by decide)) (hset h5 (by decide)) (hset h6 (by decide)) (hset h7 (by decide)) (hset h8 (by decide)) (hset h11 (by decide)) (hset h12 (by decide)) (hset h13 (by decide)) (hset h14 (by decide)) (hset h15 (by decide)) (Lib.hid (fun _ => rfl)) (hset h19 (by decide)) (hset h21 (by decide)) (hset h22 (by decide)) w0 w1 w2 w3 (Lib.hid (by have w := w4.out; simpa only [getD_set_ne false (show 18 ≠ 20 by decide)] using w)) (Lib.hid (by have w := w5.out; simpa only [getD_set_ne false (show 18 ≠ 23 by decide)] using w)) (Lib.hid (by have w := w6.out; simpa only [getD_set_ne false (show 18 ≠ 20 by decide)] using w)) (Lib.hid (by have w := w7.out; simpa only [getD_set_ne false (show 18 ≠ 23 by decide)] using w)) (Lib.hid (by have w := w8.out; simpa only [getD_set_ne false (show 18 ≠ 10 by decide)] using w)) (Lib.hid (by have w := w9.out; simpa only [getD_set_ne false (show 18 ≠ 17 by decide)] using w)) (Lib.hid (by have w := w10.out; simpa only [getD_set_ne false (show 18 ≠ 10 by decide)] using w)) (Lib.hid (by have w := w11.out; simpa only [getD_set_ne false (show 18 ≠ 17 by decide)] using w)) (Lib.hid (by have w := w12.out; simpa only [getD_set_ne false (show 18 ≠ 9 by decide), getD_set_ne false (show 18 ≠ 10 by decide)] using w)) (Lib.hid (by have w := w13.out; simpa only [getD_set_ne false (show 18 ≠ 16 by decide), getD_set_ne false (show 18 ≠ 17 by decide)] using w)))
        · -- 19
          intro L a W hL hu hcl hd hJ
          refine scJH.elim w wo l k b off c k1 k2 hlt A1 A2 u39 u40 u41 u42 u43 u44 hJ ?_
          clear hJ
          intro x17 x18 x19 x20 x21 x22 x23 x24 x25 x26 x27 x28 x29 x30 x31 x32 x33 x34 x35 x36 x37 x38 y0 y1 e h0 h1 h2 h3 h4 h5 h6 h7 h8 h11 h12 h13 h14 h15 h18 h19 h21 h22 w0 w1 w2 w3 w4 w5 w6 w7 w8 w9 w10 w11 w12 w13
          subst e
          have D18 : L.getD 18 false = true := hd ⟨18, .data⟩ (by simp) rfl
          obtain rfl := h18.out D18
          refine wpOp_step rfl (fun K hK => ?_)
          go_simp
          exact hK _ _ (scJH.mk_ _ _ _ _ _ _ _ _ _ _ _ _ _ _ _ _ _ _ x17 x18 x19 x20 x21 x22 x23 x24 x25 x26 x27 x28 x29 x30 x31 x32 x33 x34 _ _ x37 x38 y0 y1 rfl (hset h0 (by decide)) (hset h1 (by decide)) (hset h2 (by decide)) (hset h3 (by decide)) (hset h4 (by decide)) (hset h5 (by decide)) (hset h6 (by decide)) (hset h7 (by decide)) (hset h8 (by decide)) (hset h11 (by decide)) (hset h12 (by decide)) (hset h13 (by decide)) (hset h14 (by decide)) (hset h15 (by decide)) (Lib.hid (fun _ => rfl)) (Lib.hid (fun _ => rfl)) (hset h21 (by decide)) (hset h22 (by decide)) w0 w1 w2 w3 (Lib.hid (by have w := w4.out; simpa only [getD_set_ne false (show 19 ≠ 20 by decide)] using w)) (Lib.hid (by have w := w5.out; simpa only [getD_set_ne false (show 19 ≠ 23 by decide)] using w)) (Lib.hid (by have w := w6.out; simpa only [getD_set_ne false (show 19 ≠ 20 by decide)] using w)) (Lib.hid (by have w := w7.out; simpa only [getD_set_ne false (show 19 ≠ 23 by decide)] using w)) (Lib.hid (by have w := w8.out; simpa only [getD_set_ne false (show 19 ≠ 10 by decide)] using w)) (Lib.hid (by have w := w9.out; simpa only [getD_set_ne false (show 19 ≠ 17 by decide)] using w)) (Lib.hid (by have w := w10.out; simpa only [getD_set_ne false (show 19 ≠ 10 by decide)] using w)) (Lib.hid (by have w := w11.out; simpa only [getD_set_ne false (show 19 ≠ 17 by decide)] using w)) (Lib.hid (by have w := w12.out; simpa only [getD_set_ne false (show 19 ≠ 9 by decide), getD_set_ne false (show 19 ≠ 10 by decide)] using w)) (Lib.hid (by have w := w13.out; simpa only [getD_set_ne false (show 19 ≠ 16 by decide), getD_set_ne false (show 19 ≠ 17 by decide)] using w)))
        · -- 20
          intro L a W hL hu hcl hd hJ
          refine scJH.elim w wo l k b off c k1 k2 hlt A1 A2 u39 u40 u41 u42 u43 u44 hJ ?_
          clear hJ
          intro x17 x18 x19 x20 x21 x22 x23 x24 x25 x26 x27 x28 x29 x30 x31 x32 x33 x34 x35 x36 x37 x38 y0 y1 e h0 h1 h2 h3 h4 h5 h6 h7 h8 h11 h12 h13 h14 h15 h18 h19 h21 h22 w0 w1 w2 w3 w4 w5 w6 w7 w8 w9 w10 w11 w12 w13
          subst e
          have D19 : L.getD 19 false = true := hd ⟨19, .data⟩ (by simp) rfl
          obtain rfl := h19.out D19
          have D10 : L.getD 10 false = true := hd ⟨10, .data⟩ (by simp) rfl
          have D17 : L.getD 17 false = true := hd ⟨17, .chain⟩ (by simp) rfl
          -- D19 D10 D17 GONE27
          obtain ⟨A3, k3, rfl⟩ := own_sl (w10.out D10).1
          have z := bk_cell w2.out 0
          have z' := bk_fro w2.out 0
          simp at z
          refine wpOp_step rfl (fun K hK => ?_)
          go_simp
          exact hK _ _ (scJH.mk_ _ _ _ _ _ _ _ _ _ _ _ _ _ _ _ _ _ _ x17 x18 x19 x20 x21 x22 x23 x24 x25 x26 _ x28 x29 x30 x31 x32 x33 x34 x35 _ x37 x38 _ y1 rfl (hset h0 (by decide)) (hset h1 (by decide)) (hset h2 (by decide)) (hset h3 (by decide)) (hset h4 (by decide)) (hset h5 (by decide)) (hset h6 (by decide)) (hset h7 (by decide)) (hset h8 (by decide)) (hset h11 (by decide)) (hset h12 (by decide)) (hset h13 (by decide)) (hset h14 (by decide)) (hset h15 (by decide)) (hset h18 (by decide)) (Lib.hid (fun _ => rfl)) (hset h21 (by decide)) (hset h22 (by decide)) (Lib.hid (bl_set w0.out (Nat.le_refl _) _)) (Lib.hid ((by rw [World.size_setCell]; exact w1.out))) (Lib.hid (bk_put1 w2.out 0 _ rfl)) (Lib.hid (bk_far w3.out (p := ⟨w.heap.size, 0, none⟩) (by simp; omega) _)) (Lib.hid ((fun hl => by rw [getD_set_eq false (by rw [hL]; decide)] at hl; cases hl))) (Lib.hid ((by simp only [getD_set_ne false (show 20 ≠ 23 by decide)]; exact w5.out))) (Lib.hid ((fun _ => rfl))) (Lib.hid ((by simp only [getD_set_ne false (show 20 ≠ 23 by decide)]; exact w7.out))) (Lib.hid ((by simp only [getD_set_ne false (show 20 ≠ 10 by decide)]; exact fun hl => own_set (w8.out hl) (p := ⟨w.heap.size, 0, none⟩) (by simp) _))) (Lib.hid ((by simp only [getD_set_ne false (show 20 ≠ 17 by decide)]; exact fun hl => own_set (w9.out hl) (p := ⟨w.heap.size, 0, none⟩) (by simp) _))) (Lib.hid ((by simp only [getD_set_ne false (show 20 ≠ 10 by decide)]; exact fun hl => ⟨own_set (w10.out hl).1 (p := ⟨w.heap.size, 0, none⟩) (by simp) _, (w10.out hl).2⟩))) (Lib.hid ((by simp only [getD_set_ne false (show 20 ≠ 17 by decide)]; exact fun hl => ⟨own_set (w11.out hl).1 (p := ⟨w.heap.size, 0, none⟩) (by simp) _, (w11.out hl).2⟩))) (Lib.hid ((fun _ hl => by rw [getD_set_ne false (by decide), D10] at hl; cases hl))) (Lib.hid ((fun _ hl => by rw [getD_set_ne false (by decide), D17] at hl; cases hl))))
        · -- 21
          intro L a W hL hu hcl hd hJ
          refine scJH.elim w wo l k b off c k1 k2 hlt A1 A2 u39 u40 u41 u42 u43 u44 hJ ?_
          clear hJ
          intro x17 x18 x19 x20 x21 x22 x23 x24 x25 x26 x27 x28 x29 x30 x31 x32 x33 x34 x35 x36 x37 x38 y0 y1 e h0 h1 h2 h3 h4 h5 h6 h7 h8 h11 h12 h13 h14 h15 h18 h19 h21 h22 w0 w1 w2 w3 w4 w5 w6 w7 w8 w9 w10 w11 w12 w13
          subst e
          have D1 : L.getD 1 false = true := hd ⟨1, .data⟩ (by simp) rfl
          obtain rfl := h1.out D1
          refine wpOp_step rfl (fun K hK => ?_)
          go_simp
          exact hK _ _ (scJH.mk_ _ _ _ _ _ _ _ _ _ _ _ _ _ _ _ _ _ _ x17 _ x19 x20 x21 x22 x23 x24 x25 x26 x27 x28 x29 x30 x31 x32 x33 x34 x35 x36 _ x38 y0 y1 rfl (hset h0 (by decide)) (Lib.hid (fun _ => rfl)) (hset h2 (by decide)) (hset h3 (by decide)) (hset h4 (by decide)) (hset h5 (by decide)) (hset h6 (by decide)) (hset h7 (by decide)) (hset h8 (by decide)) (hset h11 (by decide)) (hset h12 (by decide)) (hset h13 (by decide)) (hset h14 (by decide)) (hset h15 (by decide)) (hset h18 (by decide)) (hset h19 (by decide)) (Lib.hid (fun _ => rfl)) (hset h22 (by decide)) w0 w1 w2 w3 (Lib.hid (by have w := w4.out; simpa only [getD_set_ne false (show 21 ≠ 20 by decide)] using w)) (Lib.hid (by have w := w5.out; simpa only [getD_set_ne false (show 21 ≠ 23 by decide)] using w)) (Lib.hid (by have w := w6.out; simpa only [getD_set_ne false (show 21 ≠ 20 by decide)] using w)) (Lib.hid (by have w := w7.out; simpa only [getD_set_ne false (show 21 ≠ 23 by decide)] using w)) (Lib.hid (by have w := w8.out; simpa only [getD_set_ne false (show 21 ≠ 10 by decide)] using w)) (Lib.hid (by have w := w9.out; simpa only [getD_set_ne false (show 21 ≠ 17 by decide)] using w)) (Lib.hid (by have w := w10.out; simpa only [getD_set_ne false (show 21 ≠ 10 by decide)] using w)) (Lib.hid (by have w := w11.out; simpa only [getD_set_ne false (show 21 ≠ 17 by decide)] using w)) (Lib.hid (by have w := w12.out; simpa only [getD_set_ne false (show 21 ≠ 9 by decide), getD_set_ne false (show 21 ≠ 10 by decide)] using w)) (Lib.hid (by have w := w13.out; simpa only [getD_set_ne false (show 21 ≠ 16 by decide), getD_set_ne false (show 21 ≠ 17 by decide)] using w)))
        · -- 22
          intro L a W hL hu hcl hd hJ
          refine scJH.elim w wo l k b off c k1 k2 hlt A1 A2 u39 u40 u41 u42 u43 u44 hJ ?_
          clear hJ
          intro x17 x18 x19 x20 x21 x22 x23 x24 x25 x26 x27 x28 x29 x30 x31 x32 x33 x34 x35 x36 x37 x38 y0 y1 e h0 h1 h2 h3 h4 h5 h6 h7 h8 h11 h12 h13 h14 h15 h18 h19 h21 h22 w0 w1 w2 w3 w4 w5 w6 w7 w8 w9 w10 w11 w12 w13
          subst e
          have D21 : L.getD 21 false = true := hd ⟨21, .data⟩ (by simp) rfl
          obtain rfl := h21.out D21
          refine wpOp_step rfl (fun K hK => ?_)
          go_simp
          exact hK _ _ (scJH.mk_ _ _ _ _ _ _ _ _ _ _ _ _ _ _ _ _ _ _ x17 x18 x19 x20 x21 x22 x23 x24 x25 x26 x27 x28 x29 x30 x31 x32 x33 x34 x35 x36 _ _ y0 y1 rfl (hset h0 (by decide)) (hset h1 (by decide)) (hset h2 (by decide)) (hset h3 (by decide)) (hset h4 (by decide)) (hset h5 (by decide)) (hset h6 (by decide)) (hset h7 (by decide)) (hset h8 (by decide)) (hset h11 (by decide)) (hset h12 (by decide)) (hset h13 (by decide)) (hset h14 (by decide)) (hset h15 (by decide)) (hset h18 (by decide)) (hset h19 (by decide)) (Lib.hid (fun _ => rfl)) (Lib.hid (fun _ => rfl)) w0 w1 w2 w3 (Lib.hid (by have w := w4.out; simpa only [getD_set_ne false (show 22 ≠ 20 by decide)] using w)) (Lib.hid (by have w := w5.out; simpa only [getD_set_ne false (show 22 ≠ 23 by decide)] using w)) (Lib.hid (by have w := w6.out; simpa only [getD_set_ne false (show 22 ≠ 20 by decide)] using w)) (Lib.hid (by have w := w7.out; simpa only [getD_set_ne false (show 22 ≠ 23 by decide)] using w)) (Lib.hid (by have w := w8.out; simpa only [getD_set_ne false (show 22 ≠ 10 by decide)] using w)) (Lib.hid (by have w := w9.out; simpa only [getD_set_ne false (show 22 ≠ 17 by decide)] using w)) (Lib.hid (by have w := w10.out; simpa only [getD_set_ne false (show 22 ≠ 10 by decide)] using w)) (Lib.hid (by have w := w11.out; simpa only [getD_set_ne false (show 22 ≠ 17 by decide)] using w)) (Lib.hid (by have w := w12.out; simpa only [getD_set_ne false (show 22 ≠ 9 by decide), getD_set_ne false (show 22 ≠ 10 by decide)] using w)) (Lib.hid (by have w := w13.out; simpa only [getD_set_ne false (show 22 ≠ 16 by decide), getD_set_ne false (show 22 ≠ 17 by decide)] using w)))
        · -- 23
          intro L a W hL hu hcl hd hJ
          refine scJH.elim w wo l k b off c k1 k2 hlt A1 A2 u39 u40 u41 u42 u43 u44 hJ ?_
          clear hJ
          intro x17 x18 x19 x20 x21 x22 x23 x24 x25 x26 x27 x28 x29 x30 x31 x32 x33 x34 x35 x36 x37 x38 y0 y1 e h0 h1 h2 h3 h4 h5 h6 h7 h8 h11 h12 h13 h14 h15 h18 h19 h21 h22 w0 w1 w2 w3 w4 w5 w6 w7 w8 w9 w10 w11 w12 w13
          subst e
          have D22 : L.getD 22 false = true := hd ⟨22, .data⟩ (by simp) rfl
          obtain rfl := h22.out D22
          have D17 : L.getD 17 false = true := hd ⟨17, .data⟩ (by simp) rfl
          have D1 : L.getD 1 false = true := hd ⟨1, .phase⟩ (by simp) rfl
          obtain rfl := h1.out D1
          have D2 : L.getD 2 false = true := hd ⟨2, .phase⟩ (by simp) rfl
          obtain rfl := h2.out D2
          have D10 : L.getD 10 false = true := hd ⟨10, .phase⟩ (by simp) rfl
          -- D22 D10 D17 GONE34
          obtain ⟨A3, k3, rfl⟩ := own_sl (w11.out D17).1
          have z := bk_cell w2.out 1
          have z' := bk_fro w2.out 1
          simp at z
          refine wpOp_step rfl (fun K hK => ?_)
          go_simp
          exact hK _ _ (scJH.mk_ _ _ _ _ _ _ _ _ _ _ _ _ _ _ _ _ _ _ x17 _ _ x20 x21 x22 x23 x24 x25 x26 x27 x28 x29 x30 x31 x32 x33 _ x35 x36 x37 _ y0 _ rfl (hset h0 (by decide)) (Lib.hid (fun _ => rfl)) (Lib.hid (fun _ => rfl)) (hset h3 (by decide)) (hset h4 (by decide)) (hset h5 (by decide)) (hset h6 (by decide)) (hset h7 (by decide)) (hset h8 (by decide)) (hset h11 (by decide)) (hset h12 (by decide)) (hset h13 (by decide)) (hset h14 (by decide)) (hset h15 (by decide)) (hset h18 (by decide)) (hset h19 (by decide)) (hset h21 (by decide)) (Lib.hid (fun _ => rfl)) (Lib.hid (bl_set w0.out (Nat.le_refl _) _)) (Lib.hid ((by rw [World.size_setCell]; exact w1.out))) (Lib.hid (bk_put1 w2.out 1 _ rfl)) (Lib.hid (bk_far w3.out (p := ⟨w.heap.size, 1, none⟩) (by simp; omega) _)) (Lib.hid ((by simp only [getD_set_ne false (show 23 ≠ 20 by decide)]; exact w4.out))) (Lib.hid ((fun hl => by rw [getD_set_eq false (by rw [hL]; decide)] at hl; cases hl))) (Lib.hid ((by simp only [getD_set_ne false (show 23 ≠ 20 by decide)]; exact w6.out))) (Lib.hid ((fun _ => rfl))) (Lib.hid ((by simp only [getD_set_ne false (show 23 ≠ 10 by decide)]; exact fun hl => own_set (w8.out hl) (p := ⟨w.heap.size, 1, none⟩) (by simp) _))) (Lib.hid ((by simp only [getD_set_ne false (show 23 ≠ 17 by decide)]; exact fun hl => own_set (w9.out hl) (p := ⟨w.heap.size, 1, none⟩) (by simp) _))) (Lib.hid ((by simp only [getD_set_ne false (show 23 ≠ 10 by decide)]; exact fun hl => ⟨own_set (w10.out hl).1 (p := ⟨w.heap.size, 1, none⟩) (by simp) _, (w10.out hl).2⟩))) (Lib.hid ((by simp only [getD_set_ne false (show 23 ≠ 17 by decide)]; exact fun hl => ⟨own_set (w11.out hl).1 (p := ⟨w.heap.size, 1, none⟩) (by simp) _, (w11.out hl).2⟩))) (Lib.hid ((fun _ hl => by rw [getD_set_ne false (by decide), D10] at hl; cases hl))) (Lib.hid ((fun _ hl => by rw [getD_set_ne false (by decide), D17] at hl; cases hl))))
      case done =>
        intro L a W hall hJ
        refine scJH.elim w wo l k b off c k1 k2 hlt A1 A2 u39 u40 u41 u42 u43 u44 hJ ?_
        clear hJ
        intro x17 x18 x19 x20 x21 x22 x23 x24 x25 x26 x27 x28 x29 x30 x31 x32 x33 x34 x35 x36 x37 x38 y0 y1 e h0 h1 h2 h3 h4 h5 h6 h7 h8 h11 h12 h13 h14 h15 h18 h19 h21 h22 w0 w1 w2 w3 w4 w5 w6 w7 w8 w9 w10 w11 w12 w13
        subst e
        have w6' := w6.out (hall 20 (by decide))
        have w7' := w7.out (hall 23 (by decide))
        subst w6' w7'
        obtain ⟨o1, _⟩ := w10.out (hall 10 (by decide))
        obtain ⟨o2, hap⟩ := w11.out (hall 17 (by decide))
        clear h0 h1 h2 h3 h4 h5 h6 h7 h8 h11 h12 h13 h14 h15 h18 h19 h21 h22 w4 w5 w6 w7 w8 w9 w10 w11 w12 w13 d0 d1 d2 z0 z1 ho1 ho2 HB HOX1 HOX2 hne hB
        have z0 := bk_cell w3.out 0
        have z1 := bk_cell w3.out 1
        have z2 := bk_cell w3.out 2
        simp at z0 z1 z2
        have hs0 := w1.out
        have hr0 := hr l[k] (List.getElem_mem hlt)
        have hsb := sumTo_bd (l.map Rn.h) k 1000000 (by decide) (by simpa using hr)
        have hss := sumTo_succ (l.map Rn.h) k (by simpa using hlt)
        rw [List.getElem_map] at hss
        have hsb1 : sumTo (l.map Rn.h) k ≤ 30000000 := by have h1 := hsb.2; have h2 : (k : Int) * 1000000 ≤ 30000000 := (by omega); omega
        have hsb0 := hsb.1
        have HSS := Lib.hid hss
        clear hss hsb
        obtain ⟨hr1, hr2⟩ := hr0
        go_wp2_with (go_at_call 199; refine (heightOf_any _ _ _ _).mono ?_; rintro e' W1 ⟨rfl, hb1⟩)
        go_roundw
        case rel =>
          have hB1 : Below w.heap.size w W1 := bl_then w0.out hb1
          exact ⟨k + 1, by omega, by go_num, by rw [HSS.out], hB1, by have := hb1.size; have := w1.out; omega, _, _, bk_below w2.out hb1, own_bel o1 hb1, own_bel o2 hb1, fun b h1 h2 => hap b h2 h1⟩
        case measure => simp [intOf]; omega
    · obtain rfl : k = l.length := by omega
      have z0 := bk_cell hblk 0
      have z1 := bk_cell hblk 1
      have z2 := bk_fro hblk 1
      simp at z0 z1
      have HB := Lib.hid hblk
      clear hblk
      obtain ⟨A1, k1, rfl⟩ := own_sl ho1
      obtain ⟨A2, k2, rfl⟩ := own_sl ho2
      have HO1 := Lib.hid ho1
      have HO2 := Lib.hid ho2
      have hr1 : ∀ b, (Value.slice A1 l.length k1).ownBlock = some b → w.heap.size + 1 ≤ b ∧ b < wo.heap.size := fun b hb => ho1.lt b hb
      have hr2 : ∀ b, (Value.slice A2 l.length k2).ownBlock = some b → w.heap.size + 1 ≤ b ∧ b < wo.heap.size := fun b hb => ho2.lt b hb
      clear ho1 ho2
      have hI1 : (Tryz.prog.info? 211).map (fun i => (i.zero, i.size, i.bytes)) = some (some (.int .i64 0), 1, 8) := by kernel_rfl
      go_wp2_with (first
        | (at_builtin; refine app_own inC_len (by decide) inC_one rfl (.tmp 49) (.tmp 51) 252 rfl 211 _ 8 Tryz.underlying252 hI1 rfl (w.heap.size + 1) (.slice A2 l.length k2) l.length (sums (l.map Rn.h) l.length) [sumTo (l.map Rn.h) l.length] (by simp [sums]) rfl (own_bel HO2.out (bl_alloc (Below.refl _ _) _)) _ rfl (Sl.new1 inC_len _ _ _ _ rfl) (by simp; omega) (by simp; omega) (by simp; omega) ?_; intro v' W1 hv' hg1 hat; rw [← sums_snoc] at hv'; obtain ⟨A3, k3, rfl⟩ := own_sl hv'; (have HB1 := Lib.hid (bk_grown (bk_alloc HB.out _) hg1 (fun e => by have := hr2 _ e.symm; omega))); (have y0 := bk_cell HB1.out 0); (have y1 := bk_cell HB1.out 1); (have y2 := bk_fro HB1.out 1); simp at y0 y1; clear z0 z1 z2))
      refine bodyPost_ret (v := .pointer (some ⟨w.heap.size, 0, none⟩)) (by simp [results, Tryz.results198, go_sem, *]) rfl ?_
      have hgs := hg1.size
      rw [World.size_alloc] at hgs
      have e1 : (l.map Rn.h).take l.length = l.map Rn.h := by rw [List.take_of_length_le]; simp
      have o1 := HO1.out
      rw [e1] at o1
      have o1' := own_set ((own_bel o1 (bl_alloc (Below.refl _ _) _)).kept hg1 (own_ne_of (fun b h1 h2 => hne b h1 h2))) (p := ⟨w.heap.size, 1, none⟩) (by simp) (.slice A3 (l.length + 1) k3)
      have o2' := own_set hv' (p := ⟨w.heap.size, 1, none⟩) (by simp) (.slice A3 (l.length + 1) k3)
      refine ⟨w.heap.size, _, _, rfl, bk_put1 HB1.out 1 _ rfl, Sl.of_own (base := w.heap.size + 1) (e := 211) inC_len (by decide) ?_, Sl.of_own (base := w.heap.size + 1) (e := 211) inC_len (by decide) ?_, bl_set ((bl_alloc hB _).grown hg1 (by simp; omega) (fun z hz => by have := hr2 _ hz; omega)) (Nat.le_refl _) _⟩
      · simpa using o1'
      · simpa [sums] using o2'
def scJD (w wo : World) (l : List Rn) (k b off c k1 k2 : Nat) (hlt : k < l.length) (A1 A2 : Option Addr) (u39 u40 u41 u42 u43 u44 : Value) (L : Array Bool) (a : Act) (W : World) : Prop := ∃ (x17 : Value) (x18 : Value) (x19 : Value) (x20 : Value) (x21 : Value) (x22 : Value) (x23 : Value) (x24 : Value) (x25 : Value) (x26 : Value) (x27 : Value) (x28 : Value) (x29 : Value) (x30 : Value) (x31 : Value) (x32 : Value) (x33 : Value) (x34 : Value) (x35 : Value) (x36 : Value) (x37 : Value) (x38 : Value) (y0 : Value) (y1 : Value), a = { tmps := #[Value.slice (some ⟨b, off, none⟩) l.length c, .func (.func 131) #[] #[], undef, undef, .pointer none, .pointer (some ⟨w.heap.size, 0, none⟩), .int .i64 (sumTo (l.map Rn.d) k), undef, .pointer (some ⟨wo.heap.size, 0, none⟩), .agg #[.slice none 0 0, .slice none 0 0], .pointer (some ⟨w.heap.size, 0, none⟩), .slice (some ⟨b, off, none⟩) l.length c, .int .i64 (l.length : Int), .int .i64 (k : Int), .bool true, .pointer (some ⟨b, off + k * 3, none⟩), .agg #[.int .i64 l[k].h, .int .i64 l[k].v, .int .i64 l[k].d], x17, x18, x19, x20, x21, x22, x23, x24, x25, x26, x27, x28, x29, x30, x31, x32, x33, x34, x35, x36, x37, x38, u39, u40, u41, u42, u43, u44, undef, undef, undef, undef, undef, undef, undef, undef, undef, undef, undef], defers := [] } ∧ (L.getD 0 false = true → x17 = .pointer (some ⟨w.heap.size, 0, none⟩)) ∧ (L.getD 1 false = true → x18 = .pointer (some ⟨w.heap.size, 0, none⟩)) ∧ (L.getD 2 false = true → x19 = .pointer (some ⟨w.heap.size, 0, none⟩)) ∧ (L.getD 3 false = true → x20 = .pointer (some ⟨w.heap.size, 0, none⟩)) ∧ (L.getD 4 false = true → x21 = .pointer (some ⟨w.heap.size, 0, none⟩)) ∧ (L.getD 5 false = true → x22 = .slice A1 k k1) ∧ (L.getD 6 false = true → x23 = .func (.func 131) #[] #[]) ∧ (L.getD 7 false = true → x24 = .agg #[.int .i64 l[k].h, .int .i64 l[k].v, .int .i64 l[k].d]) ∧ (L.getD 8 false = true → x25 = .int .i64 l[k].d) ∧ (L.getD 11 false = true → x28 = .pointer (some ⟨w.heap.size, 0, none⟩)) ∧ (L.getD 12 false = true → x29 = .pointer (some ⟨w.heap.size, 0, none⟩)) ∧ (L.getD 13 false = true → x30 = .pointer (some ⟨w.heap.size, 1, none⟩)) ∧ (L.getD 14 false = true → x31 = .slice A2 k k2) ∧ (L.getD 15 false = true → x32 = .int .i64 (sumTo (l.map Rn.d) k)) ∧ (L.getD 18 false = true → x35 = .pointer (some ⟨w.heap.size, 0, none⟩)) ∧ (L.getD 19 false = true → x36 = .pointer (some ⟨w.heap.size, 0, none⟩)) ∧ (L.getD 21 false = true → x37 = .pointer (some ⟨w.heap.size, 0, none⟩)) ∧ (L.getD 22 false = true → x38 = .pointer (some ⟨w.heap.size, 1, none⟩)) ∧ (Below w.heap.size w W) ∧ (wo.heap.size < W.heap.size) ∧ (W.heap[w.heap.size]? = some (.cells #[y0, y1] 257 (0, 0))) ∧ (W.heap[wo.heap.size]? = some (.cells #[.int .i64 l[k].h, .int .i64 l[k].v, .int .i64 l[k].d] 178 (0, 0))) ∧ (L.getD 20 false = false → y0 = .slice A1 k k1) ∧ (L.getD 23 false = false → y1 = .slice A2 k k2) ∧ (L.getD 20 false = true → y0 = x27) ∧ (L.getD 23 false = true → y1 = x34) ∧ (L.getD 10 false = false → W.ownsRow (w.heap.size + 1) 186 1 (.slice A1 k k1) k (flat inC ((l.map Rn.d).take k))) ∧ (L.getD 17 false = false → W.ownsRow (w.heap.size + 1) 186 1 (.slice A2 k k2) k (flat inC (sums (l.map Rn.d) k))) ∧ (L.getD 10 false = true → W.ownsRow (w.heap.size + 1) 186 1 x27 (k + 1) (flat inC ((l.map Rn.d).take (k + 1))) ∧ ∀ b, x27.ownBlock = some b → (Value.slice A1 k k1).ownBlock = some b ∨ wo.heap.size < b) ∧ (L.getD 17 false = true → W.ownsRow (w.heap.size + 1) 186 1 x34 (k + 1) (flat inC (sums (l.map Rn.d) (k + 1))) ∧ ∀ b, x34.ownBlock = some b → x27.ownBlock ≠ some b) ∧ (L.getD 9 false = true → L.getD 10 false = false → Sl inC 1 W x26 [l[k].d] ∧ ∀ b, x26.ownBlock = some b → wo.heap.size < b) ∧ (L.getD 16 false = true → L.getD 17 false = false → Sl inC 1 W x33 [sumTo (l.map Rn.d) k] ∧ ∀ b, x33.ownBlock = some b → wo.heap.size < b)
theorem scJD.elim (w wo : World) (l : List Rn) (k b off c k1 k2 : Nat) (hlt : k < l.length) (A1 A2 : Option Addr) (u39 u40 u41 u42 u43 u44 : Value) {L : Array Bool} {a : Act} {W : World} {G : Prop} (h : scJD w wo l k b off c k1 k2 hlt A1 A2 u39 u40 u41 u42 u43 u44 L a W) (k : ∀ (x17 : Value) (x18 : Value) (x19 : Value) (x20 : Value) (x21 : Value) (x22 : Value) (x23 : Value) (x24 : Value) (x25 : Value) (x26 : Value) (x27 : Value) (x28 : Value) (x29 : Value) (x30 : Value) (x31 : Value) (x32 : Value) (x33 : Value) (x34 : Value) (x35 : Value) (x36 : Value) (x37 : Value) (x38 : Value) (y0 : Value) (y1 : Value), a = { tmps := #[Value.slice (some ⟨b, off, none⟩) l.length c, .func (.func 131) #[] #[], undef, undef, .pointer none, .pointer (some ⟨w.heap.size, 0, none⟩), .int .i64 (sumTo (l.map Rn.d) k), undef, .pointer (some ⟨wo.heap.size, 0, none⟩), .agg #[.slice none 0 0, .slice none 0 0], .pointer (some ⟨w.heap.size, 0, none⟩), .slice (some ⟨b, off, none⟩) l.length c, .int .i64 (l.length : Int), .int .i64 (k : Int), .bool true, .pointer (some ⟨b, off + k * 3, none⟩), .agg #[.int .i64 l[k].h, .int .i64 l[k].v, .int .i64 l[k].d], x17, x18, x19, x20, x21, x22, x23, x24, x25, x26, x27, x28, x29, x30, x31, x32, x33, x34, x35, x36, x37, x38, u39, u40, u41, u42, u43, u44, undef, undef, undef, undef, undef, undef, undef, undef, undef, undef, undef], defers := [] } → Hid (L.getD 0 false = true → x17 = .pointer (some ⟨w.heap.size, 0, none⟩)) → Hid (L.getD 1 false = true → x18 = .pointer (some ⟨w.heap.size, 0, none⟩)) → Hid (L.getD 2 false = true → x19 = .pointer (some ⟨w.heap.size, 0, none⟩)) → Hid (L.getD 3 false = true → x20 = .pointer (some ⟨w.heap.size, 0, none⟩)) → Hid (L.getD 4 false = true → x21 = .pointer (some ⟨w.heap.size, 0, none⟩)) → Hid (L.getD 5 false = true → x22 = .slice A1 k k1) → Hid (L.getD 6 false = true → x23 = .func (.func 131) #[] #[]) → Hid (L.getD 7 false = true → x24 = .agg #[.int .i64 l[k].h, .int .i64 l[k].v, .int .i64 l[k].d]) → Hid (L.getD 8 false = true → x25 = .int .i64 l[k].d) → Hid (L.getD 11 false = true → x28 = .pointer (some ⟨w.heap.size, 0, none⟩)) → Hid (L.getD 12 false = true → x29 = .pointer (some ⟨w.heap.size, 0, none⟩)) → Hid (L.getD 13 false = true → x30 = .pointer (some ⟨w.heap.size, 1, none⟩)) → Hid (L.getD 14 false = true → x31 = .slice A2 k k2) → Hid (L.getD 15 false = true → x32 = .int .i64 (sumTo (l.map Rn.d) k)) → Hid (L.getD 18 false = true → x35 = .pointer (some ⟨w.heap.size, 0, none⟩)) → Hid (L.getD 19 false = true → x36 = .pointer (some ⟨w.heap.size, 0, none⟩)) → Hid (L.getD 21 false = true → x37 = .pointer (some ⟨w.heap.size, 0, none⟩)) → Hid (L.getD 22 false = true → x38 = .pointer (some ⟨w.heap.size, 1, none⟩)) → Hid (Below w.heap.size w W) → Hid (wo.heap.size < W.heap.size) → Hid (W.heap[w.heap.size]? = some (.cells #[y0, y1] 257 (0, 0))) → Hid (W.heap[wo.heap.size]? = some (.cells #[.int .i64 l[k].h, .int .i64 l[k].v, .int .i64 l[k].d] 178 (0, 0))) → Hid (L.getD 20 false = false → y0 = .slice A1 k k1) → Hid (L.getD 23 false = false → y1 = .slice A2 k k2) → Hid (L.getD 20 false = true → y0 = x27) → Hid (L.getD 23 false = true → y1 = x34) → Hid (L.getD 10 false = false → W.ownsRow (w.heap.size + 1) 186 1 (.slice A1 k k1) k (flat inC ((l.map Rn.d).take k))) → Hid (L.getD 17 false = false → W.ownsRow (w.heap.size + 1) 186 1 (.slice A2 k k2) k (flat inC (sums (l.map Rn.d) k))) → Hid (L.getD 10 false = true → W.ownsRow (w.heap.size + 1) 186 1 x27 (k + 1) (flat inC ((l.map Rn.d).take (k + 1))) ∧ ∀ b, x27.ownBlock = some b → (Value.slice A1 k k1).ownBlock = some b ∨ wo.heap.size < b) → Hid (L.getD 17 false = true → W.ownsRow (w.heap.size + 1) 186 1 x34 (k + 1) (flat inC (sums (l.map Rn.d) (k + 1))) ∧ ∀ b, x34.ownBlock = some b → x27.ownBlock ≠ some b) → Hid (L.getD 9 false = true → L.getD 10 false = false → Sl inC 1 W x26 [l[k].d] ∧ ∀ b, x26.ownBlock = some b → wo.heap.size < b) → Hid (L.getD 16 false = true → L.getD 17 false = false → Sl inC 1 W x33 [sumTo (l.map Rn.d) k] ∧ ∀ b, x33.ownBlock = some b → wo.heap.size < b) → G) : G := by
  obtain ⟨x17, x18, x19, x20, x21, x22, x23, x24, x25, x26, x27, x28, x29, x30, x31, x32, x33, x34, x35, x36, x37, x38, y0, y1, e, h0, h1, h2, h3, h4, h5, h6, h7, h8, h11, h12, h13, h14, h15, h18, h19, h21, h22, w0, w1, w2, w3, w4, w5, w6, w7, w8, w9, w10, w11, w12, w13⟩ := h
  exact k x17 x18 x19 x20 x21 x22 x23 x24 x25 x26 x27 x28 x29 x30 x31 x32 x33 x34 x35 x36 x37 x38 y0 y1 e (Lib.hid h0) (Lib.hid h1) (Lib.hid h2) (Lib.hid h3) (Lib.hid h4) (Lib.hid h5) (Lib.hid h6) (Lib.hid h7) (Lib.hid h8) (Lib.hid h11) (Lib.hid h12) (Lib.hid h13) (Lib.hid h14) (Lib.hid h15) (Lib.hid h18) (Lib.hid h19) (Lib.hid h21) (Lib.hid h22) (Lib.hid w0) (Lib.hid w1) (Lib.hid w2) (Lib.hid w3) (Lib.hid w4) (Lib.hid w5) (Lib.hid w6) (Lib.hid w7) (Lib.hid w8) (Lib.hid w9) (Lib.hid w10) (Lib.hid w11) (Lib.hid w12) (Lib.hid w13)
theorem scJD.mk_ (w wo : World) (l : List Rn) (k b off c k1 k2 : Nat) (hlt : k < l.length) (A1 A2 : Option Addr) (u39 u40 u41 u42 u43 u44 : Value) {L : Array Bool} {a : Act} {W : World} (x17 : Value) (x18 : Value) (x19 : Value) (x20 : Value) (x21 : Value) (x22 : Value) (x23 : Value) (x24 : Value) (x25 : Value) (x26 : Value) (x27 : Value) (x28 : Value) (x29 : Value) (x30 : Value) (x31 : Value) (x32 : Value) (x33 : Value) (x34 : Value) (x35 : Value) (x36 : Value) (x37 : Value) (x38 : Value) (y0 : Value) (y1 : Value) (e : a = { tmps := #[Value.slice (some ⟨b, off, none⟩) l.length c, .func (.func 131) #[] #[], undef, undef, .pointer none, .pointer (some ⟨w.heap.size, 0, none⟩), .int .i64 (sumTo (l.map Rn.d) k), undef, .pointer (some ⟨wo.heap.size, 0, none⟩), .agg #[.slice none 0 0, .slice none 0 0], .pointer (some ⟨w.heap.size, 0, none⟩), .slice (some ⟨b, off, none⟩) l.length c, .int .i64 (l.length : Int), .int .i64 (k : Int), .bool true, .pointer (some ⟨b, off + k * 3, none⟩), .agg #[.int .i64 l[k].h, .int .i64 l[k].v, .int .i64 l[k].d], x17, x18, x19, x20, x21, x22, x23, x24, x25, x26, x27, x28, x29, x30, x31, x32, x33, x34, x35, x36, x37, x38, u39, u40, u41, u42, u43, u44, undef, undef, undef, undef, undef, undef, undef, undef, undef, undef, undef], defers := [] }) (h0 : Hid (L.getD 0 false = true → x17 = .pointer (some ⟨w.heap.size, 0, none⟩))) (h1 : Hid (L.getD 1 false = true → x18 = .pointer (some ⟨w.heap.size, 0, none⟩))) (h2 : Hid (L.getD 2 false = true → x19 = .pointer (some ⟨w.heap.size, 0, none⟩))) (h3 : Hid (L.getD 3 false = true → x20 = .pointer (some ⟨w.heap.size, 0, none⟩))) (h4 : Hid (L.getD 4 false = true → x21 = .pointer (some ⟨w.heap.size, 0, none⟩))) (h5 : Hid (L.getD 5 false = true → x22 = .slice A1 k k1)) (h6 : Hid (L.getD 6 false = true → x23 = .func (.func 131) #[] #[])) (h7 : Hid (L.getD 7 false = true → x24 = .agg #[.int .i64 l[k].h, .int .i64 l[k].v, .int .i64 l[k].d])) (h8 : Hid (L.getD 8 false = true → x25 = .int .i64 l[k].d)) (h11 : Hid (L.getD 11 false = true → x28 = .pointer (some ⟨w.heap.size, 0, none⟩))) (h12 : Hid (L.getD 12 false = true → x29 = .pointer (some ⟨w.heap.size, 0, none⟩))) (h13 : Hid (L.getD 13 false = true → x30 = .pointer (some ⟨w.heap.size, 1, none⟩))) (h14 : Hid (L.getD 14 false = true → x31 = .slice A2 k k2)) (h15 : Hid (L.getD 15 false = true → x32 = .int .i64 (sumTo (l.map Rn.d) k))) (h18 : Hid (L.getD 18 false = true → x35 = .pointer (some ⟨w.heap.size, 0, none⟩))) (h19 : Hid (L.getD 19 false = true → x36 = .pointer (some ⟨w.heap.size, 0, none⟩))) (h21 : Hid (L.getD 21 false = true → x37 = .pointer (some ⟨w.heap.size, 0, none⟩))) (h22 : Hid (L.getD 22 false = true → x38 = .pointer (some ⟨w.heap.size, 1, none⟩))) (w0 : Hid (Below w.heap.size w W)) (w1 : Hid (wo.heap.size < W.heap.size)) (w2 : Hid (W.heap[w.heap.size]? = some (.cells #[y0, y1] 257 (0, 0)))) (w3 : Hid (W.heap[wo.heap.size]? = some (.cells #[.int .i64 l[k].h, .int .i64 l[k].v, .int .i64 l[k].d] 178 (0, 0)))) (w4 : Hid (L.getD 20 false = false → y0 = .slice A1 k k1)) (w5 : Hid (L.getD 23 false = false → y1 = .slice A2 k k2)) (w6 : Hid (L.getD 20 false = true → y0 = x27)) (w7 : Hid (L.getD 23 false = true → y1 = x34)) (w8 : Hid (L.getD 10 false = false → W.ownsRow (w.heap.size + 1) 186 1 (.slice A1 k k1) k (flat inC ((l.map Rn.d).take k)))) (w9 : Hid (L.getD 17 false = false → W.ownsRow (w.heap.size + 1) 186 1 (.slice A2 k k2) k (flat inC (sums (l.map Rn.d) k)))) (w10 : Hid (L.getD 10 false = true → W.ownsRow (w.heap.size + 1) 186 1 x27 (k + 1) (flat inC ((l.map Rn.d).take (k + 1))) ∧ ∀ b, x27.ownBlock = some b → (Value.slice A1 k k1).ownBlock = some b ∨ wo.heap.size < b)) (w11 : Hid (L.getD 17 false = true → W.ownsRow (w.heap.size + 1) 186 1 x34 (k + 1) (flat inC (sums (l.map Rn.d) (k + 1))) ∧ ∀ b, x34.ownBlock = some b → x27.ownBlock ≠ some b)) (w12 : Hid (L.getD 9 false = true → L.getD 10 false = false → Sl inC 1 W x26 [l[k].d] ∧ ∀ b, x26.ownBlock = some b → wo.heap.size < b)) (w13 : Hid (L.getD 16 false = true → L.getD 17 false = false → Sl inC 1 W x33 [sumTo (l.map Rn.d) k] ∧ ∀ b, x33.ownBlock = some b → wo.heap.size < b)) : scJD w wo l k b off c k1 k2 hlt A1 A2 u39 u40 u41 u42 u43 u44 L a W := ⟨x17, x18, x19, x20, x21, x22, x23, x24, x25, x26, x27, x28, x29, x30, x31, x32, x33, x34, x35, x36, x37, x38, y0, y1, e, h0.out, h1.out, h2.out, h3.out, h4.out, h5.out, h6.out, h7.out, h8.out, h11.out, h12.out, h13.out, h14.out, h15.out, h18.out, h19.out, h21.out, h22.out, w0.out, w1.out, w2.out, w3.out, w4.out, w5.out, w6.out, w7.out, w8.out, w9.out, w10.out, w11.out, w12.out, w13.out⟩
set_option maxRecDepth 100000 in
set_option maxHeartbeats 1000000 in
theorem scaledD_any (v : Value) (l : List Rn) (w : World) (hv : Sl rnC 3 w v l) (hn : l.length ≤ 30) (hr : ∀ r ∈ l, 0 ≤ r.d ∧ r.d ≤ 1000000) :
    Calls Tryz.prog 200 #[v, .func (.func 131) #[] #[]] w fun e w' => ∃ g v1 v2, e = .returned (.pointer (some ⟨g, 0, none⟩)) ∧ w'.heap[g]? = some (.cells #[v1, v2] 257 (0, 0)) ∧
      Sl inC 1 w' v1 (l.map Rn.d) ∧ Sl inC 1 w' v2 (sums (l.map Rn.d) (l.length + 1)) ∧ Below w.heap.size w w' := by
  obtain ⟨A, c, rfl, hl, hc, hcs⟩ := id hv
  go_enter Tryz.func200, Tryz.ntmps200
  go_wp2
  go_loopw [6, 13] (fun s i W => ∃ k : Nat, k ≤ l.length ∧ i = .int .i64 k ∧ s = .int .i64 (sumTo (l.map Rn.d) k) ∧ Below w.heap.size w W ∧ w.heap.size < W.heap.size ∧ ∃ v1 v2, W.heap[w.heap.size]? = some (.cells #[v1, v2] 257 (0, 0)) ∧
     W.ownsRow (w.heap.size + 1) 186 1 v1 k (flat inC ((l.map Rn.d).take k)) ∧ W.ownsRow (w.heap.size + 1) 186 1 v2 k (flat inC (sums (l.map Rn.d) k)) ∧ (∀ b, v1.ownBlock = some b → v2.ownBlock ≠ some b)) (fun _ i _ => l.length - (intOf i).toNat)
  case atStart => exact ⟨0, by omega, rfl, rfl, by (repeat' with_reducible first|assumption|exact Below.refl _ _|apply bl_alloc|apply bl_drewN|apply bl_drew|refine bl_set ?_ (by simp<;>omega) _|refine bl_then ?_ (by assumption)), by simp, _, _, bk_new _ _, World.ownsRow_nil _ _ _ _, World.ownsRow_nil _ _ _ _, by intro b hb; cases hb⟩
  case round =>
    obtain ⟨k, hk, rfl, rfl, hB, hsz, v1, v2, hblk, ho1, ho2, hne⟩ := hrel
    obtain ⟨wo, rfl⟩ : ∃ wo : World, wo = wr := ⟨_, rfl⟩
    by_cases hlt : k < l.length
    · obtain ⟨b, off, rfl, hcell⟩ := hcs (by intro h; simp [h] at hlt)
      obtain ⟨c0, c1', c2'⟩ := rn_cells hcell hlt
      have d0 := cl_below hB c0
      have d1 := cl_below hB c1'
      have d2 := cl_below hB c2'
      have z0 := bk_cell hblk 0
      have z1 := bk_cell hblk 1
      simp at z0 z1
      clear c0 c1' c2'
      have HB := Lib.hid hblk
      clear hblk
      have hsl1 := own_sl ho1
      have hsl2 := own_sl ho2
      obtain ⟨A1, k1, rfl⟩ := hsl1
      obtain ⟨A2, k2, rfl⟩ := hsl2
      have hI1 : (Tryz.prog.info? 186).map (fun i => (i.zero, i.size, i.bytes)) = some (some (.int .i64 0), 1, 8) := by kernel_rfl
      go_wp2
      have HOX1 := Lib.hid ho1
      have HOX2 := Lib.hid ho2
      refine region_steps (by kernel_rfl) (by kernel_rfl) (scJD w wo l k b off c k1 k2 hlt A1 A2 u39 u40 u41 u42 u43 u44) ?start ?steps ?done
      case start =>
        refine scJD.mk_ _ _ _ _ _ _ _ _ _ _ _ _ _ _ _ _ _ _ _ _ _ _ _ _ _ _ _ _ _ _ _ _ _ _ _ _ _ _ _ _ (.slice A1 k k1) (.slice A2 k k2) rfl (Lib.hid (fun hl => by simp at hl)) (Lib.hid (fun hl => by simp at hl)) (Lib.hid (fun hl => by simp at hl)) (Lib.hid (fun hl => by simp at hl)) (Lib.hid (fun hl => by simp at hl)) (Lib.hid (fun hl => by simp at hl)) (Lib.hid (fun hl => by simp at hl)) (Lib.hid (fun hl => by simp at hl)) (Lib.hid (fun hl => by simp at hl)) (Lib.hid (fun hl => by simp at hl)) (Lib.hid (fun hl => by simp at hl)) (Lib.hid (fun hl => by simp at hl)) (Lib.hid (fun hl => by simp at hl)) (Lib.hid (fun hl => by simp at hl)) (Lib.hid (fun hl => by simp at hl)) (Lib.hid (fun hl => by simp at hl)) (Lib.hid (fun hl => by simp at hl)) (Lib.hid (fun hl => by simp at hl)) (Lib.hid (bl_drew (bl_alloc hB _))) (Lib.hid (by simp)) (Lib.hid (bk_drew (bk_alloc HB.out _))) (Lib.hid (bk_drew (bk_new _ _))) (Lib.hid (fun _ => rfl)) (Lib.hid (fun _ => rfl)) (Lib.hid (fun hl => by simp at hl)) (Lib.hid (fun hl => by simp at hl)) (Lib.hid (fun _ => own_bel (HOX1.out.alloc _) (bl_drew (Below.refl _ _)))) (Lib.hid (fun _ => own_bel (HOX2.out.alloc _) (bl_drew (Below.refl _ _)))) (Lib.hid (fun hl => by simp at hl)) (Lib.hid (fun hl => by simp at hl)) (Lib.hid (fun hl => by simp at hl)) (Lib.hid (fun hl => by simp at hl))
      case steps =>
        refine ⟨?_, ?_, ?_, ?_, ?_, ?_, ?_, ?_, ?_, ?_, ?_, ?_, ?_, ?_, ?_, ?_, ?_, ?_, ?_, ?_, ?_, ?_, ?_, ?_, trivial⟩
        · -- 0
          intro L a W hL hu hcl hd hJ
          refine scJD.elim w wo l k b off c k1 k2 hlt A1 A2 u39 u40 u41 u42 u43 u44 hJ ?_
          clear hJ
          intro x17 x18 x19 x20 x21 x22 x23 x24 x25 x26 x27 x28 x29 x30 x31 x32 x33 x34 x35 x36 x37 x38 y0 y1 e h0 h1 h2 h3 h4 h5 h6 h7 h8 h11 h12 h13 h14 h15 h18 h19 h21 h22 w0 w1 w2 w3 w4 w5 w6 w7 w8 w9 w10 w11 w12 w13
          subst e
          refine wpOp_step rfl (fun K hK => ?_)
          go_simp
          exact hK _ _ (scJD.mk_ _ _ _ _ _ _ _ _ _ _ _ _ _ _ _ _ _ _ _ x18 x19 x20 x21 x22 x23 x24 x25 x26 x27 x28 x29 x30 x31 x32 x33 x34 x35 x36 x37 x38 y0 y1 rfl (Lib.hid (fun _ => rfl)) (hset h1 (by decide)) (hset h2 (by decide)) (hset h3 (by decide)) (hset h4 (by decide)) (hset h5 (by decide)) (hset h6 (by decide)) (hset h7 (by decide)) (hset h8 (by decide)) (hset h11 (by decide)) (hset h12 (by decide)) (hset h13 (by decide)) (hset h14 (by decide)) (hset h15 (by decide)) (hset h18 (by decide)) (hset h19 (by decide)) (hset h21 (by decide)) (hset h22 (by decide)) w0 w1 w2 w3 (Lib.hid (by have w := w4.out; simpa only [getD_set_ne false (show 0 ≠ 20 by decide)] using w)) (Lib.hid (by have w := w5.out; simpa only [getD_set_ne false (show 0 ≠ 23 by decide)] using w)) (Lib.hid (by have w := w6.out; simpa only [getD_set_ne false (show 0 ≠ 20 by decide)] using w)) (Lib.hid (by have w := w7.out; simpa only [getD_set_ne false (show 0 ≠ 23 by decide)] using w)) (Lib.hid (by have w := w8.out; simpa only [getD_set_ne false (show 0 ≠ 10 by decide)] using w)) (Lib.hid (by have w := w9.out; simpa only [getD_set_ne false (show 0 ≠ 17 by decide)] using w)) (Lib.hid (by have w := w10.out; simpa only [getD_set_ne false (show 0 ≠ 10 by decide)] using w)) (Lib.hid (by have w := w11.out; simpa only [getD_set_ne false (show 0 ≠ 17 by decide)] using w)) (Lib.hid (by have w := w12.out; simpa only [getD_set_ne false (show 0 ≠ 9 by decide), getD_set_ne false (show 0 ≠ 10 by decide)] using w)) (Lib.hid (by have w := w13.out; simpa only [getD_set_ne false (show 0 ≠ 16 by decide), getD_set_ne false (show 0 ≠ 17 by decide)] using w)))
        · -- 1
          intro L a W hL hu hcl hd hJ
          refine scJD.elim w wo l k b off c k1 k2 hlt A1 A2 u39 u40 u41 u42 u43 u44 hJ ?_
          clear hJ
          intro x17 x18 x19 x20 x21 x22 x23 x24 x25 x26 x27 x28 x29 x30 x31 x32 x33 x34 x35 x36 x37 x38 y0 y1 e h0 h1 h2 h3 h4 h5 h6 h7 h8 h11 h12 h13 h14 h15 h18 h19 h21 h22 w0 w1 w2 w3 w4 w5 w6 w7 w8 w9 w10 w11 w12 w13
          subst e
          refine wpOp_step rfl (fun K hK => ?_)
          go_simp
          exact hK _ _ (scJD.mk_ _ _ _ _ _ _ _ _ _ _ _ _ _ _ _ _ _ _ x17 _ x19 x20 x21 x22 x23 x24 x25 x26 x27 x28 x29 x30 x31 x32 x33 x34 x35 x36 x37 x38 y0 y1 rfl (hset h0 (by decide)) (Lib.hid (fun _ => rfl)) (hset h2 (by decide)) (hset h3 (by decide)) (hset h4 (by decide)) (hset h5 (by decide)) (hset h6 (by decide)) (hset h7 (by decide)) (hset h8 (by decide)) (hset h11 (by decide)) (hset h12 (by decide)) (hset h13 (by decide)) (hset h14 (by decide)) (hset h15 (by decide)) (hset h18 (by decide)) (hset h19 (by decide)) (hset h21 (by decide)) (hset h22 (by decide)) w0 w1 w2 w3 (Lib.hid (by have w := w4.out; simpa only [getD_set_ne false (show 1 ≠ 20 by decide)] using w)) (Lib.hid (by have w := w5.out; simpa only [getD_set_ne false (show 1 ≠ 23 by decide)] using w)) (Lib.hid (by have w := w6.out; simpa only [getD_set_ne false (show 1 ≠ 20 by decide)] using w)) (Lib.hid (by have w := w7.out; simpa only [getD_set_ne false (show 1 ≠ 23 by decide)] using w)) (Lib.hid (by have w := w8.out; simpa only [getD_set_ne false (show 1 ≠ 10 by decide)] using w)) (Lib.hid (by have w := w9.out; simpa only [getD_set_ne false (show 1 ≠ 17 by decide)] using w)) (Lib.hid (by have w := w10.out; simpa only [getD_set_ne false (show 1 ≠ 10 by decide)] using w)) (Lib.hid (by have w := w11.out; simpa only [getD_set_ne false (show 1 ≠ 17 by decide)] using w)) (Lib.hid (by have w := w12.out; simpa only [getD_set_ne false (show 1 ≠ 9 by decide), getD_set_ne false (show 1 ≠ 10 by decide)] using w)) (Lib.hid (by have w := w13.out; simpa only [getD_set_ne false (show 1 ≠ 16 by decide), getD_set_ne false (show 1 ≠ 17 by decide)] using w)))
        · -- 2
          intro L a W hL hu hcl hd hJ
          refine scJD.elim w wo l k b off c k1 k2 hlt A1 A2 u39 u40 u41 u42 u43 u44 hJ ?_
          clear hJ
          intro x17 x18 x19 x20 x21 x22 x23 x24 x25 x26 x27 x28 x29 x30 x31 x32 x33 x34 x35 x36 x37 x38 y0 y1 e h0 h1 h2 h3 h4 h5 h6 h7 h8 h11 h12 h13 h14 h15 h18 h19 h21 h22 w0 w1 w2 w3 w4 w5 w6 w7 w8 w9 w10 w11 w12 w13
          subst e
          refine wpOp_step rfl (fun K hK => ?_)
          go_simp
          exact hK _ _ (scJD.mk_ _ _ _ _ _ _ _ _ _ _ _ _ _ _ _ _ _ _ x17 x18 _ x20 x21 x22 x23 x24 x25 x26 x27 x28 x29 x30 x31 x32 x33 x34 x35 x36 x37 x38 y0 y1 rfl (hset h0 (by decide)) (hset h1 (by decide)) (Lib.hid (fun _ => rfl)) (hset h3 (by decide)) (hset h4 (by decide)) (hset h5 (by decide)) (hset h6 (by decide)) (hset h7 (by decide)) (hset h8 (by decide)) (hset h11 (by decide)) (hset h12 (by decide)) (hset h13 (by decide)) (hset h14 (by decide)) (hset h15 (by decide)) (hset h18 (by decide)) (hset h19 (by decide)) (hset h21 (by decide)) (hset h22 (by decide)) w0 w1 w2 w3 (Lib.hid (by have w := w4.out; simpa only [getD_set_ne false (show 2 ≠ 20 by decide)] using w)) (Lib.hid (by have w := w5.out; simpa only [getD_set_ne false (show 2 ≠ 23 by decide)] using w)) (Lib.hid (by have w := w6.out; simpa only [getD_set_ne false (show 2 ≠ 20 by decide)] using w)) (Lib.hid (by have w := w7.out; simpa only [getD_set_ne false (show 2 ≠ 23 by decide)] using w)) (Lib.hid (by have w := w8.out; simpa only [getD_set_ne false (show 2 ≠ 10 by decide)] using w)) (Lib.hid (by have w := w9.out; simpa only [getD_set_ne false (show 2 ≠ 17 by decide)] using w)) (Lib.hid (by have w := w10.out; simpa only [getD_set_ne false (show 2 ≠ 10 by decide)] using w)) (Lib.hid (by have w := w11.out; simpa only [getD_set_ne false (show 2 ≠ 17 by decide)] using w)) (Lib.hid (by have w := w12.out; simpa only [getD_set_ne false (show 2 ≠ 9 by decide), getD_set_ne false (show 2 ≠ 10 by decide)] using w)) (Lib.hid (by have w := w13.out; simpa only [getD_set_ne false (show 2 ≠ 16 by decide), getD_set_ne false (show 2 ≠ 17 by decide)] using w)))
        · -- 3
          intro L a W hL hu hcl hd hJ
          refine scJD.elim w wo l k b off c k1 k2 hlt A1 A2 u39 u40 u41 u42 u43 u44 hJ ?_
          clear hJ
          intro x17 x18 x19 x20 x21 x22 x23 x24 x25 x26 x27 x28 x29 x30 x31 x32 x33 x34 x35 x36 x37 x38 y0 y1 e h0 h1 h2 h3 h4 h5 h6 h7 h8 h11 h12 h13 h14 h15 h18 h19 h21 h22 w0 w1 w2 w3 w4 w5 w6 w7 w8 w9 w10 w11 w12 w13
          subst e
          have D2 : L.getD 2 false = true := hd ⟨2, .data⟩ (by simp) rfl
          obtain rfl := h2.out D2
          refine wpOp_step rfl (fun K hK => ?_)
          go_simp
          exact hK _ _ (scJD.mk_ _ _ _ _ _ _ _ _ _ _ _ _ _ _ _ _ _ _ x17 x18 _ _ x21 x22 x23 x24 x25 x26 x27 x28 x29 x30 x31 x32 x33 x34 x35 x36 x37 x38 y0 y1 rfl (hset h0 (by decide)) (hset h1 (by decide)) (Lib.hid (fun _ => rfl)) (Lib.hid (fun _ => rfl)) (hset h4 (by decide)) (hset h5 (by decide)) (hset h6 (by decide)) (hset h7 (by decide)) (hset h8 (by decide)) (hset h11 (by decide)) (hset h12 (by decide)) (hset h13 (by decide)) (hset h14 (by decide)) (hset h15 (by decide)) (hset h18 (by decide)) (hset h19 (by decide)) (hset h21 (by decide)) (hset h22 (by decide)) w0 w1 w2 w3 (Lib.hid (by have w := w4.out; simpa only [getD_set_ne false (show 3 ≠ 20 by decide)] using w)) (Lib.hid (by have w := w5.out; simpa only [getD_set_ne false (show 3 ≠ 23 by decide)] using w)) (Lib.hid (by have w := w6.out; simpa only [getD_set_ne false (show 3 ≠ 20 by decide)] using w)) (Lib.hid (by have w := w7.out; simpa only [getD_set_ne false (show 3 ≠ 23 by decide)] using w)) (Lib.hid (by have w := w8.out; simpa only [getD_set_ne false (show 3 ≠ 10 by decide)] using w)) (Lib.hid (by have w := w9.out; simpa only [getD_set_ne false (show 3 ≠ 17 by decide)] using w)) (Lib.hid (by have w := w10.out; simpa only [getD_set_ne false (show 3 ≠ 10 by decide)] using w)) (Lib.hid (by have w := w11.out; simpa only [getD_set_ne false (show 3 ≠ 17 by decide)] using w)) (Lib.hid (by have w := w12.out; simpa only [getD_set_ne false (show 3 ≠ 9 by decide), getD_set_ne false (show 3 ≠ 10 by decide)] using w)) (Lib.hid (by have w := w13.out; simpa only [getD_set_ne false (show 3 ≠ 16 by decide), getD_set_ne false (show 3 ≠ 17 by decide)] using w)))
        · -- 4
          intro L a W hL hu hcl hd hJ
          refine scJD.elim w wo l k b off c k1 k2 hlt A1 A2 u39 u40 u41 u42 u43 u44 hJ ?_
          clear hJ
          intro x17 x18 x19 x20 x21 x22 x23 x24 x25 x26 x27 x28 x29 x30 x31 x32 x33 x34 x35 x36 x37 x38 y0 y1 e h0 h1 h2 h3 h4 h5 h6 h7 h8 h11 h12 h13 h14 h15 h18 h19 h21 h22 w0 w1 w2 w3 w4 w5 w6 w7 w8 w9 w10 w11 w12 w13
          subst e
          have D3 : L.getD 3 false = true := hd ⟨3, .data⟩ (by simp) rfl
          obtain rfl := h3.out D3
          refine wpOp_step rfl (fun K hK => ?_)
          go_simp
          exact hK _ _ (scJD.mk_ _ _ _ _ _ _ _ _ _ _ _ _ _ _ _ _ _ _ x17 x18 x19 _ _ x22 x23 x24 x25 x26 x27 x28 x29 x30 x31 x32 x33 x34 x35 x36 x37 x38 y0 y1 rfl (hset h0 (by decide)) (hset h1 (by decide)) (hset h2 (by decide)) (Lib.hid (fun _ => rfl)) (Lib.hid (fun _ => rfl)) (hset h5 (by decide)) (hset h6 (by decide)) (hset h7 (by decide)) (hset h8 (by decide)) (hset h11 (by decide)) (hset h12 (by decide)) (hset h13 (by decide)) (hset h14 (by decide)) (hset h15 (by decide)) (hset h18 (by decide)) (hset h19 (by decide)) (hset h21 (by decide)) (hset h22 (by decide)) w0 w1 w2 w3 (Lib.hid (by have w := w4.out; simpa only [getD_set_ne false (show 4 ≠ 20 by decide)] using w)) (Lib.hid (by have w := w5.out; simpa only [getD_set_ne false (show 4 ≠ 23 by decide)] using w)) (Lib.hid (by have w := w6.out; simpa only [getD_set_ne false (show 4 ≠ 20 by decide)] using w)) (Lib.hid (by have w := w7.out; simpa only [getD_set_ne false (show 4 ≠ 23 by decide)] using w)) (Lib.hid (by have w := w8.out; simpa only [getD_set_ne false (show 4 ≠ 10 by decide)] using w)) (Lib.hid (by have w := w9.out; simpa only [getD_set_ne false (show 4 ≠ 17 by decide)] using w)) (Lib.hid (by have w := w10.out; simpa only [getD_set_ne false (show 4 ≠ 10 by decide)] using w)) (Lib.hid (by have w := w11.out; simpa only [getD_set_ne false (show 4 ≠ 17 by decide)] using w)) (Lib.hid (by have w := w12.out; simpa only [getD_set_ne false (show 4 ≠ 9 by decide), getD_set_ne false (show 4 ≠ 10 by decide)] using w)) (Lib.hid (by have w := w13.out; simpa only [getD_set_ne false (show 4 ≠ 16 by decide), getD_set_ne false (show 4 ≠ 17 by decide)] using w)))
        · -- 5
          intro L a W hL hu hcl hd hJ
          refine scJD.elim w wo l k b off c k1 k2 hlt A1 A2 u39 u40 u41 u42 u43 u44 hJ ?_
          clear hJ
          intro x17 x18 x19 x20 x21 x22 x23 x24 x25 x26 x27 x28 x29 x30 x31 x32 x33 x34 x35 x36 x37 x38 y0 y1 e h0 h1 h2 h3 h4 h5 h6 h7 h8 h11 h12 h13 h14 h15 h18 h19 h21 h22 w0 w1 w2 w3 w4 w5 w6 w7 w8 w9 w10 w11 w12 w13
          subst e
          have D4 : L.getD 4 false = true := hd ⟨4, .data⟩ (by simp) rfl
          obtain rfl := h4.out D4
          have hl : L.getD 20 false = false := by
            cases hl : L.getD 20 false with
            | false => rfl
            | true => exact absurd (hcl 20 _ rfl hl ⟨5, .phase⟩ (by simp) rfl) (by rw [hu]; decide)
          obtain rfl := w4.out hl
          have z := bk_cell w2.out 0
          simp at z
          refine wpOp_step rfl (fun K hK => ?_)
          go_simp
          exact hK _ _ (scJD.mk_ _ _ _ _ _ _ _ _ _ _ _ _ _ _ _ _ _ _ x17 x18 x19 x20 _ _ x23 x24 x25 x26 x27 x28 x29 x30 x31 x32 x33 x34 x35 x36 x37 x38 _ y1 rfl (hset h0 (by decide)) (hset h1 (by decide)) (hset h2 (by decide)) (hset h3 (by decide)) (Lib.hid (fun _ => rfl)) (Lib.hid (fun _ => rfl)) (hset h6 (by decide)) (hset h7 (by decide)) (hset h8 (by decide)) (hset h11 (by decide)) (hset h12 (by decide)) (hset h13 (by decide)) (hset h14 (by decide)) (hset h15 (by decide)) (hset h18 (by decide)) (hset h19 (by decide)) (hset h21 (by decide)) (hset h22 (by decide)) w0 w1 w2 w3 (Lib.hid (by have w := w4.out; simpa only [getD_set_ne false (show 5 ≠ 20 by decide)] using w)) (Lib.hid (by have w := w5.out; simpa only [getD_set_ne false (show 5 ≠ 23 by decide)] using w)) (Lib.hid (by have w := w6.out; simpa only [getD_set_ne false (show 5 ≠ 20 by decide)] using w)) (Lib.hid (by have w := w7.out; simpa only [getD_set_ne false (show 5 ≠ 23 by decide)] using w)) (Lib.hid (by have w := w8.out; simpa only [getD_set_ne false (show 5 ≠ 10 by decide)] using w)) (Lib.hid (by have w := w9.out; simpa only [getD_set_ne false (show 5 ≠ 17 by decide)] using w)) (Lib.hid (by have w := w10.out; simpa only [getD_set_ne false (show 5 ≠ 10 by decide)] using w)) (Lib.hid (by have w := w11.out; simpa only [getD_set_ne false (show 5 ≠ 17 by decide)] using w)) (Lib.hid (by have w := w12.out; simpa only [getD_set_ne false (show 5 ≠ 9 by decide), getD_set_ne false (show 5 ≠ 10 by decide)] using w)) (Lib.hid (by have w := w13.out; simpa only [getD_set_ne false (show 5 ≠ 16 by decide), getD_set_ne false (show 5 ≠ 17 by decide)] using w)))
        · -- 6
          intro L a W hL hu hcl hd hJ
          refine scJD.elim w wo l k b off c k1 k2 hlt A1 A2 u39 u40 u41 u42 u43 u44 hJ ?_
          clear hJ
          intro x17 x18 x19 x20 x21 x22 x23 x24 x25 x26 x27 x28 x29 x30 x31 x32 x33 x34 x35 x36 x37 x38 y0 y1 e h0 h1 h2 h3 h4 h5 h6 h7 h8 h11 h12 h13 h14 h15 h18 h19 h21 h22 w0 w1 w2 w3 w4 w5 w6 w7 w8 w9 w10 w11 w12 w13
          subst e
          refine wpOp_step rfl (fun K hK => ?_)
          go_simp
          exact hK _ _ (scJD.mk_ _ _ _ _ _ _ _ _ _ _ _ _ _ _ _ _ _ _ x17 x18 x19 x20 x21 x22 _ x24 x25 x26 x27 x28 x29 x30 x31 x32 x33 x34 x35 x36 x37 x38 y0 y1 rfl (hset h0 (by decide)) (hset h1 (by decide)) (hset h2 (by decide)) (hset h3 (by decide)) (hset h4 (by decide)) (hset h5 (by decide)) (Lib.hid (fun _ => rfl)) (hset h7 (by decide)) (hset h8 (by decide)) (hset h11 (by decide)) (hset h12 (by decide)) (hset h13 (by decide)) (hset h14 (by decide)) (hset h15 (by decide)) (hset h18 (by decide)) (hset h19 (by decide)) (hset h21 (by decide)) (hset h22 (by decide)) w0 w1 w2 w3 (Lib.hid (by have w := w4.out; simpa only [getD_set_ne false (show 6 ≠ 20 by decide)] using w)) (Lib.hid (by have w := w5.out; simpa only [getD_set_ne false (show 6 ≠ 23 by decide)] using w)) (Lib.hid (by have w := w6.out; simpa only [getD_set_ne false (show 6 ≠ 20 by decide)] using w)) (Lib.hid (by have w := w7.out; simpa only [getD_set_ne false (show 6 ≠ 23 by decide)] using w)) (Lib.hid (by have w := w8.out; simpa only [getD_set_ne false (show 6 ≠ 10 by decide)] using w)) (Lib.hid (by have w := w9.out; simpa only [getD_set_ne false (show 6 ≠ 17 by decide)] using w)) (Lib.hid (by have w := w10.out; simpa only [getD_set_ne false (show 6 ≠ 10 by decide)] using w)) (Lib.hid (by have w := w11.out; simpa only [getD_set_ne false (show 6 ≠ 17 by decide)] using w)) (Lib.hid (by have w := w12.out; simpa only [getD_set_ne false (show 6 ≠ 9 by decide), getD_set_ne false (show 6 ≠ 10 by decide)] using w)) (Lib.hid (by have w := w13.out; simpa only [getD_set_ne false (show 6 ≠ 16 by decide), getD_set_ne false (show 6 ≠ 17 by decide)] using w)))
        · -- 7
          intro L a W hL hu hcl hd hJ
          refine scJD.elim w wo l k b off c k1 k2 hlt A1 A2 u39 u40 u41 u42 u43 u44 hJ ?_
          clear hJ
          intro x17 x18 x19 x20 x21 x22 x23 x24 x25 x26 x27 x28 x29 x30 x31 x32 x33 x34 x35 x36 x37 x38 y0 y1 e h0 h1 h2 h3 h4 h5 h6 h7 h8 h11 h12 h13 h14 h15 h18 h19 h21 h22 w0 w1 w2 w3 w4 w5 w6 w7 w8 w9 w10 w11 w12 w13
          subst e
          have z0 := bk_cell w3.out 0
          have z1 := bk_cell w3.out 1
          have z2 := bk_cell w3.out 2
          simp at z0 z1 z2
          refine wpOp_step rfl (fun K hK => ?_)
          go_simp
          exact hK _ _ (scJD.mk_ _ _ _ _ _ _ _ _ _ _ _ _ _ _ _ _ _ _ x17 x18 x19 x20 x21 x22 x23 _ x25 x26 x27 x28 x29 x30 x31 x32 x33 x34 x35 x36 x37 x38 y0 y1 rfl (hset h0 (by decide)) (hset h1 (by decide)) (hset h2 (by decide)) (hset h3 (by decide)) (hset h4 (by decide)) (hset h5 (by decide)) (hset h6 (by decide)) (Lib.hid (fun _ => rfl)) (hset h8 (by decide)) (hset h11 (by decide)) (hset h12 (by decide)) (hset h13 (by decide)) (hset h14 (by decide)) (hset h15 (by decide)) (hset h18 (by decide)) (hset h19 (by decide)) (hset h21 (by decide)) (hset h22 (by decide)) w0 w1 w2 w3 (Lib.hid (by have w := w4.out; simpa only [getD_set_ne false (show 7 ≠ 20 by decide)] using w)) (Lib.hid (by have w := w5.out; simpa only [getD_set_ne false (show 7 ≠ 23 by decide)] using w)) (Lib.hid (by have w := w6.out; simpa only [getD_set_ne false (show 7 ≠ 20 by decide)] using w)) (Lib.hid (by have w := w7.out; simpa only [getD_set_ne false (show 7 ≠ 23 by decide)] using w)) (Lib.hid (by have w := w8.out; simpa only [getD_set_ne false (show 7 ≠ 10 by decide)] using w)) (Lib.hid (by have w := w9.out; simpa only [getD_set_ne false (show 7 ≠ 17 by decide)] using w)) (Lib.hid (by have w := w10.out; simpa only [getD_set_ne false (show 7 ≠ 10 by decide)] using w)) (Lib.hid (by have w := w11.out; simpa only [getD_set_ne false (show 7 ≠ 17 by decide)] using w)) (Lib.hid (by have w := w12.out; simpa only [getD_set_ne false (show 7 ≠ 9 by decide), getD_set_ne false (show 7 ≠ 10 by decide)] using w)) (Lib.hid (by have w := w13.out; simpa only [getD_set_ne false (show 7 ≠ 16 by decide), getD_set_ne false (show 7 ≠ 17 by decide)] using w)))
        · -- 8
          intro L a W hL hu hcl hd hJ
          refine scJD.elim w wo l k b off c k1 k2 hlt A1 A2 u39 u40 u41 u42 u43 u44 hJ ?_
          clear hJ
          intro x17 x18 x19 x20 x21 x22 x23 x24 x25 x26 x27 x28 x29 x30 x31 x32 x33 x34 x35 x36 x37 x38 y0 y1 e h0 h1 h2 h3 h4 h5 h6 h7 h8 h11 h12 h13 h14 h15 h18 h19 h21 h22 w0 w1 w2 w3 w4 w5 w6 w7 w8 w9 w10 w11 w12 w13
          subst e
          have D6 : L.getD 6 false = true := hd ⟨6, .data⟩ (by simp) rfl
          obtain rfl := h6.out D6
          have D7 : L.getD 7 false = true := hd ⟨7, .data⟩ (by simp) rfl
          obtain rfl := h7.out D7
          refine wpOp_step rfl (fun K hK => ?_)
          go_simp
          refine (minuteOf_any _ _ _ _).mono ?_
          rintro e' W1 ⟨rfl, hb1⟩
          exact hK _ _ (scJD.mk_ _ _ _ _ _ _ _ _ _ _ _ _ _ _ _ _ _ _ x17 x18 x19 x20 x21 x22 _ _ _ x26 x27 x28 x29 x30 x31 x32 x33 x34 x35 x36 x37 x38 y0 y1 rfl (hset h0 (by decide)) (hset h1 (by decide)) (hset h2 (by decide)) (hset h3 (by decide)) (hset h4 (by decide)) (hset h5 (by decide)) (Lib.hid (fun _ => rfl)) (Lib.hid (fun _ => rfl)) (Lib.hid (fun _ => rfl)) (hset h11 (by decide)) (hset h12 (by decide)) (hset h13 (by decide)) (hset h14 (by decide)) (hset h15 (by decide)) (hset h18 (by decide)) (hset h19 (by decide)) (hset h21 (by decide)) (hset h22 (by decide)) (Lib.hid (bl_then w0.out hb1)) (Lib.hid ((Nat.lt_of_lt_of_le w1.out (hb1).size))) (Lib.hid (bk_below w2.out hb1)) (Lib.hid (bk_below w3.out hb1)) (Lib.hid ((by simp only [getD_set_ne false (show 8 ≠ 20 by decide)]; exact w4.out))) (Lib.hid ((by simp only [getD_set_ne false (show 8 ≠ 23 by decide)]; exact w5.out))) (Lib.hid ((by simp only [getD_set_ne false (show 8 ≠ 20 by decide)]; exact w6.out))) (Lib.hid ((by simp only [getD_set_ne false (show 8 ≠ 23 by decide)]; exact w7.out))) (Lib.hid ((by simp only [getD_set_ne false (show 8 ≠ 10 by decide)]; exact fun hl => own_bel (w8.out hl) hb1))) (Lib.hid ((by simp only [getD_set_ne false (show 8 ≠ 17 by decide)]; exact fun hl => own_bel (w9.out hl) hb1))) (Lib.hid ((by simp only [getD_set_ne false (show 8 ≠ 10 by decide)]; exact fun hl => ⟨own_bel (w10.out hl).1 hb1, (w10.out hl).2⟩))) (Lib.hid ((by simp only [getD_set_ne false (show 8 ≠ 17 by decide)]; exact fun hl => ⟨own_bel (w11.out hl).1 hb1, (w11.out hl).2⟩))) (Lib.hid ((by simp only [getD_set_ne false (show 8 ≠ 9 by decide), getD_set_ne false (show 8 ≠ 10 by decide)]; exact fun hl hm => ⟨(w12.out hl hm).1.below hb1, (w12.out hl hm).2⟩))) (Lib.hid ((by simp only [getD_set_ne false (show 8 ≠ 16 by decide), getD_set_ne false (show 8 ≠ 17 by decide)]; exact fun hl hm => ⟨(w13.out hl hm).1.below hb1, (w13.out hl hm).2⟩))))
        · -- 9
          intro L a W hL hu hcl hd hJ
          refine scJD.elim w wo l k b off c k1 k2 hlt A1 A2 u39 u40 u41 u42 u43 u44 hJ ?_
          clear hJ
          intro x17 x18 x19 x20 x21 x22 x23 x24 x25 x26 x27 x28 x29 x30 x31 x32 x33 x34 x35 x36 x37 x38 y0 y1 e h0 h1 h2 h3 h4 h5 h6 h7 h8 h11 h12 h13 h14 h15 h18 h19 h21 h22 w0 w1 w2 w3 w4 w5 w6 w7 w8 w9 w10 w11 w12 w13
          subst e
          have D8 : L.getD 8 false = true := hd ⟨8, .data⟩ (by simp) rfl
          obtain rfl := h8.out D8
          refine wpOp_step rfl (fun K hK => ?_)
          go_simp
          have hb1 : Below W.heap.size W (W.alloc (.cells #[.int .i64 l[k].d] 186)) := bl_alloc (Below.refl _ _) _
          exact hK _ _ (scJD.mk_ _ _ _ _ _ _ _ _ _ _ _ _ _ _ _ _ _ _ x17 x18 x19 x20 x21 x22 x23 x24 _ _ x27 x28 x29 x30 x31 x32 x33 x34 x35 x36 x37 x38 y0 y1 rfl (hset h0 (by decide)) (hset h1 (by decide)) (hset h2 (by decide)) (hset h3 (by decide)) (hset h4 (by decide)) (hset h5 (by decide)) (hset h6 (by decide)) (hset h7 (by decide)) (Lib.hid (fun _ => rfl)) (hset h11 (by decide)) (hset h12 (by decide)) (hset h13 (by decide)) (hset h14 (by decide)) (hset h15 (by decide)) (hset h18 (by decide)) (hset h19 (by decide)) (hset h21 (by decide)) (hset h22 (by decide)) (Lib.hid (bl_then w0.out hb1)) (Lib.hid ((Nat.lt_of_lt_of_le w1.out (hb1).size))) (Lib.hid (bk_below w2.out hb1)) (Lib.hid (bk_below w3.out hb1)) (Lib.hid ((by simp only [getD_set_ne false (show 9 ≠ 20 by decide)]; exact w4.out))) (Lib.hid ((by simp only [getD_set_ne false (show 9 ≠ 23 by decide)]; exact w5.out))) (Lib.hid ((by simp only [getD_set_ne false (show 9 ≠ 20 by decide)]; exact w6.out))) (Lib.hid ((by simp only [getD_set_ne false (show 9 ≠ 23 by decide)]; exact w7.out))) (Lib.hid ((by simp only [getD_set_ne false (show 9 ≠ 10 by decide)]; exact fun hl => own_bel (w8.out hl) hb1))) (Lib.hid ((by simp only [getD_set_ne false (show 9 ≠ 17 by decide)]; exact fun hl => own_bel (w9.out hl) hb1))) (Lib.hid ((by simp only [getD_set_ne false (show 9 ≠ 10 by decide)]; exact fun hl => ⟨own_bel (w10.out hl).1 hb1, (w10.out hl).2⟩))) (Lib.hid ((by simp only [getD_set_ne false (show 9 ≠ 17 by decide)]; exact fun hl => ⟨own_bel (w11.out hl).1 hb1, (w11.out hl).2⟩))) (Lib.hid (fun _ _ => ⟨Sl.new1 inC_len W _ _ _ rfl, fun b hb => new_far w1.out hb⟩)) (Lib.hid ((by simp only [getD_set_ne false (show 9 ≠ 16 by decide), getD_set_ne false (show 9 ≠ 17 by decide)]; exact fun hl hm => ⟨(w13.out hl hm).1.below hb1, (w13.out hl hm).2⟩))))
        · -- 10
          intro L a W hL hu hcl hd hJ
          refine scJD.elim w wo l k b off c k1 k2 hlt A1 A2 u39 u40 u41 u42 u43 u44 hJ ?_
          clear hJ
          intro x17 x18 x19 x20 x21 x22 x23 x24 x25 x26 x27 x28 x29 x30 x31 x32 x33 x34 x35 x36 x37 x38 y0 y1 e h0 h1 h2 h3 h4 h5 h6 h7 h8 h11 h12 h13 h14 h15 h18 h19 h21 h22 w0 w1 w2 w3 w4 w5 w6 w7 w8 w9 w10 w11 w12 w13
          subst e
          have D5 : L.getD 5 false = true := hd ⟨5, .data⟩ (by simp) rfl
          obtain rfl := h5.out D5
          have D9 : L.getD 9 false = true := hd ⟨9, .data⟩ (by simp) rfl
          have D8 : L.getD 8 false = true := hd ⟨8, .chain⟩ (by simp) rfl
          obtain rfl := h8.out D8
          -- D8 D5 D9
          have hr : ∀ b, (Value.slice A1 k k1).ownBlock = some b → w.heap.size + 1 ≤ b ∧ b < wo.heap.size := fun b hb => ho1.lt b hb
          have a8 := w8.out hu
          obtain ⟨a12, b12⟩ := w12.out D9 hu
          refine wpOp_step rfl (fun K hK => ?_)
          refine step_app_own inC_len (by decide) inC_one rfl (.tmp 22) (.tmp 26) 255 rfl 186 _ 8 Tryz.underlying255 hI1 rfl (w.heap.size + 1) (.slice A1 k k1) k ((l.map Rn.d).take k) [l[k].d] (by simp; omega) rfl a8 _ rfl a12 (by have := w1.out; omega) (by simp; omega) (by simp; omega) ?_
          intro v' W1 hv' hg1 hat
          rw [take_snoc' (l.map Rn.d) k (by simpa using hlt) l[k].d (by simp)] at hv'
          have hno : ∀ hl : L.getD 17 false = true, False := fun hl => absurd (hcl 17 _ rfl hl ⟨10, .chain⟩ (by simp) rfl) (by rw [hu]; decide)
          simp only [Act.put, List.setIfInBounds_toArray, List.set_cons_zero, List.set_cons_succ]
          exact hK _ _ (scJD.mk_ _ _ _ _ _ _ _ _ _ _ _ _ _ _ _ _ _ _ x17 x18 x19 x20 x21 _ x23 x24 _ x26 _ x28 x29 x30 x31 x32 x33 x34 x35 x36 x37 x38 y0 y1 rfl (hset h0 (by decide)) (hset h1 (by decide)) (hset h2 (by decide)) (hset h3 (by decide)) (hset h4 (by decide)) (Lib.hid (fun _ => rfl)) (hset h6 (by decide)) (hset h7 (by decide)) (Lib.hid (fun _ => rfl)) (hset h11 (by decide)) (hset h12 (by decide)) (hset h13 (by decide)) (hset h14 (by decide)) (hset h15 (by decide)) (hset h18 (by decide)) (hset h19 (by decide)) (hset h21 (by decide)) (hset h22 (by decide)) (Lib.hid ((w0.out.grown hg1 w0.out.size (fun b hb => by have := hr b hb; omega)))) (Lib.hid ((Nat.lt_of_lt_of_le w1.out (hg1).size))) (Lib.hid (bk_grown w2.out hg1 (fun e => by have := hr _ e.symm; omega))) (Lib.hid (bk_grown w3.out hg1 (fun e => by have := hr _ e.symm; omega))) (Lib.hid ((by simp only [getD_set_ne false (show 10 ≠ 20 by decide)]; exact w4.out))) (Lib.hid ((by simp only [getD_set_ne false (show 10 ≠ 23 by decide)]; exact w5.out))) (Lib.hid ((fun hl => by rw [getD_set_ne false (by decide)] at hl; exact absurd (hcl 20 _ rfl hl ⟨10, .data⟩ (by simp) rfl) (by rw [hu]; decide)))) (Lib.hid ((by simp only [getD_set_ne false (show 10 ≠ 23 by decide)]; exact w7.out))) (Lib.hid ((fun hl => by rw [getD_set_eq false (by rw [hL]; decide)] at hl; cases hl))) (Lib.hid ((by simp only [getD_set_ne false (show 10 ≠ 17 by decide)]; exact fun hl => (w9.out hl).kept hg1 (own_ne_of (fun b h2 h1 => hne b h1 h2))))) (Lib.hid ((fun _ => ⟨hv', fun b hb => at_or hat w1.out hb⟩))) (Lib.hid ((fun hl => by rw [getD_set_ne false (by decide)] at hl; exact (hno hl).elim))) (Lib.hid ((fun _ hl => by rw [getD_set_eq false (by rw [hL]; decide)] at hl; cases hl))) (Lib.hid ((by simp only [getD_set_ne false (show 10 ≠ 16 by decide), getD_set_ne false (show 10 ≠ 17 by decide)]; exact fun hl hm => ⟨(w13.out hl hm).1.keep (fun _ b hb => hg1.block b (Sl.lt inC_len (by decide) (w13.out hl hm).1 (by simp) b hb) (fun e => by have := hr b e.symm; have := (w13.out hl hm).2 b hb; omega)), (w13.out hl hm).2⟩))))
        · -- 11
          intro L a W hL hu hcl hd hJ
          refine scJD.elim w wo l k b off c k1 k2 hlt A1 A2 u39 u40 u41 u42 u43 u44 hJ ?_
          clear hJ
          intro x17 x18 x19 x20 x21 x22 x23 x24 x25 x26 x27 x28 x29 x30 x31 x32 x33 x34 x35 x36 x37 x38 y0 y1 e h0 h1 h2 h3 h4 h5 h6 h7 h8 h11 h12 h13 h14 h15 h18 h19 h21 h22 w0 w1 w2 w3 w4 w5 w6 w7 w8 w9 w10 w11 w12 w13
          subst e
          refine wpOp_step rfl (fun K hK => ?_)
          go_simp
          exact hK _ _ (scJD.mk_ _ _ _ _ _ _ _ _ _ _ _ _ _ _ _ _ _ _ x17 x18 x19 x20 x21 x22 x23 x24 x25 x26 x27 _ x29 x30 x31 x32 x33 x34 x35 x36 x37 x38 y0 y1 rfl (hset h0 (by decide)) (hset h1 (by decide)) (hset h2 (by decide)) (hset h3 (by decide)) (hset h4 (by decide)) (hset h5 (by decide)) (hset h6 (by decide)) (hset h7 (by decide)) (hset h8 (by decide)) (Lib.hid (fun _ => rfl)) (hset h12 (by decide)) (hset h13 (by decide)) (hset h14 (by decide)) (hset h15 (by decide)) (hset h18 (by decide)) (hset h19 (by decide)) (hset h21 (by decide)) (hset h22 (by decide)) w0 w1 w2 w3 (Lib.hid (by have w := w4.out; simpa only [getD_set_ne false (show 11 ≠ 20 by decide)] using w)) (Lib.hid (by have w := w5.out; simpa only [getD_set_ne false (show 11 ≠ 23 by decide)] using w)) (Lib.hid (by have w := w6.out; simpa only [getD_set_ne false (show 11 ≠ 20 by decide)] using w)) (Lib.hid (by have w := w7.out; simpa only [getD_set_ne false (show 11 ≠ 23 by decide)] using w)) (Lib.hid (by have w := w8.out; simpa only [getD_set_ne false (show 11 ≠ 10 by decide)] using w)) (Lib.hid (by have w := w9.out; simpa only [getD_set_ne false (show 11 ≠ 17 by decide)] using w)) (Lib.hid (by have w := w10.out; simpa only [getD_set_ne false (show 11 ≠ 10 by decide)] using w)) (Lib.hid (by have w := w11.out; simpa only [getD_set_ne false (show 11 ≠ 17 by decide)] using w)) (Lib.hid (by have w := w12.out; simpa only [getD_set_ne false (show 11 ≠ 9 by decide), getD_set_ne false (show 11 ≠ 10 by decide)] using w)) (Lib.hid (by have w := w13.out; simpa only [getD_set_ne false (show 11 ≠ 16 by decide), getD_set_ne false (show 11 ≠ 17 by decide)] using w)))
        · -- 12
          intro L a W hL hu hcl hd hJ
          refine scJD.elim w wo l k b off c k1 k2 hlt A1 A2 u39 u40 u41 u42 u43 u44 hJ ?_
          clear hJ
          intro x17 x18 x19 x20 x21 x22 x23 x24 x25 x26 x27 x28 x29 x30 x31 x32 x33 x34 x35 x36 x37 x38 y0 y1 e h0 h1 h2 h3 h4 h5 h6 h7 h8 h11 h12 h13 h14 h15 h18 h19 h21 h22 w0 w1 w2 w3 w4 w5 w6 w7 w8 w9 w10 w11 w12 w13
          subst e
          have D11 : L.getD 11 false = true := hd ⟨11, .data⟩ (by simp) rfl
          obtain rfl := h11.out D11
          refine wpOp_step rfl (fun K hK => ?_)
          go_simp
          exact hK _ _ (scJD.mk_ _ _ _ _ _ _ _ _ _ _ _ _ _ _ _ _ _ _ x17 x18 x19 x20 x21 x22 x23 x24 x25 x26 x27 _ _ x30 x31 x32 x33 x34 x35 x36 x37 x38 y0 y1 rfl (hset h0 (by decide)) (hset h1 (by decide)) (hset h2 (by decide)) (hset h3 (by decide)) (hset h4 (by decide)) (hset h5 (by decide)) (hset h6 (by decide)) (hset h7 (by decide)) (hset h8 (by decide)) (Lib.hid (fun _ => rfl)) (Lib.hid (fun _ => rfl)) (hset h13 (by decide)) (hset h14 (by decide)) (hset h15 (by decide)) (hset h18 (by decide)) (hset h19 (by decide)) (hset h21 (by decide)) (hset h22 (by decide)) w0 w1 w2 w3 (Lib.hid (by have w := w4.out; simpa only [getD_set_ne false (show 12 ≠ 20 by decide)] using w)) (Lib.hid (by have w := w5.out; simpa only [getD_set_ne false (show 12 ≠ 23 by decide)] using w)) (Lib.hid (by have w := w6.out; simpa only [getD_set_ne false (show 12 ≠ 20 by decide)] using w)) (Lib.hid (by have w := w7.out; simpa only [getD_set_ne false (show 12 ≠ 23 by decide)] using w)) (Lib.hid (by have w := w8.out; simpa only [getD_set_ne false (show 12 ≠ 10 by decide)] using w)) (Lib.hid (by have w := w9.out; simpa only [getD_set_ne false (show 12 ≠ 17 by decide)] using w)) (Lib.hid (by have w := w10.out; simpa only [getD_set_ne false (show 12 ≠ 10 by decide)] using w)) (Lib.hid (by have w := w11.out; simpa only [getD_set_ne false (show 12 ≠ 17 by decide)] using w)) (Lib.hid (by have w := w12.out; simpa only [getD_set_ne false (show 12 ≠ 9 by decide), getD_set_ne false (show 12 ≠ 10 by decide)] using w)) (Lib.hid (by have w := w13.out; simpa only [getD_set_ne false (show 12 ≠ 16 by decide), getD_set_ne false (show 12 ≠ 17 by decide)] using w)))
        · -- 13
          intro L a W hL hu hcl hd hJ
          refine scJD.elim w wo l k b off c k1 k2 hlt A1 A2 u39 u40 u41 u42 u43 u44 hJ ?_
          clear hJ
          intro x17 x18 x19 x20 x21 x22 x23 x24 x25 x26 x27 x28 x29 x30 x31 x32 x33 x34 x35 x36 x37 x38 y0 y1 e h0 h1 h2 h3 h4 h5 h6 h7 h8 h11 h12 h13 h14 h15 h18 h19 h21 h22 w0 w1 w2 w3 w4 w5 w6 w7 w8 w9 w10 w11 w12 w13
          subst e
          have D12 : L.getD 12 false = true := hd ⟨12, .data⟩ (by simp) rfl
          obtain rfl := h12.out D12
          refine wpOp_step rfl (fun K hK => ?_)
          go_simp
          exact hK _ _ (scJD.mk_ _ _ _ _ _ _ _ _ _ _ _ _ _ _ _ _ _ _ x17 x18 x19 x20 x21 x22 x23 x24 x25 x26 x27 x28 _ _ x31 x32 x33 x34 x35 x36 x37 x38 y0 y1 rfl (hset h0 (by decide)) (hset h1 (by decide)) (hset h2 (by decide)) (hset h3 (by decide)) (hset h4 (by decide)) (hset h5 (by decide)) (hset h6 (by decide)) (hset h7 (by decide)) (hset h8 (by decide)) (hset h11 (by decide)) (Lib.hid (fun _ => rfl)) (Lib.hid (fun _ => rfl)) (hset h14 (by decide)) (hset h15 (by decide)) (hset h18 (by decide)) (hset h19 (by decide)) (hset h21 (by decide)) (hset h22 (by decide)) w0 w1 w2 w3 (Lib.hid (by have w := w4.out; simpa only [getD_set_ne false (show 13 ≠ 20 by decide)] using w)) (Lib.hid (by have w := w5.out; simpa only [getD_set_ne false (show 13 ≠ 23 by decide)] using w)) (Lib.hid (by have w := w6.out; simpa only [getD_set_ne false (show 13 ≠ 20 by decide)] using w)) (Lib.hid (by have w := w7.out; simpa only [getD_set_ne false (show 13 ≠ 23 by decide)] using w)) (Lib.hid (by have w := w8.out; simpa only [getD_set_ne false (show 13 ≠ 10 by decide)] using w)) (Lib.hid (by have w := w9.out; simpa only [getD_set_ne false (show 13 ≠ 17 by decide)] using w)) (Lib.hid (by have w := w10.out; simpa only [getD_set_ne false (show 13 ≠ 10 by decide)] using w)) (Lib.hid (by have w := w11.out; simpa only [getD_set_ne false (show 13 ≠ 17 by decide)] using w)) (Lib.hid (by have w := w12.out; simpa only [getD_set_ne false (show 13 ≠ 9 by decide), getD_set_ne false (show 13 ≠ 10 by decide)] using w)) (Lib.hid (by have w := w13.out; simpa only [getD_set_ne false (show 13 ≠ 16 by decide), getD_set_ne false (show 13 ≠ 17 by decide)] using w)))
        · -- 14
          intro L a W hL hu hcl hd hJ
          refine scJD.elim w wo l k b off c k1 k2 hlt A1 A2 u39 u40 u41 u42 u43 u44 hJ ?_
          clear hJ
          intro x17 x18 x19 x20 x21 x22 x23 x24 x25 x26 x27 x28 x29 x30 x31 x32 x33 x34 x35 x36 x37 x38 y0 y1 e h0 h1 h2 h3 h4 h5 h6 h7 h8 h11 h12 h13 h14 h15 h18 h19 h21 h22 w0 w1 w2 w3 w4 w5 w6 w7 w8 w9 w10 w11 w12 w13
          subst e
          have D13 : L.getD 13 false = true := hd ⟨13, .data⟩ (by simp) rfl
          obtain rfl := h13.out D13
          have hl : L.getD 23 false = false := by
            cases hl : L.getD 23 false with
            | false => rfl
            | true => exact absurd (hcl 23 _ rfl hl ⟨14, .phase⟩ (by simp) rfl) (by rw [hu]; decide)
          obtain rfl := w5.out hl
          have z := bk_cell w2.out 1
          simp at z
          refine wpOp_step rfl (fun K hK => ?_)
          go_simp
          exact hK _ _ (scJD.mk_ _ _ _ _ _ _ _ _ _ _ _ _ _ _ _ _ _ _ x17 x18 x19 x20 x21 x22 x23 x24 x25 x26 x27 x28 x29 _ _ x32 x33 x34 x35 x36 x37 x38 y0 _ rfl (hset h0 (by decide)) (hset h1 (by decide)) (hset h2 (by decide)) (hset h3 (by decide)) (hset h4 (by decide)) (hset h5 (by decide)) (hset h6 (by decide)) (hset h7 (by decide)) (hset h8 (by decide)) (hset h11 (by decide)) (hset h12 (by decide)) (Lib.hid (fun _ => rfl)) (Lib.hid (fun _ => rfl)) (hset h15 (by decide)) (hset h18 (by decide)) (hset h19 (by decide)) (hset h21 (by decide)) (hset h22 (by decide)) w0 w1 w2 w3 (Lib.hid (by have w := w4.out; simpa only [getD_set_ne false (show 14 ≠ 20 by decide)] using w)) (Lib.hid (by have w := w5.out; simpa only [getD_set_ne false (show 14 ≠ 23 by decide)] using w)) (Lib.hid (by have w := w6.out; simpa only [getD_set_ne false (show 14 ≠ 20 by decide)] using w)) (Lib.hid (by have w := w7.out; simpa only [getD_set_ne false (show 14 ≠ 23 by decide)] using w)) (Lib.hid (by have w := w8.out; simpa only [getD_set_ne false (show 14 ≠ 10 by decide)] using w)) (Lib.hid (by have w := w9.out; simpa only [getD_set_ne false (show 14 ≠ 17 by decide)] using w)) (Lib.hid (by have w := w10.out; simpa only [getD_set_ne false (show 14 ≠ 10 by decide)] using w)) (Lib.hid (by have w := w11.out; simpa only [getD_set_ne false (show 14 ≠ 17 by decide)] using w)) (Lib.hid (by have w := w12.out; simpa only [getD_set_ne false (show 14 ≠ 9 by decide), getD_set_ne false (show 14 ≠ 10 by decide)] using w)) (Lib.hid (by have w := w13.out; simpa only [getD_set_ne false (show 14 ≠ 16 by decide), getD_set_ne false (show 14 ≠ 17 by decide)] using w)))
        · -- 15
          intro L a W hL hu hcl hd hJ
          refine scJD.elim w wo l k b off c k1 k2 hlt A1 A2 u39 u40 u41 u42 u43 u44 hJ ?_
          clear hJ
          intro x17 x18 x19 x20 x21 x22 x23 x24 x25 x26 x27 x28 x29 x30 x31 x32 x33 x34 x35 x36 x37 x38 y0 y1 e h0 h1 h2 h3 h4 h5 h6 h7 h8 h11 h12 h13 h14 h15 h18 h19 h21 h22 w0 w1 w2 w3 w4 w5 w6 w7 w8 w9 w10 w11 w12 w13
          subst e
          refine wpOp_step rfl (fun K hK => ?_)
          go_simp
          exact hK _ _ (scJD.mk_ _ _ _ _ _ _ _ _ _ _ _ _ _ _ _ _ _ _ x17 x18 x19 x20 x21 x22 x23 x24 x25 x26 x27 x28 x29 x30 x31 _ x33 x34 x35 x36 x37 x38 y0 y1 rfl (hset h0 (by decide)) (hset h1 (by decide)) (hset h2 (by decide)) (hset h3 (by decide)) (hset h4 (by decide)) (hset h5 (by decide)) (hset h6 (by decide)) (hset h7 (by decide)) (hset h8 (by decide)) (hset h11 (by decide)) (hset h12 (by decide)) (hset h13 (by decide)) (hset h14 (by decide)) (Lib.hid (fun _ => rfl)) (hset h18 (by decide)) (hset h19 (by decide)) (hset h21 (by decide)) (hset h22 (by decide)) w0 w1 w2 w3 (Lib.hid (by have w := w4.out; simpa only [getD_set_ne false (show 15 ≠ 20 by decide)] using w)) (Lib.hid (by have w := w5.out; simpa only [getD_set_ne false (show 15 ≠ 23 by decide)] using w)) (Lib.hid (by have w := w6.out; simpa only [getD_set_ne false (show 15 ≠ 20 by decide)] using w)) (Lib.hid (by have w := w7.out; simpa only [getD_set_ne false (show 15 ≠ 23 by decide)] using w)) (Lib.hid (by have w := w8.out; simpa only [getD_set_ne false (show 15 ≠ 10 by decide)] using w)) (Lib.hid (by have w := w9.out; simpa only [getD_set_ne false (show 15 ≠ 17 by decide)] using w)) (Lib.hid (by have w := w10.out; simpa only [getD_set_ne false (show 15 ≠ 10 by decide)] using w)) (Lib.hid (by have w := w11.out; simpa only [getD_set_ne false (show 15 ≠ 17 by decide)] using w)) (Lib.hid (by have w := w12.out; simpa only [getD_set_ne false (show 15 ≠ 9 by decide), getD_set_ne false (show 15 ≠ 10 by decide)] using w)) (Lib.hid (by have w := w13.out; simpa only [getD_set_ne false (show 15 ≠ 16 by decide), getD_set_ne false (show 15 ≠ 17 by decide)] using w)))
        · -- 16
          intro L a W hL hu hcl hd hJ
          refine scJD.elim w wo l k b off c k1 k2 hlt A1 A2 u39 u40 u41 u42 u43 u44 hJ ?_
          clear hJ
          intro x17 x18 x19 x20 x21 x22 x23 x24 x25 x26 x27 x28 x29 x30 x31 x32 x33 x34 x35 x36 x37 x38 y0 y1 e h0 h1 h2 h3 h4 h5 h6 h7 h8 h11 h12 h13 h14 h15 h18 h19 h21 h22 w0 w1 w2 w3 w4 w5 w6 w7 w8 w9 w10 w11 w12 w13
          subst e
          have D15 : L.getD 15 false = true := hd ⟨15, .data⟩ (by simp) rfl
          obtain rfl := h15.out D15
          refine wpOp_step rfl (fun K hK => ?_)
          go_simp
          have hb1 : Below W.heap.size W (W.alloc (.cells #[.int .i64 (sumTo (l.map Rn.d) k)] 186)) := bl_alloc (Below.refl _ _) _
          exact hK _ _ (scJD.mk_ _ _ _ _ _ _ _ _ _ _ _ _ _ _ _ _ _ _ x17 x18 x19 x20 x21 x22 x23 x24 x25 x26 x27 x28 x29 x30 x31 _ _ x34 x35 x36 x37 x38 y0 y1 rfl (hset h0 (by decide)) (hset h1 (by decide)) (hset h2 (by decide)) (hset h3 (by decide)) (hset h4 (by decide)) (hset h5 (by decide)) (hset h6 (by decide)) (hset h7 (by decide)) (hset h8 (by decide)) (hset h11 (by decide)) (hset h12 (by decide)) (hset h13 (by decide)) (hset h14 (by decide)) (Lib.hid (fun _ => rfl)) (hset h18 (by decide)) (hset h19 (by decide)) (hset h21 (by decide)) (hset h22 (by decide)) (Lib.hid (bl_then w0.out hb1)) (Lib.hid ((Nat.lt_of_lt_of_le w1.out (hb1).size))) (Lib.hid (bk_below w2.out hb1)) (Lib.hid (bk_below w3.out hb1)) (Lib.hid ((by simp only [getD_set_ne false (show 16 ≠ 20 by decide)]; exact w4.out))) (Lib.hid ((by simp only [getD_set_ne false (show 16 ≠ 23 by decide)]; exact w5.out))) (Lib.hid ((by simp only [getD_set_ne false (show 16 ≠ 20 by decide)]; exact w6.out))) (Lib.hid ((by simp only [getD_set_ne false (show 16 ≠ 23 by decide)]; exact w7.out))) (Lib.hid ((by simp only [getD_set_ne false (show 16 ≠ 10 by decide)]; exact fun hl => own_bel (w8.out hl) hb1))) (Lib.hid ((by simp only [getD_set_ne false (show 16 ≠ 17 by decide)]; exact fun hl => own_bel (w9.out hl) hb1))) (Lib.hid ((by simp only [getD_set_ne false (show 16 ≠ 10 by decide)]; exact fun hl => ⟨own_bel (w10.out hl).1 hb1, (w10.out hl).2⟩))) (Lib.hid ((by simp only [getD_set_ne false (show 16 ≠ 17 by decide)]; exact fun hl => ⟨own_bel (w11.out hl).1 hb1, (w11.out hl).2⟩))) (Lib.hid ((by simp only [getD_set_ne false (show 16 ≠ 9 by decide), getD_set_ne false (show 16 ≠ 10 by decide)]; exact fun hl hm => ⟨(w12.out hl hm).1.below hb1, (w12.out hl hm).2⟩))) (Lib.hid (fun _ _ => ⟨Sl.new1 inC_len W _ _ _ rfl, fun b hb => new_far w1.out hb⟩)))
        · -- 17
          intro L a W hL hu hcl hd hJ
          refine scJD.elim w wo l k b off c k1 k2 hlt A1 A2 u39 u40 u41 u42 u43 u44 hJ ?_
          clear hJ
          intro x17 x18 x19 x20 x21 x22 x23 x24 x25 x26 x27 x28 x29 x30 x31 x32 x33 x34 x35 x36 x37 x38 y0 y1 e h0 h1 h2 h3 h4 h5 h6 h7 h8 h11 h12 h13 h14 h15 h18 h19 h21 h22 w0 w1 w2 w3 w4 w5 w6 w7 w8 w9 w10 w11 w12 w13
          subst e
          have D14 : L.getD 14 false = true := hd ⟨14, .data⟩ (by simp) rfl
          obtain rfl := h14.out D14
          have D16 : L.getD 16 false = true := hd ⟨16, .data⟩ (by simp) rfl
          have D10 : L.getD 10 false = true := hd ⟨10, .chain⟩ (by simp) rfl
          -- D10 D14 D16
          have hr : ∀ b, (Value.slice A2 k k2).ownBlock = some b → w.heap.size + 1 ≤ b ∧ b < wo.heap.size := fun b hb => ho2.lt b hb
          have a9 := w9.out hu
          obtain ⟨a13, b13⟩ := w13.out D16 hu
          obtain ⟨a10, b10⟩ := w10.out D10
          refine wpOp_step rfl (fun K hK => ?_)
          refine step_app_own inC_len (by decide) inC_one rfl (.tmp 31) (.tmp 33) 255 rfl 186 _ 8 Tryz.underlying255 hI1 rfl (w.heap.size + 1) (.slice A2 k k2) k (sums (l.map Rn.d) k) [sumTo (l.map Rn.d) k] (by simp [sums]) rfl a9 _ rfl a13 (by have := w1.out; omega) (by simp; omega) (by simp; omega) ?_
          intro v' W1 hv' hg1 hat
          rw [← sums_snoc] at hv'
          have hap : ∀ b, x27.ownBlock = some b → (Value.slice A2 k k2).ownBlock ≠ some b := fun b hb e => by
            rcases b10 b hb with h | h
            · exact hne b h e
            · have := hr b e; omega
          simp only [Act.put, List.setIfInBounds_toArray, List.set_cons_zero, List.set_cons_succ]
          exact hK _ _ (scJD.mk_ _ _ _ _ _ _ _ _ _ _ _ _ _ _ _ _ _ _ x17 x18 x19 x20 x21 x22 x23 x24 x25 x26 x27 x28 x29 x30 _ x32 x33 _ x35 x36 x37 x38 y0 y1 rfl (hset h0 (by decide)) (hset h1 (by decide)) (hset h2 (by decide)) (hset h3 (by decide)) (hset h4 (by decide)) (hset h5 (by decide)) (hset h6 (by decide)) (hset h7 (by decide)) (hset h8 (by decide)) (hset h11 (by decide)) (hset h12 (by decide)) (hset h13 (by decide)) (Lib.hid (fun _ => rfl)) (hset h15 (by decide)) (hset h18 (by decide)) (hset h19 (by decide)) (hset h21 (by decide)) (hset h22 (by decide)) (Lib.hid ((w0.out.grown hg1 w0.out.size (fun b hb => by have := hr b hb; omega)))) (Lib.hid ((Nat.lt_of_lt_of_le w1.out (hg1).size))) (Lib.hid (bk_grown w2.out hg1 (fun e => by have := hr _ e.symm; omega))) (Lib.hid (bk_grown w3.out hg1 (fun e => by have := hr _ e.symm; omega))) (Lib.hid ((by simp only [getD_set_ne false (show 17 ≠ 20 by decide)]; exact w4.out))) (Lib.hid ((by simp only [getD_set_ne false (show 17 ≠ 23 by decide)]; exact w5.out))) (Lib.hid ((by simp only [getD_set_ne false (show 17 ≠ 20 by decide)]; exact w6.out))) (Lib.hid ((fun hl => by rw [getD_set_ne false (by decide)] at hl; exact absurd (hcl 23 _ rfl hl ⟨17, .data⟩ (by simp) rfl) (by rw [hu]; decide)))) (Lib.hid ((fun hl => by rw [getD_set_ne false (by decide), D10] at hl; cases hl))) (Lib.hid ((fun hl => by rw [getD_set_eq false (by rw [hL]; decide)] at hl; cases hl))) (Lib.hid ((fun _ => ⟨a10.kept hg1 (own_ne_of hap), b10⟩))) (Lib.hid ((fun _ => ⟨hv', fun b hb => at_apart hat hap (fun b hx => (a10.lt b hx).2) hb⟩))) (Lib.hid ((fun _ hl => by rw [getD_set_ne false (by decide), D10] at hl; cases hl))) (Lib.hid ((fun _ hl => by rw [getD_set_eq false (by rw [hL]; decide)] at hl; cases hl))))
        · -- 18
          intro L a W hL hu hcl hd hJ
          refine scJD.elim w wo l k b off c k1 k2 hlt A1 A2 u39 u40 u41 u42 u43 u44 hJ ?_
          clear hJ
          intro x17 x18 x19 x20 x21 x22 x23 x24 x25 x26 x27 x28 x29 x30 x31 x32 x33 x34 x35 x36 x37 x38 y0 y1 e h0 h1 h2 h3 h4 h5 h6 h7 h8 h11 h12 h13 h14 h15 h18 h19 h21 h22 w0 w1 w2 w3 w4 w5 w6 w7 w8 w9 w10 w11 w12 w13
          subst e
          have D0 : L.getD 0 false = true := hd ⟨0, .data⟩ (by simp) rfl
          obtain rfl := h0.out D0
          refine wpOp_step rfl (fun K hK => ?_)
          go_simp
          exact hK _ _ (scJD.mk_ _ _ _ _ _ _ _ _ _ _ _ _ _ _ _ _ _ _ _ x18 x19 x20 x21 x22 x23 x24 x25 x26 x27 x28 x29 x30 x31 x32 x33 x34 _ x36 x37 x38 y0 y1 rfl (Lib.hid (fun _ => rfl)) (hset h1 (by decide)) (hset h2 (by decide)) (hset h3 (by decide)) (hset h4 (by decide)) (hset h5 (by decide)) (hset h6 (by decide)) (hset h7 (by decide)) (hset h8 (by decide)) (hset h11 (by decide)) (hset h12 (by decide)) (hset h13 (by decide)) (hset h14 (by decide)) (hset h15 (by decide)) (Lib.hid (fun _ => rfl)) (hset h19 (by decide)) (hset h21 (by decide)) (hset h22 (by decide)) w0 w1 w2 w3 (Lib.hid (by have w := w4.out; simpa only [getD_set_ne false (show 18 ≠ 20 by decide)] using w)) (Lib.hid (by have w := w5.out; simpa only [getD_set_ne false (show 18 ≠ 23 by decide)] using w)) (Lib.hid (by have w := w6.out; simpa only [getD_set_ne false (show 18 ≠ 20 by decide)] using w)) (Lib.hid (by have w := w7.out; simpa only [getD_set_ne false (show 18 ≠ 23 by decide)] using w)) (Lib.hid (by have w := w8.out; simpa only [getD_set_ne false (show 18 ≠ 10 by decide)] using w)) (Lib.hid (by have w := w9.out; simpa only [getD_set_ne false (show 18 ≠ 17 by decide)] using w)) (Lib.hid (by have w := w10.out; simpa only [getD_set_ne false (show 18 ≠ 10 by decide)] using w)) (Lib.hid (by have w := w11.out; simpa only [getD_set_ne false (show 18 ≠ 17 by decide)] using w)) (Lib.hid (by have w := w12.out; simpa only [getD_set_ne false (show 18 ≠ 9 by decide), getD_set_ne false (show 18 ≠ 10 by decide)] using w)) (Lib.hid (by have w := w13.out; simpa only [getD_set_ne false (show 18 ≠ 16 by decide), getD_set_ne false (show 18 ≠ 17 by decide)] using w)))
        · -- 19
          intro L a W hL hu hcl hd hJ
          refine scJD.elim w wo l k b off c k1 k2 hlt A1 A2 u39 u40 u41 u42 u43 u44 hJ ?_
          clear hJ
          intro x17 x18 x19 x20 x21 x22 x23 x24 x25 x26 x27 x28 x29 x30 x31 x32 x33 x34 x35 x36 x37 x38 y0 y1 e h0 h1 h2 h3 h4 h5 h6 h7 h8 h11 h12 h13 h14 h15 h18 h19 h21 h22 w0 w1 w2 w3 w4 w5 w6 w7 w8 w9 w10 w11 w12 w13
          subst e
          have D18 : L.getD 18 false = true := hd ⟨18, .data⟩ (by simp) rfl
          obtain rfl := h18.out D18
          refine wpOp_step rfl (fun K hK => ?_)
          go_simp
          exact hK _ _ (scJD.mk_ _ _ _ _ _ _ _ _ _ _ _ _ _ _ _ _ _ _ x17 x18 x19 x20 x21 x22 x23 x24 x25 x26 x27 x28 x29 x30 x31 x32 x33 x34 _ _ x37 x38 y0 y1 rfl (hset h0 (by decide)) (hset h1 (by decide)) (hset h2 (by decide)) (hset h3 (by decide)) (hset h4 (by decide)) (hset h5 (by decide)) (hset h6 (by decide)) (hset h7 (by decide)) (hset h8 (by decide)) (hset h11 (by decide)) (hset h12 (by decide)) (hset h13 (by decide)) (hset h14 (by decide)) (hset h15 (by decide)) (Lib.hid (fun _ => rfl)) (Lib.hid (fun _ => rfl)) (hset h21 (by decide)) (hset h22 (by decide)) w0 w1 w2 w3 (Lib.hid (by have w := w4.out; simpa only [getD_set_ne false (show 19 ≠ 20 by decide)] using w)) (Lib.hid (by have w := w5.out; simpa only [getD_set_ne false (show 19 ≠ 23 by decide)] using w)) (Lib.hid (by have w := w6.out; simpa only [getD_set_ne false (show 19 ≠ 20 by decide)] using w)) (Lib.hid (by have w := w7.out; simpa only [getD_set_ne false (show 19 ≠ 23 by decide)] using w)) (Lib.hid (by have w := w8.out; simpa only [getD_set_ne false (show 19 ≠ 10 by decide)] using w)) (Lib.hid (by have w := w9.out; simpa only [getD_set_ne false (show 19 ≠ 17 by decide)] using w)) (Lib.hid (by have w := w10.out; simpa only [getD_set_ne false (show 19 ≠ 10 by decide)] using w)) (Lib.hid (by have w := w11.out; simpa only [getD_set_ne false (show 19 ≠ 17 by decide)] using w)) (Lib.hid (by have w := w12.out; simpa only [getD_set_ne false (show 19 ≠ 9 by decide), getD_set_ne false (show 19 ≠ 10 by decide)] using w)) (Lib.hid (by have w := w13.out; simpa only [getD_set_ne false (show 19 ≠ 16 by decide), getD_set_ne false (show 19 ≠ 17 by decide)] using w)))
        · -- 20
          intro L a W hL hu hcl hd hJ
          refine scJD.elim w wo l k b off c k1 k2 hlt A1 A2 u39 u40 u41 u42 u43 u44 hJ ?_
          clear hJ
          intro x17 x18 x19 x20 x21 x22 x23 x24 x25 x26 x27 x28 x29 x30 x31 x32 x33 x34 x35 x36 x37 x38 y0 y1 e h0 h1 h2 h3 h4 h5 h6 h7 h8 h11 h12 h13 h14 h15 h18 h19 h21 h22 w0 w1 w2 w3 w4 w5 w6 w7 w8 w9 w10 w11 w12 w13
          subst e
          have D19 : L.getD 19 false = true := hd ⟨19, .data⟩ (by simp) rfl
          obtain rfl := h19.out D19
          have D10 : L.getD 10 false = true := hd ⟨10, .data⟩ (by simp) rfl
          have D17 : L.getD 17 false = true := hd ⟨17, .chain⟩ (by simp) rfl
          -- D19 D10 D17 GONE27
          obtain ⟨A3, k3, rfl⟩ := own_sl (w10.out D10).1
          have z := bk_cell w2.out 0
          have z' := bk_fro w2.out 0
          simp at z
          refine wpOp_step rfl (fun K hK => ?_)
          go_simp
          exact hK _ _ (scJD.mk_ _ _ _ _ _ _ _ _ _ _ _ _ _ _ _ _ _ _ x17 x18 x19 x20 x21 x22 x23 x24 x25 x26 _ x28 x29 x30 x31 x32 x33 x34 x35 _ x37 x38 _ y1 rfl (hset h0 (by decide)) (hset h1 (by decide)) (hset h2 (by decide)) (hset h3 (by decide)) (hset h4 (by decide)) (hset h5 (by decide)) (hset h6 (by decide)) (hset h7 (by decide)) (hset h8 (by decide)) (hset h11 (by decide)) (hset h12 (by decide)) (hset h13 (by decide)) (hset h14 (by decide)) (hset h15 (by decide)) (hset h18 (by decide)) (Lib.hid (fun _ => rfl)) (hset h21 (by decide)) (hset h22 (by decide)) (Lib.hid (bl_set w0.out (Nat.le_refl _) _)) (Lib.hid ((by rw [World.size_setCell]; exact w1.out))) (Lib.hid (bk_put1 w2.out 0 _ rfl)) (Lib.hid (bk_far w3.out (p := ⟨w.heap.size, 0, none⟩) (by simp; omega) _)) (Lib.hid ((fun hl => by rw [getD_set_eq false (by rw [hL]; decide)] at hl; cases hl))) (Lib.hid ((by simp only [getD_set_ne false (show 20 ≠ 23 by decide)]; exact w5.out))) (Lib.hid ((fun _ => rfl))) (Lib.hid ((by simp only [getD_set_ne false (show 20 ≠ 23 by decide)]; exact w7.out))) (Lib.hid ((by simp only [getD_set_ne false (show 20 ≠ 10 by decide)]; exact fun hl => own_set (w8.out hl) (p := ⟨w.heap.size, 0, none⟩) (by simp) _))) (Lib.hid ((by simp only [getD_set_ne false (show 20 ≠ 17 by decide)]; exact fun hl => own_set (w9.out hl) (p := ⟨w.heap.size, 0, none⟩) (by simp) _))) (Lib.hid ((by simp only [getD_set_ne false (show 20 ≠ 10 by decide)]; exact fun hl => ⟨own_set (w10.out hl).1 (p := ⟨w.heap.size, 0, none⟩) (by simp) _, (w10.out hl).2⟩))) (Lib.hid ((by simp only [getD_set_ne false (show 20 ≠ 17 by decide)]; exact fun hl => ⟨own_set (w11.out hl).1 (p := ⟨w.heap.size, 0, none⟩) (by simp) _, (w11.out hl).2⟩))) (Lib.hid ((fun _ hl => by rw [getD_set_ne false (by decide), D10] at hl; cases hl))) (Lib.hid ((fun _ hl => by rw [getD_set_ne false (by decide), D17] at hl; cases hl))))
        · -- 21
          intro L a W hL hu hcl hd hJ
          refine scJD.elim w wo l k b off c k1 k2 hlt A1 A2 u39 u40 u41 u42 u43 u44 hJ ?_
          clear hJ
          intro x17 x18 x19 x20 x21 x22 x23 x24 x25 x26 x27 x28 x29 x30 x31 x32 x33 x34 x35 x36 x37 x38 y0 y1 e h0 h1 h2 h3 h4 h5 h6 h7 h8 h11 h12 h13 h14 h15 h18 h19 h21 h22 w0 w1 w2 w3 w4 w5 w6 w7 w8 w9 w10 w11 w12 w13
          subst e
          have D1 : L.getD 1 false = true := hd ⟨1, .data⟩ (by simp) rfl
          obtain rfl := h1.out D1
          refine wpOp_step rfl (fun K hK => ?_)
          go_simp
          exact hK _ _ (scJD.mk_ _ _ _ _ _ _ _ _ _ _ _ _ _ _ _ _ _ _ x17 _ x19 x20 x21 x22 x23 x24 x25 x26 x27 x28 x29 x30 x31 x32 x33 x34 x35 x36 _ x38 y0 y1 rfl (hset h0 (by decide)) (Lib.hid (fun _ => rfl)) (hset h2 (by decide)) (hset h3 (by decide)) (hset h4 (by decide)) (hset h5 (by decide)) (hset h6 (by decide)) (hset h7 (by decide)) (hset h8 (by decide)) (hset h11 (by decide)) (hset h12 (by decide)) (hset h13 (by decide)) (hset h14 (by decide)) (hset h15 (by decide)) (hset h18 (by decide)) (hset h19 (by decide)) (Lib.hid (fun _ => rfl)) (hset h22 (by decide)) w0 w1 w2 w3 (Lib.hid (by have w := w4.out; simpa only [getD_set_ne false (show 21 ≠ 20 by decide)] using w)) (Lib.hid (by have w := w5.out; simpa only [getD_set_ne false (show 21 ≠ 23 by decide)] using w)) (Lib.hid (by have w := w6.out; simpa only [getD_set_ne false (show 21 ≠ 20 by decide)] using w)) (Lib.hid (by have w := w7.out; simpa only [getD_set_ne false (show 21 ≠ 23 by decide)] using w)) (Lib.hid (by have w := w8.out; simpa only [getD_set_ne false (show 21 ≠ 10 by decide)] using w)) (Lib.hid (by have w := w9.out; simpa only [getD_set_ne false (show 21 ≠ 17 by decide)] using w)) (Lib.hid (by have w := w10.out; simpa only [getD_set_ne false (show 21 ≠ 10 by decide)] using w)) (Lib.hid (by have w := w11.out; simpa only [getD_set_ne false (show 21 ≠ 17 by decide)] using w)) (Lib.hid (by have w := w12.out; simpa only [getD_set_ne false (show 21 ≠ 9 by decide), getD_set_ne false (show 21 ≠ 10 by decide)] using w)) (Lib.hid (by have w := w13.out; simpa only [getD_set_ne false (show 21 ≠ 16 by decide), getD_set_ne false (show 21 ≠ 17 by decide)] using w)))
        · -- 22
          intro L a W hL hu hcl hd hJ
          refine scJD.elim w wo l k b off c k1 k2 hlt A1 A2 u39 u40 u41 u42 u43 u44 hJ ?_
          clear hJ
          intro x17 x18 x19 x20 x21 x22 x23 x24 x25 x26 x27 x28 x29 x30 x31 x32 x33 x34 x35 x36 x37 x38 y0 y1 e h0 h1 h2 h3 h4 h5 h6 h7 h8 h11 h12 h13 h14 h15 h18 h19 h21 h22 w0 w1 w2 w3 w4 w5 w6 w7 w8 w9 w10 w11 w12 w13
          subst e
          have D21 : L.getD 21 false = true := hd ⟨21, .data⟩ (by simp) rfl
          obtain rfl := h21.out D21
          refine wpOp_step rfl (fun K hK => ?_)
          go_simp
          exact hK _ _ (scJD.mk_ _ _ _ _ _ _ _ _ _ _ _ _ _ _ _ _ _ _ x17 x18 x19 x20 x21 x22 x23 x24 x25 x26 x27 x28 x29 x30 x31 x32 x33 x34 x35 x36 _ _ y0 y1 rfl (hset h0 (by decide)) (hset h1 (by decide)) (hset h2 (by decide)) (hset h3 (by decide)) (hset h4 (by decide)) (hset h5 (by decide)) (hset h6 (by decide)) (hset h7 (by decide)) (hset h8 (by decide)) (hset h11 (by decide)) (hset h12 (by decide)) (hset h13 (by decide)) (hset h14 (by decide)) (hset h15 (by decide)) (hset h18 (by decide)) (hset h19 (by decide)) (Lib.hid (fun _ => rfl)) (Lib.hid (fun _ => rfl)) w0 w1 w2 w3 (Lib.hid (by have w := w4.out; simpa only [getD_set_ne false (show 22 ≠ 20 by decide)] using w)) (Lib.hid (by have w := w5.out; simpa only [getD_set_ne false (show 22 ≠ 23 by decide)] using w)) (Lib.hid (by have w := w6.out; simpa only [getD_set_ne false (show 22 ≠ 20 by decide)] using w)) (Lib.hid (by have w := w7.out; simpa only [getD_set_ne false (show 22 ≠ 23 by decide)] using w)) (Lib.hid (by have w := w8.out; simpa only [getD_set_ne false (show 22 ≠ 10 by decide)] using w)) (Lib.hid (by have w := w9.out; simpa only [getD_set_ne false (show 22 ≠ 17 by decide)] using w)) (Lib.hid (by have w := w10.out; simpa only [getD_set_ne false (show 22 ≠ 10 by decide)] using w)) (Lib.hid (by have w := w11.out; simpa only [getD_set_ne false (show 22 ≠ 17 by decide)] using w)) (Lib.hid (by have w := w12.out; simpa only [getD_set_ne false (show 22 ≠ 9 by decide), getD_set_ne false (show 22 ≠ 10 by decide)] using w)) (Lib.hid (by have w := w13.out; simpa only [getD_set_ne false (show 22 ≠ 16 by decide), getD_set_ne false (show 22 ≠ 17 by decide)] using w)))
        · -- 23
          intro L a W hL hu hcl hd hJ
          refine scJD.elim w wo l k b off c k1 k2 hlt A1 A2 u39 u40 u41 u42 u43 u44 hJ ?_
          clear hJ
          intro x17 x18 x19 x20 x21 x22 x23 x24 x25 x26 x27 x28 x29 x30 x31 x32 x33 x34 x35 x36 x37 x38 y0 y1 e h0 h1 h2 h3 h4 h5 h6 h7 h8 h11 h12 h13 h14 h15 h18 h19 h21 h22 w0 w1 w2 w3 w4 w5 w6 w7 w8 w9 w10 w11 w12 w13
          subst e
          have D22 : L.getD 22 false = true := hd ⟨22, .data⟩ (by simp) rfl
          obtain rfl := h22.out D22
          have D17 : L.getD 17 false = true := hd ⟨17, .data⟩ (by simp) rfl
          have D1 : L.getD 1 false = true := hd ⟨1, .phase⟩ (by simp) rfl
          obtain rfl := h1.out D1
          have D2 : L.getD 2 false = true := hd ⟨2, .phase⟩ (by simp) rfl
          obtain rfl := h2.out D2
          have D10 : L.getD 10 false = true := hd ⟨10, .phase⟩ (by simp) rfl
          -- D22 D10 D17 GONE34
          obtain ⟨A3, k3, rfl⟩ := own_sl (w11.out D17).1
          have z := bk_cell w2.out 1
          have z' := bk_fro w2.out 1
          simp at z
          refine wpOp_step rfl (fun K hK => ?_)
          go_simp
          exact hK _ _ (scJD.mk_ _ _ _ _ _ _ _ _ _ _ _ _ _ _ _ _ _ _ x17 _ _ x20 x21 x22 x23 x24 x25 x26 x27 x28 x29 x30 x31 x32 x33 _ x35 x36 x37 _ y0 _ rfl (hset h0 (by decide)) (Lib.hid (fun _ => rfl)) (Lib.hid (fun _ => rfl)) (hset h3 (by decide)) (hset h4 (by decide)) (hset h5 (by decide)) (hset h6 (by decide)) (hset h7 (by decide)) (hset h8 (by decide)) (hset h11 (by decide)) (hset h12 (by decide)) (hset h13 (by decide)) (hset h14 (by decide)) (hset h15 (by decide)) (hset h18 (by decide)) (hset h19 (by decide)) (hset h21 (by decide)) (Lib.hid (fun _ => rfl)) (Lib.hid (bl_set w0.out (Nat.le_refl _) _)) (Lib.hid ((by rw [World.size_setCell]; exact w1.out))) (Lib.hid (bk_put1 w2.out 1 _ rfl)) (Lib.hid (bk_far w3.out (p := ⟨w.heap.size, 1, none⟩) (by simp; omega) _)) (Lib.hid ((by simp only [getD_set_ne false (show 23 ≠ 20 by decide)]; exact w4.out))) (Lib.hid ((fun hl => by rw [getD_set_eq false (by rw [hL]; decide)] at hl; cases hl))) (Lib.hid ((by simp only [getD_set_ne false (show 23 ≠ 20 by decide)]; exact w6.out))) (Lib.hid ((fun _ => rfl))) (Lib.hid ((by simp only [getD_set_ne false (show 23 ≠ 10 by decide)]; exact fun hl => own_set (w8.out hl) (p := ⟨w.heap.size, 1, none⟩) (by simp) _))) (Lib.hid ((by simp only [getD_set_ne false (show 23 ≠ 17 by decide)]; exact fun hl => own_set (w9.out hl) (p := ⟨w.heap.size, 1, none⟩) (by simp) _))) (Lib.hid ((by simp only [getD_set_ne false (show 23 ≠ 10 by decide)]; exact fun hl => ⟨own_set (w10.out hl).1 (p := ⟨w.heap.size, 1, none⟩) (by simp) _, (w10.out hl).2⟩))) (Lib.hid ((by simp only [getD_set_ne false (show 23 ≠ 17 by decide)]; exact fun hl => ⟨own_set (w11.out hl).1 (p := ⟨w.heap.size, 1, none⟩) (by simp) _, (w11.out hl).2⟩))) (Lib.hid ((fun _ hl => by rw [getD_set_ne false (by decide), D10] at hl; cases hl))) (Lib.hid ((fun _ hl => by rw [getD_set_ne false (by decide), D17] at hl; cases hl))))
      case done =>
        intro L a W hall hJ
        refine scJD.elim w wo l k b off c k1 k2 hlt A1 A2 u39 u40 u41 u42 u43 u44 hJ ?_
        clear hJ
        intro x17 x18 x19 x20 x21 x22 x23 x24 x25 x26 x27 x28 x29 x30 x31 x32 x33 x34 x35 x36 x37 x38 y0 y1 e h0 h1 h2 h3 h4 h5 h6 h7 h8 h11 h12 h13 h14 h15 h18 h19 h21 h22 w0 w1 w2 w3 w4 w5 w6 w7 w8 w9 w10 w11 w12 w13
        subst e
        have w6' := w6.out (hall 20 (by decide))
        have w7' := w7.out (hall 23 (by decide))
        subst w6' w7'
        obtain ⟨o1, _⟩ := w10.out (hall 10 (by decide))
        obtain ⟨o2, hap⟩ := w11.out (hall 17 (by decide))
        clear h0 h1 h2 h3 h4 h5 h6 h7 h8 h11 h12 h13 h14 h15 h18 h19 h21 h22 w4 w5 w6 w7 w8 w9 w10 w11 w12 w13 d0 d1 d2 z0 z1 ho1 ho2 HB HOX1 HOX2 hne hB
        have z0 := bk_cell w3.out 0
        have z1 := bk_cell w3.out 1
        have z2 := bk_cell w3.out 2
        simp at z0 z1 z2
        have hs0 := w1.out
        have hr0 := hr l[k] (List.getElem_mem hlt)
        have hsb := sumTo_bd (l.map Rn.d) k 1000000 (by decide) (by simpa using hr)
        have hss := sumTo_succ (l.map Rn.d) k (by simpa using hlt)
        rw [List.getElem_map] at hss
        have hsb1 : sumTo (l.map Rn.d) k ≤ 30000000 := by have h1 := hsb.2; have h2 : (k : Int) * 1000000 ≤ 30000000 := (by omega); omega
        have hsb0 := hsb.1
        have HSS := Lib.hid hss
        clear hss hsb
        obtain ⟨hr1, hr2⟩ := hr0
        go_wp2_with (go_at_call 131; refine (minuteOf_any _ _ _ _).mono ?_; rintro e' W1 ⟨rfl, hb1⟩)
        go_roundw
        case rel =>
          have hB1 : Below w.heap.size w W1 := bl_then w0.out hb1
          exact ⟨k + 1, by omega, by go_num, by rw [HSS.out], hB1, by have := hb1.size; have := w1.out; omega, _, _, bk_below w2.out hb1, own_bel o1 hb1, own_bel o2 hb1, fun b h1 h2 => hap b h2 h1⟩
        case measure => simp [intOf]; omega
    · obtain rfl : k = l.length := by omega
      have z0 := bk_cell hblk 0
      have z1 := bk_cell hblk 1
      have z2 := bk_fro hblk 1
      simp at z0 z1
      have HB := Lib.hid hblk
      clear hblk
      obtain ⟨A1, k1, rfl⟩ := own_sl ho1
      obtain ⟨A2, k2, rfl⟩ := own_sl ho2
      have HO1 := Lib.hid ho1
      have HO2 := Lib.hid ho2
      have hr1 : ∀ b, (Value.slice A1 l.length k1).ownBlock = some b → w.heap.size + 1 ≤ b ∧ b < wo.heap.size := fun b hb => ho1.lt b hb
      have hr2 : ∀ b, (Value.slice A2 l.length k2).ownBlock = some b → w.heap.size + 1 ≤ b ∧ b < wo.heap.size := fun b hb => ho2.lt b hb
      clear ho1 ho2
      have hI1 : (Tryz.prog.info? 186).map (fun i => (i.zero, i.size, i.bytes)) = some (some (.int .i64 0), 1, 8) := by kernel_rfl
      go_wp2_with (first
        | (at_builtin; refine app_own inC_len (by decide) inC_one rfl (.tmp 49) (.tmp 51) 255 rfl 186 _ 8 Tryz.underlying255 hI1 rfl (w.heap.size + 1) (.slice A2 l.length k2) l.length (sums (l.map Rn.d) l.length) [sumTo (l.map Rn.d) l.length] (by simp [sums]) rfl (own_bel HO2.out (bl_alloc (Below.refl _ _) _)) _ rfl (Sl.new1 inC_len _ _ _ _ rfl) (by simp; omega) (by simp; omega) (by simp; omega) ?_; intro v' W1 hv' hg1 hat; rw [← sums_snoc] at hv'; obtain ⟨A3, k3, rfl⟩ := own_sl hv'; (have HB1 := Lib.hid (bk_grown (bk_alloc HB.out _) hg1 (fun e => by have := hr2 _ e.symm; omega))); (have y0 := bk_cell HB1.out 0); (have y1 := bk_cell HB1.out 1); (have y2 := bk_fro HB1.out 1); simp at y0 y1; clear z0 z1 z2))
      refine bodyPost_ret (v := .pointer (some ⟨w.heap.size, 0, none⟩)) (by simp [results, Tryz.results200, go_sem, *]) rfl ?_
      have hgs := hg1.size
      rw [World.size_alloc] at hgs
      have e1 : (l.map Rn.d).take l.length = l.map Rn.d := by rw [List.take_of_length_le]; simp
      have o1 := HO1.out
      rw [e1] at o1
      have o1' := own_set ((own_bel o1 (bl_alloc (Below.refl _ _) _)).kept hg1 (own_ne_of (fun b h1 h2 => hne b h1 h2))) (p := ⟨w.heap.size, 1, none⟩) (by simp) (.slice A3 (l.length + 1) k3)
      have o2' := own_set hv' (p := ⟨w.heap.size, 1, none⟩) (by simp) (.slice A3 (l.length + 1) k3)
      refine ⟨w.heap.size, _, _, rfl, bk_put1 HB1.out 1 _ rfl, Sl.of_own (base := w.heap.size + 1) (e := 186) inC_len (by decide) ?_, Sl.of_own (base := w.heap.size + 1) (e := 186) inC_len (by decide) ?_, bl_set ((bl_alloc hB _).grown hg1 (by simp; omega) (fun z hz => by have := hr2 _ hz; omega)) (Nat.le_refl _) _⟩
      · simpa using o1'
      · simpa [sums] using o2'
def scJV (w wo : World) (l : List Rn) (k b off c k1 k2 : Nat) (hlt : k < l.length) (A1 A2 : Option Addr) (u39 u40 u41 u42 u43 u44 : Value) (L : Array Bool) (a : Act) (W : World) : Prop := ∃ (x17 : Value) (x18 : Value) (x19 : Value) (x20 : Value) (x21 : Value) (x22 : Value) (x23 : Value) (x24 : Value) (x25 : Value) (x26 : Value) (x27 : Value) (x28 : Value) (x29 : Value) (x30 : Value) (x31 : Value) (x32 : Value) (x33 : Value) (x34 : Value) (x35 : Value) (x36 : Value) (x37 : Value) (x38 : Value) (y0 : Value) (y1 : Value), a = { tmps := #[Value.slice (some ⟨b, off, none⟩) l.length c, .func (.func 224) #[] #[], undef, undef, .pointer none, .pointer (some ⟨w.heap.size, 0, none⟩), .int .i64 (sumTo (l.map Rn.v) k), undef, .pointer (some ⟨wo.heap.size, 0, none⟩), .agg #[.slice none 0 0, .slice none 0 0], .pointer (some ⟨w.heap.size, 0, none⟩), .slice (some ⟨b, off, none⟩) l.length c, .int .i64 (l.length : Int), .int .i64 (k : Int), .bool true, .pointer (some ⟨b, off + k * 3, none⟩), .agg #[.int .i64 l[k].h, .int .i64 l[k].v, .int .i64 l[k].d], x17, x18, x19, x20, x21, x22, x23, x24, x25, x26, x27, x28, x29, x30, x31, x32, x33, x34, x35, x36, x37, x38, u39, u40, u41, u42, u43, u44, undef, undef, undef, undef, undef, undef, undef, undef, undef, undef, undef], defers := [] } ∧ (L.getD 0 false = true → x17 = .pointer (some ⟨w.heap.size, 0, none⟩)) ∧ (L.getD 1 false = true → x18 = .pointer (some ⟨w.heap.size, 0, none⟩)) ∧ (L.getD 2 false = true → x19 = .pointer (some ⟨w.heap.size, 0, none⟩)) ∧ (L.getD 3 false = true → x20 = .pointer (some ⟨w.heap.size, 0, none⟩)) ∧ (L.getD 4 false = true → x21 = .pointer (some ⟨w.heap.size, 0, none⟩)) ∧ (L.getD 5 false = true → x22 = .slice A1 k k1) ∧ (L.getD 6 false = true → x23 = .func (.func 224) #[] #[]) ∧ (L.getD 7 false = true → x24 = .agg #[.int .i64 l[k].h, .int .i64 l[k].v, .int .i64 l[k].d]) ∧ (L.getD 8 false = true → x25 = .int .i64 l[k].v) ∧ (L.getD 11 false = true → x28 = .pointer (some ⟨w.heap.size, 0, none⟩)) ∧ (L.getD 12 false = true → x29 = .pointer (some ⟨w.heap.size, 0, none⟩)) ∧ (L.getD 13 false = true → x30 = .pointer (some ⟨w.heap.size, 1, none⟩)) ∧ (L.getD 14 false = true → x31 = .slice A2 k k2) ∧ (L.getD 15 false = true → x32 = .int .i64 (sumTo (l.map Rn.v) k)) ∧ (L.getD 18 false = true → x35 = .pointer (some ⟨w.heap.size, 0, none⟩)) ∧ (L.getD 19 false = true → x36 = .pointer (some ⟨w.heap.size, 0, none⟩)) ∧ (L.getD 21 false = true → x37 = .pointer (some ⟨w.heap.size, 0, none⟩)) ∧ (L.getD 22 false = true → x38 = .pointer (some ⟨w.heap.size, 1, none⟩)) ∧ (Below w.heap.size w W) ∧ (wo.heap.size < W.heap.size) ∧ (W.heap[w.heap.size]? = some (.cells #[y0, y1] 279 (0, 0))) ∧ (W.heap[wo.heap.size]? = some (.cells #[.int .i64 l[k].h, .int .i64 l[k].v, .int .i64 l[k].d] 178 (0, 0))) ∧ (L.getD 20 false = false → y0 = .slice A1 k k1) ∧ (L.getD 23 false = false → y1 = .slice A2 k k2) ∧ (L.getD 20 false = true → y0 = x27) ∧ (L.getD 23 false = true → y1 = x34) ∧ (L.getD 10 false = false → W.ownsRow (w.heap.size + 1) 222 1 (.slice A1 k k1) k (flat inC ((l.map Rn.v).take k))) ∧ (L.getD 17 false = false → W.ownsRow (w.heap.size + 1) 222 1 (.slice A2 k k2) k (flat inC (sums (l.map Rn.v) k))) ∧ (L.getD 10 false = true → W.ownsRow (w.heap.size + 1) 222 1 x27 (k + 1) (flat inC ((l.map Rn.v).take (k + 1))) ∧ ∀ b, x27.ownBlock = some b → (Value.slice A1 k k1).ownBlock = some b ∨ wo.heap.size < b) ∧ (L.getD 17 false = true → W.ownsRow (w.heap.size + 1) 222 1 x34 (k + 1) (flat inC (sums (l.map Rn.v) (k + 1))) ∧ ∀ b, x34.ownBlock = some b → x27.ownBlock ≠ some b) ∧ (L.getD 9 false = true → L.getD 10 false = false → Sl inC 1 W x26 [l[k].v] ∧ ∀ b, x26.ownBlock = some b → wo.heap.size < b) ∧ (L.getD 16 false = true → L.getD 17 false = false → Sl inC 1 W x33 [sumTo (l.map Rn.v) k] ∧ ∀ b, x33.ownBlock = some b → wo.heap.size < b)
theorem scJV.elim (w wo : World) (l : List Rn) (k b off c k1 k2 : Nat) (hlt : k < l.length) (A1 A2 : Option Addr) (u39 u40 u41 u42 u43 u44 : Value) {L : Array Bool} {a : Act} {W : World} {G : Prop} (h : scJV w wo l k b off c k1 k2 hlt A1 A2 u39 u40 u41 u42 u43 u44 L a W) (k : ∀ (x17 : Value) (x18 : Value) (x19 : Value) (x20 : Value) (x21 : Value) (x22 : Value) (x23 : Value) (x24 : Value) (x25 : Value) (x26 : Value) (x27 : Value) (x28 : Value) (x29 : Value) (x30 : Value) (x31 : Value) (x32 : Value) (x33 : Value) (x34 : Value) (x35 : Value) (x36 : Value) (x37 : Value) (x38 : Value) (y0 : Value) (y1 : Value), a = { tmps := #[Value.slice (some ⟨b, off, none⟩) l.length c, .func (.func 224) #[] #[], undef, undef, .pointer none, .pointer (some ⟨w.heap.size, 0, none⟩), .int .i64 (sumTo (l.map Rn.v) k), undef, .pointer (some ⟨wo.heap.size, 0, none⟩), .agg #[.slice none 0 0, .slice none 0 0], .pointer (some ⟨w.heap.size, 0, none⟩), .slice (some ⟨b, off, none⟩) l.length c, .int .i64 (l.length : Int), .int .i64 (k : Int), .bool true, .pointer (some ⟨b, off + k * 3, none⟩), .agg #[.int .i64 l[k].h, .int .i64 l[k].v, .int .i64 l[k].d], x17, x18, x19, x20, x21, x22, x23, x24, x25, x26, x27, x28, x29, x30, x31, x32, x33, x34, x35, x36, x37, x38, u39, u40, u41, u42, u43, u44, undef, undef, undef, undef, undef, undef, undef, undef, undef, undef, undef], defers := [] } → Hid (L.getD 0 false = true → x17 = .pointer (some ⟨w.heap.size, 0, none⟩)) → Hid (L.getD 1 false = true → x18 = .pointer (some ⟨w.heap.size, 0, none⟩)) → Hid (L.getD 2 false = true → x19 = .pointer (some ⟨w.heap.size, 0, none⟩)) → Hid (L.getD 3 false = true → x20 = .pointer (some ⟨w.heap.size, 0, none⟩)) → Hid (L.getD 4 false = true → x21 = .pointer (some ⟨w.heap.size, 0, none⟩)) → Hid (L.getD 5 false = true → x22 = .slice A1 k k1) → Hid (L.getD 6 false = true → x23 = .func (.func 224) #[] #[]) → Hid (L.getD 7 false = true → x24 = .agg #[.int .i64 l[k].h, .int .i64 l[k].v, .int .i64 l[k].d]) → Hid (L.getD 8 false = true → x25 = .int .i64 l[k].v) → Hid (L.getD 11 false = true → x28 = .pointer (some ⟨w.heap.size, 0, none⟩)) → Hid (L.getD 12 false = true → x29 = .pointer (some ⟨w.heap.size, 0, none⟩)) → Hid (L.getD 13 false = true → x30 = .pointer (some ⟨w.heap.size, 1, none⟩)) → Hid (L.getD 14 false = true → x31 = .slice A2 k k2) → Hid (L.getD 15 false = true → x32 = .int .i64 (sumTo (l.map Rn.v) k)) → Hid (L.getD 18 false = true → x35 = .pointer (some ⟨w.heap.size, 0, none⟩)) → Hid (L.getD 19 false = true → x36 = .pointer (some ⟨w.heap.size, 0, none⟩)) → Hid (L.getD 21 false = true → x37 = .pointer (some ⟨w.heap.size, 0, none⟩)) → Hid (L.getD 22 false = true → x38 = .pointer (some ⟨w.heap.size, 1, none⟩)) → Hid (Below w.heap.size w W) → Hid (wo.heap.size < W.heap.size) → Hid (W.heap[w.heap.size]? = some (.cells #[y0, y1] 279 (0, 0))) → Hid (W.heap[wo.heap.size]? = some (.cells #[.int .i64 l[k].h, .int .i64 l[k].v, .int .i64 l[k].d] 178 (0, 0))) → Hid (L.getD 20 false = false → y0 = .slice A1 k k1) → Hid (L.getD 23 false = false → y1 = .slice A2 k k2) → Hid (L.getD 20 false = true → y0 = x27) → Hid (L.getD 23 false = true → y1 = x34) → Hid (L.getD 10 false = false → W.ownsRow (w.heap.size + 1) 222 1 (.slice A1 k k1) k (flat inC ((l.map Rn.v).take k))) → Hid (L.getD 17 false = false → W.ownsRow (w.heap.size + 1) 222 1 (.slice A2 k k2) k (flat inC (sums (l.map Rn.v) k))) → Hid (L.getD 10 false = true → W.ownsRow (w.heap.size + 1) 222 1 x27 (k + 1) (flat inC ((l.map Rn.v).take (k + 1))) ∧ ∀ b, x27.ownBlock = some b → (Value.slice A1 k k1).ownBlock = some b ∨ wo.heap.size < b) → Hid (L.getD 17 false = true → W.ownsRow (w.heap.size + 1) 222 1 x34 (k + 1) (flat inC (sums (l.map Rn.v) (k + 1))) ∧ ∀ b, x34.ownBlock = some b → x27.ownBlock ≠ some b) → Hid (L.getD 9 false = true → L.getD 10 false = false → Sl inC 1 W x26 [l[k].v] ∧ ∀ b, x26.ownBlock = some b → wo.heap.size < b) → Hid (L.getD 16 false = true → L.getD 17 false = false → Sl inC 1 W x33 [sumTo (l.map Rn.v) k] ∧ ∀ b, x33.ownBlock = some b → wo.heap.size < b) → G) : G := by
  obtain ⟨x17, x18, x19, x20, x21, x22, x23, x24, x25, x26, x27, x28, x29, x30, x31, x32, x33, x34, x35, x36, x37, x38, y0, y1, e, h0, h1, h2, h3, h4, h5, h6, h7, h8, h11, h12, h13, h14, h15, h18, h19, h21, h22, w0, w1, w2, w3, w4, w5, w6, w7, w8, w9, w10, w11, w12, w13⟩ := h
  exact k x17 x18 x19 x20 x21 x22 x23 x24 x25 x26 x27 x28 x29 x30 x31 x32 x33 x34 x35 x36 x37 x38 y0 y1 e (Lib.hid h0) (Lib.hid h1) (Lib.hid h2) (Lib.hid h3) (Lib.hid h4) (Lib.hid h5) (Lib.hid h6) (Lib.hid h7) (Lib.hid h8) (Lib.hid h11) (Lib.hid h12) (Lib.hid h13) (Lib.hid h14) (Lib.hid h15) (Lib.hid h18) (Lib.hid h19) (Lib.hid h21) (Lib.hid h22) (Lib.hid w0) (Lib.hid w1) (Lib.hid w2) (Lib.hid w3) (Lib.hid w4) (Lib.hid w5) (Lib.hid w6) (Lib.hid w7) (Lib.hid w8) (Lib.hid w9) (Lib.hid w10) (Lib.hid w11) (Lib.hid w12) (Lib.hid w13)
theorem scJV.mk_ (w wo : World) (l : List Rn) (k b off c k1 k2 : Nat) (hlt : k < l.length) (A1 A2 : Option Addr) (u39 u40 u41 u42 u43 u44 : Value) {L : Array Bool} {a : Act} {W : World} (x17 : Value) (x18 : Value) (x19 : Value) (x20 : Value) (x21 : Value) (x22 : Value) (x23 : Value) (x24 : Value) (x25 : Value) (x26 : Value) (x27 : Value) (x28 : Value) (x29 : Value) (x30 : Value) (x31 : Value) (x32 : Value) (x33 : Value) (x34 : Value) (x35 : Value) (x36 : Value) (x37 : Value) (x38 : Value) (y0 : Value) (y1 : Value) (e : a = { tmps := #[Value.slice (some ⟨b, off, none⟩) l.length c, .func (.func 224) #[] #[], undef, undef, .pointer none, .pointer (some ⟨w.heap.size, 0, none⟩), .int .i64 (sumTo (l.map Rn.v) k), undef, .pointer (some ⟨wo.heap.size, 0, none⟩), .agg #[.slice none 0 0, .slice none 0 0], .pointer (some ⟨w.heap.size, 0, none⟩), .slice (some ⟨b, off, none⟩) l.length c, .int .i64 (l.length : Int), .int .i64 (k : Int), .bool true, .pointer (some ⟨b, off + k * 3, none⟩), .agg #[.int .i64 l[k].h, .int .i64 l[k].v, .int .i64 l[k].d], x17, x18, x19, x20, x21, x22, x23, x24, x25, x26, x27, x28, x29, x30, x31, x32, x33, x34, x35, x36, x37, x38, u39, u40, u41, u42, u43, u44, undef, undef, undef, undef, undef, undef, undef, undef, undef, undef, undef], defers := [] }) (h0 : Hid (L.getD 0 false = true → x17 = .pointer (some ⟨w.heap.size, 0, none⟩))) (h1 : Hid (L.getD 1 false = true → x18 = .pointer (some ⟨w.heap.size, 0, none⟩))) (h2 : Hid (L.getD 2 false = true → x19 = .pointer (some ⟨w.heap.size, 0, none⟩))) (h3 : Hid (L.getD 3 false = true → x20 = .pointer (some ⟨w.heap.size, 0, none⟩))) (h4 : Hid (L.getD 4 false = true → x21 = .pointer (some ⟨w.heap.size, 0, none⟩))) (h5 : Hid (L.getD 5 false = true → x22 = .slice A1 k k1)) (h6 : Hid (L.getD 6 false = true → x23 = .func (.func 224) #[] #[])) (h7 : Hid (L.getD 7 false = true → x24 = .agg #[.int .i64 l[k].h, .int .i64 l[k].v, .int .i64 l[k].d])) (h8 : Hid (L.getD 8 false = true → x25 = .int .i64 l[k].v)) (h11 : Hid (L.getD 11 false = true → x28 = .pointer (some ⟨w.heap.size, 0, none⟩))) (h12 : Hid (L.getD 12 false = true → x29 = .pointer (some ⟨w.heap.size, 0, none⟩))) (h13 : Hid (L.getD 13 false = true → x30 = .pointer (some ⟨w.heap.size, 1, none⟩))) (h14 : Hid (L.getD 14 false = true → x31 = .slice A2 k k2)) (h15 : Hid (L.getD 15 false = true → x32 = .int .i64 (sumTo (l.map Rn.v) k))) (h18 : Hid (L.getD 18 false = true → x35 = .pointer (some ⟨w.heap.size, 0, none⟩))) (h19 : Hid (L.getD 19 false = true → x36 = .pointer (some ⟨w.heap.size, 0, none⟩))) (h21 : Hid (L.getD 21 false = true → x37 = .pointer (some ⟨w.heap.size, 0, none⟩))) (h22 : Hid (L.getD 22 false = true → x38 = .pointer (some ⟨w.heap.size, 1, none⟩))) (w0 : Hid (Below w.heap.size w W)) (w1 : Hid (wo.heap.size < W.heap.size)) (w2 : Hid (W.heap[w.heap.size]? = some (.cells #[y0, y1] 279 (0, 0)))) (w3 : Hid (W.heap[wo.heap.size]? = some (.cells #[.int .i64 l[k].h, .int .i64 l[k].v, .int .i64 l[k].d] 178 (0, 0)))) (w4 : Hid (L.getD 20 false = false → y0 = .slice A1 k k1)) (w5 : Hid (L.getD 23 false = false → y1 = .slice A2 k k2)) (w6 : Hid (L.getD 20 false = true → y0 = x27)) (w7 : Hid (L.getD 23 false = true → y1 = x34)) (w8 : Hid (L.getD 10 false = false → W.ownsRow (w.heap.size + 1) 222 1 (.slice A1 k k1) k (flat inC ((l.map Rn.v).take k)))) (w9 : Hid (L.getD 17 false = false → W.ownsRow (w.heap.size + 1) 222 1 (.slice A2 k k2) k (flat inC (sums (l.map Rn.v) k)))) (w10 : Hid (L.getD 10 false = true → W.ownsRow (w.heap.size + 1) 222 1 x27 (k + 1) (flat inC ((l.map Rn.v).take (k + 1))) ∧ ∀ b, x27.ownBlock = some b → (Value.slice A1 k k1).ownBlock = some b ∨ wo.heap.size < b)) (w11 : Hid (L.getD 17 false = true → W.ownsRow (w.heap.size + 1) 222 1 x34 (k + 1) (flat inC (sums (l.map Rn.v) (k + 1))) ∧ ∀ b, x34.ownBlock = some b → x27.ownBlock ≠ some b)) (w12 : Hid (L.getD 9 false = true → L.getD 10 false = false → Sl inC 1 W x26 [l[k].v] ∧ ∀ b, x26.ownBlock = some b → wo.heap.size < b)) (w13 : Hid (L.getD 16 false = true → L.getD 17 false = false → Sl inC 1 W x33 [sumTo (l.map Rn.v) k] ∧ ∀ b, x33.ownBlock = some b → wo.heap.size < b)) : scJV w wo l k b off c k1 k2 hlt A1 A2 u39 u40 u41 u42 u43 u44 L a W := ⟨x17, x18, x19, x20, x21, x22, x23, x24, x25, x26, x27, x28, x29, x30, x31, x32, x33, x34, x35, x36, x37, x38, y0, y1, e, h0.out, h1.out, h2.out, h3.out, h4.out, h5.out, h6.out, h7.out, h8.out, h11.out, h12.out, h13.out, h14.out, h15.out, h18.out, h19.out, h21.out, h22.out, w0.out, w1.out, w2.out, w3.out, w4.out, w5.out, w6.out, w7.out, w8.out, w9.out, w10.out, w11.out, w12.out, w13.out⟩
set_option maxRecDepth 100000 in
set_option maxHeartbeats 1000000 in
theorem scaledV_any (v : Value) (l : List Rn) (w : World) (hv : Sl rnC 3 w v l) (hn : l.length ≤ 30) (hr : ∀ r ∈ l, 0 ≤ r.v ∧ r.v ≤ 1000000) :
    Calls Tryz.prog 223 #[v, .func (.func 224) #[] #[]] w fun e w' => ∃ g v1 v2, e = .returned (.pointer (some ⟨g, 0, none⟩)) ∧ w'.heap[g]? = some (.cells #[v1, v2] 279 (0, 0)) ∧
      Sl inC 1 w' v1 (l.map Rn.v) ∧ Sl inC 1 w' v2 (sums (l.map Rn.v) (l.length + 1)) ∧ Below w.heap.size w w' := by
  obtain ⟨A, c, rfl, hl, hc, hcs⟩ := id hv
  go_enter Tryz.func223, Tryz.ntmps223
  go_wp2
  go_loopw [6, 13] (fun s i W => ∃ k : Nat, k ≤ l.length ∧ i = .int .i64 k ∧ s = .int .i64 (sumTo (l.map Rn.v) k) ∧ Below w.heap.size w W ∧ w.heap.size < W.heap.size ∧ ∃ v1 v2, W.heap[w.heap.size]? = some (.cells #[v1, v2] 279 (0, 0)) ∧
     W.ownsRow (w.heap.size + 1) 222 1 v1 k (flat inC ((l.map Rn.v).take k)) ∧ W.ownsRow (w.heap.size + 1) 222 1 v2 k (flat inC (sums (l.map Rn.v) k)) ∧ (∀ b, v1.ownBlock = some b → v2.ownBlock ≠ some b)) (fun _ i _ => l.length - (intOf i).toNat)
  case atStart => exact ⟨0, by omega, rfl, rfl, by (repeat' with_reducible first|assumption|exact Below.refl _ _|apply bl_alloc|apply bl_drewN|apply bl_drew|refine bl_set ?_ (by simp<;>omega) _|refine bl_then ?_ (by assumption)), by simp, _, _, bk_new _ _, World.ownsRow_nil _ _ _ _, World.ownsRow_nil _ _ _ _, by intro b hb; cases hb⟩
  case round =>
    obtain ⟨k, hk, rfl, rfl, hB, hsz, v1, v2, hblk, ho1, ho2, hne⟩ := hrel
    obtain ⟨wo, rfl⟩ : ∃ wo : World, wo = wr := ⟨_, rfl⟩
    by_cases hlt : k < l.length
    · obtain ⟨b, off, rfl, hcell⟩ := hcs (by intro h; simp [h] at hlt)
      obtain ⟨c0, c1', c2'⟩ := rn_cells hcell hlt
      have d0 := cl_below hB c0
      have d1 := cl_below hB c1'
      have d2 := cl_below hB c2'
      have z0 := bk_cell hblk 0
      have z1 := bk_cell hblk 1
      simp at z0 z1
      clear c0 c1' c2'
      have HB := Lib.hid hblk
      clear hblk
      have hsl1 := own_sl ho1
      have hsl2 := own_sl ho2
      obtain ⟨A1, k1, rfl⟩ := hsl1
      obtain ⟨A2, k2, rfl⟩ := hsl2
      have hI1 : (Tryz.prog.info? 222).map (fun i => (i.zero, i.size, i.bytes)) = some (some (.int .i64 0), 1, 8) := by kernel_rfl
      go_wp2
      have HOX1 := Lib.hid ho1
      have HOX2 := Lib.hid ho2
      refine region_steps (by kernel_rfl) (by kernel_rfl) (scJV w wo l k b off c k1 k2 hlt A1 A2 u39 u40 u41 u42 u43 u44) ?start ?steps ?done
      case start =>
        refine scJV.mk_ _ _ _ _ _ _ _ _ _ _ _ _ _ _ _ _ _ _ _ _ _ _ _ _ _ _ _ _ _ _ _ _ _ _ _ _ _ _ _ _ (.slice A1 k k1) (.slice A2 k k2) rfl (Lib.hid (fun hl => by simp at hl)) (Lib.hid (fun hl => by simp at hl)) (Lib.hid (fun hl => by simp at hl)) (Lib.hid (fun hl => by simp at hl)) (Lib.hid (fun hl => by simp at hl)) (Lib.hid (fun hl => by simp at hl)) (Lib.hid (fun hl => by simp at hl)) (Lib.hid (fun hl => by simp at hl)) (Lib.hid (fun hl => by simp at hl)) (Lib.hid (fun hl => by simp at hl)) (Lib.hid (fun hl => by simp at hl)) (Lib.hid (fun hl => by simp at hl)) (Lib.hid (fun hl => by simp at hl)) (Lib.hid (fun hl => by simp at hl)) (Lib.hid (fun hl => by simp at hl)) (Lib.hid (fun hl => by simp at hl)) (Lib.hid (fun hl => by simp at hl)) (Lib.hid (fun hl => by simp at hl)) (Lib.hid (bl_drew (bl_alloc hB _))) (Lib.hid (by simp)) (Lib.hid (bk_drew (bk_alloc HB.out _))) (Lib.hid (bk_drew (bk_new _ _))) (Lib.hid (fun _ => rfl)) (Lib.hid (fun _ => rfl)) (Lib.hid (fun hl => by simp at hl)) (Lib.hid (fun hl => by simp at hl)) (Lib.hid (fun _ => own_bel (HOX1.out.alloc _) (bl_drew (Below.refl _ _)))) (Lib.hid (fun _ => own_bel (HOX2.out.alloc _) (bl_drew (Below.refl _ _)))) (Lib.hid (fun hl => by simp at hl)) (Lib.hid (fun hl => by simp at hl)) (Lib.hid (fun hl => by simp at hl)) (Lib.hid (fun hl => by simp at hl))
      case steps =>
        refine ⟨?_, ?_, ?_, ?_, ?_, ?_, ?_, ?_, ?_, ?_, ?_, ?_, ?_, ?_, ?_, ?_, ?_, ?_, ?_, ?_, ?_, ?_, ?_, ?_, trivial⟩
        · -- 0
          intro L a W hL hu hcl hd hJ
          refine scJV.elim w wo l k b off c k1 k2 hlt A1 A2 u39 u40 u41 u42 u43 u44 hJ ?_
          clear hJ
          intro x17 x18 x19 x20 x21 x22 x23 x24 x25 x26 x27 x28 x29 x30 x31 x32 x33 x34 x35 x36 x37 x38 y0 y1 e h0 h1 h2 h3 h4 h5 h6 h7 h8 h11 h12 h13 h14 h15 h18 h19 h21 h22 w0 w1 w2 w3 w4 w5 w6 w7 w8 w9 w10 w11 w12 w13
          subst e
          refine wpOp_step rfl (fun K hK => ?_)
          go_simp
          exact hK _ _ (scJV.mk_ _ _ _ _ _ _ _ _ _ _ _ _ _ _ _ _ _ _ _ x18 x19 x20 x21 x22 x23 x24 x25 x26 x27 x28 x29 x30 x31 x32 x33 x34 x35 x36 x37 x38 y0 y1 rfl (Lib.hid (fun _ => rfl)) (hset h1 (by decide)) (hset h2 (by decide)) (hset h3 (by decide)) (hset h4 (by decide)) (hset h5 (by decide)) (hset h6 (by decide)) (hset h7 (by decide)) (hset h8 (by decide)) (hset h11 (by decide)) (hset h12 (by decide)) (hset h13 (by decide)) (hset h14 (by decide)) (hset h15 (by decide)) (hset h18 (by decide)) (hset h19 (by decide)) (hset h21 (by decide)) (hset h22 (by decide)) w0 w1 w2 w3 (Lib.hid (by have w := w4.out; simpa only [getD_set_ne false (show 0 ≠ 20 by decide)] using w)) (Lib.hid (by have w := w5.out; simpa only [getD_set_ne false (show 0 ≠ 23 by decide)] using w)) (Lib.hid (by have w := w6.out; simpa only [getD_set_ne false (show 0 ≠ 20 by decide)] using w)) (Lib.hid (by have w := w7.out; simpa only [getD_set_ne false (show 0 ≠ 23 by decide)] using w)) (Lib.hid (by have w := w8.out; simpa only [getD_set_ne false (show 0 ≠ 10 by decide)] using w)) (Lib.hid (by have w := w9.out; simpa only [getD_set_ne false (show 0 ≠ 17 by decide)] using w)) (Lib.hid (by have w := w10.out; simpa only [getD_set_ne false (show 0 ≠ 10 by decide)] using w)) (Lib.hid (by have w := w11.out; simpa only [getD_set_ne false (show 0 ≠ 17 by decide)] using w)) (Lib.hid (by have w := w12.out; simpa only [getD_set_ne false (show 0 ≠ 9 by decide), getD_set_ne false (show 0 ≠ 10 by decide)] using w)) (Lib.hid (by have w := w13.out; simpa only [getD_set_ne false (show 0 ≠ 16 by decide), getD_set_ne false (show 0 ≠ 17 by decide)] using w)))
        · -- 1
          intro L a W hL hu hcl hd hJ
          refine scJV.elim w wo l k b off c k1 k2 hlt A1 A2 u39 u40 u41 u42 u43 u44 hJ ?_
          clear hJ
          intro x17 x18 x19 x20 x21 x22 x23 x24 x25 x26 x27 x28 x29 x30 x31 x32 x33 x34 x35 x36 x37 x38 y0 y1 e h0 h1 h2 h3 h4 h5 h6 h7 h8 h11 h12 h13 h14 h15 h18 h19 h21 h22 w0 w1 w2 w3 w4 w5 w6 w7 w8 w9 w10 w11 w12 w13
          subst e
          refine wpOp_step rfl (fun K hK => ?_)
          go_simp
          exact hK _ _ (scJV.mk_ _ _ _ _ _ _ _ _ _ _ _ _ _ _ _ _ _ _ x17 _ x19 x20 x21 x22 x23 x24 x25 x26 x27 x28 x29 x30 x31 x32 x33 x34 x35 x36 x37 x38 y0 y1 rfl (hset h0 (by decide)) (Lib.hid (fun _ => rfl)) (hset h2 (by decide)) (hset h3 (by decide)) (hset h4 (by decide)) (hset h5 (by decide)) (hset h6 (by decide)) (hset h7 (by decide)) (hset h8 (by decide)) (hset h11 (by decide)) (hset h12 (by decide)) (hset h13 (by decide)) (hset h14 (by decide)) (hset h15 (by decide)) (hset h18 (by decide)) (hset h19 (by decide)) (hset h21 (by decide)) (hset h22 (by decide)) w0 w1 w2 w3 (Lib.hid (by have w := w4.out; simpa only [getD_set_ne false (show 1 ≠ 20 by decide)] using w)) (Lib.hid (by have w := w5.out; simpa only [getD_set_ne false (show 1 ≠ 23 by decide)] using w)) (Lib.hid (by have w := w6.out; simpa only [getD_set_ne false (show 1 ≠ 20 by decide)] using w)) (Lib.hid (by have w := w7.out; simpa only [getD_set_ne false (show 1 ≠ 23 by decide)] using w)) (Lib.hid (by have w := w8.out; simpa only [getD_set_ne false (show 1 ≠ 10 by decide)] using w)) (Lib.hid (by have w := w9.out; simpa only [getD_set_ne false (show 1 ≠ 17 by decide)] using w)) (Lib.hid (by have w := w10.out; simpa only [getD_set_ne false (show 1 ≠ 10 by decide)] using w)) (Lib.hid (by have w := w11.out; simpa only [getD_set_ne false (show 1 ≠ 17 by decide)] using w)) (Lib.hid (by have w := w12.out; simpa only [getD_set_ne false (show 1 ≠ 9 by decide), getD_set_ne false (show 1 ≠ 10 by decide)] using w)) (Lib.hid (by have w := w13.out; simpa only [getD_set_ne false (show 1 ≠ 16 by decide), getD_set_ne false (show 1 ≠ 17 by decide)] using w)))
        · -- 2
          intro L a W hL hu hcl hd hJ
          refine scJV.elim w wo l k b off c k1 k2 hlt A1 A2 u39 u40 u41 u42 u43 u44 hJ ?_
          clear hJ
          intro x17 x18 x19 x20 x21 x22 x23 x24 x25 x26 x27 x28 x29 x30 x31 x32 x33 x34 x35 x36 x37 x38 y0 y1 e h0 h1 h2 h3 h4 h5 h6 h7 h8 h11 h12 h13 h14 h15 h18 h19 h21 h22 w0 w1 w2 w3 w4 w5 w6 w7 w8 w9 w10 w11 w12 w13
          subst e
          refine wpOp_step rfl (fun K hK => ?_)
          go_simp
          exact hK _ _ (scJV.mk_ _ _ _ _ _ _ _ _ _ _ _ _ _ _ _ _ _ _ x17 x18 _ x20 x21 x22 x23 x24 x25 x26 x27 x28 x29 x30 x31 x32 x33 x34 x35 x36 x37 x38 y0 y1 rfl (hset h0 (by decide)) (hset h1 (by decide)) (Lib.hid (fun _ => rfl)) (hset h3 (by decide)) (hset h4 (by decide)) (hset h5 (by decide)) (hset h6 (by decide)) (hset h7 (by decide)) (hset h8 (by decide)) (hset h11 (by decide)) (hset h12 (by decide)) (hset h13 (by decide)) (hset h14 (by decide)) (hset h15 (by decide)) (hset h18 (by decide)) (hset h19 (by decide)) (hset h21 (by decide)) (hset h22 (by decide)) w0 w1 w2 w3 (Lib.hid (by have w := w4.out; simpa only [getD_set_ne false (show 2 ≠ 20 by decide)] using w)) (Lib.hid (by have w := w5.out; simpa only [getD_set_ne false (show 2 ≠ 23 by decide)] using w)) (Lib.hid (by have w := w6.out; simpa only [getD_set_ne false (show 2 ≠ 20 by decide)] using w)) (Lib.hid (by have w := w7.out; simpa only [getD_set_ne false (show 2 ≠ 23 by decide)] using w)) (Lib.hid (by have w := w8.out; simpa only [getD_set_ne false (show 2 ≠ 10 by decide)] using w)) (Lib.hid (by have w := w9.out; simpa only [getD_set_ne false (show 2 ≠ 17 by decide)] using w)) (Lib.hid (by have w := w10.out; simpa only [getD_set_ne false (show 2 ≠ 10 by decide)] using w)) (Lib.hid (by have w := w11.out; simpa only [getD_set_ne false (show 2 ≠ 17 by decide)] using w)) (Lib.hid (by have w := w12.out; simpa only [getD_set_ne false (show 2 ≠ 9 by decide), getD_set_ne false (show 2 ≠ 10 by decide)] using w)) (Lib.hid (by have w := w13.out; simpa only [getD_set_ne false (show 2 ≠ 16 by decide), getD_set_ne false (show 2 ≠ 17 by decide)] using w)))
        · -- 3
          intro L a W hL hu hcl hd hJ
          refine scJV.elim w wo l k b off c k1 k2 hlt A1 A2 u39 u40 u41 u42 u43 u44 hJ ?_
          clear hJ
          intro x17 x18 x19 x20 x21 x22 x23 x24 x25 x26 x27 x28 x29 x30 x31 x32 x33 x34 x35 x36 x37 x38 y0 y1 e h0 h1 h2 h3 h4 h5 h6 h7 h8 h11 h12 h13 h14 h15 h18 h19 h21 h22 w0 w1 w2 w3 w4 w5 w6 w7 w8 w9 w10 w11 w12 w13
          subst e
          have D2 : L.getD 2 false = true := hd ⟨2, .data⟩ (by simp) rfl
          obtain rfl := h2.out D2
          refine wpOp_step rfl (fun K hK => ?_)
          go_simp
          exact hK _ _ (scJV.mk_ _ _ _ _ _ _ _ _ _ _ _ _ _ _ _ _ _ _ x17 x18 _ _ x21 x22 x23 x24 x25 x26 x27 x28 x29 x30 x31 x32 x33 x34 x35 x36 x37 x38 y0 y1 rfl (hset h0 (by decide)) (hset h1 (by decide)) (Lib.hid (fun _ => rfl)) (Lib.hid (fun _ => rfl)) (hset h4 (by decide)) (hset h5 (by decide)) (hset h6 (by decide)) (hset h7 (by decide)) (hset h8 (by decide)) (hset h11 (by decide)) (hset h12 (by decide)) (hset h13 (by decide)) (hset h14 (by decide)) (hset h15 (by decide)) (hset h18 (by decide)) (hset h19 (by decide)) (hset h21 (by decide)) (hset h22 (by decide)) w0 w1 w2 w3 (Lib.hid (by have w := w4.out; simpa only [getD_set_ne false (show 3 ≠ 20 by decide)] using w)) (Lib.hid (by have w := w5.out; simpa only [getD_set_ne false (show 3 ≠ 23 by decide)] using w)) (Lib.hid (by have w := w6.out; simpa only [getD_set_ne false (show 3 ≠ 20 by decide)] using w)) (Lib.hid (by have w := w7.out; simpa only [getD_set_ne false (show 3 ≠ 23 by decide)] using w)) (Lib.hid (by have w := w8.out; simpa only [getD_set_ne false (show 3 ≠ 10 by decide)] using w)) (Lib.hid (by have w := w9.out; simpa only [getD_set_ne false (show 3 ≠ 17 by decide)] using w)) (Lib.hid (by have w := w10.out; simpa only [getD_set_ne false (show 3 ≠ 10 by decide)] using w)) (Lib.hid (by have w := w11.out; simpa only [getD_set_ne false (show 3 ≠ 17 by decide)] using w)) (Lib.hid (by have w := w12.out; simpa only [getD_set_ne false (show 3 ≠ 9 by decide), getD_set_ne false (show 3 ≠ 10 by decide)] using w)) (Lib.hid (by have w := w13.out; simpa only [getD_set_ne false (show 3 ≠ 16 by decide), getD_set_ne false (show 3 ≠ 17 by decide)] using w)))
        · -- 4
          intro L a W hL hu hcl hd hJ
          refine scJV.elim w wo l k b off c k1 k2 hlt A1 A2 u39 u40 u41 u42 u43 u44 hJ ?_
          clear hJ
          intro x17 x18 x19 x20 x21 x22 x23 x24 x25 x26 x27 x28 x29 x30 x31 x32 x33 x34 x35 x36 x37 x38 y0 y1 e h0 h1 h2 h3 h4 h5 h6 h7 h8 h11 h12 h13 h14 h15 h18 h19 h21 h22 w0 w1 w2 w3 w4 w5 w6 w7 w8 w9 w10 w11 w12 w13
          subst e
          have D3 : L.getD 3 false = true := hd ⟨3, .data⟩ (by simp) rfl
          obtain rfl := h3.out D3
          refine wpOp_step rfl (fun K hK => ?_)
          go_simp
          exact hK _ _ (scJV.mk_ _ _ _ _ _ _ _ _ _ _ _ _ _ _ _ _ _ _ x17 x18 x19 _ _ x22 x23 x24 x25 x26 x27 x28 x29 x30 x31 x32 x33 x34 x35 x36 x37 x38 y0 y1 rfl (hset h0 (by decide)) (hset h1 (by decide)) (hset h2 (by decide)) (Lib.hid (fun _ => rfl)) (Lib.hid (fun _ => rfl)) (hset h5 (by decide)) (hset h6 (by decide)) (hset h7 (by decide)) (hset h8 (by decide)) (hset h11 (by decide)) (hset h12 (by decide)) (hset h13 (by decide)) (hset h14 (by decide)) (hset h15 (by decide)) (hset h18 (by decide)) (hset h19 (by decide)) (hset h21 (by decide)) (hset h22 (by decide)) w0 w1 w2 w3 (Lib.hid (by have w := w4.out; simpa only [getD_set_ne false (show 4 ≠ 20 by decide)] using w)) (Lib.hid (by have w := w5.out; simpa only [getD_set_ne false (show 4 ≠ 23 by decide)] using w)) (Lib.hid (by have w := w6.out; simpa only [getD_set_ne false (show 4 ≠ 20 by decide)] using w)) (Lib.hid (by have w := w7.out; simpa only [getD_set_ne false (show 4 ≠ 23 by decide)] using w)) (Lib.hid (by have w := w8.out; simpa only [getD_set_ne false (show 4 ≠ 10 by decide)] using w)) (Lib.hid (by have w := w9.out; simpa only [getD_set_ne false (show 4 ≠ 17 by decide)] using w)) (Lib.hid (by have w := w10.out; simpa only [getD_set_ne false (show 4 ≠ 10 by decide)] using w)) (Lib.hid (by have w := w11.out; simpa only [getD_set_ne false (show 4 ≠ 17 by decide)] using w)) (Lib.hid (by have w := w12.out; simpa only [getD_set_ne false (show 4 ≠ 9 by decide), getD_set_ne false (show 4 ≠ 10 by decide)] using w)) (Lib.hid (by have w := w13.out; simpa only [getD_set_ne false (show 4 ≠ 16 by decide), getD_set_ne false (show 4 ≠ 17 by decide)] using w)))
        · -- 5
          intro L a W hL hu hcl hd hJ
          refine scJV.elim w wo l k b off c k1 k2 hlt A1 A2 u39 u40 u41 u42 u43 u44 hJ ?_
          clear hJ
          intro x17 x18 x19 x20 x21 x22 x23 x24 x25 x26 x27 x28 x29 x30 x31 x32 x33 x34 x35 x36 x37 x38 y0 y1 e h0 h1 h2 h3 h4 h5 h6 h7 h8 h11 h12 h13 h14 h15 h18 h19 h21 h22 w0 w1 w2 w3 w4 w5 w6 w7 w8 w9 w10 w11 w12 w13
          subst e
          have D4 : L.getD 4 false = true := hd ⟨4, .data⟩ (by simp) rfl
          obtain rfl := h4.out D4
          have hl : L.getD 20 false = false := by
            cases hl : L.getD 20 false with
            | false => rfl
            | true => exact absurd (hcl 20 _ rfl hl ⟨5, .phase⟩ (by simp) rfl) (by rw [hu]; decide)
          obtain rfl := w4.out hl
          have z := bk_cell w2.out 0
          simp at z
          refine wpOp_step rfl (fun K hK => ?_)
          go_simp
          exact hK _ _ (scJV.mk_ _ _ _ _ _ _ _ _ _ _ _ _ _ _ _ _ _ _ x17 x18 x19 x20 _ _ x23 x24 x25 x26 x27 x28 x29 x30 x31 x32 x33 x34 x35 x36 x37 x38 _ y1 rfl (hset h0 (by decide)) (hset h1 (by decide)) (hset h2 (by decide)) (hset h3 (by decide)) (Lib.hid (fun _ => rfl)) (Lib.hid (fun _ => rfl)) (hset h6 (by decide)) (hset h7 (by decide)) (hset h8 (by decide)) (hset h11 (by decide)) (hset h12 (by decide)) (hset h13 (by decide)) (hset h14 (by decide)) (hset h15 (by decide)) (hset h18 (by decide)) (hset h19 (by decide)) (hset h21 (by decide)) (hset h22 (by decide)) w0 w1 w2 w3 (Lib.hid (by have w := w4.out; simpa only [getD_set_ne false (show 5 ≠ 20 by decide)] using w)) (Lib.hid (by have w := w5.out; simpa only [getD_set_ne false (show 5 ≠ 23 by decide)] using w)) (Lib.hid (by have w := w6.out; simpa only [getD_set_ne false (show 5 ≠ 20 by decide)] using w)) (Lib.hid (by have w := w7.out; simpa only [getD_set_ne false (show 5 ≠ 23 by decide)] using w)) (Lib.hid (by have w := w8.out; simpa only [getD_set_ne false (show 5 ≠ 10 by decide)] using w)) (Lib.hid (by have w := w9.out; simpa only [getD_set_ne false (show 5 ≠ 17 by decide)] using w)) (Lib.hid (by have w := w10.out; simpa only [getD_set_ne false (show 5 ≠ 10 by decide)] using w)) (Lib.hid (by have w := w11.out; simpa only [getD_set_ne false (show 5 ≠ 17 by decide)] using w)) (Lib.hid (by have w := w12.out; simpa only [getD_set_ne false (show 5 ≠ 9 by decide), getD_set_ne false (show 5 ≠ 10 by decide)] using w)) (Lib.hid (by have w := w13.out; simpa only [getD_set_ne false (show 5 ≠ 16 by decide), getD_set_ne false (show 5 ≠ 17 by decide)] using w)))
        · -- 6
          intro L a W hL hu hcl hd hJ
          refine scJV.elim w wo l k b off c k1 k2 hlt A1 A2 u39 u40 u41 u42 u43 u44 hJ ?_
          clear hJ
          intro x17 x18 x19 x20 x21 x22 x23 x24 x25 x26 x27 x28 x29 x30 x31 x32 x33 x34 x35 x36 x37 x38 y0 y1 e h0 h1 h2 h3 h4 h5 h6 h7 h8 h11 h12 h13 h14 h15 h18 h19 h21 h22 w0 w1 w2 w3 w4 w5 w6 w7 w8 w9 w10 w11 w12 w13
          subst e
          refine wpOp_step rfl (fun K hK => ?_)
          go_simp
          exact hK _ _ (scJV.mk_ _ _ _ _ _ _ _ _ _ _ _ _ _ _ _ _ _ _ x17 x18 x19 x20 x21 x22 _ x24 x25 x26 x27 x28 x29 x30 x31 x32 x33 x34 x35 x36 x37 x38 y0 y1 rfl (hset h0 (by decide)) (hset h1 (by decide)) (hset h2 (by decide)) (hset h3 (by decide)) (hset h4 (by decide)) (hset h5 (by decide)) (Lib.hid (fun _ => rfl)) (hset h7 (by decide)) (hset h8 (by decide)) (hset h11 (by decide)) (hset h12 (by decide)) (hset h13 (by decide)) (hset h14 (by decide)) (hset h15 (by decide)) (hset h18 (by decide)) (hset h19 (by decide)) (hset h21 (by decide)) (hset h22 (by decide)) w0 w1 w2 w3 (Lib.hid (by have w := w4.out; simpa only [getD_set_ne false (show 6 ≠ 20 by decide)] using w)) (Lib.hid (by have w := w5.out; simpa only [getD_set_ne false (show 6 ≠ 23 by decide)] using w)) (Lib.hid (by have w := w6.out; simpa only [getD_set_ne false (show 6 ≠ 20 by decide)] using w)) (Lib.hid (by have w := w7.out; simpa only [getD_set_ne false (show 6 ≠ 23 by decide)] using w)) (Lib.hid (by have w := w8.out; simpa only [getD_set_ne false (show 6 ≠ 10 by decide)] using w)) (Lib.hid (by have w := w9.out; simpa only [getD_set_ne false (show 6 ≠ 17 by decide)] using w)) (Lib.hid (by have w := w10.out; simpa only [getD_set_ne false (show 6 ≠ 10 by decide)] using w)) (Lib.hid (by have w := w11.out; simpa only [getD_set_ne false (show 6 ≠ 17 by decide)] using w)) (Lib.hid (by have w := w12.out; simpa only [getD_set_ne false (show 6 ≠ 9 by decide), getD_set_ne false (show 6 ≠ 10 by decide)] using w)) (Lib.hid (by have w := w13.out; simpa only [getD_set_ne false (show 6 ≠ 16 by decide), getD_set_ne false (show 6 ≠ 17 by decide)] using w)))
        · -- 7
          intro L a W hL hu hcl hd hJ
          refine scJV.elim w wo l k b off c k1 k2 hlt A1 A2 u39 u40 u41 u42 u43 u44 hJ ?_
          clear hJ
          intro x17 x18 x19 x20 x21 x22 x23 x24 x25 x26 x27 x28 x29 x30 x31 x32 x33 x34 x35 x36 x37 x38 y0 y1 e h0 h1 h2 h3 h4 h5 h6 h7 h8 h11 h12 h13 h14 h15 h18 h19 h21 h22 w0 w1 w2 w3 w4 w5 w6 w7 w8 w9 w10 w11 w12 w13
          subst e
          have z0 := bk_cell w3.out 0
          have z1 := bk_cell w3.out 1
          have z2 := bk_cell w3.out 2
          simp at z0 z1 z2
          refine wpOp_step rfl (fun K hK => ?_)
          go_simp
          exact hK _ _ (scJV.mk_ _ _ _ _ _ _ _ _ _ _ _ _ _ _ _ _ _ _ x17 x18 x19 x20 x21 x22 x23 _ x25 x26 x27 x28 x29 x30 x31 x32 x33 x34 x35 x36 x37 x38 y0 y1 rfl (hset h0 (by decide)) (hset h1 (by decide)) (hset h2 (by decide)) (hset h3 (by decide)) (hset h4 (by decide)) (hset h5 (by decide)) (hset h6 (by decide)) (Lib.hid (fun _ => rfl)) (hset h8 (by decide)) (hset h11 (by decide)) (hset h12 (by decide)) (hset h13 (by decide)) (hset h14 (by decide)) (hset h15 (by decide)) (hset h18 (by decide)) (hset h19 (by decide)) (hset h21 (by decide)) (hset h22 (by decide)) w0 w1 w2 w3 (Lib.hid (by have w := w4.out; simpa only [getD_set_ne false (show 7 ≠ 20 by decide)] using w)) (Lib.hid (by have w := w5.out; simpa only [getD_set_ne false (show 7 ≠ 23 by decide)] using w)) (Lib.hid (by have w := w6.out; simpa only [getD_set_ne false (show 7 ≠ 20 by decide)] using w)) (Lib.hid (by have w := w7.out; simpa only [getD_set_ne false (show 7 ≠ 23 by decide)] using w)) (Lib.hid (by have w := w8.out; simpa only [getD_set_ne false (show 7 ≠ 10 by decide)] using w)) (Lib.hid (by have w := w9.out; simpa only [getD_set_ne false (show 7 ≠ 17 by decide)] using w)) (Lib.hid (by have w := w10.out; simpa only [getD_set_ne false (show 7 ≠ 10 by decide)] using w)) (Lib.hid (by have w := w11.out; simpa only [getD_set_ne false (show 7 ≠ 17 by decide)] using w)) (Lib.hid (by have w := w12.out; simpa only [getD_set_ne false (show 7 ≠ 9 by decide), getD_set_ne false (show 7 ≠ 10 by decide)] using w)) (Lib.hid (by have w := w13.out; simpa only [getD_set_ne false (show 7 ≠ 16 by decide), getD_set_ne false (show 7 ≠ 17 by decide)] using w)))
        · -- 8
          intro L a W hL hu hcl hd hJ
          refine scJV.elim w wo l k b off c k1 k2 hlt A1 A2 u39 u40 u41 u42 u43 u44 hJ ?_
          clear hJ
          intro x17 x18 x19 x20 x21 x22 x23 x24 x25 x26 x27 x28 x29 x30 x31 x32 x33 x34 x35 x36 x37 x38 y0 y1 e h0 h1 h2 h3 h4 h5 h6 h7 h8 h11 h12 h13 h14 h15 h18 h19 h21 h22 w0 w1 w2 w3 w4 w5 w6 w7 w8 w9 w10 w11 w12 w13
          subst e
          have D6 : L.getD 6 false = true := hd ⟨6, .data⟩ (by simp) rfl
          obtain rfl := h6.out D6
          have D7 : L.getD 7 false = true := hd ⟨7, .data⟩ (by simp) rfl
          obtain rfl := h7.out D7
          refine wpOp_step rfl (fun K hK => ?_)
          go_simp
          refine (volumeOf_any _ _ _ _).mono ?_
          rintro e' W1 ⟨rfl, hb1⟩
          exact hK _ _ (scJV.mk_ _ _ _ _ _ _ _ _ _ _ _ _ _ _ _ _ _ _ x17 x18 x19 x20 x21 x22 _ _ _ x26 x27 x28 x29 x30 x31 x32 x33 x34 x35 x36 x37 x38 y0 y1 rfl (hset h0 (by decide)) (hset h1 (by decide)) (hset h2 (by decide)) (hset h3 (by decide)) (hset h4 (by decide)) (hset h5 (by decide)) (Lib.hid (fun _ => rfl)) (Lib.hid (fun _ => rfl)) (Lib.hid (fun _ => rfl)) (hset h11 (by decide)) (hset h12 (by decide)) (hset h13 (by decide)) (hset h14 (by decide)) (hset h15 (by decide)) (hset h18 (by decide)) (hset h19 (by decide)) (hset h21 (by decide)) (hset h22 (by decide)) (Lib.hid (bl_then w0.out hb1)) (Lib.hid ((Nat.lt_of_lt_of_le w1.out (hb1).size))) (Lib.hid (bk_below w2.out hb1)) (Lib.hid (bk_below w3.out hb1)) (Lib.hid ((by simp only [getD_set_ne false (show 8 ≠ 20 by decide)]; exact w4.out))) (Lib.hid ((by simp only [getD_set_ne false (show 8 ≠ 23 by decide)]; exact w5.out))) (Lib.hid ((by simp only [getD_set_ne false (show 8 ≠ 20 by decide)]; exact w6.out))) (Lib.hid ((by simp only [getD_set_ne false (show 8 ≠ 23 by decide)]; exact w7.out))) (Lib.hid ((by simp only [getD_set_ne false (show 8 ≠ 10 by decide)]; exact fun hl => own_bel (w8.out hl) hb1))) (Lib.hid ((by simp only [getD_set_ne false (show 8 ≠ 17 by decide)]; exact fun hl => own_bel (w9.out hl) hb1))) (Lib.hid ((by simp only [getD_set_ne false (show 8 ≠ 10 by decide)]; exact fun hl => ⟨own_bel (w10.out hl).1 hb1, (w10.out hl).2⟩))) (Lib.hid ((by simp only [getD_set_ne false (show 8 ≠ 17 by decide)]; exact fun hl => ⟨own_bel (w11.out hl).1 hb1, (w11.out hl).2⟩))) (Lib.hid ((by simp only [getD_set_ne false (show 8 ≠ 9 by decide), getD_set_ne false (show 8 ≠ 10 by decide)]; exact fun hl hm => ⟨(w12.out hl hm).1.below hb1, (w12.out hl hm).2⟩))) (Lib.hid ((by simp only [getD_set_ne false (show 8 ≠ 16 by decide), getD_set_ne false (show 8 ≠ 17 by decide)]; exact fun hl hm => ⟨(w13.out hl hm).1.below hb1, (w13.out hl hm).2⟩))))
        · -- 9
          intro L a W hL hu hcl hd hJ
          refine scJV.elim w wo l k b off c k1 k2 hlt A1 A2 u39 u40 u41 u42 u43 u44 hJ ?_
          clear hJ
          intro x17 x18 x19 x20 x21 x22 x23 x24 x25 x26 x27 x28 x29 x30 x31 x32 x33 x34 x35 x36 x37 x38 y0 y1 e h0 h1 h2 h3 h4 h5 h6 h7 h8 h11 h12 h13 h14 h15 h18 h19 h21 h22 w0 w1 w2 w3 w4 w5 w6 w7 w8 w9 w10 w11 w12 w13
          subst e
          have D8 : L.getD 8 false = true := hd ⟨8, .data⟩ (by simp) rfl
          obtain rfl := h8.out D8
          refine wpOp_step rfl (fun K hK => ?_)
          go_simp
          have hb1 : Below W.heap.size W (W.alloc (.cells #[.int .i64 l[k].v] 222)) := bl_alloc (Below.refl _ _) _
          exact hK _ _ (scJV.mk_ _ _ _ _ _ _ _ _ _ _ _ _ _ _ _ _ _ _ x17 x18 x19 x20 x21 x22 x23 x24 _ _ x27 x28 x29 x30 x31 x32 x33 x34 x35 x36 x37 x38 y0 y1 rfl (hset h0 (by decide)) (hset h1 (by decide)) (hset h2 (by decide)) (hset h3 (by decide)) (hset h4 (by decide)) (hset h5 (by decide)) (hset h6 (by decide)) (hset h7 (by decide)) (Lib.hid (fun _ => rfl)) (hset h11 (by decide)) (hset h12 (by decide)) (hset h13 (by decide)) (hset h14 (by decide)) (hset h15 (by decide)) (hset h18 (by decide)) (hset h19 (by decide)) (hset h21 (by decide)) (hset h22 (by decide)) (Lib.hid (bl_then w0.out hb1)) (Lib.hid ((Nat.lt_of_lt_of_le w1.out (hb1).size))) (Lib.hid (bk_below w2.out hb1)) (Lib.hid (bk_below w3.out hb1)) (Lib.hid ((by simp only [getD_set_ne false (show 9 ≠ 20 by decide)]; exact w4.out))) (Lib.hid ((by simp only [getD_set_ne false (show 9 ≠ 23 by decide)]; exact w5.out))) (Lib.hid ((by simp only [getD_set_ne false (show 9 ≠ 20 by decide)]; exact w6.out))) (Lib.hid ((by simp only [getD_set_ne false (show 9 ≠ 23 by decide)]; exact w7.out))) (Lib.hid ((by simp only [getD_set_ne false (show 9 ≠ 10 by decide)]; exact fun hl => own_bel (w8.out hl) hb1))) (Lib.hid ((by simp only [getD_set_ne false (show 9 ≠ 17 by decide)]; exact fun hl => own_bel (w9.out hl) hb1))) (Lib.hid ((by simp only [getD_set_ne false (show 9 ≠ 10 by decide)]; exact fun hl => ⟨own_bel (w10.out hl).1 hb1, (w10.out hl).2⟩))) (Lib.hid ((by simp only [getD_set_ne false (show 9 ≠ 17 by decide)]; exact fun hl => ⟨own_bel (w11.out hl).1 hb1, (w11.out hl).2⟩))) (Lib.hid (fun _ _ => ⟨Sl.new1 inC_len W _ _ _ rfl, fun b hb => new_far w1.out hb⟩)) (Lib.hid ((by simp only [getD_set_ne false (show 9 ≠ 16 by decide), getD_set_ne false (show 9 ≠ 17 by decide)]; exact fun hl hm => ⟨(w13.out hl hm).1.below hb1, (w13.out hl hm).2⟩))))
        · -- 10
          intro L a W hL hu hcl hd hJ
          refine scJV.elim w wo l k b off c k1 k2 hlt A1 A2 u39 u40 u41 u42 u43 u44 hJ ?_
          clear hJ
          intro x17 x18 x19 x20 x21 x22 x23 x24 x25 x26 x27 x28 x29 x30 x31 x32 x33 x34 x35 x36 x37 x38 y0 y1 e h0 h1 h2 h3 h4 h5 h6 h7 h8 h11 h12 h13 h14 h15 h18 h19 h21 h22 w0 w1 w2 w3 w4 w5 w6 w7 w8 w9 w10 w11 w12 w13
          subst e
          have D5 : L.getD 5 false = true := hd ⟨5, .data⟩ (by simp) rfl
          obtain rfl := h5.out D5
          have D9 : L.getD 9 false = true := hd ⟨9, .data⟩ (by simp) rfl
          have D8 : L.getD 8 false = true := hd ⟨8, .chain⟩ (by simp) rfl
          obtain rfl := h8.out D8
          -- D8 D5 D9
          have hr : ∀ b, (Value.slice A1 k k1).ownBlock = some b → w.heap.size + 1 ≤ b ∧ b < wo.heap.size := fun b hb => ho1.lt b hb
          have a8 := w8.out hu
          obtain ⟨a12, b12⟩ := w12.out D9 hu
          refine wpOp_step rfl (fun K hK => ?_)
          refine step_app_own inC_len (by decide) inC_one rfl (.tmp 22) (.tmp 26) 277 rfl 222 _ 8 Tryz.underlying277 hI1 rfl (w.heap.size + 1) (.slice A1 k k1) k ((l.map Rn.v).take k) [l[k].v] (by simp; omega) rfl a8 _ rfl a12 (by have := w1.out; omega) (by simp; omega) (by simp; omega) ?_
          intro v' W1 hv' hg1 hat
          rw [take_snoc' (l.map Rn.v) k (by simpa using hlt) l[k].v (by simp)] at hv'
          have hno : ∀ hl : L.getD 17 false = true, False := fun hl => absurd (hcl 17 _ rfl hl ⟨10, .chain⟩ (by simp) rfl) (by rw [hu]; decide)
          simp only [Act.put, List.setIfInBounds_toArray, List.set_cons_zero, List.set_cons_succ]
          exact hK _ _ (scJV.mk_ _ _ _ _ _ _ _ _ _ _ _ _ _ _ _ _ _ _ x17 x18 x19 x20 x21 _ x23 x24 _ x26 _ x28 x29 x30 x31 x32 x33 x34 x35 x36 x37 x38 y0 y1 rfl (hset h0 (by decide)) (hset h1 (by decide)) (hset h2 (by decide)) (hset h3 (by decide)) (hset h4 (by decide)) (Lib.hid (fun _ => rfl)) (hset h6 (by decide)) (hset h7 (by decide)) (Lib.hid (fun _ => rfl)) (hset h11 (by decide)) (hset h12 (by decide)) (hset h13 (by decide)) (hset h14 (by decide)) (hset h15 (by decide)) (hset h18 (by decide)) (hset h19 (by decide)) (hset h21 (by decide)) (hset h22 (by decide)) (Lib.hid ((w0.out.grown hg1 w0.out.size (fun b hb => by have := hr b hb; omega)))) (Lib.hid ((Nat.lt_of_lt_of_le w1.out (hg1).size))) (Lib.hid (bk_grown w2.out hg1 (fun e => by have := hr _ e.symm; omega))) (Lib.hid (bk_grown w3.out hg1 (fun e => by have := hr _ e.symm; omega))) (Lib.hid ((by simp only [getD_set_ne false (show 10 ≠ 20 by decide)]; exact w4.out))) (Lib.hid ((by simp only [getD_set_ne false (show 10 ≠ 23 by decide)]; exact w5.out))) (Lib.hid ((fun hl => by rw [getD_set_ne false (by decide)] at hl; exact absurd (hcl 20 _ rfl hl ⟨10, .data⟩ (by simp) rfl) (by rw [hu]; decide)))) (Lib.hid ((by simp only [getD_set_ne false (show 10 ≠ 23 by decide)]; exact w7.out))) (Lib.hid ((fun hl => by rw [getD_set_eq false (by rw [hL]; decide)] at hl; cases hl))) (Lib.hid ((by simp only [getD_set_ne false (show 10 ≠ 17 by decide)]; exact fun hl => (w9.out hl).kept hg1 (own_ne_of (fun b h2 h1 => hne b h1 h2))))) (Lib.hid ((fun _ => ⟨hv', fun b hb => at_or hat w1.out hb⟩))) (Lib.hid ((fun hl => by rw [getD_set_ne false (by decide)] at hl; exact (hno hl).elim))) (Lib.hid ((fun _ hl => by rw [getD_set_eq false (by rw [hL]; decide)] at hl; cases hl))) (Lib.hid ((by simp only [getD_set_ne false (show 10 ≠ 16 by decide), getD_set_ne false (show 10 ≠ 17 by decide)]; exact fun hl hm => ⟨(w13.out hl hm).1.keep (fun _ b hb => hg1.block b (Sl.lt inC_len (by decide) (w13.out hl hm).1 (by simp) b hb) (fun e => by have := hr b e.symm; have := (w13.out hl hm).2 b hb; omega)), (w13.out hl hm).2⟩))))
        · -- 11
          intro L a W hL hu hcl hd hJ
          refine scJV.elim w wo l k b off c k1 k2 hlt A1 A2 u39 u40 u41 u42 u43 u44 hJ ?_
          clear hJ
          intro x17 x18 x19 x20 x21 x22 x23 x24 x25 x26 x27 x28 x29 x30 x31 x32 x33 x34 x35 x36 x37 x38 y0 y1 e h0 h1 h2 h3 h4 h5 h6 h7 h8 h11 h12 h13 h14 h15 h18 h19 h21 h22 w0 w1 w2 w3 w4 w5 w6 w7 w8 w9 w10 w11 w12 w13
          subst e
          refine wpOp_step rfl (fun K hK => ?_)
          go_simp
          exact hK _ _ (scJV.mk_ _ _ _ _ _ _ _ _ _ _ _ _ _ _ _ _ _ _ x17 x18 x19 x20 x21 x22 x23 x24 x25 x26 x27 _ x29 x30 x31 x32 x33 x34 x35 x36 x37 x38 y0 y1 rfl (hset h0 (by decide)) (hset h1 (by decide)) (hset h2 (by decide)) (hset h3 (by decide)) (hset h4 (by decide)) (hset h5 (by decide)) (hset h6 (by decide)) (hset h7 (by decide)) (hset h8 (by decide)) (Lib.hid (fun _ => rfl)) (hset h12 (by decide)) (hset h13 (by decide)) (hset h14 (by decide)) (hset h15 (by decide)) (hset h18 (by decide)) (hset h19 (by decide)) (hset h21 (by decide)) (hset h22 (by decide)) w0 w1 w2 w3 (Lib.hid (by have w := w4.out; simpa only [getD_set_ne false (show 11 ≠ 20 by decide)] using w)) (Lib.hid (by have w := w5.out; simpa only [getD_set_ne false (show 11 ≠ 23 by decide)] using w)) (Lib.hid (by have w := w6.out; simpa only [getD_set_ne false (show 11 ≠ 20 by decide)] using w)) (Lib.hid (by have w := w7.out; simpa only [getD_set_ne false (show 11 ≠ 23 by decide)] using w)) (Lib.hid (by have w := w8.out; simpa only [getD_set_ne false (show 11 ≠ 10 by decide)] using w)) (Lib.hid (by have w := w9.out; simpa only [getD_set_ne false (show 11 ≠ 17 by decide)] using w)) (Lib.hid (by have w := w10.out; simpa only [getD_set_ne false (show 11 ≠ 10 by decide)] using w)) (Lib.hid (by have w := w11.out; simpa only [getD_set_ne false (show 11 ≠ 17 by decide)] using w)) (Lib.hid (by have w := w12.out; simpa only [getD_set_ne false (show 11 ≠ 9 by decide), getD_set_ne false (show 11 ≠ 10 by decide)] using w)) (Lib.hid (by have w := w13.out; simpa only [getD_set_ne false (show 11 ≠ 16 by decide), getD_set_ne false (show 11 ≠ 17 by decide)] using w)))
        · -- 12
          intro L a W hL hu hcl hd hJ
          refine scJV.elim w wo l k b off c k1 k2 hlt A1 A2 u39 u40 u41 u42 u43 u44 hJ ?_
          clear hJ
          intro x17 x18 x19 x20 x21 x22 x23 x24 x25 x26 x27 x28 x29 x30 x31 x32 x33 x34 x35 x36 x37 x38 y0 y1 e h0 h1 h2 h3 h4 h5 h6 h7 h8 h11 h12 h13 h14 h15 h18 h19 h21 h22 w0 w1 w2 w3 w4 w5 w6 w7 w8 w9 w10 w11 w12 w13
          subst e
          have D11 : L.getD 11 false = true := hd ⟨11, .data⟩ (by simp) rfl
          obtain rfl := h11.out D11
          refine wpOp_step rfl (fun K hK => ?_)
          go_simp
          exact hK _ _ (scJV.mk_ _ _ _ _ _ _ _ _ _ _ _ _ _ _ _ _ _ _ x17 x18 x19 x20 x21 x22 x23 x24 x25 x26 x27 _ _ x30 x31 x32 x33 x34 x35 x36 x37 x38 y0 y1 rfl (hset h0 (by decide)) (hset h1 (by decide)) (hset h2 (by decide)) (hset h3 (by decide)) (hset h4 (by decide)) (hset h5 (by decide)) (hset h6 (by decide)) (hset h7 (by decide)) (hset h8 (by decide)) (Lib.hid (fun _ => rfl)) (Lib.hid (fun _ => rfl)) (hset h13 (by decide)) (hset h14 (by decide)) (hset h15 (by decide)) (hset h18 (by decide)) (hset h19 (by decide)) (hset h21 (by decide)) (hset h22 (by decide)) w0 w1 w2 w3 (Lib.hid (by have w := w4.out; simpa only [getD_set_ne false (show 12 ≠ 20 by decide)] using w)) (Lib.hid (by have w := w5.out; simpa only [getD_set_ne false (show 12 ≠ 23 by decide)] using w)) (Lib.hid (by have w := w6.out; simpa only [getD_set_ne false (show 12 ≠ 20 by decide)] using w)) (Lib.hid (by have w := w7.out; simpa only [getD_set_ne false (show 12 ≠ 23 by decide)] using w)) (Lib.hid (by have w := w8.out; simpa only [getD_set_ne false (show 12 ≠ 10 by decide)] using w)) (Lib.hid (by have w := w9.out; simpa only [getD_set_ne false (show 12 ≠ 17 by decide)] using w)) (Lib.hid (by have w := w10.out; simpa only [getD_set_ne false (show 12 ≠ 10 by decide)] using w)) (Lib.hid (by have w := w11.out; simpa only [getD_set_ne false (show 12 ≠ 17 by decide)] using w)) (Lib.hid (by have w := w12.out; simpa only [getD_set_ne false (show 12 ≠ 9 by decide), getD_set_ne false (show 12 ≠ 10 by decide)] using w)) (Lib.hid (by have w := w13.out; simpa only [getD_set_ne false (show 12 ≠ 16 by decide), getD_set_ne false (show 12 ≠ 17 by decide)] using w)))
        · -- 13
          intro L a W hL hu hcl hd hJ
          refine scJV.elim w wo l k b off c k1 k2 hlt A1 A2 u39 u40 u41 u42 u43 u44 hJ ?_
          clear hJ
          intro x17 x18 x19 x20 x21 x22 x23 x24 x25 x26 x27 x28 x29 x30 x31 x32 x33 x34 x35 x36 x37 x38 y0 y1 e h0 h1 h2 h3 h4 h5 h6 h7 h8 h11 h12 h13 h14 h15 h18 h19 h21 h22 w0 w1 w2 w3 w4 w5 w6 w7 w8 w9 w10 w11 w12 w13
          subst e
          have D12 : L.getD 12 false = true := hd ⟨12, .data⟩ (by simp) rfl
          obtain rfl := h12.out D12
          refine wpOp_step rfl (fun K hK => ?_)
          go_simp
          exact hK _ _ (scJV.mk_ _ _ _ _ _ _ _ _ _ _ _ _ _ _ _ _ _ _ x17 x18 x19 x20 x21 x22 x23 x24 x25 x26 x27 x28 _ _ x31 x32 x33 x34 x35 x36 x37 x38 y0 y1 rfl (hset h0 (by decide)) (hset h1 (by decide)) (hset h2 (by decide)) (hset h3 (by decide)) (hset h4 (by decide)) (hset h5 (by decide)) (hset h6 (by decide)) (hset h7 (by decide)) (hset h8 (by decide)) (hset h11 (by decide)) (Lib.hid (fun _ => rfl)) (Lib.hid (fun _ => rfl)) (hset h14 (by decide)) (hset h15 (by decide)) (hset h18 (by decide)) (hset h19 (by decide)) (hset h21 (by decide)) (hset h22 (by decide)) w0 w1 w2 w3 (Lib.hid (by have w := w4.out; simpa only [getD_set_ne false (show 13 ≠ 20 by decide)] using w)) (Lib.hid (by have w := w5.out; simpa only [getD_set_ne false (show 13 ≠ 23 by decide)] using w)) (Lib.hid (by have w := w6.out; simpa only [getD_set_ne false (show 13 ≠ 20 by decide)] using w)) (Lib.hid (by have w := w7.out; simpa only [getD_set_ne false (show 13 ≠ 23 by decide)] using w)) (Lib.hid (by have w := w8.out; simpa only [getD_set_ne false (show 13 ≠ 10 by decide)] using w)) (Lib.hid (by have w := w9.out; simpa only [getD_set_ne false (show 13 ≠ 17 by decide)] using w)) (Lib.hid (by have w := w10.out; simpa only [getD_set_ne false (show 13 ≠ 10 by decide)] using w)) (Lib.hid (by have w := w11.out; simpa only [getD_set_ne false (show 13 ≠ 17 by decide)] using w)) (Lib.hid (by have w := w12.out; simpa only [getD_set_ne false (show 13 ≠ 9 by decide), getD_set_ne false (show 13 ≠ 10 by decide)] using w)) (Lib.hid (by have w := w13.out; simpa only [getD_set_ne false (show 13 ≠ 16 by decide), getD_set_ne false (show 13 ≠ 17 by decide)] using w)))
        · -- 14
          intro L a W hL hu hcl hd hJ
          refine scJV.elim w wo l k b off c k1 k2 hlt A1 A2 u39 u40 u41 u42 u43 u44 hJ ?_
          clear hJ
          intro x17 x18 x19 x20 x21 x22 x23 x24 x25 x26 x27 x28 x29 x30 x31 x32 x33 x34 x35 x36 x37 x38 y0 y1 e h0 h1 h2 h3 h4 h5 h6 h7 h8 h11 h12 h13 h14 h15 h18 h19 h21 h22 w0 w1 w2 w3 w4 w5 w6 w7 w8 w9 w10 w11 w12 w13
          subst e
          have D13 : L.getD 13 false = true := hd ⟨13, .data⟩ (by simp) rfl
          obtain rfl := h13.out D13
          have hl : L.getD 23 false = false := by
            cases hl : L.getD 23 false with
            | false => rfl
            | true => exact absurd (hcl 23 _ rfl hl ⟨14, .phase⟩ (by simp) rfl) (by rw [hu]; decide)
          obtain rfl := w5.out hl
          have z := bk_cell w2.out 1
          simp at z
          refine wpOp_step rfl (fun K hK => ?_)
          go_simp
          exact hK _ _ (scJV.mk_ _ _ _ _ _ _ _ _ _ _ _ _ _ _ _ _ _ _ x17 x18 x19 x20 x21 x22 x23 x24 x25 x26 x27 x28 x29 _ _ x32 x33 x34 x35 x36 x37 x38 y0 _ rfl (hset h0 (by decide)) (hset h1 (by decide)) (hset h2 (by decide)) (hset h3 (by decide)) (hset h4 (by decide)) (hset h5 (by decide)) (hset h6 (by decide)) (hset h7 (by decide)) (hset h8 (by decide)) (hset h11 (by decide)) (hset h12 (by decide)) (Lib.hid (fun _ => rfl)) (Lib.hid (fun _ => rfl)) (hset h15 (by decide)) (hset h18 (by decide)) (hset h19 (by decide)) (hset h21 (by decide)) (hset h22 (by decide)) w0 w1 w2 w3 (Lib.hid (by have w := w4.out; simpa only [getD_set_ne false (show 14 ≠ 20 by decide)] using w)) (Lib.hid (by have w := w5.out; simpa only [getD_set_ne false (show 14 ≠ 23 by decide)] using w)) (Lib.hid (by have w := w6.out; simpa only [getD_set_ne false (show 14 ≠ 20 by decide)] using w)) (Lib.hid (by have w := w7.out; simpa only [getD_set_ne false (show 14 ≠ 23 by decide)] using w)) (Lib.hid (by have w := w8.out; simpa only [getD_set_ne false (show 14 ≠ 10 by decide)] using w)) (Lib.hid (by have w := w9.out; simpa only [getD_set_ne false (show 14 ≠ 17 by decide)] using w)) (Lib.hid (by have w := w10.out; simpa only [getD_set_ne false (show 14 ≠ 10 by decide)] using w)) (Lib.hid (by have w := w11.out; simpa only [getD_set_ne false (show 14 ≠ 17 by decide)] using w)) (Lib.hid (by have w := w12.out; simpa only [getD_set_ne false (show 14 ≠ 9 by decide), getD_set_ne false (show 14 ≠ 10 by decide)] using w)) (Lib.hid (by have w := w13.out; simpa only [getD_set_ne false (show 14 ≠ 16 by decide), getD_set_ne false (show 14 ≠ 17 by decide)] using w)))
        · -- 15
          intro L a W hL hu hcl hd hJ
          refine scJV.elim w wo l k b off c k1 k2 hlt A1 A2 u39 u40 u41 u42 u43 u44 hJ ?_
          clear hJ
          intro x17 x18 x19 x20 x21 x22 x23 x24 x25 x26 x27 x28 x29 x30 x31 x32 x33 x34 x35 x36 x37 x38 y0 y1 e h0 h1 h2 h3 h4 h5 h6 h7 h8 h11 h12 h13 h14 h15 h18 h19 h21 h22 w0 w1 w2 w3 w4 w5 w6 w7 w8 w9 w10 w11 w12 w13
          subst e
          refine wpOp_step rfl (fun K hK => ?_)
          go_simp
          exact hK _ _ (scJV.mk_ _ _ _ _ _ _ _ _ _ _ _ _ _ _ _ _ _ _ x17 x18 x19 x20 x21 x22 x23 x24 x25 x26 x27 x28 x29 x30 x31 _ x33 x34 x35 x36 x37 x38 y0 y1 rfl (hset h0 (by decide)) (hset h1 (by decide)) (hset h2 (by decide)) (hset h3 (by decide)) (hset h4 (by decide)) (hset h5 (by decide)) (hset h6 (by decide)) (hset h7 (by decide)) (hset h8 (by decide)) (hset h11 (by decide)) (hset h12 (by decide)) (hset h13 (by decide)) (hset h14 (by decide)) (Lib.hid (fun _ => rfl)) (hset h18 (by decide)) (hset h19 (by decide)) (hset h21 (by decide)) (hset h22 (by decide)) w0 w1 w2 w3 (Lib.hid (by have w := w4.out; simpa only [getD_set_ne false (show 15 ≠ 20 by decide)] using w)) (Lib.hid (by have w := w5.out; simpa only [getD_set_ne false (show 15 ≠ 23 by decide)] using w)) (Lib.hid (by have w := w6.out; simpa only [getD_set_ne false (show 15 ≠ 20 by decide)] using w)) (Lib.hid (by have w := w7.out; simpa only [getD_set_ne false (show 15 ≠ 23 by decide)] using w)) (Lib.hid (by have w := w8.out; simpa only [getD_set_ne false (show 15 ≠ 10 by decide)] using w)) (Lib.hid (by have w := w9.out; simpa only [getD_set_ne false (show 15 ≠ 17 by decide)] using w)) (Lib.hid (by have w := w10.out; simpa only [getD_set_ne false (show 15 ≠ 10 by decide)] using w)) (Lib.hid (by have w := w11.out; simpa only [getD_set_ne false (show 15 ≠ 17 by decide)] using w)) (Lib.hid (by have w := w12.out; simpa only [getD_set_ne false (show 15 ≠ 9 by decide), getD_set_ne false (show 15 ≠ 10 by decide)] using w)) (Lib.hid (by have w := w13.out; simpa only [getD_set_ne false (show 15 ≠ 16 by decide), getD_set_ne false (show 15 ≠ 17 by decide)] using w)))
        · -- 16
          intro L a W hL hu hcl hd hJ
          refine scJV.elim w wo l k b off c k1 k2 hlt A1 A2 u39 u40 u41 u42 u43 u44 hJ ?_
          clear hJ
          intro x17 x18 x19 x20 x21 x22 x23 x24 x25 x26 x27 x28 x29 x30 x31 x32 x33 x34 x35 x36 x37 x38 y0 y1 e h0 h1 h2 h3 h4 h5 h6 h7 h8 h11 h12 h13 h14 h15 h18 h19 h21 h22 w0 w1 w2 w3 w4 w5 w6 w7 w8 w9 w10 w11 w12 w13
          subst e
          have D15 : L.getD 15 false = true := hd ⟨15, .data⟩ (by simp) rfl
          obtain rfl := h15.out D15
          refine wpOp_step rfl (fun K hK => ?_)
          go_simp
          have hb1 : Below W.heap.size W (W.alloc (.cells #[.int .i64 (sumTo (l.map Rn.v) k)] 222)) := bl_alloc (Below.refl _ _) _
          exact hK _ _ (scJV.mk_ _ _ _ _ _ _ _ _ _ _ _ _ _ _ _ _ _ _ x17 x18 x19 x20 x21 x22 x23 x24 x25 x26 x27 x28 x29 x30 x31 _ _ x34 x35 x36 x37 x38 y0 y1 rfl (hset h0 (by decide)) (hset h1 (by decide)) (hset h2 (by decide)) (hset h3 (by decide)) (hset h4 (by decide)) (hset h5 (by decide)) (hset h6 (by decide)) (hset h7 (by decide)) (hset h8 (by decide)) (hset h11 (by decide)) (hset h12 (by decide)) (hset h13 (by decide)) (hset h14 (by decide)) (Lib.hid (fun _ => rfl)) (hset h18 (by decide)) (hset h19 (by decide)) (hset h21 (by decide)) (hset h22 (by decide)) (Lib.hid (bl_then w0.out hb1)) (Lib.hid ((Nat.lt_of_lt_of_le w1.out (hb1).size))) (Lib.hid (bk_below w2.out hb1)) (Lib.hid (bk_below w3.out hb1)) (Lib.hid ((by simp only [getD_set_ne false (show 16 ≠ 20 by decide)]; exact w4.out))) (Lib.hid ((by simp only [getD_set_ne false (show 16 ≠ 23 by decide)]; exact w5.out))) (Lib.hid ((by simp only [getD_set_ne false (show 16 ≠ 20 by decide)]; exact w6.out))) (Lib.hid ((by simp only [getD_set_ne false (show 16 ≠ 23 by decide)]; exact w7.out))) (Lib.hid ((by simp only [getD_set_ne false (show 16 ≠ 10 by decide)]; exact fun hl => own_bel (w8.out hl) hb1))) (Lib.hid ((by simp only [getD_set_ne false (show 16 ≠ 17 by decide)]; exact fun hl => own_bel (w9.out hl) hb1))) (Lib.hid ((by simp only [getD_set_ne false (show 16 ≠ 10 by decide)]; exact fun hl => ⟨own_bel (w10.out hl).1 hb1, (w10.out hl).2⟩))) (Lib.hid ((by simp only [getD_set_ne false (show 16 ≠ 17 by decide)]; exact fun hl => ⟨own_bel (w11.out hl).1 hb1, (w11.out hl).2⟩))) (Lib.hid ((by simp only [getD_set_ne false (show 16 ≠ 9 by decide), getD_set_ne false (show 16 ≠ 10 by decide)]; exact fun hl hm => ⟨(w12.out hl hm).1.below hb1, (w12.out hl hm).2⟩))) (Lib.hid (fun _ _ => ⟨Sl.new1 inC_len W _ _ _ rfl, fun b hb => new_far w1.out hb⟩)))
        · -- 17
          intro L a W hL hu hcl hd hJ
          refine scJV.elim w wo l k b off c k1 k2 hlt A1 A2 u39 u40 u41 u42 u43 u44 hJ ?_
          clear hJ
          intro x17 x18 x19 x20 x21 x22 x23 x24 x25 x26 x27 x28 x29 x30 x31 x32 x33 x34 x35 x36 x37 x38 y0 y1 e h0 h1 h2 h3 h4 h5 h6 h7 h8 h11 h12 h13 h14 h15 h18 h19 h21 h22 w0 w1 w2 w3 w4 w5 w6 w7 w8 w9 w10 w11 w12 w13
          subst e
          have D14 : L.getD 14 false = true := hd ⟨14, .data⟩ (by simp) rfl
          obtain rfl := h14.out D14
          have D16 : L.getD 16 false = true := hd ⟨16, .data⟩ (by simp) rfl
          have D10 : L.getD 10 false = true := hd ⟨10, .chain⟩ (by simp) rfl
          -- D10 D14 D16
          have hr : ∀ b, (Value.slice A2 k k2).ownBlock = some b → w.heap.size + 1 ≤ b ∧ b < wo.heap.size := fun b hb => ho2.lt b hb
          have a9 := w9.out hu
          obtain ⟨a13, b13⟩ := w13.out D16 hu
          obtain ⟨a10, b10⟩ := w10.out D10
          refine wpOp_step rfl (fun K hK => ?_)
          refine step_app_own inC_len (by decide) inC_one rfl (.tmp 31) (.tmp 33) 277 rfl 222 _ 8 Tryz.underlying277 hI1 rfl (w.heap.size + 1) (.slice A2 k k2) k (sums (l.map Rn.v) k) [sumTo (l.map Rn.v) k] (by simp [sums]) rfl a9 _ rfl a13 (by have := w1.out; omega) (by simp; omega) (by simp; omega) ?_
          intro v' W1 hv' hg1 hat
          rw [← sums_snoc] at hv'
          have hap : ∀ b, x27.ownBlock = some b → (Value.slice A2 k k2).ownBlock ≠ some b := fun b hb e => by
            rcases b10 b hb with h | h
            · exact hne b h e
            · have := hr b e; omega
          simp only [Act.put, List.setIfInBounds_toArray, List.set_cons_zero, List.set_cons_succ]
          exact hK _ _ (scJV.mk_ _ _ _ _ _ _ _ _ _ _ _ _ _ _ _ _ _ _ x17 x18 x19 x20 x21 x22 x23 x24 x25 x26 x27 x28 x29 x30 _ x32 x33 _ x35 x36 x37 x38 y0 y1 rfl (hset h0 (by decide)) (hset h1 (by decide)) (hset h2 (by decide)) (hset h3 (by decide)) (hset h4 (by decide)) (hset h5 (by decide)) (hset h6 (by decide)) (hset h7 (by decide)) (hset h8 (by decide)) (hset h11 (by decide)) (hset h12 (by decide)) (hset h13 (by decide)) (Lib.hid (fun _ => rfl)) (hset h15 (by decide)) (hset h18 (by decide)) (hset h19 (by decide)) (hset h21 (by decide)) (hset h22 (by decide)) (Lib.hid ((w0.out.grown hg1 w0.out.size (fun b hb => by have := hr b hb; omega)))) (Lib.hid ((Nat.lt_of_lt_of_le w1.out (hg1).size))) (Lib.hid (bk_grown w2.out hg1 (fun e => by have := hr _ e.symm; omega))) (Lib.hid (bk_grown w3.out hg1 (fun e => by have := hr _ e.symm; omega))) (Lib.hid ((by simp only [getD_set_ne false (show 17 ≠ 20 by decide)]; exact w4.out))) (Lib.hid ((by simp only [getD_set_ne false (show 17 ≠ 23 by decide)]; exact w5.out))) (Lib.hid ((by simp only [getD_set_ne false (show 17 ≠ 20 by decide)]; exact w6.out))) (Lib.hid ((fun hl => by rw [getD_set_ne false (by decide)] at hl; exact absurd (hcl 23 _ rfl hl ⟨17, .data⟩ (by simp) rfl) (by rw [hu]; decide)))) (Lib.hid ((fun hl => by rw [getD_set_ne false (by decide), D10] at hl; cases hl))) (Lib.hid ((fun hl => by rw [getD_set_eq false (by rw [hL]; decide)] at hl; cases hl))) (Lib.hid ((fun _ => ⟨a10.kept hg1 (own_ne_of hap), b10⟩))) (Lib.hid ((fun _ => ⟨hv', fun b hb => at_apart hat hap (fun b hx => (a10.lt b hx).2) hb⟩))) (Lib.hid ((fun _ hl => by rw [getD_set_ne false (by decide), D10] at hl; cases hl))) (Lib.hid ((fun _ hl => by rw [getD_set_eq false (by rw [hL]; decide)] at hl; cases hl))))
        · -- 18
          intro L a W hL hu hcl hd hJ
          refine scJV.elim w wo l k b off c k1 k2 hlt A1 A2 u39 u40 u41 u42 u43 u44 hJ ?_
          clear hJ
          intro x17 x18 x19 x20 x21 x22 x23 x24 x25 x26 x27 x28 x29 x30 x31 x32 x33 x34 x35 x36 x37 x38 y0 y1 e h0 h1 h2 h3 h4 h5 h6 h7 h8 h11 h12 h13 h14 h15 h18 h19 h21 h22 w0 w1 w2 w3 w4 w5 w6 w7 w8 w9 w10 w11 w12 w13
          subst e
          have D0 : L.getD 0 false = true := hd ⟨0, .data⟩ (by simp) rfl
          obtain rfl := h0.out D0
          refine wpOp_step rfl (fun K hK => ?_)
          go_simp
          exact hK _ _ (scJV.mk_ _ _ _ _ _ _ _ _ _ _ _ _ _ _ _ _ _ _ _ x18 x19 x20 x21 x22 x23 x24 x25 x26 x27 x28 x29 x30 x31 x32 x33 x34 _ x36 x37 x38 y0 y1 rfl (Lib.hid (fun _ => rfl)) (hset h1 (by decide)) (hset h2 (by decide)) (hset h3 (by decide)) (hset h4 (by decide)) (hset h5 (by decide)) (hset h6 (by decide)) (hset h7 (by decide)) (hset h8 (by decide)) (hset h11 (by decide)) (hset h12 (by decide)) (hset h13 (by decide)) (hset h14 (by decide)) (hset h15 (by decide)) (Lib.hid (fun _ => rfl)) (hset h19 (by decide)) (hset h21 (by decide)) (hset h22 (by decide)) w0 w1 w2 w3 (Lib.hid (by have w := w4.out; simpa only [getD_set_ne false (show 18 ≠ 20 by decide)] using w)) (Lib.hid (by have w := w5.out; simpa only [getD_set_ne false (show 18 ≠ 23 by decide)] using w)) (Lib.hid (by have w := w6.out; simpa only [getD_set_ne false (show 18 ≠ 20 by decide)] using w)) (Lib.hid (by have w := w7.out; simpa only [getD_set_ne false (show 18 ≠ 23 by decide)] using w)) (Lib.hid (by have w := w8.out; simpa only [getD_set_ne false (show 18 ≠ 10 by decide)] using w)) (Lib.hid (by have w := w9.out; simpa only [getD_set_ne false (show 18 ≠ 17 by decide)] using w)) (Lib.hid (by have w := w10.out; simpa only [getD_set_ne false (show 18 ≠ 10 by decide)] using w)) (Lib.hid (by have w := w11.out; simpa only [getD_set_ne false (show 18 ≠ 17 by decide)] using w)) (Lib.hid (by have w := w12.out; simpa only [getD_set_ne false (show 18 ≠ 9 by decide), getD_set_ne false (show 18 ≠ 10 by decide)] using w)) (Lib.hid (by have w := w13.out; simpa only [getD_set_ne false (show 18 ≠ 16 by decide), getD_set_ne false (show 18 ≠ 17 by decide)] using w)))
        · -- 19
          intro L a W hL hu hcl hd hJ
          refine scJV.elim w wo l k b off c k1 k2 hlt A1 A2 u39 u40 u41 u42 u43 u44 hJ ?_
          clear hJ
          intro x17 x18 x19 x20 x21 x22 x23 x24 x25 x26 x27 x28 x29 x30 x31 x32 x33 x34 x35 x36 x37 x38 y0 y1 e h0 h1 h2 h3 h4 h5 h6 h7 h8 h11 h12 h13 h14 h15 h18 h19 h21 h22 w0 w1 w2 w3 w4 w5 w6 w7 w8 w9 w10 w11 w12 w13
          subst e
          have D18 : L.getD 18 false = true := hd ⟨18, .data⟩ (by simp) rfl
          obtain rfl := h18.out D18
          refine wpOp_step rfl (fun K hK => ?_)
          go_simp
          exact hK _ _ (scJV.mk_ _ _ _ _ _ _ _ _ _ _ _ _ _ _ _ _ _ _ x17 x18 x19 x20 x21 x22 x23 x24 x25 x26 x27 x28 x29 x30 x31 x32 x33 x34 _ _ x37 x38 y0 y1 rfl (hset h0 (by decide)) (hset h1 (by decide)) (hset h2 (by decide)) (hset h3 (by decide)) (hset h4 (by decide)) (hset h5 (by decide)) (hset h6 (by decide)) (hset h7 (by decide)) (hset h8 (by decide)) (hset h11 (by decide)) (hset h12 (by decide)) (hset h13 (by decide)) (hset h14 (by decide)) (hset h15 (by decide)) (Lib.hid (fun _ => rfl)) (Lib.hid (fun _ => rfl)) (hset h21 (by decide)) (hset h22 (by decide)) w0 w1 w2 w3 (Lib.hid (by have w := w4.out; simpa only [getD_set_ne false (show 19 ≠ 20 by decide)] using w)) (Lib.hid (by have w := w5.out; simpa only [getD_set_ne false (show 19 ≠ 23 by decide)] using w)) (Lib.hid (by have w := w6.out; simpa only [getD_set_ne false (show 19 ≠ 20 by decide)] using w)) (Lib.hid (by have w := w7.out; simpa only [getD_set_ne false (show 19 ≠ 23 by decide)] using w)) (Lib.hid (by have w := w8.out; simpa only [getD_set_ne false (show 19 ≠ 10 by decide)] using w)) (Lib.hid (by have w := w9.out; simpa only [getD_set_ne false (show 19 ≠ 17 by decide)] using w)) (Lib.hid (by have w := w10.out; simpa only [getD_set_ne false (show 19 ≠ 10 by decide)] using w)) (Lib.hid (by have w := w11.out; simpa only [getD_set_ne false (show 19 ≠ 17 by decide)] using w)) (Lib.hid (by have w := w12.out; simpa only [getD_set_ne false (show 19 ≠ 9 by decide), getD_set_ne false (show 19 ≠ 10 by decide)] using w)) (Lib.hid (by have w := w13.out; simpa only [getD_set_ne false (show 19 ≠ 16 by decide), getD_set_ne false (show 19 ≠ 17 by decide)] using w)))
        · -- 20
          intro L a W hL hu hcl hd hJ
          refine scJV.elim w wo l k b off c k1 k2 hlt A1 A2 u39 u40 u41 u42 u43 u44 hJ ?_
          clear hJ
          intro x17 x18 x19 x20 x21 x22 x23 x24 x25 x26 x27 x28 x29 x30 x31 x32 x33 x34 x35 x36 x37 x38 y0 y1 e h0 h1 h2 h3 h4 h5 h6 h7 h8 h11 h12 h13 h14 h15 h18 h19 h21 h22 w0 w1 w2 w3 w4 w5 w6 w7 w8 w9 w10 w11 w12 w13
          subst e
          have D19 : L.getD 19 false = true := hd ⟨19, .data⟩ (by simp) rfl
          obtain rfl := h19.out D19
          have D10 : L.getD 10 false = true := hd ⟨10, .data⟩ (by simp) rfl
          have D17 : L.getD 17 false = true := hd ⟨17, .chain⟩ (by simp) rfl
          -- D19 D10 D17 GONE27
          obtain ⟨A3, k3, rfl⟩ := own_sl (w10.out D10).1
          have z := bk_cell w2.out 0
          have z' := bk_fro w2.out 0
          simp at z
          refine wpOp_step rfl (fun K hK => ?_)
          go_simp
          exact hK _ _ (scJV.mk_ _ _ _ _ _ _ _ _ _ _ _ _ _ _ _ _ _ _ x17 x18 x19 x20 x21 x22 x23 x24 x25 x26 _ x28 x29 x30 x31 x32 x33 x34 x35 _ x37 x38 _ y1 rfl (hset h0 (by decide)) (hset h1 (by decide)) (hset h2 (by decide)) (hset h3 (by decide)) (hset h4 (by decide)) (hset h5 (by decide)) (hset h6 (by decide)) (hset h7 (by decide)) (hset h8 (by decide)) (hset h11 (by decide)) (hset h12 (by decide)) (hset h13 (by decide)) (hset h14 (by decide)) (hset h15 (by decide)) (hset h18 (by decide)) (Lib.hid (fun _ => rfl)) (hset h21 (by decide)) (hset h22 (by decide)) (Lib.hid (bl_set w0.out (Nat.le_refl _) _)) (Lib.hid ((by rw [World.size_setCell]; exact w1.out))) (Lib.hid (bk_put1 w2.out 0 _ rfl)) (Lib.hid (bk_far w3.out (p := ⟨w.heap.size, 0, none⟩) (by simp; omega) _)) (Lib.hid ((fun hl => by rw [getD_set_eq false (by rw [hL]; decide)] at hl; cases hl))) (Lib.hid ((by simp only [getD_set_ne false (show 20 ≠ 23 by decide)]; exact w5.out))) (Lib.hid ((fun _ => rfl))) (Lib.hid ((by simp only [getD_set_ne false (show 20 ≠ 23 by decide)]; exact w7.out))) (Lib.hid ((by simp only [getD_set_ne false (show 20 ≠ 10 by decide)]; exact fun hl => own_set (w8.out hl) (p := ⟨w.heap.size, 0, none⟩) (by simp) _))) (Lib.hid ((by simp only [getD_set_ne false (show 20 ≠ 17 by decide)]; exact fun hl => own_set (w9.out hl) (p := ⟨w.heap.size, 0, none⟩) (by simp) _))) (Lib.hid ((by simp only [getD_set_ne false (show 20 ≠ 10 by decide)]; exact fun hl => ⟨own_set (w10.out hl).1 (p := ⟨w.heap.size, 0, none⟩) (by simp) _, (w10.out hl).2⟩))) (Lib.hid ((by simp only [getD_set_ne false (show 20 ≠ 17 by decide)]; exact fun hl => ⟨own_set (w11.out hl).1 (p := ⟨w.heap.size, 0, none⟩) (by simp) _, (w11.out hl).2⟩))) (Lib.hid ((fun _ hl => by rw [getD_set_ne false (by decide), D10] at hl; cases hl))) (Lib.hid ((fun _ hl => by rw [getD_set_ne false (by decide), D17] at hl; cases hl))))
        · -- 21
          intro L a W hL hu hcl hd hJ
          refine scJV.elim w wo l k b off c k1 k2 hlt A1 A2 u39 u40 u41 u42 u43 u44 hJ ?_
          clear hJ
          intro x17 x18 x19 x20 x21 x22 x23 x24 x25 x26 x27 x28 x29 x30 x31 x32 x33 x34 x35 x36 x37 x38 y0 y1 e h0 h1 h2 h3 h4 h5 h6 h7 h8 h11 h12 h13 h14 h15 h18 h19 h21 h22 w0 w1 w2 w3 w4 w5 w6 w7 w8 w9 w10 w11 w12 w13
          subst e
          have D1 : L.getD 1 false = true := hd ⟨1, .data⟩ (by simp) rfl
          obtain rfl := h1.out D1
          refine wpOp_step rfl (fun K hK => ?_)
          go_simp
          exact hK _ _ (scJV.mk_ _ _ _ _ _ _ _ _ _ _ _ _ _ _ _ _ _ _ x17 _ x19 x20 x21 x22 x23 x24 x25 x26 x27 x28 x29 x30 x31 x32 x33 x34 x35 x36 _ x38 y0 y1 rfl (hset h0 (by decide)) (Lib.hid (fun _ => rfl)) (hset h2 (by decide)) (hset h3 (by decide)) (hset h4 (by decide)) (hset h5 (by decide)) (hset h6 (by decide)) (hset h7 (by decide)) (hset h8 (by decide)) (hset h11 (by decide)) (hset h12 (by decide)) (hset h13 (by decide)) (hset h14 (by decide)) (hset h15 (by decide)) (hset h18 (by decide)) (hset h19 (by decide)) (Lib.hid (fun _ => rfl)) (hset h22 (by decide)) w0 w1 w2 w3 (Lib.hid (by have w := w4.out; simpa only [getD_set_ne false (show 21 ≠ 20 by decide)] using w)) (Lib.hid (by have w := w5.out; simpa only [getD_set_ne false (show 21 ≠ 23 by decide)] using w)) (Lib.hid (by have w := w6.out; simpa only [getD_set_ne false (show 21 ≠ 20 by decide)] using w)) (Lib.hid (by have w := w7.out; simpa only [getD_set_ne false (show 21 ≠ 23 by decide)] using w)) (Lib.hid (by have w := w8.out; simpa only [getD_set_ne false (show 21 ≠ 10 by decide)] using w)) (Lib.hid (by have w := w9.out; simpa only [getD_set_ne false (show 21 ≠ 17 by decide)] using w)) (Lib.hid (by have w := w10.out; simpa only [getD_set_ne false (show 21 ≠ 10 by decide)] using w)) (Lib.hid (by have w := w11.out; simpa only [getD_set_ne false (show 21 ≠ 17 by decide)] using w)) (Lib.hid (by have w := w12.out; simpa only [getD_set_ne false (show 21 ≠ 9 by decide), getD_set_ne false (show 21 ≠ 10 by decide)] using w)) (Lib.hid (by have w := w13.out; simpa only [getD_set_ne false (show 21 ≠ 16 by decide), getD_set_ne false (show 21 ≠ 17 by decide)] using w)))
        · -- 22
          intro L a W hL hu hcl hd hJ
          refine scJV.elim w wo l k b off c k1 k2 hlt A1 A2 u39 u40 u41 u42 u43 u44 hJ ?_
          clear hJ
          intro x17 x18 x19 x20 x21 x22 x23 x24 x25 x26 x27 x28 x29 x30 x31 x32 x33 x34 x35 x36 x37 x38 y0 y1 e h0 h1 h2 h3 h4 h5 h6 h7 h8 h11 h12 h13 h14 h15 h18 h19 h21 h22 w0 w1 w2 w3 w4 w5 w6 w7 w8 w9 w10 w11 w12 w13
          subst e
          have D21 : L.getD 21 false = true := hd ⟨21, .data⟩ (by simp) rfl
          obtain rfl := h21.out D21
          refine wpOp_step rfl (fun K hK => ?_)
          go_simp
          exact hK _ _ (scJV.mk_ _ _ _ _ _ _ _ _ _ _ _ _ _ _ _ _ _ _ x17 x18 x19 x20 x21 x22 x23 x24 x25 x26 x27 x28 x29 x30 x31 x32 x33 x34 x35 x36 _ _ y0 y1 rfl (hset h0 (by decide)) (hset h1 (by decide)) (hset h2 (by decide)) (hset h3 (by decide)) (hset h4 (by decide)) (hset h5 (by decide)) (hset h6 (by decide)) (hset h7 (by decide)) (hset h8 (by decide)) (hset h11 (by decide)) (hset h12 (by decide)) (hset h13 (by decide)) (hset h14 (by decide)) (hset h15 (by decide)) (hset h18 (by decide)) (hset h19 (by decide)) (Lib.hid (fun _ => rfl)) (Lib.hid (fun _ => rfl)) w0 w1 w2 w3 (Lib.hid (by have w := w4.out; simpa only [getD_set_ne false (show 22 ≠ 20 by decide)] using w)) (Lib.hid (by have w := w5.out; simpa only [getD_set_ne false (show 22 ≠ 23 by decide)] using w)) (Lib.hid (by have w := w6.out; simpa only [getD_set_ne false (show 22 ≠ 20 by decide)] using w)) (Lib.hid (by have w := w7.out; simpa only [getD_set_ne false (show 22 ≠ 23 by decide)] using w)) (Lib.hid (by have w := w8.out; simpa only [getD_set_ne false (show 22 ≠ 10 by decide)] using w)) (Lib.hid (by have w := w9.out; simpa only [getD_set_ne false (show 22 ≠ 17 by decide)] using w)) (Lib.hid (by have w := w10.out; simpa only [getD_set_ne false (show 22 ≠ 10 by decide)] using w)) (Lib.hid (by have w := w11.out; simpa only [getD_set_ne false (show 22 ≠ 17 by decide)] using w)) (Lib.hid (by have w := w12.out; simpa only [getD_set_ne false (show 22 ≠ 9 by decide), getD_set_ne false (show 22 ≠ 10 by decide)] using w)) (Lib.hid (by have w := w13.out; simpa only [getD_set_ne false (show 22 ≠ 16 by decide), getD_set_ne false (show 22 ≠ 17 by decide)] using w)))
        · -- 23
          intro L a W hL hu hcl hd hJ
          refine scJV.elim w wo l k b off c k1 k2 hlt A1 A2 u39 u40 u41 u42 u43 u44 hJ ?_
          clear hJ
          intro x17 x18 x19 x20 x21 x22 x23 x24 x25 x26 x27 x28 x29 x30 x31 x32 x33 x34 x35 x36 x37 x38 y0 y1 e h0 h1 h2 h3 h4 h5 h6 h7 h8 h11 h12 h13 h14 h15 h18 h19 h21 h22 w0 w1 w2 w3 w4 w5 w6 w7 w8 w9 w10 w11 w12 w13
          subst e
          have D22 : L.getD 22 false = true := hd ⟨22, .data⟩ (by simp) rfl
          obtain rfl := h22.out D22
          have D17 : L.getD 17 false = true := hd ⟨17, .data⟩ (by simp) rfl
          have D1 : L.getD 1 false = true := hd ⟨1, .phase⟩ (by simp) rfl
          obtain rfl := h1.out D1
          have D2 : L.getD 2 false = true := hd ⟨2, .phase⟩ (by simp) rfl
          obtain rfl := h2.out D2
          have D10 : L.getD 10 false = true := hd ⟨10, .phase⟩ (by simp) rfl
          -- D22 D10 D17 GONE34
          obtain ⟨A3, k3, rfl⟩ := own_sl (w11.out D17).1
          have z := bk_cell w2.out 1
          have z' := bk_fro w2.out 1
          simp at z
          refine wpOp_step rfl (fun K hK => ?_)
          go_simp
          exact hK _ _ (scJV.mk_ _ _ _ _ _ _ _ _ _ _ _ _ _ _ _ _ _ _ x17 _ _ x20 x21 x22 x23 x24 x25 x26 x27 x28 x29 x30 x31 x32 x33 _ x35 x36 x37 _ y0 _ rfl (hset h0 (by decide)) (Lib.hid (fun _ => rfl)) (Lib.hid (fun _ => rfl)) (hset h3 (by decide)) (hset h4 (by decide)) (hset h5 (by decide)) (hset h6 (by decide)) (hset h7 (by decide)) (hset h8 (by decide)) (hset h11 (by decide)) (hset h12 (by decide)) (hset h13 (by decide)) (hset h14 (by decide)) (hset h15 (by decide)) (hset h18 (by decide)) (hset h19 (by decide)) (hset h21 (by decide)) (Lib.hid (fun _ => rfl)) (Lib.hid (bl_set w0.out (Nat.le_refl _) _)) (Lib.hid ((by rw [World.size_setCell]; exact w1.out))) (Lib.hid (bk_put1 w2.out 1 _ rfl)) (Lib.hid (bk_far w3.out (p := ⟨w.heap.size, 1, none⟩) (by simp; omega) _)) (Lib.hid ((by simp only [getD_set_ne false (show 23 ≠ 20 by decide)]; exact w4.out))) (Lib.hid ((fun hl => by rw [getD_set_eq false (by rw [hL]; decide)] at hl; cases hl))) (Lib.hid ((by simp only [getD_set_ne false (show 23 ≠ 20 by decide)]; exact w6.out))) (Lib.hid ((fun _ => rfl))) (Lib.hid ((by simp only [getD_set_ne false (show 23 ≠ 10 by decide)]; exact fun hl => own_set (w8.out hl) (p := ⟨w.heap.size, 1, none⟩) (by simp) _))) (Lib.hid ((by simp only [getD_set_ne false (show 23 ≠ 17 by decide)]; exact fun hl => own_set (w9.out hl) (p := ⟨w.heap.size, 1, none⟩) (by simp) _))) (Lib.hid ((by simp only [getD_set_ne false (show 23 ≠ 10 by decide)]; exact fun hl => ⟨own_set (w10.out hl).1 (p := ⟨w.heap.size, 1, none⟩) (by simp) _, (w10.out hl).2⟩))) (Lib.hid ((by simp only [getD_set_ne false (show 23 ≠ 17 by decide)]; exact fun hl => ⟨own_set (w11.out hl).1 (p := ⟨w.heap.size, 1, none⟩) (by simp) _, (w11.out hl).2⟩))) (Lib.hid ((fun _ hl => by rw [getD_set_ne false (by decide), D10] at hl; cases hl))) (Lib.hid ((fun _ hl => by rw [getD_set_ne false (by decide), D17] at hl; cases hl))))
      case done =>
        intro L a W hall hJ
        refine scJV.elim w wo l k b off c k1 k2 hlt A1 A2 u39 u40 u41 u42 u43 u44 hJ ?_
        clear hJ
        intro x17 x18 x19 x20 x21 x22 x23 x24 x25 x26 x27 x28 x29 x30 x31 x32 x33 x34 x35 x36 x37 x38 y0 y1 e h0 h1 h2 h3 h4 h5 h6 h7 h8 h11 h12 h13 h14 h15 h18 h19 h21 h22 w0 w1 w2 w3 w4 w5 w6 w7 w8 w9 w10 w11 w12 w13
        subst e
        have w6' := w6.out (hall 20 (by decide))
        have w7' := w7.out (hall 23 (by decide))
        subst w6' w7'
        obtain ⟨o1, _⟩ := w10.out (hall 10 (by decide))
        obtain ⟨o2, hap⟩ := w11.out (hall 17 (by decide))
        clear h0 h1 h2 h3 h4 h5 h6 h7 h8 h11 h12 h13 h14 h15 h18 h19 h21 h22 w4 w5 w6 w7 w8 w9 w10 w11 w12 w13 d0 d1 d2 z0 z1 ho1 ho2 HB HOX1 HOX2 hne hB
        have z0 := bk_cell w3.out 0
        have z1 := bk_cell w3.out 1
        have z2 := bk_cell w3.out 2
        simp at z0 z1 z2
        have hs0 := w1.out
        have hr0 := hr l[k] (List.getElem_mem hlt)
        have hsb := sumTo_bd (l.map Rn.v) k 1000000 (by decide) (by simpa using hr)
        have hss := sumTo_succ (l.map Rn.v) k (by simpa using hlt)
        rw [List.getElem_map] at hss
        have hsb1 : sumTo (l.map Rn.v) k ≤ 30000000 := by have h1 := hsb.2; have h2 : (k : Int) * 1000000 ≤ 30000000 := (by omega); omega
        have hsb0 := hsb.1
        have HSS := Lib.hid hss
        clear hss hsb
        obtain ⟨hr1, hr2⟩ := hr0
        go_wp2_with (go_at_call 224; refine (volumeOf_any _ _ _ _).mono ?_; rintro e' W1 ⟨rfl, hb1⟩)
        go_roundw
        case rel =>
          have hB1 : Below w.heap.size w W1 := bl_then w0.out hb1
          exact ⟨k + 1, by omega, by go_num, by rw [HSS.out], hB1, by have := hb1.size; have := w1.out; omega, _, _, bk_below w2.out hb1, own_bel o1 hb1, own_bel o2 hb1, fun b h1 h2 => hap b h2 h1⟩
        case measure => simp [intOf]; omega
    · obtain rfl : k = l.length := by omega
      have z0 := bk_cell hblk 0
      have z1 := bk_cell hblk 1
      have z2 := bk_fro hblk 1
      simp at z0 z1
      have HB := Lib.hid hblk
      clear hblk
      obtain ⟨A1, k1, rfl⟩ := own_sl ho1
      obtain ⟨A2, k2, rfl⟩ := own_sl ho2
      have HO1 := Lib.hid ho1
      have HO2 := Lib.hid ho2
      have hr1 : ∀ b, (Value.slice A1 l.length k1).ownBlock = some b → w.heap.size + 1 ≤ b ∧ b < wo.heap.size := fun b hb => ho1.lt b hb
      have hr2 : ∀ b, (Value.slice A2 l.length k2).ownBlock = some b → w.heap.size + 1 ≤ b ∧ b < wo.heap.size := fun b hb => ho2.lt b hb
      clear ho1 ho2
      have hI1 : (Tryz.prog.info? 222).map (fun i => (i.zero, i.size, i.bytes)) = some (some (.int .i64 0), 1, 8) := by kernel_rfl
      go_wp2_with (first
        | (at_builtin; refine app_own inC_len (by decide) inC_one rfl (.tmp 49) (.tmp 51) 277 rfl 222 _ 8 Tryz.underlying277 hI1 rfl (w.heap.size + 1) (.slice A2 l.length k2) l.length (sums (l.map Rn.v) l.length) [sumTo (l.map Rn.v) l.length] (by simp [sums]) rfl (own_bel HO2.out (bl_alloc (Below.refl _ _) _)) _ rfl (Sl.new1 inC_len _ _ _ _ rfl) (by simp; omega) (by simp; omega) (by simp; omega) ?_; intro v' W1 hv' hg1 hat; rw [← sums_snoc] at hv'; obtain ⟨A3, k3, rfl⟩ := own_sl hv'; (have HB1 := Lib.hid (bk_grown (bk_alloc HB.out _) hg1 (fun e => by have := hr2 _ e.symm; omega))); (have y0 := bk_cell HB1.out 0); (have y1 := bk_cell HB1.out 1); (have y2 := bk_fro HB1.out 1); simp at y0 y1; clear z0 z1 z2))
      refine bodyPost_ret (v := .pointer (some ⟨w.heap.size, 0, none⟩)) (by simp [results, Tryz.results223, go_sem, *]) rfl ?_
      have hgs := hg1.size
      rw [World.size_alloc] at hgs
      have e1 : (l.map Rn.v).take l.length = l.map Rn.v := by rw [List.take_of_length_le]; simp
      have o1 := HO1.out
      rw [e1] at o1
      have o1' := own_set ((own_bel o1 (bl_alloc (Below.refl _ _) _)).kept hg1 (own_ne_of (fun b h1 h2 => hne b h1 h2))) (p := ⟨w.heap.size, 1, none⟩) (by simp) (.slice A3 (l.length + 1) k3)
      have o2' := own_set hv' (p := ⟨w.heap.size, 1, none⟩) (by simp) (.slice A3 (l.length + 1) k3)
      refine ⟨w.heap.size, _, _, rfl, bk_put1 HB1.out 1 _ rfl, Sl.of_own (base := w.heap.size + 1) (e := 222) inC_len (by decide) ?_, Sl.of_own (base := w.heap.size + 1) (e := 222) inC_len (by decide) ?_, bl_set ((bl_alloc hB _).grown hg1 (by simp; omega) (fun z hz => by have := hr2 _ hz; omega)) (Nat.le_refl _) _⟩
      · simpa using o1'
      · simpa [sums] using o2'
end Go.Proofs.YtjpagpplkldbkaaGreat
