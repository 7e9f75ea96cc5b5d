/- Fillings, stories and what is known, in memory; the time of a level, the levels of a look. Opening a filling. -/
import Derived.Test.YtjpagpplkldbkaaGreatLib10
set_option linter.unusedVariables false
set_option linter.unusedSimpArgs false
namespace Go.Proofs.YtjpagpplkldbkaaGreat
open Go.RowKit WH
def snC (s : Sn) : List Value := [.int .i64 s.lo, .int .i64 s.hi, .int .i64 s.lv, .int .i64 s.er]
theorem snC_len (l : Sn) : (snC l).length = 4 := rfl
theorem snC_one (l : Sn) : ∀ u ∈ snC l, u.oneCell' = true := by intro u hu; simp [snC] at hu; rcases hu with rfl | rfl | rfl | rfl <;> rfl
theorem sn_cells {w : World} {b off : Nat} {xs : List Sn} (h : ∀ j i u, j < xs.length → (xs[j]?.bind fun x => (snC x)[i]?) = some u → i < 4 → w.cell? ⟨b, off + j * 4 + i, none⟩ = some u) {k : Nat} (hk : k < xs.length) :
    w.cell? ⟨b, off + k * 4, none⟩ = some (.int .i64 xs[k].lo) ∧ w.cell? ⟨b, off + k * 4 + 1, none⟩ = some (.int .i64 xs[k].hi) ∧ w.cell? ⟨b, off + k * 4 + 2, none⟩ = some (.int .i64 xs[k].lv) ∧ w.cell? ⟨b, off + k * 4 + 3, none⟩ = some (.int .i64 xs[k].er) :=
  ⟨Sl.cells h hk (i := 0) (by omega) rfl, Sl.cells h hk (i := 1) (by omega) rfl, Sl.cells h hk (i := 2) (by omega) rfl, Sl.cells h hk (i := 3) (by omega) rfl⟩
/-- A filling's cells. -/
def flC (f : Fl) (vv sv : Value) : Array Value := #[vv, .int .i64 f.lv, .int .i64 f.er, .int .i64 f.wl, .int .i64 f.wh, sv]
def Fv (w : World) (v : Value) (f : Fl) : Prop := ∃ vv sv, v = .agg (flC f vv sv) ∧ Sl rnC 3 w vv f.v ∧ Sl snC 4 w sv f.seen
theorem Fv.below {w w1 : World} {v : Value} {f : Fl} (h : Fv w v f) (hb : Below w.heap.size w w1) : Fv w1 v f := by
  obtain ⟨vv, sv, h1, h2, h3⟩ := h
  exact ⟨vv, sv, h1, h2.below hb, h3.below hb⟩
/-- A story's cells. -/
def stC (f : Fl) (vv sv tv : Value) : Array Value := #[vv, .int .i64 f.lv, .int .i64 f.er, .int .i64 f.wl, .int .i64 f.wh, sv, tv, .int .i64 f.H]
def St (w : World) (g : Nat) (f : Fl) : Prop := ∃ vv sv tv, w.heap[g]? = some (.cells (stC f vv sv tv) 137 (0, 0)) ∧ Sl rnC 3 w vv f.v ∧ Sl snC 4 w sv f.seen ∧ Sl ptC 2 w tv (drawnL f.v)
theorem St.below {w w1 : World} {g : Nat} {f : Fl} (h : St w g f) (hb : Below w.heap.size w w1) : St w1 g f := by
  obtain ⟨vv, sv, tv, h1, h2, h3, h4⟩ := h
  exact ⟨vv, sv, tv, bk_below h1 hb, h2.below hb, h3.below hb, h4.below hb⟩
/-- What is known: the story and its region, solved. -/
def knC (g : Nat) (r : Rg) (va vb : Value) : Array Value := #[.pointer (some ⟨g, 0, none⟩), .int .i64 r.lo.r.n, .int .i64 r.lo.r.d, .bool r.lo.strict, .int .i64 r.hi.r.n, .int .i64 r.hi.r.d, .bool r.hi.strict, va, vb, .bool r.empty]
def Kn (w : World) (v : Value) (f : Fl) : Prop := ∃ g va vb, v = .agg (knC g f.sol va vb) ∧ St w g f ∧ Sl lnC 4 w va f.sol.above ∧ Sl lnC 4 w vb f.sol.below
theorem Kn.below {w w1 : World} {v : Value} {f : Fl} (h : Kn w v f) (hb : Below w.heap.size w w1) : Kn w1 v f := by
  obtain ⟨g, va, vb, h1, h2, h3, h4⟩ := h
  exact ⟨g, va, vb, h1, h2.below hb, h3.below hb, h4.below hb⟩
theorem drawn_cErr {f : Fl} (hv : vErr f.v = 0) : cErr (drawnL f.v) = 0 := by
  obtain ⟨h1, h2, h3⟩ := vErr_zero hv
  exact drawn_ok h1 h2 h3
theorem drawn_within (f : Fl) (x : Int) : cWithin (drawnL f.v) x = (decide (0 ≤ x) && decide (x ≤ f.H)) := by
  have hl := drawnL_len f.v
  have e1 : ((drawnL f.v).head?.map Pt.x).getD 0 = 0 := by
    rw [List.head?_eq_getElem?, List.getElem?_eq_getElem (by omega), drawnL_get]
    rfl
  have e2 : ((drawnL f.v).getLast?.map Pt.x).getD 0 = f.H := by
    rw [List.getLast?_eq_getElem?, List.getElem?_eq_getElem (by omega), drawnL_get]
    simp [hl, Fl.H]
  unfold cWithin
  rw [e1, e2]
set_option maxRecDepth 100000 in
set_option maxHeartbeats 1000000 in
theorem time_any (g : Nat) (f : Fl) (x : Int) (w : World) (hs : St w g f) (hv : vErr f.v = 0) (h0 : 0 ≤ x) (h1 : x ≤ f.H) :
    Calls Tryz.prog 103 #[.pointer (some ⟨g, 0, none⟩), .int .i64 x] w fun e w' => e = .returned (raV (f.T x)) ∧ Below w.heap.size w w' := by
  obtain ⟨vv, sv, tv, hk, hs1, hs2, hs3⟩ := hs
  have HT := Lib.hid hs3
  have hg := bk_lt hk
  have c6 := bk_cell hk 6
  simp [stC] at c6
  have hw := drawn_within f x
  rw [decide_eq_true h0, decide_eq_true h1] at hw
  have HW := Lib.hid hw
  obtain ⟨A, c, rfl, _⟩ := id hs3
  have HE := Lib.hid (drawn_cErr hv)
  unfold Fl.T
  clear hk hs1 hs2 hs3 hw
  go_enter Tryz.func103, Tryz.ntmps103
  go_wp2_with fail
  refine (cexact_ok _ (drawnL f.v) x _ (HT.out.below (by (repeat' with_reducible first|assumption|exact Below.refl _ _|apply bl_alloc|apply bl_drewN|apply bl_drew|refine bl_set ?_ (by simp<;>omega) _|refine bl_then ?_ (by assumption)))) HE.out HW.out).mono ?_
  rintro e1 w1 ⟨rfl, hb1⟩
  unfold raV
  have hR := bk_below (bk_new w (.cells #[.int .i64 0, .int .i64 0] 41)) hb1
  obtain ⟨⟨r0, r1⟩, f0, f1⟩ := blk2 hR
  have hlt := bk_lt hR
  have HR := Lib.hid hR
  clear hR
  go_wp2
  refine bodyPost_ret (v := raV (exactC (drawnL f.v) x)) (res_one rfl (.cell w.heap.size 41 _ (0, 0) _ rfl (by first | exact bk_alloc (bk_put2 HR.out) _ | exact bk_put2 (bk_alloc HR.out _)) Tryz.underlying41 rfl (by kernel_rfl) .nil)) rfl ?_
  exact ⟨rfl, by (repeat' with_reducible first|assumption|exact Below.refl _ _|apply bl_alloc|apply bl_drewN|apply bl_drew|refine bl_set ?_ (by simp<;>omega) _|refine bl_then ?_ (by assumption))⟩
set_option maxRecDepth 100000 in
set_option maxHeartbeats 1000000 in
theorem levels_any (g : Nat) (f : Fl) (l e : Int) (w : World) (hs : St w g f) (hv : vErr f.v = 0) (hl : 0 ≤ l ∧ l ≤ 24000) (he : 0 ≤ e ∧ e ≤ 1000) :
    Calls Tryz.prog 99 #[.pointer (some ⟨g, 0, none⟩), .agg #[.int .i64 l, .int .i64 e]] w fun e' w' => e' = .returned (.agg #[.int .i64 (lvLo l e), .int .i64 (lvHi f.H l e)]) ∧ Below w.heap.size w w' := by
  obtain ⟨vv, sv, tv, hk, hs1, hs2, hs3⟩ := hs
  have hg := bk_lt hk
  have c7 := bk_cell hk 7
  simp [stC] at c7
  have hH := H_bd hv
  obtain ⟨l0, l1⟩ := hl
  obtain ⟨e0, e1⟩ := he
  obtain ⟨hH0, hH1⟩ := hH
  have ew1 : IntKind.i64.wrap (l - e) = l - e := wrapI (by omega) (by omega)
  have ew2 : IntKind.i64.wrap (l + e) = l + e := wrapI (by omega) (by omega)
  generalize hHH : f.H = H at *
  have EH := Lib.hid hHH
  clear hHH hk hs1 hs2 hs3
  go_enter Tryz.func99, Tryz.ntmps99
  go_wp2
  have x0 := cl_alloc (bk_cell (bk_new w (.cells #[.int .i64 l, .int .i64 e] 25)) 0) (.cells #[.int .i64 0, .int .i64 0] 27)
  have x1 := cl_alloc (bk_cell (bk_new w (.cells #[.int .i64 l, .int .i64 e] 25)) 1) (.cells #[.int .i64 0, .int .i64 0] 27)
  have x2 := cl_alloc (cl_alloc c7 (.cells #[.int .i64 l, .int .i64 e] 25)) (.cells #[.int .i64 0, .int .i64 0] 27)
  ((refine p_start (by kernel_rfl) ?_); (refine t_enter' 17 ?_); ((refine t_pure 0 (v := ?_) rfl (by kernel_rfl) (fun _ _ _ h => h) rfl ?_ ?_; rotate_left; (focus (intro w_ hS_; have x0 := cl_below hS_ x0; have x1 := cl_below hS_ x1; have x2 := cl_below hS_ x2; go_simp; (try (first | with_reducible rfl | (constructor <;> with_reducible rfl))); done)); (try simp only [Act.put, List.setIfInBounds_toArray, List.set_cons_zero, List.set_cons_succ]))); ((refine t_pure 1 (v := ?_) rfl (by kernel_rfl) (fun _ _ _ h => h) rfl ?_ ?_; rotate_left; (focus (intro w_ hS_; have x0 := cl_below hS_ x0; have x1 := cl_below hS_ x1; have x2 := cl_below hS_ x2; go_simp; (try (first | with_reducible rfl | (constructor <;> with_reducible rfl))); done)); (try simp only [Act.put, List.setIfInBounds_toArray, List.set_cons_zero, List.set_cons_succ]))); ((refine t_pure 2 (v := ?_) rfl (by kernel_rfl) (fun _ _ _ h => h) rfl ?_ ?_; rotate_left; (focus (intro w_ hS_; have x0 := cl_below hS_ x0; have x1 := cl_below hS_ x1; have x2 := cl_below hS_ x2; go_simp; (try (first | with_reducible rfl | (constructor <;> with_reducible rfl))); done)); (try simp only [Act.put, List.setIfInBounds_toArray, List.set_cons_zero, List.set_cons_succ]))); ((refine t_pure 3 (v := ?_) rfl (by kernel_rfl) (fun _ _ _ h => h) rfl ?_ ?_; rotate_left; (focus (intro w_ hS_; have x0 := cl_below hS_ x0; have x1 := cl_below hS_ x1; have x2 := cl_below hS_ x2; go_simp; (try (first | with_reducible rfl | (constructor <;> with_reducible rfl))); done)); (try simp only [Act.put, List.setIfInBounds_toArray, List.set_cons_zero, List.set_cons_succ]))); ((refine t_pure 4 (v := ?_) rfl (by kernel_rfl) (fun _ _ _ h => h) rfl ?_ ?_; rotate_left; (focus (intro w_ hS_; have x0 := cl_below hS_ x0; have x1 := cl_below hS_ x1; have x2 := cl_below hS_ x2; go_simp; (try (first | with_reducible rfl | (constructor <;> with_reducible rfl))); done)); (try simp only [Act.put, List.setIfInBounds_toArray, List.set_cons_zero, List.set_cons_succ]))); ((refine t_pure 5 (v := ?_) rfl (by kernel_rfl) (fun _ _ _ h => h) rfl ?_ ?_; rotate_left; (focus (intro w_ hS_; have x0 := cl_below hS_ x0; have x1 := cl_below hS_ x1; have x2 := cl_below hS_ x2; go_simp; (try (first | with_reducible rfl | (constructor <;> with_reducible rfl))); done)); (try simp only [Act.put, List.setIfInBounds_toArray, List.set_cons_zero, List.set_cons_succ]))); ((refine t_pure 6 (v := ?_) rfl (by kernel_rfl) (fun _ _ _ h => h) rfl ?_ ?_; rotate_left; (focus (intro w_ hS_; have x0 := cl_below hS_ x0; have x1 := cl_below hS_ x1; have x2 := cl_below hS_ x2; go_simp; (try (first | with_reducible rfl | (constructor <;> with_reducible rfl))); done)); (try simp only [Act.put, List.setIfInBounds_toArray, List.set_cons_zero, List.set_cons_succ]))); ((refine t_pure 7 (v := ?_) rfl (by kernel_rfl) (fun _ _ _ h => h) rfl ?_ ?_; rotate_left; (focus (intro w_ hS_; have x0 := cl_below hS_ x0; have x1 := cl_below hS_ x1; have x2 := cl_below hS_ x2; go_simp; (try (first | with_reducible rfl | (constructor <;> with_reducible rfl))); done)); (try simp only [Act.put, List.setIfInBounds_toArray, List.set_cons_zero, List.set_cons_succ]))); ((refine t_pure 8 (v := ?_) rfl (by kernel_rfl) (fun _ _ _ h => h) rfl ?_ ?_; rotate_left; (focus (intro w_ hS_; have x0 := cl_below hS_ x0; have x1 := cl_below hS_ x1; have x2 := cl_below hS_ x2; go_simp; (try (first | with_reducible rfl | (constructor <;> with_reducible rfl))); done)); (try simp only [Act.put, List.setIfInBounds_toArray, List.set_cons_zero, List.set_cons_succ]))); ((refine t_pure 9 (v := ?_) rfl (by kernel_rfl) (fun _ _ _ h => h) rfl ?_ ?_; rotate_left; (focus (intro w_ hS_; have x0 := cl_below hS_ x0; have x1 := cl_below hS_ x1; have x2 := cl_below hS_ x2; go_simp; (try (first | with_reducible rfl | (constructor <;> with_reducible rfl))); done)); (try simp only [Act.put, List.setIfInBounds_toArray, List.set_cons_zero, List.set_cons_succ]))); ((refine t_pure 10 (v := ?_) rfl (by kernel_rfl) (fun _ _ _ h => h) rfl ?_ ?_; rotate_left; (focus (intro w_ hS_; have x0 := cl_below hS_ x0; have x1 := cl_below hS_ x1; have x2 := cl_below hS_ x2; go_simp; (try (first | with_reducible rfl | (constructor <;> with_reducible rfl))); done)); (try simp only [Act.put, List.setIfInBounds_toArray, List.set_cons_zero, List.set_cons_succ]))); ((refine t_pure 11 (v := ?_) rfl (by kernel_rfl) (fun _ _ _ h => h) rfl ?_ ?_; rotate_left; (focus (intro w_ hS_; have x0 := cl_below hS_ x0; have x1 := cl_below hS_ x1; have x2 := cl_below hS_ x2; go_simp; (try (first | with_reducible rfl | (constructor <;> with_reducible rfl))); done)); (try simp only [Act.put, List.setIfInBounds_toArray, List.set_cons_zero, List.set_cons_succ]))); ((refine t_pure 12 (v := ?_) rfl (by kernel_rfl) (fun _ _ _ h => h) rfl ?_ ?_; rotate_left; (focus (intro w_ hS_; have x0 := cl_below hS_ x0; have x1 := cl_below hS_ x1; have x2 := cl_below hS_ x2; go_simp; (try (first | with_reducible rfl | (constructor <;> with_reducible rfl))); done)); (try simp only [Act.put, List.setIfInBounds_toArray, List.set_cons_zero, List.set_cons_succ]))); ((refine t_pure 13 (v := ?_) rfl (by kernel_rfl) (fun _ _ _ h => h) rfl ?_ ?_; rotate_left; (focus (intro w_ hS_; have x0 := cl_below hS_ x0; have x1 := cl_below hS_ x1; have x2 := cl_below hS_ x2; go_simp; (try (first | with_reducible rfl | (constructor <;> with_reducible rfl))); done)); (try simp only [Act.put, List.setIfInBounds_toArray, List.set_cons_zero, List.set_cons_succ]))); ((refine t_pure 14 (v := ?_) rfl (by kernel_rfl) (fun _ _ _ h => h) rfl ?_ ?_; rotate_left; (focus (intro w_ hS_; have x0 := cl_below hS_ x0; have x1 := cl_below hS_ x1; have x2 := cl_below hS_ x2; go_simp; (try (first | with_reducible rfl | (constructor <;> with_reducible rfl))); done)); (try simp only [Act.put, List.setIfInBounds_toArray, List.set_cons_zero, List.set_cons_succ]))); ((refine t_pure 15 (v := ?_) rfl (by kernel_rfl) (fun _ _ _ h => h) rfl ?_ ?_; rotate_left; (focus (intro w_ hS_; have x0 := cl_below hS_ x0; have x1 := cl_below hS_ x1; have x2 := cl_below hS_ x2; go_simp; (try (first | with_reducible rfl | (constructor <;> with_reducible rfl))); done)); (try simp only [Act.put, List.setIfInBounds_toArray, List.set_cons_zero, List.set_cons_succ]))); ((refine t_pure 16 (v := ?_) rfl (by kernel_rfl) (fun _ _ _ h => h) rfl ?_ ?_; rotate_left; (focus (intro w_ hS_; have x0 := cl_below hS_ x0; have x1 := cl_below hS_ x1; have x2 := cl_below hS_ x2; go_simp; (try (first | with_reducible rfl | (constructor <;> with_reducible rfl))); done)); (try simp only [Act.put, List.setIfInBounds_toArray, List.set_cons_zero, List.set_cons_succ]))); (refine t_exit (by kernel_rfl) (fun W_ hS_ => ?_)))
  have hR := bk_below (bk_new (w.alloc (.cells #[.int .i64 l, .int .i64 e] 25)) (.cells #[.int .i64 0, .int .i64 0] 27)) hS_
  rw [World.size_alloc] at hR
  obtain ⟨⟨z0, z1⟩, f0, f1⟩ := blk2 hR
  have hB : Below w.heap.size w W_ := by (repeat' with_reducible first|assumption|exact Below.refl _ _|apply bl_alloc|apply bl_drewN|apply bl_drew|refine bl_set ?_ (by simp<;>omega) _|refine bl_then ?_ (by assumption))
  have hlo : (if e < l then l - e else 0) = lvLo l e := by unfold lvLo; split <;> omega
  have hhi : (if l + e < H then l + e else H) = lvHi H l e := by unfold lvHi; split <;> omega
  have HR := Lib.hid hR
  clear hR
  rw [hlo, hhi]
  clear hlo hhi
  (refine p_only 17 rfl (by kernel_rfl) (fun K hK => ?_); go_simp; refine hK.out _ _ ?_; clear hK K; (try simp only [Act.put, List.setIfInBounds_toArray, List.set_cons_zero, List.set_cons_succ]))
  refine wpAny_done (by kernel_rfl) ?_ _
  go_wp2
  refine bodyPost_ret (v := .agg #[.int .i64 (lvLo l e), .int .i64 (lvHi H l e)]) (res_one rfl (.cell (w.heap.size + 1) 27 _ (0, 0) _ rfl (bk_put2 HR.out) Tryz.underlying27 rfl (by kernel_rfl) .nil)) rfl ?_
  exact ⟨rfl, by (repeat' with_reducible first|assumption|exact Below.refl _ _|apply bl_alloc|apply bl_drewN|apply bl_drew|refine bl_set ?_ (by simp<;>omega) _|refine bl_then ?_ (by assumption))⟩
end Go.Proofs.YtjpagpplkldbkaaGreat
set_option linter.unusedVariables false
set_option linter.unusedSimpArgs false
namespace Go.Proofs.YtjpagpplkldbkaaGreat
open Go.RowKit WH
def OpP (f : Fl) (w : World) (e : Ending) (w' : World) : Prop :=
  (f.okB = false ∧ e = .returned (.tuple #[.pointer none, .int .i64 30]) ∧ Below w.heap.size w w') ∨
  (f.okB = true ∧ ∃ g, e = .returned (.tuple #[.pointer (some ⟨g, 0, none⟩), .int .i64 0]) ∧ St w' g f ∧ Below w.heap.size w w')
theorem OpP.bad {f : Fl} {w w' : World} {e : Ending} (h : f.okB = false) (he : e = .returned (.tuple #[.pointer none, .int .i64 30])) (hb : Below w.heap.size w w') : OpP f w e w' := .inl ⟨h, he, hb⟩
theorem OpP.ok {f : Fl} {w w' : World} {e : Ending} (h : f.okB = true) (g : Nat) (he : e = .returned (.tuple #[.pointer (some ⟨g, 0, none⟩), .int .i64 0])) (hs : St w' g f) (hb : Below w.heap.size w w') : OpP f w e w' := .inr ⟨h, g, he, hs, hb⟩
theorem blk6 {w : World} {g : Nat} {t : TypeId} {a b c d e f : Value} (h : w.heap[g]? = some (.cells #[a, b, c, d, e, f] t (0, 0))) :
    w.cell? ⟨g, 0, none⟩ = some a ∧ w.cell? ⟨g, 1, none⟩ = some b ∧ w.cell? ⟨g, 2, none⟩ = some c ∧ w.cell? ⟨g, 3, none⟩ = some d ∧ w.cell? ⟨g, 4, none⟩ = some e ∧ w.cell? ⟨g, 5, none⟩ = some f :=
  ⟨bk_cell h 0, bk_cell h 1, bk_cell h 2, bk_cell h 3, bk_cell h 4, bk_cell h 5⟩
theorem vbad_ok {f : Fl} (h : vErr f.v = 20) : f.okB = false := by unfold Fl.okB; rw [h]; rfl
theorem lbad_ok {f : Fl} (h : lookB f.lv f.er f.H = false) : f.okB = false := by unfold Fl.okB; rw [h]; simp
theorem wbad_ok {f : Fl} (h : withinB f.wl f.wh 1 4000 = false) : f.okB = false := by unfold Fl.okB; rw [h]; simp
theorem nbad_ok {f : Fl} (h : 24 < f.seen.length) : f.okB = false := by unfold Fl.okB; rw [decide_eq_false (show ¬ f.seen.length ≤ 24 by omega)]; simp
theorem sbad_ok {f : Fl} {k : Nat} (hk : k < f.seen.length) (h : okSn f.H f.seen[k] = false) : f.okB = false := by
  unfold Fl.okB
  have : f.seen.all (okSn f.H) = false := List.all_eq_false.2 ⟨_, List.getElem_mem hk, by simp [h]⟩
  rw [this]; simp
theorem sgood_ok {f : Fl} (h0 : vErr f.v = 0) (h1 : lookB f.lv f.er f.H = true) (h2 : withinB f.wl f.wh 1 4000 = true) (h3 : f.seen.length ≤ 24) (h : ∀ k (hk : k < f.seen.length), okSn f.H f.seen[k] = true) : f.okB = true := by
  have : f.seen.all (okSn f.H) = true := List.all_eq_true.2 fun s hs => by obtain ⟨k, hk, rfl⟩ := List.getElem_of_mem hs; exact h k hk
  unfold Fl.okB
  rw [h0, h1, h2, decide_eq_true h3, this]; rfl
theorem okSn_w {h : Int} {s : Sn} (h4 : withinB s.lo s.hi 0 1048576 = false) : okSn h s = false := by unfold okSn; rw [h4]; rfl
theorem okSn_l {h : Int} {s : Sn} (h5 : lookB s.lv s.er h = false) : okSn h s = false := by unfold okSn; rw [h5]; simp
theorem okSn_t {h : Int} {s : Sn} (h4 : withinB s.lo s.hi 0 1048576 = true) (h5 : lookB s.lv s.er h = true) : okSn h s = true := by unfold okSn; rw [h4, h5]; rfl
theorem within_is {a b lo hi : Int} {r : Bool} (h : withinB a b lo hi = r) (w : World) : Calls Tryz.prog 191 #[.agg #[.int .i64 a, .int .i64 b], .int .i64 lo, .int .i64 hi] w fun e w' => e = .returned (.bool r) ∧ Below w.heap.size w w' := by subst h; exact within_any a b lo hi w
theorem look_is {l e h : Int} {r : Bool} (hr : lookB l e h = r) (w : World) : Calls Tryz.prog 190 #[.agg #[.int .i64 l, .int .i64 e], .int .i64 h] w fun e' w' => e' = .returned (.bool r) ∧ Below w.heap.size w w' := by subst hr; exact look_any l e h w
set_option maxRecDepth 100000 in
set_option maxHeartbeats 1000000 in
theorem opened_any (v : Value) (f : Fl) (w : World) (hf : Fv w v f) : Calls Tryz.prog 118 #[v] w (OpP f w) := by
  obtain ⟨vv, sv, rfl, hv, hs⟩ := hf
  obtain ⟨A, c, rfl, hl, hc, hcs⟩ := id hs
  have HV := Lib.hid hv
  have HS := Lib.hid hs
  clear hv hs
  unfold flC
  rcases vErr_two f.v with h0 | h0
  case inr =>
    go_enter Tryz.func118, Tryz.ntmps118
    go_wp2_with fail
    refine (sizes_any _ f.v _ (HV.out.below (by (repeat' with_reducible first|assumption|exact Below.refl _ _|apply bl_alloc|apply bl_drewN|apply bl_drew|refine bl_set ?_ (by simp<;>omega) _|refine bl_then ?_ (by assumption))))).mono ?_
    rintro e1 w1 ⟨rfl, hb1⟩
    rw [if_neg (show ¬ vErr f.v = 0 by omega)]
    have H0 := Lib.hid h0
    clear h0
    go_wp2
    go_ret2
    exact OpP.bad (vbad_ok H0.out) rfl (by (repeat' with_reducible first|assumption|exact Below.refl _ _|apply bl_alloc|apply bl_drewN|apply bl_drew|refine bl_set ?_ (by simp<;>omega) _|refine bl_then ?_ (by assumption)))
  have hH : sumTo (f.v.map Rn.h) f.v.length = f.H := rfl
  have hlen : f.seen.length ≤ 9223372036854775807 := by omega
  go_enter Tryz.func118, Tryz.ntmps118
  go_wp2_with fail
  refine (sizes_any _ f.v _ (HV.out.below (by (repeat' with_reducible first|assumption|exact Below.refl _ _|apply bl_alloc|apply bl_drewN|apply bl_drew|refine bl_set ?_ (by simp<;>omega) _|refine bl_then ?_ (by assumption))))).mono ?_
  rintro e1 w1 ⟨rfl, hb1⟩
  rw [if_pos h0, hH]
  have H0 := Lib.hid h0
  have hk1 := bk_below (bk_new w (.cells #[vv, .int .i64 f.lv, .int .i64 f.er, .int .i64 f.wl, .int .i64 f.wh, .slice A f.seen.length c] 30)) hb1
  obtain ⟨c0, c1, c2, c3, c4, c5⟩ := blk6 hk1
  have hB1 : Below w.heap.size w w1 := by (repeat' with_reducible first|assumption|exact Below.refl _ _|apply bl_alloc|apply bl_drewN|apply bl_drew|refine bl_set ?_ (by simp<;>omega) _|refine bl_then ?_ (by assumption))
  have HK1 := Lib.hid hk1
  clear hk1 hb1 h0 hH
  generalize sumTo (f.v.map Rn.v) f.v.length = dummy1
  generalize sumTo (f.v.map Rn.d) f.v.length = dummy2
  cases h1 : lookB f.lv f.er f.H with
  | false =>
    have H1 := Lib.hid h1
    clear h1
    go_wp2_with (go_at_call 190; refine (look_is H1.out _).mono ?_; rintro e2 w2 ⟨rfl, hb2⟩)
    go_ret2
    exact OpP.bad (lbad_ok H1.out) rfl (by (repeat' with_reducible first|assumption|exact Below.refl _ _|apply bl_alloc|apply bl_drewN|apply bl_drew|refine bl_set ?_ (by simp<;>omega) _|refine bl_then ?_ (by assumption)))
  | true =>
  have H1 := Lib.hid h1
  clear h1
  cases h2 : withinB f.wl f.wh 1 4000 with
  | false =>
    have H2 := Lib.hid h2
    clear h2
    go_wp2_with (first | (go_at_call 190; refine (look_is H1.out _).mono ?_; rintro e2 w2 ⟨rfl, hb2⟩; (have hk2 := bk_below HK1.out hb2); (obtain ⟨d0, d1, d2, d3, d4, d5⟩ := blk6 hk2); clear hk2) | (go_at_call 191; refine (within_is H2.out _).mono ?_; rintro e3 w3 ⟨rfl, hb3⟩))
    go_ret2
    exact OpP.bad (wbad_ok H2.out) rfl (by (repeat' with_reducible first|assumption|exact Below.refl _ _|apply bl_alloc|apply bl_drewN|apply bl_drew|refine bl_set ?_ (by simp<;>omega) _|refine bl_then ?_ (by assumption)))
  | true =>
  have H2 := Lib.hid h2
  clear h2
  by_cases h3 : 24 < f.seen.length
  · have h3' : decide ((24 : Int) < (f.seen.length : Int)) = true := by simp; omega
    have H3 := Lib.hid h3
    clear h3
    go_wp2_with (first | (go_at_call 190; refine (look_is H1.out _).mono ?_; rintro e2 w2 ⟨rfl, hb2⟩; (have hk2 := bk_below HK1.out hb2); (obtain ⟨d0, d1, d2, d3, d4, d5⟩ := blk6 hk2); clear c0 c1 c2 c3 c4 c5; (have HK2 := Lib.hid hk2); clear hk2) | (go_at_call 191; refine (within_is H2.out _).mono ?_; rintro e3 w3 ⟨rfl, hb3⟩; (have hk3 := bk_below HK2.out hb3); (obtain ⟨c0, c1, c2, c3, c4, c5⟩ := blk6 hk3); clear hk3))
    go_ret2
    exact OpP.bad (nbad_ok H3.out) rfl (by (repeat' with_reducible first|assumption|exact Below.refl _ _|apply bl_alloc|apply bl_drewN|apply bl_drew|refine bl_set ?_ (by simp<;>omega) _|refine bl_then ?_ (by assumption)))
  have h3' : decide ((24 : Int) < (f.seen.length : Int)) = false := by simp; omega
  have h3n : f.seen.length ≤ 24 := by omega
  clear h3
  go_wp2_with (first | (go_at_call 190; refine (look_is H1.out _).mono ?_; rintro e2 w2 ⟨rfl, hb2⟩; (have hk2 := bk_below HK1.out hb2); (obtain ⟨d0, d1, d2, d3, d4, d5⟩ := blk6 hk2); clear c0 c1 c2 c3 c4 c5; (have HK2 := Lib.hid hk2); clear hk2) | (go_at_call 191; refine (within_is H2.out _).mono ?_; rintro e3 w3 ⟨rfl, hb3⟩; (have hk3 := bk_below HK2.out hb3); (obtain ⟨c0, c1, c2, c3, c4, c5⟩ := blk6 hk3); clear d0 d1 d2 d3 d4 d5; (have HK3 := Lib.hid hk3); clear hk3))
  have hB3 : Below w.heap.size w w3 := by (repeat' with_reducible first|assumption|exact Below.refl _ _|apply bl_alloc|apply bl_drewN|apply bl_drew|refine bl_set ?_ (by simp<;>omega) _|refine bl_then ?_ (by assumption))
  clear hb2 hb3
  go_loopw [43] (fun i W => ∃ k : Nat, k ≤ f.seen.length ∧ i = .int .i64 k ∧ Below w.heap.size w W ∧ W.heap[w.heap.size]? = some (.cells #[vv, .int .i64 f.lv, .int .i64 f.er, .int .i64 f.wl, .int .i64 f.wh, .slice A f.seen.length c] 30 (0, 0)) ∧ ∀ j (hj : j < f.seen.length), j < k → okSn f.H f.seen[j] = true) (fun i _ => f.seen.length - (intOf i).toNat)
  case atStart => exact ⟨0, by omega, rfl, hB3, HK3.out, by intro j hj h; omega⟩
  case round =>
    obtain ⟨k, hk, rfl, hB, hkb, hok⟩ := hrel
    clear c0 c1 c2 c3 c4 c5
    obtain ⟨c0, c1, c2, c3, c4, c5⟩ := blk6 hkb
    have HO := Lib.hid hok
    have HKB := Lib.hid hkb
    clear hok hkb HK1 HK2 HK3 hB1 hB3
    by_cases hlt : k < f.seen.length
    · obtain ⟨b, off, rfl, hcell⟩ := hcs (by intro h; simp [h] at hlt)
      obtain ⟨p0, p1, p2, p3⟩ := sn_cells hcell hlt
      have q0 := cl_below hB p0
      have q1 := cl_below hB p1
      have q2 := cl_below hB p2
      have q3 := cl_below hB p3
      clear p0 p1 p2 p3
      have HL := Lib.hid hlt
      cases h4 : withinB f.seen[k].lo f.seen[k].hi 0 1048576 with
      | false =>
        have H4 := Lib.hid h4
        clear h4
        go_wp2_with (go_at_call 191; refine (within_is H4.out _).mono ?_; rintro e4 w4 ⟨rfl, hb4⟩)
        go_ret2
        exact OpP.bad (sbad_ok HL.out (okSn_w H4.out)) rfl (by (repeat' with_reducible first|assumption|exact Below.refl _ _|apply bl_alloc|apply bl_drewN|apply bl_drew|refine bl_set ?_ (by simp<;>omega) _|refine bl_then ?_ (by assumption)))
      | true =>
        have H4 := Lib.hid h4
        clear h4
        have hX := bk_new wr (.cells #[.int .i64 f.seen[k].lo, .int .i64 f.seen[k].hi, .int .i64 f.seen[k].lv, .int .i64 f.seen[k].er] 111)
        have HX := Lib.hid hX
        clear hX
        cases h5 : lookB f.seen[k].lv f.seen[k].er f.H with
        | false =>
          have H5 := Lib.hid h5
          clear h5
          go_wp2_with (first | (go_at_call 191; refine (within_is H4.out _).mono ?_; rintro e4 w4 ⟨rfl, hb4⟩; (have hx4 := bk_below HX.out hb4); (obtain ⟨⟨z0, z1, z2, z3⟩, _⟩ := blk4 hx4); clear hx4) | (go_at_call 190; refine (look_is H5.out _).mono ?_; rintro e5 w5 ⟨rfl, hb5⟩))
          go_ret2
          exact OpP.bad (sbad_ok HL.out (okSn_l H5.out)) rfl (by (repeat' with_reducible first|assumption|exact Below.refl _ _|apply bl_alloc|apply bl_drewN|apply bl_drew|refine bl_set ?_ (by simp<;>omega) _|refine bl_then ?_ (by assumption)))
        | true =>
          have H5 := Lib.hid h5
          clear h5
          go_wp2_with (first | (go_at_call 191; refine (within_is H4.out _).mono ?_; rintro e4 w4 ⟨rfl, hb4⟩; (have hx4 := bk_below HX.out hb4); (obtain ⟨⟨z0, z1, z2, z3⟩, _⟩ := blk4 hx4); clear hx4) | (go_at_call 190; refine (look_is H5.out _).mono ?_; rintro e5 w5 ⟨rfl, hb5⟩))
          go_roundw
          case rel =>
            refine ⟨k + 1, by have := HL.out; omega, by go_num, by (repeat' with_reducible first|assumption|exact Below.refl _ _|apply bl_alloc|apply bl_drewN|apply bl_drew|refine bl_set ?_ (by simp<;>omega) _|refine bl_then ?_ (by assumption)), bk_below (bk_below (bk_alloc HKB.out _) hb4) hb5, fun j hj h => ?_⟩
            rcases Nat.lt_or_ge j k with h6 | h6
            · exact HO.out j hj h6
            · obtain rfl : j = k := by omega
              exact okSn_t H4.out H5.out
          case measure => have := HL.out; simp [intOf]; omega
    · obtain rfl : k = f.seen.length := by omega
      have HGood : Hid (f.okB = true) := Lib.hid (sgood_ok H0.out H1.out H2.out h3n (fun j hj => HO.out j hj hj))
      clear hlt
      go_wp2_with fail
      refine (emptying_good _ f.v _ (HV.out.below (by (repeat' with_reducible first|assumption|exact Below.refl _ _|apply bl_alloc|apply bl_drewN|apply bl_drew|refine bl_set ?_ (by simp<;>omega) _|refine bl_then ?_ (by assumption)))) H0.out).mono ?_
      rintro e4 w4 ⟨cv, rfl, hcv, hb4⟩
      obtain ⟨A2, c2', rfl, _⟩ := id hcv
      have HC := Lib.hid hcv
      have hk4 := bk_below HKB.out hb4
      clear c0 c1 c2 c3 c4 c5
      obtain ⟨c0, c1, c2, c3, c4, c5⟩ := blk6 hk4
      have hB4 : Below w.heap.size w w4 := by (repeat' with_reducible first|assumption|exact Below.refl _ _|apply bl_alloc|apply bl_drewN|apply bl_drew|refine bl_set ?_ (by simp<;>omega) _|refine bl_then ?_ (by assumption))
      clear hcv hk4
      go_wp2
      go_ret2
      refine OpP.ok HGood.out w4.heap.size rfl ⟨vv, .slice A f.seen.length c, .slice A2 (drawnL f.v).length c2', bk_new _ _, HV.out.below (by (repeat' with_reducible first|assumption|exact Below.refl _ _|apply bl_alloc|apply bl_drewN|apply bl_drew|refine bl_set ?_ (by simp<;>omega) _|refine bl_then ?_ (by assumption))), HS.out.below (by (repeat' with_reducible first|assumption|exact Below.refl _ _|apply bl_alloc|apply bl_drewN|apply bl_drew|refine bl_set ?_ (by simp<;>omega) _|refine bl_then ?_ (by assumption))), HC.out.below (by (repeat' with_reducible first|assumption|exact Below.refl _ _|apply bl_alloc|apply bl_drewN|apply bl_drew|refine bl_set ?_ (by simp<;>omega) _|refine bl_then ?_ (by assumption)))⟩ (by (repeat' with_reducible first|assumption|exact Below.refl _ _|apply bl_alloc|apply bl_drewN|apply bl_drew|refine bl_set ?_ (by simp<;>omega) _|refine bl_then ?_ (by assumption)))
end Go.Proofs.YtjpagpplkldbkaaGreat
