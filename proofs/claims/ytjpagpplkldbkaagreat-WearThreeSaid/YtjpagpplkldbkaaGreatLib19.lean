/- When something can have been seen. -/
import Derived.Test.YtjpagpplkldbkaaGreatLib18
set_option linter.unusedVariables false
set_option linter.unusedSimpArgs false
namespace Go.Proofs.YtjpagpplkldbkaaGreat
open Go.RowKit Go.Shelf WH
theorem field_lo (a b : Int) (w : World) : (Instr.field 27 (.agg #[.int .i64 a, .int .i64 b]) 0).run Tryz.prog w = .ok (.int .i64 a) w := by kernel_rfl
theorem field_hi (a b : Int) (w : World) : (Instr.field 27 (.agg #[.int .i64 a, .int .i64 b]) 1).run Tryz.prog w = .ok (.int .i64 b) w := by kernel_rfl
attribute [local go_sem] field_lo field_hi
theorem ok_seen {f : Fl} (hf : f.good) {k : Nat} (hk : k < f.seen.length) : lookB f.seen[k].lv f.seen[k].er f.H = true ∧ withinB f.seen[k].lo f.seen[k].hi 0 1048576 = true := by
  have h := hf.seen _ (List.getElem_mem hk)
  unfold okSn at h
  simp only [Bool.and_eq_true] at h
  exact ⟨h.2, h.1⟩
section
variable {P : Program} {l : List Oper} {Q : Exit → Act → World → Prop} {S : World → Prop} {k : Nat}
/-- Two operations can come now. -/
theorem x_two (i j : Nat) {oi oj : Oper} {fuel : Nat} {listed : Array Bool} {a : Act} {w : World} (hi : opN l i = some oi) (hj : opN l j = some oj) (hr : Region.ready .any l.toArray listed = [i, j]) (hk : (k == i) = false) (hk2 : (k == j) = false)
    (h : ∀ K' : Act → World → Prop, Shut (∀ a w, S w → wpX P l.toArray Q S k fuel (listed.setIfInBounds i true) a w → K' a w) → if Region.wanted oi (yielded l.toArray a.tmps) = true then Oper.wp P oi a w K' Q else K' (a.put oi.dst undef) w)
    (h2 : ∀ K' : Act → World → Prop, Shut (∀ a w, S w → wpX P l.toArray Q S k fuel (listed.setIfInBounds j true) a w → K' a w) → if Region.wanted oj (yielded l.toArray a.tmps) = true then Oper.wp P oj a w K' Q else K' (a.put oj.dst undef) w) :
    wpX P l.toArray Q S k (fuel + 1) listed a w := by
  simp at hk hk2
  refine .inr ⟨by rw [hr]; simp [hk, hk2], fun h0 => (by rw [hr] at h0; cases h0), fun n hn => ?_⟩
  rw [hr] at hn
  rcases List.mem_cons.1 hn with rfl | hn
  · exact wpOp_step (opN_get hi) fun K' hK => h K' (fun a w hS hX => hK a w ⟨hS, hX⟩)
  · rw [List.mem_singleton.1 hn]
    exact wpOp_step (opN_get hj) fun K' hK => h2 K' (fun a w hS hX => hK a w ⟨hS, hX⟩)
end
theorem bk_drew_c {w : World} {a : Addr} {v : Value} (h : w.cell? a = some v) : w.drew.cell? a = some v := h
def Fl.seE (f : Fl) (i : Int) : Int := f.rdy (fromB i 0 ((f.seen.length : Int) - 1))
def Sn.cLo (f : Fl) (s : Sn) : Int := max s.lo (f.reachLo (lvHi f.H s.lv s.er))
def Sn.cHi (f : Fl) (s : Sn) : Int := if 0 < lvLo s.lv s.er then min s.hi (f.reachHi (lvLo s.lv s.er)) else s.hi
def Fl.seLo (f : Fl) (i : Int) : Int := if f.seE i = 0 then (f.seen.getD i.toNat default).cLo f else 0
def Fl.seHi (f : Fl) (i : Int) : Int := if f.seE i = 0 then (f.seen.getD i.toNat default).cHi f else 0
set_option maxRecDepth 100000 in
set_option maxHeartbeats 1000000 in
theorem seen_api (v : Value) (f : Fl) (l : Int) (w : World) (hf : Fv w v f) : Calls Tryz.prog 25 #[v, .int .i64 l] w fun e w' => e = .returned (.tuple #[.agg #[.int .i64 (f.seLo l), .int .i64 (f.seHi l)], .int .i64 (f.seE l)]) ∧ Below w.heap.size w w' := by
  obtain ⟨vv, sv, rfl, hv, hs⟩ := hf
  have HV := Lib.hid hv
  have HSE := Lib.hid hs
  clear hv hs
  unfold flC
  have hq : AskS 97 #[.pointer (some ⟨w.heap.size + 1, 0, none⟩)] f (fromB l 0 ((f.seen.length : Int) - 1)) (((w.alloc (.cells #[vv, .int .i64 f.lv, .int .i64 f.er, .int .i64 f.wl, .int .i64 f.wh, sv] 30)).alloc (.cells #[.int .i64 l] 3)).alloc (.cells #[.int .i64 0, .int .i64 0] 27)) := by
    intro _ g W hb hst
    have h1 := bk_alloc (bk_new (w.alloc (.cells #[vv, .int .i64 f.lv, .int .i64 f.er, .int .i64 f.wl, .int .i64 f.wh, sv] 30)) (.cells #[.int .i64 l] 3)) (.cells #[.int .i64 0, .int .i64 0] 27)
    rw [World.size_alloc] at h1
    have h0 : W.cell? ⟨w.heap.size + 1, 0, none⟩ = some (.int .i64 l) := cl_below hb (bk_cell h1 0)
    exact qSeen_any g (w.heap.size + 1) f l W hst h0
  have HQ := Lib.hid hq
  clear hq
  go_enter Tryz.func25, Tryz.ntmps25
  go_wp2_with fail
  refine (ready_any _ f 97 _ (fromB l 0 ((f.seen.length : Int) - 1)) _ ⟨vv, sv, rfl, HV.out.below (by (repeat' with_reducible first|assumption|exact Below.refl _ _|apply bl_alloc|apply bl_drewN|apply bl_drew|refine bl_set ?_ (by simp<;>omega) _|refine bl_then ?_ (by assumption))), HSE.out.below (by (repeat' with_reducible first|assumption|exact Below.refl _ _|apply bl_alloc|apply bl_drewN|apply bl_drew|refine bl_set ?_ (by simp<;>omega) _|refine bl_then ?_ (by assumption)))⟩ (enters_of Tryz.func97 (by kernel_rfl) rfl) HQ.out).mono ?_
  intro e1 w1 hrd
  have hA : ∀ {W : World}, Below (((w.alloc (.cells #[vv, .int .i64 f.lv, .int .i64 f.er, .int .i64 f.wl, .int .i64 f.wh, sv] 30)).alloc (.cells #[.int .i64 l] 3)).alloc (.cells #[.int .i64 0, .int .i64 0] 27)).heap.size (((w.alloc (.cells #[vv, .int .i64 f.lv, .int .i64 f.er, .int .i64 f.wl, .int .i64 f.wh, sv] 30)).alloc (.cells #[.int .i64 l] 3)).alloc (.cells #[.int .i64 0, .int .i64 0] 27)) W →
      W.heap[w.heap.size + 1]? = some (.cells #[.int .i64 l] 3 (0, 0)) ∧ W.heap[w.heap.size + 2]? = some (.cells #[.int .i64 0, .int .i64 0] 27 (0, 0)) := fun hb => by
    have h1 := bk_below (bk_alloc (bk_new (w.alloc (.cells #[vv, .int .i64 f.lv, .int .i64 f.er, .int .i64 f.wl, .int .i64 f.wh, sv] 30)) (.cells #[.int .i64 l] 3)) _) hb
    have h2 := bk_below (bk_new ((w.alloc (.cells #[vv, .int .i64 f.lv, .int .i64 f.er, .int .i64 f.wl, .int .i64 f.wh, sv] 30)).alloc (.cells #[.int .i64 l] 3)) (.cells #[.int .i64 0, .int .i64 0] 27)) hb
    rw [World.size_alloc] at h1
    rw [World.size_alloc, World.size_alloc] at h2
    exact ⟨h1, h2⟩
  rcases hrd with ⟨hno, rfl, hb1⟩ | ⟨h0, hg, hrb, hem, kv, rfl, hkn, hb1⟩
  · obtain ⟨h1, h2⟩ := hA hb1
    obtain ⟨⟨z2, z3⟩, f2, f3⟩ := blk2 h2
    have hlt := bk_lt h2
    have H2 := Lib.hid h2
    have HE : Hid (f.seLo l = 0 ∧ f.seHi l = 0 ∧ f.seE l = f.rdy (fromB l 0 ((f.seen.length : Int) - 1))) := Lib.hid ⟨if_neg hno, if_neg hno, rfl⟩
    have hne : (f.rdy (fromB l 0 ((f.seen.length : Int) - 1)) == 0) = false := by simpa using hno
    have hne2 : (f.rdy (fromB l 0 ((f.seen.length : Int) - 1)) != 0) = true := by simpa using hno
    clear h1 h2 hno hA
    unfold knZ
    generalize hn : f.rdy (fromB l 0 ((f.seen.length : Int) - 1)) = n at *
    have HN := Lib.hid hn
    clear hn
    go_wp2
    refine bodyPost_ret (v := .tuple #[.agg #[.int .i64 0, .int .i64 0], .int .i64 n]) (res_list (vs := [_, _]) rfl (by simp) (.cell (w.heap.size + 2) 27 _ (0, 0) _ rfl (by first | exact bk_alloc (bk_put2 H2.out) _ | exact bk_put2 (bk_alloc H2.out _)) Tryz.underlying27 rfl (by kernel_rfl) (.tmp rfl .nil))) rfl ?_
    exact ⟨by rw [HE.out.1, HE.out.2.1, HE.out.2.2], by (repeat' with_reducible first|assumption|exact Below.refl _ _|apply bl_alloc|apply bl_drewN|apply bl_drew|refine bl_set ?_ (by simp<;>omega) _|refine bl_then ?_ (by assumption))⟩
  · obtain ⟨h1, h2⟩ := hA hb1
    have H1 := Lib.hid h1
    have H2 := Lib.hid h2
    obtain ⟨hl0, hl1⟩ := fromB_iff.1 hrb
    obtain ⟨k, rfl⟩ : ∃ k : Nat, l = (k : Int) := ⟨l.toNat, by omega⟩
    have hk : k < f.seen.length := by omega
    have hgd : f.seen.getD k default = f.seen[k] := by rw [List.getD_eq_getElem?_getD, List.getElem?_eq_getElem hk]; rfl
    have h0' : f.seE k = 0 := h0
    have HE : Hid (f.seLo k = (f.seen[k]).cLo f ∧ f.seHi k = (f.seen[k]).cHi f ∧ f.seE k = 0) := Lib.hid ⟨by unfold Fl.seLo; rw [if_pos h0', Int.toNat_natCast, hgd], by unfold Fl.seHi; rw [if_pos h0', Int.toNat_natCast, hgd], h0'⟩
    clear h0'
    obtain ⟨hlk, hwi⟩ := ok_seen hg hk
    obtain ⟨a1, a2, a3, a4⟩ := lv_bd hlk
    obtain ⟨k1, k2, k3, k4⟩ := look_bd hlk
    have hH := H_bd hg.v
    have HG := Lib.hid hg
    have HK := Lib.hid hkn
    obtain ⟨g, va, vb, rfl, hst, hka, hkb⟩ := hkn
    obtain ⟨Aa, ka, rfl, _⟩ := hka
    obtain ⟨Ab, kb, rfl, _⟩ := hkb
    have HST := Lib.hid hst
    obtain ⟨vv', sv', tv', hgs, _, hss, _⟩ := hst
    obtain ⟨As, cs, rfl, hl, hc, hcs⟩ := hss
    obtain ⟨b, off, rfl, hcell⟩ := hcs (by intro h; simp [h] at hk)
    obtain ⟨n0, n1, n2, n3⟩ := sn_cells hcell hk
    have c5 := bk_cell hgs 5
    simp [stC] at c5
    have hB1 : Below w.heap.size w w1 := by (repeat' with_reducible first|assumption|exact Below.refl _ _|apply bl_alloc|apply bl_drewN|apply bl_drew|refine bl_set ?_ (by simp<;>omega) _|refine bl_then ?_ (by assumption))
    have hgl := bk_lt hgs
    clear hA hem hrb h0 hcell hcs hgs hl0 hl1 hgd hlk hwi hb1
    have hk63 : (k : Int) < 9223372036854775807 := by omega
    have hkl : (k : Int) < (f.seen.length : Int) := by omega
    unfold knC
    unfold knC at HK
    go_wp2
    have hC2 : Below w1.heap.size w1 (w1.alloc (.cells #[.pointer (some ⟨g, 0, none⟩), .int .i64 f.sol.lo.r.n, .int .i64 f.sol.lo.r.d, .bool f.sol.lo.strict, .int .i64 f.sol.hi.r.n, .int .i64 f.sol.hi.r.d, .bool f.sol.hi.strict, .slice Aa f.sol.above.length ka, .slice Ab f.sol.below.length kb, .bool f.sol.empty] 125)) := bl_alloc (Below.refl _ _) _
    have hkk := bk_new w1 (.cells #[.pointer (some ⟨g, 0, none⟩), .int .i64 f.sol.lo.r.n, .int .i64 f.sol.lo.r.d, .bool f.sol.lo.strict, .int .i64 f.sol.hi.r.n, .int .i64 f.sol.hi.r.d, .bool f.sol.hi.strict, .slice Aa f.sol.above.length ka, .slice Ab f.sol.below.length kb, .bool f.sol.empty] 125)
    replace c5 := cl_alloc c5 (.cells #[.pointer (some ⟨g, 0, none⟩), .int .i64 f.sol.lo.r.n, .int .i64 f.sol.lo.r.d, .bool f.sol.lo.strict, .int .i64 f.sol.hi.r.n, .int .i64 f.sol.hi.r.d, .bool f.sol.hi.strict, .slice Aa f.sol.above.length ka, .slice Ab f.sol.below.length kb, .bool f.sol.empty] 125)
    replace n0 := cl_alloc n0 (.cells #[.pointer (some ⟨g, 0, none⟩), .int .i64 f.sol.lo.r.n, .int .i64 f.sol.lo.r.d, .bool f.sol.lo.strict, .int .i64 f.sol.hi.r.n, .int .i64 f.sol.hi.r.d, .bool f.sol.hi.strict, .slice Aa f.sol.above.length ka, .slice Ab f.sol.below.length kb, .bool f.sol.empty] 125)
    replace n1 := cl_alloc n1 (.cells #[.pointer (some ⟨g, 0, none⟩), .int .i64 f.sol.lo.r.n, .int .i64 f.sol.lo.r.d, .bool f.sol.lo.strict, .int .i64 f.sol.hi.r.n, .int .i64 f.sol.hi.r.d, .bool f.sol.hi.strict, .slice Aa f.sol.above.length ka, .slice Ab f.sol.below.length kb, .bool f.sol.empty] 125)
    replace n2 := cl_alloc n2 (.cells #[.pointer (some ⟨g, 0, none⟩), .int .i64 f.sol.lo.r.n, .int .i64 f.sol.lo.r.d, .bool f.sol.lo.strict, .int .i64 f.sol.hi.r.n, .int .i64 f.sol.hi.r.d, .bool f.sol.hi.strict, .slice Aa f.sol.above.length ka, .slice Ab f.sol.below.length kb, .bool f.sol.empty] 125)
    replace n3 := cl_alloc n3 (.cells #[.pointer (some ⟨g, 0, none⟩), .int .i64 f.sol.lo.r.n, .int .i64 f.sol.lo.r.d, .bool f.sol.lo.strict, .int .i64 f.sol.hi.r.n, .int .i64 f.sol.hi.r.d, .bool f.sol.hi.strict, .slice Aa f.sol.above.length ka, .slice Ab f.sol.below.length kb, .bool f.sol.empty] 125)
    replace h1 := bk_alloc h1 (.cells #[.pointer (some ⟨g, 0, none⟩), .int .i64 f.sol.lo.r.n, .int .i64 f.sol.lo.r.d, .bool f.sol.lo.strict, .int .i64 f.sol.hi.r.n, .int .i64 f.sol.hi.r.d, .bool f.sol.hi.strict, .slice Aa f.sol.above.length ka, .slice Ab f.sol.below.length kb, .bool f.sol.empty] 125)
    replace h2 := bk_alloc h2 (.cells #[.pointer (some ⟨g, 0, none⟩), .int .i64 f.sol.lo.r.n, .int .i64 f.sol.lo.r.d, .bool f.sol.lo.strict, .int .i64 f.sol.hi.r.n, .int .i64 f.sol.hi.r.d, .bool f.sol.hi.strict, .slice Aa f.sol.above.length ka, .slice Ab f.sol.below.length kb, .bool f.sol.empty] 125)
    have hk1 : w.heap.size + 2 < w1.heap.size := bk_lt H2.out
    generalize hW2 : w1.alloc (.cells #[.pointer (some ⟨g, 0, none⟩), .int .i64 f.sol.lo.r.n, .int .i64 f.sol.lo.r.d, .bool f.sol.lo.strict, .int .i64 f.sol.hi.r.n, .int .i64 f.sol.hi.r.d, .bool f.sol.hi.strict, .slice Aa f.sol.above.length ka, .slice Ab f.sol.below.length kb, .bool f.sol.empty] 125) = W2 at *
    clear hW2 H1 H2 hgl
    have y0 := bk_cell h1 0
    have xx := (agg10 hkk).1
    simp at y0
    obtain ⟨x0, x1, x2, x3, x4, x5, x6, x7, x8, x9⟩ := xx
    have hEk := bk_lt hkk
    have H2 := Lib.hid h2
    have HKK := Lib.hid hkk
    clear h1 h2 hkk
    have c5' := cl_alloc c5 (.cells #[.int .i64 0, .int .i64 0] 27)
    have n0' := cl_alloc n0 (.cells #[.int .i64 0, .int .i64 0] 27)
    have n1' := cl_alloc n1 (.cells #[.int .i64 0, .int .i64 0] 27)
    have x0' := cl_alloc x0 (.cells #[.int .i64 0, .int .i64 0] 27)
    have y0' := cl_alloc y0 (.cells #[.int .i64 0, .int .i64 0] 27)
    go_region
    replace c5 := bk_drew_c (cl_alloc c5 (.cells #[.int .i64 f.seen[k].lo, .int .i64 f.seen[k].hi] 27))
    replace n2 := bk_drew_c (cl_alloc n2 (.cells #[.int .i64 f.seen[k].lo, .int .i64 f.seen[k].hi] 27))
    replace n3 := bk_drew_c (cl_alloc n3 (.cells #[.int .i64 f.seen[k].lo, .int .i64 f.seen[k].hi] 27))
    replace x0 := bk_drew_c (cl_alloc x0 (.cells #[.int .i64 f.seen[k].lo, .int .i64 f.seen[k].hi] 27))
    replace y0 := bk_drew_c (cl_alloc y0 (.cells #[.int .i64 f.seen[k].lo, .int .i64 f.seen[k].hi] 27))
    have HE3 := Lib.hid (bk_drew (bk_new W2 (.cells #[.int .i64 f.seen[k].lo, .int .i64 f.seen[k].hi] 27)))
    have hb3 : Below W2.heap.size W2 (W2.alloc (.cells #[.int .i64 f.seen[k].lo, .int .i64 f.seen[k].hi] 27)).drew := by (repeat' with_reducible first|assumption|exact Below.refl _ _|apply bl_alloc|apply bl_drewN|apply bl_drew|refine bl_set ?_ (by simp<;>omega) _|refine bl_then ?_ (by assumption))
    have H23 := Lib.hid (bk_below H2.out hb3)
    have HKK3 := Lib.hid (bk_below HKK.out hb3)
    have hC3 : Below w1.heap.size w1 (W2.alloc (.cells #[.int .i64 f.seen[k].lo, .int .i64 f.seen[k].hi] 27)).drew := by (repeat' with_reducible first|assumption|exact Below.refl _ _|apply bl_alloc|apply bl_drewN|apply bl_drew|refine bl_set ?_ (by simp<;>omega) _|refine bl_then ?_ (by assumption))
    generalize hW3 : (W2.alloc (.cells #[.int .i64 f.seen[k].lo, .int .i64 f.seen[k].hi] 27)).drew = W3 at *
    generalize hE : W2.heap.size = E at *
    clear hW3 hE
    clear c5' n0' n1' x0' y0'
    clear hb3 HKK H2 x1 x2 x3 x4 x5 x6 x7 x8 x9 n0 n1 hC2 W2
    go_wp2
    refine p_start (by kernel_rfl) ?_
    refine x_enter 14 (fun hX_ => ?_)
    (refine x_pure 0 (v := ?_) rfl (by kernel_rfl) (fun _ _ _ h => h) rfl ?_ hX_ ?_; rotate_left; (focus (intro w_ hS_; have c5_ := cl_below hS_ c5; have x0_ := cl_below hS_ x0; have y0_ := cl_below hS_ y0; have n2_ := cl_below hS_ n2; have n3_ := cl_below hS_ n3; go_simp; (try (first | with_reducible rfl | (constructor <;> with_reducible rfl))); done)); (try simp only [Act.put, List.setIfInBounds_toArray, List.set_cons_zero, List.set_cons_succ]))
    (refine x_pure 1 (v := ?_) rfl (by kernel_rfl) (fun _ _ _ h => h) rfl ?_ hX_ ?_; rotate_left; (focus (intro w_ hS_; have c5_ := cl_below hS_ c5; have x0_ := cl_below hS_ x0; have y0_ := cl_below hS_ y0; have n2_ := cl_below hS_ n2; have n3_ := cl_below hS_ n3; go_simp; (try (first | with_reducible rfl | (constructor <;> with_reducible rfl))); done)); (try simp only [Act.put, List.setIfInBounds_toArray, List.set_cons_zero, List.set_cons_succ]))
    (refine x_pure 2 (v := ?_) rfl (by kernel_rfl) (fun _ _ _ h => h) rfl ?_ hX_ ?_; rotate_left; (focus (intro w_ hS_; have c5_ := cl_below hS_ c5; have x0_ := cl_below hS_ x0; have y0_ := cl_below hS_ y0; have n2_ := cl_below hS_ n2; have n3_ := cl_below hS_ n3; go_simp; (try (first | with_reducible rfl | (constructor <;> with_reducible rfl))); done)); (try simp only [Act.put, List.setIfInBounds_toArray, List.set_cons_zero, List.set_cons_succ]))
    (refine x_pure 3 (v := ?_) rfl (by kernel_rfl) (fun _ _ _ h => h) rfl ?_ hX_ ?_; rotate_left; (focus (intro w_ hS_; have c5_ := cl_below hS_ c5; have x0_ := cl_below hS_ x0; have y0_ := cl_below hS_ y0; have n2_ := cl_below hS_ n2; have n3_ := cl_below hS_ n3; go_simp; (try (first | with_reducible rfl | (constructor <;> with_reducible rfl))); done)); (try simp only [Act.put, List.setIfInBounds_toArray, List.set_cons_zero, List.set_cons_succ]))
    (refine x_pure 4 (v := ?_) rfl (by kernel_rfl) (fun _ _ _ h => h) rfl ?_ hX_ ?_; rotate_left; (focus (intro w_ hS_; have c5_ := cl_below hS_ c5; have x0_ := cl_below hS_ x0; have y0_ := cl_below hS_ y0; have n2_ := cl_below hS_ n2; have n3_ := cl_below hS_ n3; go_simp; (try (first | with_reducible rfl | (constructor <;> with_reducible rfl))); done)); (try simp only [Act.put, List.setIfInBounds_toArray, List.set_cons_zero, List.set_cons_succ]))
    (refine x_pure 5 (v := ?_) rfl (by kernel_rfl) (fun _ _ _ h => h) rfl ?_ hX_ ?_; rotate_left; (focus (intro w_ hS_; have c5_ := cl_below hS_ c5; have x0_ := cl_below hS_ x0; have y0_ := cl_below hS_ y0; have n2_ := cl_below hS_ n2; have n3_ := cl_below hS_ n3; go_simp; (try (first | with_reducible rfl | (constructor <;> with_reducible rfl))); done)); (try simp only [Act.put, List.setIfInBounds_toArray, List.set_cons_zero, List.set_cons_succ]))
    (refine x_pure 6 (v := ?_) rfl (by kernel_rfl) (fun _ _ _ h => h) rfl ?_ hX_ ?_; rotate_left; (focus (intro w_ hS_; have c5_ := cl_below hS_ c5; have x0_ := cl_below hS_ x0; have y0_ := cl_below hS_ y0; have n2_ := cl_below hS_ n2; have n3_ := cl_below hS_ n3; go_simp; (try (first | with_reducible rfl | (constructor <;> with_reducible rfl))); done)); (try simp only [Act.put, List.setIfInBounds_toArray, List.set_cons_zero, List.set_cons_succ]))
    (refine x_pure 7 (v := ?_) rfl (by kernel_rfl) (fun _ _ _ h => h) rfl ?_ hX_ ?_; rotate_left; (focus (intro w_ hS_; have c5_ := cl_below hS_ c5; have x0_ := cl_below hS_ x0; have y0_ := cl_below hS_ y0; have n2_ := cl_below hS_ n2; have n3_ := cl_below hS_ n3; go_simp; (try (first | with_reducible rfl | (constructor <;> with_reducible rfl))); done)); (try simp only [Act.put, List.setIfInBounds_toArray, List.set_cons_zero, List.set_cons_succ]))
    (refine x_pure 8 (v := ?_) rfl (by kernel_rfl) (fun _ _ _ h => h) rfl ?_ hX_ ?_; rotate_left; (focus (intro w_ hS_; have c5_ := cl_below hS_ c5; have x0_ := cl_below hS_ x0; have y0_ := cl_below hS_ y0; have n2_ := cl_below hS_ n2; have n3_ := cl_below hS_ n3; go_simp; (try (first | with_reducible rfl | (constructor <;> with_reducible rfl))); done)); (try simp only [Act.put, List.setIfInBounds_toArray, List.set_cons_zero, List.set_cons_succ]))
    (refine x_pure 9 (v := ?_) rfl (by kernel_rfl) (fun _ _ _ h => h) rfl ?_ hX_ ?_; rotate_left; (focus (intro w_ hS_; have c5_ := cl_below hS_ c5; have x0_ := cl_below hS_ x0; have y0_ := cl_below hS_ y0; have n2_ := cl_below hS_ n2; have n3_ := cl_below hS_ n3; go_simp; (try (first | with_reducible rfl | (constructor <;> with_reducible rfl))); done)); (try simp only [Act.put, List.setIfInBounds_toArray, List.set_cons_zero, List.set_cons_succ]))
    (refine x_pure 10 (v := ?_) rfl (by kernel_rfl) (fun _ _ _ h => h) rfl ?_ hX_ ?_; rotate_left; (focus (intro w_ hS_; have c5_ := cl_below hS_ c5; have x0_ := cl_below hS_ x0; have y0_ := cl_below hS_ y0; have n2_ := cl_below hS_ n2; have n3_ := cl_below hS_ n3; go_simp; (try (first | with_reducible rfl | (constructor <;> with_reducible rfl))); done)); (try simp only [Act.put, List.setIfInBounds_toArray, List.set_cons_zero, List.set_cons_succ]))
    (refine x_pure 11 (v := ?_) rfl (by kernel_rfl) (fun _ _ _ h => h) rfl ?_ hX_ ?_; rotate_left; (focus (intro w_ hS_; have c5_ := cl_below hS_ c5; have x0_ := cl_below hS_ x0; have y0_ := cl_below hS_ y0; have n2_ := cl_below hS_ n2; have n3_ := cl_below hS_ n3; go_simp; (try (first | with_reducible rfl | (constructor <;> with_reducible rfl))); done)); (try simp only [Act.put, List.setIfInBounds_toArray, List.set_cons_zero, List.set_cons_succ]))
    refine x_two 12 13 rfl rfl (by kernel_rfl) rfl rfl (fun K hK => ?_) (fun K hK => ?_)
    · go_simp
      refine (levels_any g f f.seen[k].lv f.seen[k].er _ (HST.out.below (by (repeat' with_reducible first|assumption|exact Below.refl _ _|apply bl_alloc|apply bl_drewN|apply bl_drew|refine bl_set ?_ (by simp<;>omega) _|refine bl_then ?_ (by assumption)))) HG.out.v ⟨k1, by omega⟩ ⟨k3, k4⟩).mono ?_
      rintro e2 w2 ⟨rfl, hb2⟩
      refine hK.out _ _ (bl_then hX_ hb2) ?_
      clear hK K
      (try simp only [Act.put, List.setIfInBounds_toArray, List.set_cons_zero, List.set_cons_succ])
      refine x_only 13 rfl (by kernel_rfl) rfl (fun K hK => ?_)
      go_simp
      refine hK.out _ _ (bl_alloc (bl_then hX_ hb2) _) ?_
      clear hK K
      (try simp only [Act.put, List.setIfInBounds_toArray, List.set_cons_zero, List.set_cons_succ])
      refine x_exit (by kernel_rfl) ?_
      have hT := bk_new w2 (.cells #[.int .i64 0, .int .i64 0] 27)
      have hb5 : Below W3.heap.size W3 (w2.alloc (.cells #[.int .i64 0, .int .i64 0] 27)) := by (repeat' with_reducible first|assumption|exact Below.refl _ _|apply bl_alloc|apply bl_drewN|apply bl_drew|refine bl_set ?_ (by simp<;>omega) _|refine bl_then ?_ (by assumption))
      have hTge : W3.heap.size ≤ w2.heap.size := hb2.size
      clear hX_
      generalize hW5 : w2.alloc (.cells #[.int .i64 0, .int .i64 0] 27) = W5 at *
      generalize hT0 : w2.heap.size = T at *
      clear hW5 hb2 hT0 w2
      have HT := Lib.hid hT
      obtain ⟨⟨t0, t1⟩, tf0, tf1⟩ := blk2 hT
      have hlT := bk_lt hT
      have hlE := bk_lt HE3.out
      clear hT
      (refine p_only 14 rfl (by kernel_rfl) (fun K hK => ?_); go_simp; refine hK.out _ _ ?_; clear hK K; (try simp only [Act.put, List.setIfInBounds_toArray, List.set_cons_zero, List.set_cons_succ]))
      refine wpAny_done (by kernel_rfl) ?_ _
      have hT6 := bk_put2 (a := (.int .i64 (lvLo f.seen[k].lv f.seen[k].er))) (b := (.int .i64 (lvHi f.H f.seen[k].lv f.seen[k].er))) HT.out
      have hb6 : Below W3.heap.size W3 ((W5.setCell ⟨T, 0, none⟩ (.int .i64 (lvLo f.seen[k].lv f.seen[k].er))).setCell ⟨T, 1, none⟩ (.int .i64 (lvHi f.H f.seen[k].lv f.seen[k].er))) := by (repeat' with_reducible first|assumption|exact Below.refl _ _|apply bl_alloc|apply bl_drewN|apply bl_drew|refine bl_set ?_ (by simp<;>omega) _|refine bl_then ?_ (by assumption))
      have hC6 : Below w1.heap.size w1 ((W5.setCell ⟨T, 0, none⟩ (.int .i64 (lvLo f.seen[k].lv f.seen[k].er))).setCell ⟨T, 1, none⟩ (.int .i64 (lvHi f.H f.seen[k].lv f.seen[k].er))) := by (repeat' with_reducible first|assumption|exact Below.refl _ _|apply bl_alloc|apply bl_drewN|apply bl_drew|refine bl_set ?_ (by simp<;>omega) _|refine bl_then ?_ (by assumption))
      generalize hW6 : (W5.setCell ⟨T, 0, none⟩ (.int .i64 (lvLo f.seen[k].lv f.seen[k].er))).setCell ⟨T, 1, none⟩ (.int .i64 (lvHi f.H f.seen[k].lv f.seen[k].er)) = W6 at *
      clear hW6 HT t0 t1 tf0 tf1 hlT hb5
      have h2 := bk_below H23.out hb6
      have hkk := bk_below HKK3.out hb6
      have hee := bk_below HE3.out hb6
      have hle : lvLo f.seen[k].lv f.seen[k].er ≤ f.H := by omega
      have hhi : 0 ≤ lvHi f.H f.seen[k].lv f.seen[k].er := by omega
      have H26 := Lib.hid h2
      have HT6 := Lib.hid hT6
      have HE6 := Lib.hid hee
      clear c5 n2 n3 x0 y0 hb6
      obtain ⟨⟨x0, x1, x2, x3, x4, x5, x6, x7, x8, x9⟩, _⟩ := agg10 hkk
      obtain ⟨⟨e0, e1⟩, _, _⟩ := blk2 hee
      obtain ⟨⟨t0, t1⟩, _, _⟩ := blk2 hT6
      have HKK6 := Lib.hid hkk
      clear hee hT6 h2 hkk
      have hcLo : (if f.seen[k].lo < f.reachLo (lvHi f.H f.seen[k].lv f.seen[k].er) then f.reachLo (lvHi f.H f.seen[k].lv f.seen[k].er) else f.seen[k].lo) = (f.seen[k]).cLo f := by unfold Sn.cLo; split <;> omega
      have HcHi : Hid ((f.seen[k]).cHi f = if 0 < lvLo f.seen[k].lv f.seen[k].er then min f.seen[k].hi (f.reachHi (lvLo f.seen[k].lv f.seen[k].er)) else f.seen[k].hi) := Lib.hid rfl
      generalize hLo : lvLo f.seen[k].lv f.seen[k].er = lo at *
      generalize hHi : lvHi f.H f.seen[k].lv f.seen[k].er = hi at *
      have HcLo := Lib.hid hcLo
      clear hcLo
      go_wp2
      ((refine p_start (by kernel_rfl) ?_); (refine t_enter' 8 ?_); ((refine t_pure 0 (v := ?_) rfl (by kernel_rfl) (fun _ _ _ h => h) rfl ?_ ?_; rotate_left; (focus (intro w_ hS_; have e0 := cl_below hS_ e0; have e1 := cl_below hS_ e1; have t0 := cl_below hS_ t0; have t1 := cl_below hS_ t1; have x0 := cl_below hS_ x0; have x1 := cl_below hS_ x1; have x2 := cl_below hS_ x2; have x3 := cl_below hS_ x3; have x4 := cl_below hS_ x4; have x5 := cl_below hS_ x5; have x6 := cl_below hS_ x6; have x7 := cl_below hS_ x7; have x8 := cl_below hS_ x8; have x9 := cl_below hS_ x9; go_simp; (try (first | with_reducible rfl | (constructor <;> with_reducible rfl))); done)); (try simp only [Act.put, List.setIfInBounds_toArray, List.set_cons_zero, List.set_cons_succ]))); ((refine t_pure 1 (v := ?_) rfl (by kernel_rfl) (fun _ _ _ h => h) rfl ?_ ?_; rotate_left; (focus (intro w_ hS_; have e0 := cl_below hS_ e0; have e1 := cl_below hS_ e1; have t0 := cl_below hS_ t0; have t1 := cl_below hS_ t1; have x0 := cl_below hS_ x0; have x1 := cl_below hS_ x1; have x2 := cl_below hS_ x2; have x3 := cl_below hS_ x3; have x4 := cl_below hS_ x4; have x5 := cl_below hS_ x5; have x6 := cl_below hS_ x6; have x7 := cl_below hS_ x7; have x8 := cl_below hS_ x8; have x9 := cl_below hS_ x9; go_simp; (try (first | with_reducible rfl | (constructor <;> with_reducible rfl))); done)); (try simp only [Act.put, List.setIfInBounds_toArray, List.set_cons_zero, List.set_cons_succ]))); ((refine t_pure 2 (v := ?_) rfl (by kernel_rfl) (fun _ _ _ h => h) rfl ?_ ?_; rotate_left; (focus (intro w_ hS_; have e0 := cl_below hS_ e0; have e1 := cl_below hS_ e1; have t0 := cl_below hS_ t0; have t1 := cl_below hS_ t1; have x0 := cl_below hS_ x0; have x1 := cl_below hS_ x1; have x2 := cl_below hS_ x2; have x3 := cl_below hS_ x3; have x4 := cl_below hS_ x4; have x5 := cl_below hS_ x5; have x6 := cl_below hS_ x6; have x7 := cl_below hS_ x7; have x8 := cl_below hS_ x8; have x9 := cl_below hS_ x9; go_simp; (try (first | with_reducible rfl | (constructor <;> with_reducible rfl))); done)); (try simp only [Act.put, List.setIfInBounds_toArray, List.set_cons_zero, List.set_cons_succ]))); ((refine t_pure 3 (v := ?_) rfl (by kernel_rfl) (fun _ _ _ h => h) rfl ?_ ?_; rotate_left; (focus (intro w_ hS_; have e0 := cl_below hS_ e0; have e1 := cl_below hS_ e1; have t0 := cl_below hS_ t0; have t1 := cl_below hS_ t1; have x0 := cl_below hS_ x0; have x1 := cl_below hS_ x1; have x2 := cl_below hS_ x2; have x3 := cl_below hS_ x3; have x4 := cl_below hS_ x4; have x5 := cl_below hS_ x5; have x6 := cl_below hS_ x6; have x7 := cl_below hS_ x7; have x8 := cl_below hS_ x8; have x9 := cl_below hS_ x9; go_simp; (try (first | with_reducible rfl | (constructor <;> with_reducible rfl))); done)); (try simp only [Act.put, List.setIfInBounds_toArray, List.set_cons_zero, List.set_cons_succ]))); ((refine t_pure 4 (v := ?_) rfl (by kernel_rfl) (fun _ _ _ h => h) rfl ?_ ?_; rotate_left; (focus (intro w_ hS_; have e0 := cl_below hS_ e0; have e1 := cl_below hS_ e1; have t0 := cl_below hS_ t0; have t1 := cl_below hS_ t1; have x0 := cl_below hS_ x0; have x1 := cl_below hS_ x1; have x2 := cl_below hS_ x2; have x3 := cl_below hS_ x3; have x4 := cl_below hS_ x4; have x5 := cl_below hS_ x5; have x6 := cl_below hS_ x6; have x7 := cl_below hS_ x7; have x8 := cl_below hS_ x8; have x9 := cl_below hS_ x9; go_simp; (try (first | with_reducible rfl | (constructor <;> with_reducible rfl))); done)); (try simp only [Act.put, List.setIfInBounds_toArray, List.set_cons_zero, List.set_cons_succ]))); ((refine t_call 5 (v := ?_) rfl (by kernel_rfl) (fun _ _ _ h => h) rfl ?_ ?_ ?_ ?_ ?_; rotate_left 3; (focus (intro w_ hS_; have e0 := cl_below hS_ e0; have e1 := cl_below hS_ e1; have t0 := cl_below hS_ t0; have t1 := cl_below hS_ t1; have x0 := cl_below hS_ x0; have x1 := cl_below hS_ x1; have x2 := cl_below hS_ x2; have x3 := cl_below hS_ x3; have x4 := cl_below hS_ x4; have x5 := cl_below hS_ x5; have x6 := cl_below hS_ x6; have x7 := cl_below hS_ x7; have x8 := cl_below hS_ x8; have x9 := cl_below hS_ x9; go_simp; (try (first | with_reducible rfl | (constructor <;> with_reducible rfl))); done)); (focus (intro w_ hS_; have e0 := cl_below hS_ e0; have e1 := cl_below hS_ e1; have t0 := cl_below hS_ t0; have t1 := cl_below hS_ t1; have x0 := cl_below hS_ x0; have x1 := cl_below hS_ x1; have x2 := cl_below hS_ x2; have x3 := cl_below hS_ x3; have x4 := cl_below hS_ x4; have x5 := cl_below hS_ x5; have x6 := cl_below hS_ x6; have x7 := cl_below hS_ x7; have x8 := cl_below hS_ x8; have x9 := cl_below hS_ x9; ((go_at_call 88; refine (reached_any _ f hi _ (HK.out.below (by (repeat' with_reducible first|assumption|exact Below.refl _ _|apply bl_alloc|apply bl_drewN|apply bl_drew|refine bl_set ?_ (by simp<;>omega) _|refine bl_then ?_ (by assumption)))) HG.out hhi (by omega)).mono ?_; rintro e' w' ⟨rfl, hb⟩)); refine And.intro ?_ ?_; (focus (with_reducible rfl)); (first | exact bl_then hS_ (by assumption) | assumption))); (try simp only [Act.put, List.setIfInBounds_toArray, List.set_cons_zero, List.set_cons_succ]))); ((refine t_pure 6 (v := ?_) rfl (by kernel_rfl) (fun _ _ _ h => h) rfl ?_ ?_; rotate_left; (focus (intro w_ hS_; have e0 := cl_below hS_ e0; have e1 := cl_below hS_ e1; have t0 := cl_below hS_ t0; have t1 := cl_below hS_ t1; have x0 := cl_below hS_ x0; have x1 := cl_below hS_ x1; have x2 := cl_below hS_ x2; have x3 := cl_below hS_ x3; have x4 := cl_below hS_ x4; have x5 := cl_below hS_ x5; have x6 := cl_below hS_ x6; have x7 := cl_below hS_ x7; have x8 := cl_below hS_ x8; have x9 := cl_below hS_ x9; go_simp; (try (first | with_reducible rfl | (constructor <;> with_reducible rfl))); done)); (try simp only [Act.put, List.setIfInBounds_toArray, List.set_cons_zero, List.set_cons_succ]))); ((refine t_pure 7 (v := ?_) rfl (by kernel_rfl) (fun _ _ _ h => h) rfl ?_ ?_; rotate_left; (focus (intro w_ hS_; have e0 := cl_below hS_ e0; have e1 := cl_below hS_ e1; have t0 := cl_below hS_ t0; have t1 := cl_below hS_ t1; have x0 := cl_below hS_ x0; have x1 := cl_below hS_ x1; have x2 := cl_below hS_ x2; have x3 := cl_below hS_ x3; have x4 := cl_below hS_ x4; have x5 := cl_below hS_ x5; have x6 := cl_below hS_ x6; have x7 := cl_below hS_ x7; have x8 := cl_below hS_ x8; have x9 := cl_below hS_ x9; go_simp; (try (first | with_reducible rfl | (constructor <;> with_reducible rfl))); done)); (try simp only [Act.put, List.setIfInBounds_toArray, List.set_cons_zero, List.set_cons_succ]))); (refine t_exit (by kernel_rfl) (fun W_ hS_ => ?_)))
      rw [HcLo.out]
      clear e0 e1 t0 t1 x0 x1 x2 x3 x4 x5 x6 x7 x8 x9
      have hE7 := bk_below HE6.out hS_
      obtain ⟨⟨e0, e1⟩, ef0, ef1⟩ := blk2 hE7
      have hlE7 := bk_lt hE7
      (refine p_only 8 rfl (by kernel_rfl) (fun K hK => ?_); go_simp; refine hK.out _ _ ?_; clear hK K; (try simp only [Act.put, List.setIfInBounds_toArray, List.set_cons_zero, List.set_cons_succ]))
      (refine p_only 9 rfl (by kernel_rfl) (fun K hK => ?_); go_simp; refine hK.out _ _ ?_; clear hK K; (try simp only [Act.put, List.setIfInBounds_toArray, List.set_cons_zero, List.set_cons_succ]))
      refine wpAny_done (by kernel_rfl) ?_ _
      have hE8 := bk_put1 (cs' := #[.int .i64 ((f.seen[k]).cLo f), .int .i64 f.seen[k].hi]) hE7 0 (.int .i64 ((f.seen[k]).cLo f)) rfl
      have hT8 := bk_far (bk_below HT6.out hS_) (p := ⟨E, 0, none⟩) (by simp; omega) (.int .i64 ((f.seen[k]).cLo f))
      have hK8 := bk_far (bk_below HKK6.out hS_) (p := ⟨E, 0, none⟩) (by simp; omega) (.int .i64 ((f.seen[k]).cLo f))
      have h28 := bk_far (bk_below H26.out hS_) (p := ⟨E, 0, none⟩) (by simp; omega) (.int .i64 ((f.seen[k]).cLo f))
      have hC8 : Below w1.heap.size w1 (W_.setCell ⟨E, 0, none⟩ (.int .i64 ((f.seen[k]).cLo f))) := by (repeat' with_reducible first|assumption|exact Below.refl _ _|apply bl_alloc|apply bl_drewN|apply bl_drew|refine bl_set ?_ (by simp<;>omega) _|refine bl_then ?_ (by assumption))
      generalize hW8 : W_.setCell ⟨E, 0, none⟩ (.int .i64 ((f.seen[k]).cLo f)) = W8 at *
      clear hW8 e0 e1 ef0 ef1 hlE7 hE7 hS_ W_
      obtain ⟨⟨x0, x1, x2, x3, x4, x5, x6, x7, x8, x9⟩, _⟩ := agg10 hK8
      obtain ⟨⟨e0, e1⟩, ef0, ef1⟩ := blk2 hE8
      obtain ⟨⟨t0, t1⟩, _, _⟩ := blk2 hT8
      have HE8 := Lib.hid hE8
      have H28 := Lib.hid h28
      have hlE8 := bk_lt hE8
      have hl28 := bk_lt h28
      by_cases hp : 0 < lo
      · have hd : decide (0 < lo) = true := by simpa using hp
        have hcHi : (if f.reachHi lo < f.seen[k].hi then f.reachHi lo else f.seen[k].hi) = (f.seen[k]).cHi f := by rw [HcHi.out, if_pos hp]; split <;> omega
        have HcHi := Lib.hid hcHi
        clear hcHi h28 hK8 hT8 hE8 hp
        go_wp2
        ((refine p_start (by kernel_rfl) ?_); (refine t_enter' 8 ?_); ((refine t_pure 0 (v := ?_) rfl (by kernel_rfl) (fun _ _ _ h => h) rfl ?_ ?_; rotate_left; (focus (intro w_ hS_; have e0 := cl_below hS_ e0; have e1 := cl_below hS_ e1; have t0 := cl_below hS_ t0; have t1 := cl_below hS_ t1; have x0 := cl_below hS_ x0; have x1 := cl_below hS_ x1; have x2 := cl_below hS_ x2; have x3 := cl_below hS_ x3; have x4 := cl_below hS_ x4; have x5 := cl_below hS_ x5; have x6 := cl_below hS_ x6; have x7 := cl_below hS_ x7; have x8 := cl_below hS_ x8; have x9 := cl_below hS_ x9; go_simp; (try (first | with_reducible rfl | (constructor <;> with_reducible rfl))); done)); (try simp only [Act.put, List.setIfInBounds_toArray, List.set_cons_zero, List.set_cons_succ]))); ((refine t_pure 1 (v := ?_) rfl (by kernel_rfl) (fun _ _ _ h => h) rfl ?_ ?_; rotate_left; (focus (intro w_ hS_; have e0 := cl_below hS_ e0; have e1 := cl_below hS_ e1; have t0 := cl_below hS_ t0; have t1 := cl_below hS_ t1; have x0 := cl_below hS_ x0; have x1 := cl_below hS_ x1; have x2 := cl_below hS_ x2; have x3 := cl_below hS_ x3; have x4 := cl_below hS_ x4; have x5 := cl_below hS_ x5; have x6 := cl_below hS_ x6; have x7 := cl_below hS_ x7; have x8 := cl_below hS_ x8; have x9 := cl_below hS_ x9; go_simp; (try (first | with_reducible rfl | (constructor <;> with_reducible rfl))); done)); (try simp only [Act.put, List.setIfInBounds_toArray, List.set_cons_zero, List.set_cons_succ]))); ((refine t_pure 2 (v := ?_) rfl (by kernel_rfl) (fun _ _ _ h => h) rfl ?_ ?_; rotate_left; (focus (intro w_ hS_; have e0 := cl_below hS_ e0; have e1 := cl_below hS_ e1; have t0 := cl_below hS_ t0; have t1 := cl_below hS_ t1; have x0 := cl_below hS_ x0; have x1 := cl_below hS_ x1; have x2 := cl_below hS_ x2; have x3 := cl_below hS_ x3; have x4 := cl_below hS_ x4; have x5 := cl_below hS_ x5; have x6 := cl_below hS_ x6; have x7 := cl_below hS_ x7; have x8 := cl_below hS_ x8; have x9 := cl_below hS_ x9; go_simp; (try (first | with_reducible rfl | (constructor <;> with_reducible rfl))); done)); (try simp only [Act.put, List.setIfInBounds_toArray, List.set_cons_zero, List.set_cons_succ]))); ((refine t_pure 3 (v := ?_) rfl (by kernel_rfl) (fun _ _ _ h => h) rfl ?_ ?_; rotate_left; (focus (intro w_ hS_; have e0 := cl_below hS_ e0; have e1 := cl_below hS_ e1; have t0 := cl_below hS_ t0; have t1 := cl_below hS_ t1; have x0 := cl_below hS_ x0; have x1 := cl_below hS_ x1; have x2 := cl_below hS_ x2; have x3 := cl_below hS_ x3; have x4 := cl_below hS_ x4; have x5 := cl_below hS_ x5; have x6 := cl_below hS_ x6; have x7 := cl_below hS_ x7; have x8 := cl_below hS_ x8; have x9 := cl_below hS_ x9; go_simp; (try (first | with_reducible rfl | (constructor <;> with_reducible rfl))); done)); (try simp only [Act.put, List.setIfInBounds_toArray, List.set_cons_zero, List.set_cons_succ]))); ((refine t_pure 4 (v := ?_) rfl (by kernel_rfl) (fun _ _ _ h => h) rfl ?_ ?_; rotate_left; (focus (intro w_ hS_; have e0 := cl_below hS_ e0; have e1 := cl_below hS_ e1; have t0 := cl_below hS_ t0; have t1 := cl_below hS_ t1; have x0 := cl_below hS_ x0; have x1 := cl_below hS_ x1; have x2 := cl_below hS_ x2; have x3 := cl_below hS_ x3; have x4 := cl_below hS_ x4; have x5 := cl_below hS_ x5; have x6 := cl_below hS_ x6; have x7 := cl_below hS_ x7; have x8 := cl_below hS_ x8; have x9 := cl_below hS_ x9; go_simp; (try (first | with_reducible rfl | (constructor <;> with_reducible rfl))); done)); (try simp only [Act.put, List.setIfInBounds_toArray, List.set_cons_zero, List.set_cons_succ]))); ((refine t_call 5 (v := ?_) rfl (by kernel_rfl) (fun _ _ _ h => h) rfl ?_ ?_ ?_ ?_ ?_; rotate_left 3; (focus (intro w_ hS_; have e0 := cl_below hS_ e0; have e1 := cl_below hS_ e1; have t0 := cl_below hS_ t0; have t1 := cl_below hS_ t1; have x0 := cl_below hS_ x0; have x1 := cl_below hS_ x1; have x2 := cl_below hS_ x2; have x3 := cl_below hS_ x3; have x4 := cl_below hS_ x4; have x5 := cl_below hS_ x5; have x6 := cl_below hS_ x6; have x7 := cl_below hS_ x7; have x8 := cl_below hS_ x8; have x9 := cl_below hS_ x9; go_simp; (try (first | with_reducible rfl | (constructor <;> with_reducible rfl))); done)); (focus (intro w_ hS_; have e0 := cl_below hS_ e0; have e1 := cl_below hS_ e1; have t0 := cl_below hS_ t0; have t1 := cl_below hS_ t1; have x0 := cl_below hS_ x0; have x1 := cl_below hS_ x1; have x2 := cl_below hS_ x2; have x3 := cl_below hS_ x3; have x4 := cl_below hS_ x4; have x5 := cl_below hS_ x5; have x6 := cl_below hS_ x6; have x7 := cl_below hS_ x7; have x8 := cl_below hS_ x8; have x9 := cl_below hS_ x9; ((go_at_call 88; refine (reached_any _ f lo _ (HK.out.below (by (repeat' with_reducible first|assumption|exact Below.refl _ _|apply bl_alloc|apply bl_drewN|apply bl_drew|refine bl_set ?_ (by simp<;>omega) _|refine bl_then ?_ (by assumption)))) HG.out a1 hle).mono ?_; rintro e' w' ⟨rfl, hb⟩)); refine And.intro ?_ ?_; (focus (with_reducible rfl)); (first | exact bl_then hS_ (by assumption) | assumption))); (try simp only [Act.put, List.setIfInBounds_toArray, List.set_cons_zero, List.set_cons_succ]))); ((refine t_pure 6 (v := ?_) rfl (by kernel_rfl) (fun _ _ _ h => h) rfl ?_ ?_; rotate_left; (focus (intro w_ hS_; have e0 := cl_below hS_ e0; have e1 := cl_below hS_ e1; have t0 := cl_below hS_ t0; have t1 := cl_below hS_ t1; have x0 := cl_below hS_ x0; have x1 := cl_below hS_ x1; have x2 := cl_below hS_ x2; have x3 := cl_below hS_ x3; have x4 := cl_below hS_ x4; have x5 := cl_below hS_ x5; have x6 := cl_below hS_ x6; have x7 := cl_below hS_ x7; have x8 := cl_below hS_ x8; have x9 := cl_below hS_ x9; go_simp; (try (first | with_reducible rfl | (constructor <;> with_reducible rfl))); done)); (try simp only [Act.put, List.setIfInBounds_toArray, List.set_cons_zero, List.set_cons_succ]))); ((refine t_pure 7 (v := ?_) rfl (by kernel_rfl) (fun _ _ _ h => h) rfl ?_ ?_; rotate_left; (focus (intro w_ hS_; have e0 := cl_below hS_ e0; have e1 := cl_below hS_ e1; have t0 := cl_below hS_ t0; have t1 := cl_below hS_ t1; have x0 := cl_below hS_ x0; have x1 := cl_below hS_ x1; have x2 := cl_below hS_ x2; have x3 := cl_below hS_ x3; have x4 := cl_below hS_ x4; have x5 := cl_below hS_ x5; have x6 := cl_below hS_ x6; have x7 := cl_below hS_ x7; have x8 := cl_below hS_ x8; have x9 := cl_below hS_ x9; go_simp; (try (first | with_reducible rfl | (constructor <;> with_reducible rfl))); done)); (try simp only [Act.put, List.setIfInBounds_toArray, List.set_cons_zero, List.set_cons_succ]))); (refine t_exit (by kernel_rfl) (fun W_ hS_ => ?_)))
        rw [HcHi.out]
        clear e0 e1 ef0 ef1 t0 t1 x0 x1 x2 x3 x4 x5 x6 x7 x8 x9
        have hE9 := bk_below HE8.out hS_
        obtain ⟨⟨e0, e1⟩, ef0, ef1⟩ := blk2 hE9
        have hlE9 := bk_lt hE9
        (refine p_only 8 rfl (by kernel_rfl) (fun K hK => ?_); go_simp; refine hK.out _ _ ?_; clear hK K; (try simp only [Act.put, List.setIfInBounds_toArray, List.set_cons_zero, List.set_cons_succ]))
        (refine p_only 9 rfl (by kernel_rfl) (fun K hK => ?_); go_simp; refine hK.out _ _ ?_; clear hK K; (try simp only [Act.put, List.setIfInBounds_toArray, List.set_cons_zero, List.set_cons_succ]))
        refine wpAny_done (by kernel_rfl) ?_ _
        have hEa := bk_put1 (cs' := #[.int .i64 ((f.seen[k]).cLo f), .int .i64 ((f.seen[k]).cHi f)]) hE9 1 (.int .i64 ((f.seen[k]).cHi f)) rfl
        have h2a := bk_far (bk_below H28.out hS_) (p := ⟨E, 1, none⟩) (by simp; omega) (.int .i64 ((f.seen[k]).cHi f))
        have hCa : Below w1.heap.size w1 (W_.setCell ⟨E, 1, none⟩ (.int .i64 ((f.seen[k]).cHi f))) := by (repeat' with_reducible first|assumption|exact Below.refl _ _|apply bl_alloc|apply bl_drewN|apply bl_drew|refine bl_set ?_ (by simp<;>omega) _|refine bl_then ?_ (by assumption))
        generalize hWa : W_.setCell ⟨E, 1, none⟩ (.int .i64 ((f.seen[k]).cHi f)) = Wa at *
        clear hWa e0 e1 ef0 ef1 hlE9 hE9 hS_ W_
        obtain ⟨⟨e0, e1⟩, _, _⟩ := blk2 hEa
        obtain ⟨⟨r0, r1⟩, rf0, rf1⟩ := blk2 h2a
        have H2a := Lib.hid h2a
        have hl2a := bk_lt h2a
        clear hEa h2a
        go_wp2
        refine bodyPost_ret (v := .tuple #[.agg #[.int .i64 ((f.seen[k]).cLo f), .int .i64 ((f.seen[k]).cHi f)], .int .i64 0]) (res_list (vs := [_, _]) rfl (by simp) (.cell (w.heap.size + 2) 27 _ (0, 0) _ rfl (bk_put2 H2a.out) Tryz.underlying27 rfl (by kernel_rfl) (.tmp rfl .nil))) rfl ?_
        exact ⟨by rw [HE.out.1, HE.out.2.1, HE.out.2.2], by (repeat' with_reducible first|assumption|exact Below.refl _ _|apply bl_alloc|apply bl_drewN|apply bl_drew|refine bl_set ?_ (by simp<;>omega) _|refine bl_then ?_ (by assumption))⟩
      · have hd : decide (0 < lo) = false := by simpa using hp
        have hcHi : f.seen[k].hi = (f.seen[k]).cHi f := by rw [HcHi.out, if_neg hp]
        have HcHi := Lib.hid hcHi
        clear hcHi hK8 hT8 hE8 hp x0 x1 x2 x3 x4 x5 x6 x7 x8 x9
        obtain ⟨⟨r0, r1⟩, rf0, rf1⟩ := blk2 h28
        clear h28
        go_wp2
        refine bodyPost_ret (v := .tuple #[.agg #[.int .i64 ((f.seen[k]).cLo f), .int .i64 f.seen[k].hi], .int .i64 0]) (res_list (vs := [_, _]) rfl (by simp) (.cell (w.heap.size + 2) 27 _ (0, 0) _ rfl (bk_put2 H28.out) Tryz.underlying27 rfl (by kernel_rfl) (.tmp rfl .nil))) rfl ?_
        exact ⟨by rw [HE.out.1, HE.out.2.1, HE.out.2.2, ← HcHi.out], by (repeat' with_reducible first|assumption|exact Below.refl _ _|apply bl_alloc|apply bl_drewN|apply bl_drew|refine bl_set ?_ (by simp<;>omega) _|refine bl_then ?_ (by assumption))⟩
    · go_simp
      refine hK.out _ _ (bl_alloc hX_ _) ?_
      clear hK K
      (try simp only [Act.put, List.setIfInBounds_toArray, List.set_cons_zero, List.set_cons_succ])
      refine x_only 12 rfl (by kernel_rfl) rfl (fun K hK => ?_)
      go_simp
      refine (levels_any g f f.seen[k].lv f.seen[k].er _ (HST.out.below (by (repeat' with_reducible first|assumption|exact Below.refl _ _|apply bl_alloc|apply bl_drewN|apply bl_drew|refine bl_set ?_ (by simp<;>omega) _|refine bl_then ?_ (by assumption)))) HG.out.v ⟨k1, by omega⟩ ⟨k3, k4⟩).mono ?_
      rintro e2 w2 ⟨rfl, hb2⟩
      refine hK.out _ _ (bl_then (bl_alloc hX_ _) hb2) ?_
      clear hK K
      (try simp only [Act.put, List.setIfInBounds_toArray, List.set_cons_zero, List.set_cons_succ])
      refine x_exit (by kernel_rfl) ?_
      have hT := bk_below (bk_drew (bk_new W3 (.cells #[.int .i64 0, .int .i64 0] 27))) hb2
      have hb5 : Below W3.heap.size W3 w2 := by (repeat' with_reducible first|assumption|exact Below.refl _ _|apply bl_alloc|apply bl_drewN|apply bl_drew|refine bl_set ?_ (by simp<;>omega) _|refine bl_then ?_ (by assumption))
      clear hX_ hb2
      generalize hT0 : W3.heap.size = T at hT ⊢
      have hTge : W3.heap.size ≤ T := Nat.le_of_eq hT0
      clear hT0
      generalize hW5 : w2 = W5 at *
      clear hW5 w2
      have HT := Lib.hid hT
      obtain ⟨⟨t0, t1⟩, tf0, tf1⟩ := blk2 hT
      have hlT := bk_lt hT
      have hlE := bk_lt HE3.out
      clear hT
      (refine p_only 14 rfl (by kernel_rfl) (fun K hK => ?_); go_simp; refine hK.out _ _ ?_; clear hK K; (try simp only [Act.put, List.setIfInBounds_toArray, List.set_cons_zero, List.set_cons_succ]))
      refine wpAny_done (by kernel_rfl) ?_ _
      have hT6 := bk_put2 (a := (.int .i64 (lvLo f.seen[k].lv f.seen[k].er))) (b := (.int .i64 (lvHi f.H f.seen[k].lv f.seen[k].er))) HT.out
      have hb6 : Below W3.heap.size W3 ((W5.setCell ⟨T, 0, none⟩ (.int .i64 (lvLo f.seen[k].lv f.seen[k].er))).setCell ⟨T, 1, none⟩ (.int .i64 (lvHi f.H f.seen[k].lv f.seen[k].er))) := by (repeat' with_reducible first|assumption|exact Below.refl _ _|apply bl_alloc|apply bl_drewN|apply bl_drew|refine bl_set ?_ (by simp<;>omega) _|refine bl_then ?_ (by assumption))
      have hC6 : Below w1.heap.size w1 ((W5.setCell ⟨T, 0, none⟩ (.int .i64 (lvLo f.seen[k].lv f.seen[k].er))).setCell ⟨T, 1, none⟩ (.int .i64 (lvHi f.H f.seen[k].lv f.seen[k].er))) := by (repeat' with_reducible first|assumption|exact Below.refl _ _|apply bl_alloc|apply bl_drewN|apply bl_drew|refine bl_set ?_ (by simp<;>omega) _|refine bl_then ?_ (by assumption))
      generalize hW6 : (W5.setCell ⟨T, 0, none⟩ (.int .i64 (lvLo f.seen[k].lv f.seen[k].er))).setCell ⟨T, 1, none⟩ (.int .i64 (lvHi f.H f.seen[k].lv f.seen[k].er)) = W6 at *
      clear hW6 HT t0 t1 tf0 tf1 hlT hb5
      have h2 := bk_below H23.out hb6
      have hkk := bk_below HKK3.out hb6
      have hee := bk_below HE3.out hb6
      have hle : lvLo f.seen[k].lv f.seen[k].er ≤ f.H := by omega
      have hhi : 0 ≤ lvHi f.H f.seen[k].lv f.seen[k].er := by omega
      have H26 := Lib.hid h2
      have HT6 := Lib.hid hT6
      have HE6 := Lib.hid hee
      clear c5 n2 n3 x0 y0 hb6
      obtain ⟨⟨x0, x1, x2, x3, x4, x5, x6, x7, x8, x9⟩, _⟩ := agg10 hkk
      obtain ⟨⟨e0, e1⟩, _, _⟩ := blk2 hee
      obtain ⟨⟨t0, t1⟩, _, _⟩ := blk2 hT6
      have HKK6 := Lib.hid hkk
      clear hee hT6 h2 hkk
      have hcLo : (if f.seen[k].lo < f.reachLo (lvHi f.H f.seen[k].lv f.seen[k].er) then f.reachLo (lvHi f.H f.seen[k].lv f.seen[k].er) else f.seen[k].lo) = (f.seen[k]).cLo f := by unfold Sn.cLo; split <;> omega
      have HcHi : Hid ((f.seen[k]).cHi f = if 0 < lvLo f.seen[k].lv f.seen[k].er then min f.seen[k].hi (f.reachHi (lvLo f.seen[k].lv f.seen[k].er)) else f.seen[k].hi) := Lib.hid rfl
      generalize hLo : lvLo f.seen[k].lv f.seen[k].er = lo at *
      generalize hHi : lvHi f.H f.seen[k].lv f.seen[k].er = hi at *
      have HcLo := Lib.hid hcLo
      clear hcLo
      go_wp2
      ((refine p_start (by kernel_rfl) ?_); (refine t_enter' 8 ?_); ((refine t_pure 0 (v := ?_) rfl (by kernel_rfl) (fun _ _ _ h => h) rfl ?_ ?_; rotate_left; (focus (intro w_ hS_; have e0 := cl_below hS_ e0; have e1 := cl_below hS_ e1; have t0 := cl_below hS_ t0; have t1 := cl_below hS_ t1; have x0 := cl_below hS_ x0; have x1 := cl_below hS_ x1; have x2 := cl_below hS_ x2; have x3 := cl_below hS_ x3; have x4 := cl_below hS_ x4; have x5 := cl_below hS_ x5; have x6 := cl_below hS_ x6; have x7 := cl_below hS_ x7; have x8 := cl_below hS_ x8; have x9 := cl_below hS_ x9; go_simp; (try (first | with_reducible rfl | (constructor <;> with_reducible rfl))); done)); (try simp only [Act.put, List.setIfInBounds_toArray, List.set_cons_zero, List.set_cons_succ]))); ((refine t_pure 1 (v := ?_) rfl (by kernel_rfl) (fun _ _ _ h => h) rfl ?_ ?_; rotate_left; (focus (intro w_ hS_; have e0 := cl_below hS_ e0; have e1 := cl_below hS_ e1; have t0 := cl_below hS_ t0; have t1 := cl_below hS_ t1; have x0 := cl_below hS_ x0; have x1 := cl_below hS_ x1; have x2 := cl_below hS_ x2; have x3 := cl_below hS_ x3; have x4 := cl_below hS_ x4; have x5 := cl_below hS_ x5; have x6 := cl_below hS_ x6; have x7 := cl_below hS_ x7; have x8 := cl_below hS_ x8; have x9 := cl_below hS_ x9; go_simp; (try (first | with_reducible rfl | (constructor <;> with_reducible rfl))); done)); (try simp only [Act.put, List.setIfInBounds_toArray, List.set_cons_zero, List.set_cons_succ]))); ((refine t_pure 2 (v := ?_) rfl (by kernel_rfl) (fun _ _ _ h => h) rfl ?_ ?_; rotate_left; (focus (intro w_ hS_; have e0 := cl_below hS_ e0; have e1 := cl_below hS_ e1; have t0 := cl_below hS_ t0; have t1 := cl_below hS_ t1; have x0 := cl_below hS_ x0; have x1 := cl_below hS_ x1; have x2 := cl_below hS_ x2; have x3 := cl_below hS_ x3; have x4 := cl_below hS_ x4; have x5 := cl_below hS_ x5; have x6 := cl_below hS_ x6; have x7 := cl_below hS_ x7; have x8 := cl_below hS_ x8; have x9 := cl_below hS_ x9; go_simp; (try (first | with_reducible rfl | (constructor <;> with_reducible rfl))); done)); (try simp only [Act.put, List.setIfInBounds_toArray, List.set_cons_zero, List.set_cons_succ]))); ((refine t_pure 3 (v := ?_) rfl (by kernel_rfl) (fun _ _ _ h => h) rfl ?_ ?_; rotate_left; (focus (intro w_ hS_; have e0 := cl_below hS_ e0; have e1 := cl_below hS_ e1; have t0 := cl_below hS_ t0; have t1 := cl_below hS_ t1; have x0 := cl_below hS_ x0; have x1 := cl_below hS_ x1; have x2 := cl_below hS_ x2; have x3 := cl_below hS_ x3; have x4 := cl_below hS_ x4; have x5 := cl_below hS_ x5; have x6 := cl_below hS_ x6; have x7 := cl_below hS_ x7; have x8 := cl_below hS_ x8; have x9 := cl_below hS_ x9; go_simp; (try (first | with_reducible rfl | (constructor <;> with_reducible rfl))); done)); (try simp only [Act.put, List.setIfInBounds_toArray, List.set_cons_zero, List.set_cons_succ]))); ((refine t_pure 4 (v := ?_) rfl (by kernel_rfl) (fun _ _ _ h => h) rfl ?_ ?_; rotate_left; (focus (intro w_ hS_; have e0 := cl_below hS_ e0; have e1 := cl_below hS_ e1; have t0 := cl_below hS_ t0; have t1 := cl_below hS_ t1; have x0 := cl_below hS_ x0; have x1 := cl_below hS_ x1; have x2 := cl_below hS_ x2; have x3 := cl_below hS_ x3; have x4 := cl_below hS_ x4; have x5 := cl_below hS_ x5; have x6 := cl_below hS_ x6; have x7 := cl_below hS_ x7; have x8 := cl_below hS_ x8; have x9 := cl_below hS_ x9; go_simp; (try (first | with_reducible rfl | (constructor <;> with_reducible rfl))); done)); (try simp only [Act.put, List.setIfInBounds_toArray, List.set_cons_zero, List.set_cons_succ]))); ((refine t_call 5 (v := ?_) rfl (by kernel_rfl) (fun _ _ _ h => h) rfl ?_ ?_ ?_ ?_ ?_; rotate_left 3; (focus (intro w_ hS_; have e0 := cl_below hS_ e0; have e1 := cl_below hS_ e1; have t0 := cl_below hS_ t0; have t1 := cl_below hS_ t1; have x0 := cl_below hS_ x0; have x1 := cl_below hS_ x1; have x2 := cl_below hS_ x2; have x3 := cl_below hS_ x3; have x4 := cl_below hS_ x4; have x5 := cl_below hS_ x5; have x6 := cl_below hS_ x6; have x7 := cl_below hS_ x7; have x8 := cl_below hS_ x8; have x9 := cl_below hS_ x9; go_simp; (try (first | with_reducible rfl | (constructor <;> with_reducible rfl))); done)); (focus (intro w_ hS_; have e0 := cl_below hS_ e0; have e1 := cl_below hS_ e1; have t0 := cl_below hS_ t0; have t1 := cl_below hS_ t1; have x0 := cl_below hS_ x0; have x1 := cl_below hS_ x1; have x2 := cl_below hS_ x2; have x3 := cl_below hS_ x3; have x4 := cl_below hS_ x4; have x5 := cl_below hS_ x5; have x6 := cl_below hS_ x6; have x7 := cl_below hS_ x7; have x8 := cl_below hS_ x8; have x9 := cl_below hS_ x9; ((go_at_call 88; refine (reached_any _ f hi _ (HK.out.below (by (repeat' with_reducible first|assumption|exact Below.refl _ _|apply bl_alloc|apply bl_drewN|apply bl_drew|refine bl_set ?_ (by simp<;>omega) _|refine bl_then ?_ (by assumption)))) HG.out hhi (by omega)).mono ?_; rintro e' w' ⟨rfl, hb⟩)); refine And.intro ?_ ?_; (focus (with_reducible rfl)); (first | exact bl_then hS_ (by assumption) | assumption))); (try simp only [Act.put, List.setIfInBounds_toArray, List.set_cons_zero, List.set_cons_succ]))); ((refine t_pure 6 (v := ?_) rfl (by kernel_rfl) (fun _ _ _ h => h) rfl ?_ ?_; rotate_left; (focus (intro w_ hS_; have e0 := cl_below hS_ e0; have e1 := cl_below hS_ e1; have t0 := cl_below hS_ t0; have t1 := cl_below hS_ t1; have x0 := cl_below hS_ x0; have x1 := cl_below hS_ x1; have x2 := cl_below hS_ x2; have x3 := cl_below hS_ x3; have x4 := cl_below hS_ x4; have x5 := cl_below hS_ x5; have x6 := cl_below hS_ x6; have x7 := cl_below hS_ x7; have x8 := cl_below hS_ x8; have x9 := cl_below hS_ x9; go_simp; (try (first | with_reducible rfl | (constructor <;> with_reducible rfl))); done)); (try simp only [Act.put, List.setIfInBounds_toArray, List.set_cons_zero, List.set_cons_succ]))); ((refine t_pure 7 (v := ?_) rfl (by kernel_rfl) (fun _ _ _ h => h) rfl ?_ ?_; rotate_left; (focus (intro w_ hS_; have e0 := cl_below hS_ e0; have e1 := cl_below hS_ e1; have t0 := cl_below hS_ t0; have t1 := cl_below hS_ t1; have x0 := cl_below hS_ x0; have x1 := cl_below hS_ x1; have x2 := cl_below hS_ x2; have x3 := cl_below hS_ x3; have x4 := cl_below hS_ x4; have x5 := cl_below hS_ x5; have x6 := cl_below hS_ x6; have x7 := cl_below hS_ x7; have x8 := cl_below hS_ x8; have x9 := cl_below hS_ x9; go_simp; (try (first | with_reducible rfl | (constructor <;> with_reducible rfl))); done)); (try simp only [Act.put, List.setIfInBounds_toArray, List.set_cons_zero, List.set_cons_succ]))); (refine t_exit (by kernel_rfl) (fun W_ hS_ => ?_)))
      rw [HcLo.out]
      clear e0 e1 t0 t1 x0 x1 x2 x3 x4 x5 x6 x7 x8 x9
      have hE7 := bk_below HE6.out hS_
      obtain ⟨⟨e0, e1⟩, ef0, ef1⟩ := blk2 hE7
      have hlE7 := bk_lt hE7
      (refine p_only 8 rfl (by kernel_rfl) (fun K hK => ?_); go_simp; refine hK.out _ _ ?_; clear hK K; (try simp only [Act.put, List.setIfInBounds_toArray, List.set_cons_zero, List.set_cons_succ]))
      (refine p_only 9 rfl (by kernel_rfl) (fun K hK => ?_); go_simp; refine hK.out _ _ ?_; clear hK K; (try simp only [Act.put, List.setIfInBounds_toArray, List.set_cons_zero, List.set_cons_succ]))
      refine wpAny_done (by kernel_rfl) ?_ _
      have hE8 := bk_put1 (cs' := #[.int .i64 ((f.seen[k]).cLo f), .int .i64 f.seen[k].hi]) hE7 0 (.int .i64 ((f.seen[k]).cLo f)) rfl
      have hT8 := bk_far (bk_below HT6.out hS_) (p := ⟨E, 0, none⟩) (by simp; omega) (.int .i64 ((f.seen[k]).cLo f))
      have hK8 := bk_far (bk_below HKK6.out hS_) (p := ⟨E, 0, none⟩) (by simp; omega) (.int .i64 ((f.seen[k]).cLo f))
      have h28 := bk_far (bk_below H26.out hS_) (p := ⟨E, 0, none⟩) (by simp; omega) (.int .i64 ((f.seen[k]).cLo f))
      have hC8 : Below w1.heap.size w1 (W_.setCell ⟨E, 0, none⟩ (.int .i64 ((f.seen[k]).cLo f))) := by (repeat' with_reducible first|assumption|exact Below.refl _ _|apply bl_alloc|apply bl_drewN|apply bl_drew|refine bl_set ?_ (by simp<;>omega) _|refine bl_then ?_ (by assumption))
      generalize hW8 : W_.setCell ⟨E, 0, none⟩ (.int .i64 ((f.seen[k]).cLo f)) = W8 at *
      clear hW8 e0 e1 ef0 ef1 hlE7 hE7 hS_ W_
      obtain ⟨⟨x0, x1, x2, x3, x4, x5, x6, x7, x8, x9⟩, _⟩ := agg10 hK8
      obtain ⟨⟨e0, e1⟩, ef0, ef1⟩ := blk2 hE8
      obtain ⟨⟨t0, t1⟩, _, _⟩ := blk2 hT8
      have HE8 := Lib.hid hE8
      have H28 := Lib.hid h28
      have hlE8 := bk_lt hE8
      have hl28 := bk_lt h28
      by_cases hp : 0 < lo
      · have hd : decide (0 < lo) = true := by simpa using hp
        have hcHi : (if f.reachHi lo < f.seen[k].hi then f.reachHi lo else f.seen[k].hi) = (f.seen[k]).cHi f := by rw [HcHi.out, if_pos hp]; split <;> omega
        have HcHi := Lib.hid hcHi
        clear hcHi h28 hK8 hT8 hE8 hp
        go_wp2
        ((refine p_start (by kernel_rfl) ?_); (refine t_enter' 8 ?_); ((refine t_pure 0 (v := ?_) rfl (by kernel_rfl) (fun _ _ _ h => h) rfl ?_ ?_; rotate_left; (focus (intro w_ hS_; have e0 := cl_below hS_ e0; have e1 := cl_below hS_ e1; have t0 := cl_below hS_ t0; have t1 := cl_below hS_ t1; have x0 := cl_below hS_ x0; have x1 := cl_below hS_ x1; have x2 := cl_below hS_ x2; have x3 := cl_below hS_ x3; have x4 := cl_below hS_ x4; have x5 := cl_below hS_ x5; have x6 := cl_below hS_ x6; have x7 := cl_below hS_ x7; have x8 := cl_below hS_ x8; have x9 := cl_below hS_ x9; go_simp; (try (first | with_reducible rfl | (constructor <;> with_reducible rfl))); done)); (try simp only [Act.put, List.setIfInBounds_toArray, List.set_cons_zero, List.set_cons_succ]))); ((refine t_pure 1 (v := ?_) rfl (by kernel_rfl) (fun _ _ _ h => h) rfl ?_ ?_; rotate_left; (focus (intro w_ hS_; have e0 := cl_below hS_ e0; have e1 := cl_below hS_ e1; have t0 := cl_below hS_ t0; have t1 := cl_below hS_ t1; have x0 := cl_below hS_ x0; have x1 := cl_below hS_ x1; have x2 := cl_below hS_ x2; have x3 := cl_below hS_ x3; have x4 := cl_below hS_ x4; have x5 := cl_below hS_ x5; have x6 := cl_below hS_ x6; have x7 := cl_below hS_ x7; have x8 := cl_below hS_ x8; have x9 := cl_below hS_ x9; go_simp; (try (first | with_reducible rfl | (constructor <;> with_reducible rfl))); done)); (try simp only [Act.put, List.setIfInBounds_toArray, List.set_cons_zero, List.set_cons_succ]))); ((refine t_pure 2 (v := ?_) rfl (by kernel_rfl) (fun _ _ _ h => h) rfl ?_ ?_; rotate_left; (focus (intro w_ hS_; have e0 := cl_below hS_ e0; have e1 := cl_below hS_ e1; have t0 := cl_below hS_ t0; have t1 := cl_below hS_ t1; have x0 := cl_below hS_ x0; have x1 := cl_below hS_ x1; have x2 := cl_below hS_ x2; have x3 := cl_below hS_ x3; have x4 := cl_below hS_ x4; have x5 := cl_below hS_ x5; have x6 := cl_below hS_ x6; have x7 := cl_below hS_ x7; have x8 := cl_below hS_ x8; have x9 := cl_below hS_ x9; go_simp; (try (first | with_reducible rfl | (constructor <;> with_reducible rfl))); done)); (try simp only [Act.put, List.setIfInBounds_toArray, List.set_cons_zero, List.set_cons_succ]))); ((refine t_pure 3 (v := ?_) rfl (by kernel_rfl) (fun _ _ _ h => h) rfl ?_ ?_; rotate_left; (focus (intro w_ hS_; have e0 := cl_below hS_ e0; have e1 := cl_below hS_ e1; have t0 := cl_below hS_ t0; have t1 := cl_below hS_ t1; have x0 := cl_below hS_ x0; have x1 := cl_below hS_ x1; have x2 := cl_below hS_ x2; have x3 := cl_below hS_ x3; have x4 := cl_below hS_ x4; have x5 := cl_below hS_ x5; have x6 := cl_below hS_ x6; have x7 := cl_below hS_ x7; have x8 := cl_below hS_ x8; have x9 := cl_below hS_ x9; go_simp; (try (first | with_reducible rfl | (constructor <;> with_reducible rfl))); done)); (try simp only [Act.put, List.setIfInBounds_toArray, List.set_cons_zero, List.set_cons_succ]))); ((refine t_pure 4 (v := ?_) rfl (by kernel_rfl) (fun _ _ _ h => h) rfl ?_ ?_; rotate_left; (focus (intro w_ hS_; have e0 := cl_below hS_ e0; have e1 := cl_below hS_ e1; have t0 := cl_below hS_ t0; have t1 := cl_below hS_ t1; have x0 := cl_below hS_ x0; have x1 := cl_below hS_ x1; have x2 := cl_below hS_ x2; have x3 := cl_below hS_ x3; have x4 := cl_below hS_ x4; have x5 := cl_below hS_ x5; have x6 := cl_below hS_ x6; have x7 := cl_below hS_ x7; have x8 := cl_below hS_ x8; have x9 := cl_below hS_ x9; go_simp; (try (first | with_reducible rfl | (constructor <;> with_reducible rfl))); done)); (try simp only [Act.put, List.setIfInBounds_toArray, List.set_cons_zero, List.set_cons_succ]))); ((refine t_call 5 (v := ?_) rfl (by kernel_rfl) (fun _ _ _ h => h) rfl ?_ ?_ ?_ ?_ ?_; rotate_left 3; (focus (intro w_ hS_; have e0 := cl_below hS_ e0; have e1 := cl_below hS_ e1; have t0 := cl_below hS_ t0; have t1 := cl_below hS_ t1; have x0 := cl_below hS_ x0; have x1 := cl_below hS_ x1; have x2 := cl_below hS_ x2; have x3 := cl_below hS_ x3; have x4 := cl_below hS_ x4; have x5 := cl_below hS_ x5; have x6 := cl_below hS_ x6; have x7 := cl_below hS_ x7; have x8 := cl_below hS_ x8; have x9 := cl_below hS_ x9; go_simp; (try (first | with_reducible rfl | (constructor <;> with_reducible rfl))); done)); (focus (intro w_ hS_; have e0 := cl_below hS_ e0; have e1 := cl_below hS_ e1; have t0 := cl_below hS_ t0; have t1 := cl_below hS_ t1; have x0 := cl_below hS_ x0; have x1 := cl_below hS_ x1; have x2 := cl_below hS_ x2; have x3 := cl_below hS_ x3; have x4 := cl_below hS_ x4; have x5 := cl_below hS_ x5; have x6 := cl_below hS_ x6; have x7 := cl_below hS_ x7; have x8 := cl_below hS_ x8; have x9 := cl_below hS_ x9; ((go_at_call 88; refine (reached_any _ f lo _ (HK.out.below (by (repeat' with_reducible first|assumption|exact Below.refl _ _|apply bl_alloc|apply bl_drewN|apply bl_drew|refine bl_set ?_ (by simp<;>omega) _|refine bl_then ?_ (by assumption)))) HG.out a1 hle).mono ?_; rintro e' w' ⟨rfl, hb⟩)); refine And.intro ?_ ?_; (focus (with_reducible rfl)); (first | exact bl_then hS_ (by assumption) | assumption))); (try simp only [Act.put, List.setIfInBounds_toArray, List.set_cons_zero, List.set_cons_succ]))); ((refine t_pure 6 (v := ?_) rfl (by kernel_rfl) (fun _ _ _ h => h) rfl ?_ ?_; rotate_left; (focus (intro w_ hS_; have e0 := cl_below hS_ e0; have e1 := cl_below hS_ e1; have t0 := cl_below hS_ t0; have t1 := cl_below hS_ t1; have x0 := cl_below hS_ x0; have x1 := cl_below hS_ x1; have x2 := cl_below hS_ x2; have x3 := cl_below hS_ x3; have x4 := cl_below hS_ x4; have x5 := cl_below hS_ x5; have x6 := cl_below hS_ x6; have x7 := cl_below hS_ x7; have x8 := cl_below hS_ x8; have x9 := cl_below hS_ x9; go_simp; (try (first | with_reducible rfl | (constructor <;> with_reducible rfl))); done)); (try simp only [Act.put, List.setIfInBounds_toArray, List.set_cons_zero, List.set_cons_succ]))); ((refine t_pure 7 (v := ?_) rfl (by kernel_rfl) (fun _ _ _ h => h) rfl ?_ ?_; rotate_left; (focus (intro w_ hS_; have e0 := cl_below hS_ e0; have e1 := cl_below hS_ e1; have t0 := cl_below hS_ t0; have t1 := cl_below hS_ t1; have x0 := cl_below hS_ x0; have x1 := cl_below hS_ x1; have x2 := cl_below hS_ x2; have x3 := cl_below hS_ x3; have x4 := cl_below hS_ x4; have x5 := cl_below hS_ x5; have x6 := cl_below hS_ x6; have x7 := cl_below hS_ x7; have x8 := cl_below hS_ x8; have x9 := cl_below hS_ x9; go_simp; (try (first | with_reducible rfl | (constructor <;> with_reducible rfl))); done)); (try simp only [Act.put, List.setIfInBounds_toArray, List.set_cons_zero, List.set_cons_succ]))); (refine t_exit (by kernel_rfl) (fun W_ hS_ => ?_)))
        rw [HcHi.out]
        clear e0 e1 ef0 ef1 t0 t1 x0 x1 x2 x3 x4 x5 x6 x7 x8 x9
        have hE9 := bk_below HE8.out hS_
        obtain ⟨⟨e0, e1⟩, ef0, ef1⟩ := blk2 hE9
        have hlE9 := bk_lt hE9
        (refine p_only 8 rfl (by kernel_rfl) (fun K hK => ?_); go_simp; refine hK.out _ _ ?_; clear hK K; (try simp only [Act.put, List.setIfInBounds_toArray, List.set_cons_zero, List.set_cons_succ]))
        (refine p_only 9 rfl (by kernel_rfl) (fun K hK => ?_); go_simp; refine hK.out _ _ ?_; clear hK K; (try simp only [Act.put, List.setIfInBounds_toArray, List.set_cons_zero, List.set_cons_succ]))
        refine wpAny_done (by kernel_rfl) ?_ _
        have hEa := bk_put1 (cs' := #[.int .i64 ((f.seen[k]).cLo f), .int .i64 ((f.seen[k]).cHi f)]) hE9 1 (.int .i64 ((f.seen[k]).cHi f)) rfl
        have h2a := bk_far (bk_below H28.out hS_) (p := ⟨E, 1, none⟩) (by simp; omega) (.int .i64 ((f.seen[k]).cHi f))
        have hCa : Below w1.heap.size w1 (W_.setCell ⟨E, 1, none⟩ (.int .i64 ((f.seen[k]).cHi f))) := by (repeat' with_reducible first|assumption|exact Below.refl _ _|apply bl_alloc|apply bl_drewN|apply bl_drew|refine bl_set ?_ (by simp<;>omega) _|refine bl_then ?_ (by assumption))
        generalize hWa : W_.setCell ⟨E, 1, none⟩ (.int .i64 ((f.seen[k]).cHi f)) = Wa at *
        clear hWa e0 e1 ef0 ef1 hlE9 hE9 hS_ W_
        obtain ⟨⟨e0, e1⟩, _, _⟩ := blk2 hEa
        obtain ⟨⟨r0, r1⟩, rf0, rf1⟩ := blk2 h2a
        have H2a := Lib.hid h2a
        have hl2a := bk_lt h2a
        clear hEa h2a
        go_wp2
        refine bodyPost_ret (v := .tuple #[.agg #[.int .i64 ((f.seen[k]).cLo f), .int .i64 ((f.seen[k]).cHi f)], .int .i64 0]) (res_list (vs := [_, _]) rfl (by simp) (.cell (w.heap.size + 2) 27 _ (0, 0) _ rfl (bk_put2 H2a.out) Tryz.underlying27 rfl (by kernel_rfl) (.tmp rfl .nil))) rfl ?_
        exact ⟨by rw [HE.out.1, HE.out.2.1, HE.out.2.2], by (repeat' with_reducible first|assumption|exact Below.refl _ _|apply bl_alloc|apply bl_drewN|apply bl_drew|refine bl_set ?_ (by simp<;>omega) _|refine bl_then ?_ (by assumption))⟩
      · have hd : decide (0 < lo) = false := by simpa using hp
        have hcHi : f.seen[k].hi = (f.seen[k]).cHi f := by rw [HcHi.out, if_neg hp]
        have HcHi := Lib.hid hcHi
        clear hcHi hK8 hT8 hE8 hp x0 x1 x2 x3 x4 x5 x6 x7 x8 x9
        obtain ⟨⟨r0, r1⟩, rf0, rf1⟩ := blk2 h28
        clear h28
        go_wp2
        refine bodyPost_ret (v := .tuple #[.agg #[.int .i64 ((f.seen[k]).cLo f), .int .i64 f.seen[k].hi], .int .i64 0]) (res_list (vs := [_, _]) rfl (by simp) (.cell (w.heap.size + 2) 27 _ (0, 0) _ rfl (bk_put2 H28.out) Tryz.underlying27 rfl (by kernel_rfl) (.tmp rfl .nil))) rfl ?_
        exact ⟨by rw [HE.out.1, HE.out.2.1, HE.out.2.2, ← HcHi.out], by (repeat' with_reducible first|assumption|exact Below.refl _ _|apply bl_alloc|apply bl_drewN|apply bl_drew|refine bl_set ?_ (by simp<;>omega) _|refine bl_then ?_ (by assumption))⟩
end Go.Proofs.YtjpagpplkldbkaaGreat
