/- The chapter's example, reckoned. The law's helpers: look, seen, example, few. -/
import Derived.Test.YtjpagpplkldbkaaGreatLib26
set_option linter.unusedVariables false
set_option linter.unusedSimpArgs false
namespace Go.Proofs.YtjpagpplkldbkaaGreat
open Go.RowKit Go.Shelf WH
def ex1 : Fl := ⟨[⟨100, 500, 200⟩], 100, 0, 500, 2000, [⟨90, 100, 50, 0⟩]⟩
def ex2 : Fl := ⟨[⟨100, 500, 200⟩], 100, 0, 500, 2000, [⟨90, 100, 50, 0⟩, ⟨100, 100, 60, 1⟩]⟩
theorem ex_poss : ex1.possB = true ∧ ex1.possE = 0 ∧ ex1.rdy true = 0 := by decide +kernel
theorem ex_bounds : ex1.bLo = ⟨900, 1⟩ ∧ ex1.bHi = ⟨1000, 1⟩ := by decide +kernel
theorem ex_reached : ex1.rcLo 25 = 135 ∧ ex1.rcHi 25 = 150 ∧ ex1.rcE 25 = 0 := by decide +kernel
theorem ex_level : ex1.lv0 90 = 50 ∧ ex1.lv1 90 = 55 ∧ ex1.lvE 90 = 0 := by decide +kernel
theorem ex_seen : ex1.seLo 0 = 90 ∧ ex1.seHi 0 = 100 ∧ ex1.seE 0 = 0 := by decide +kernel
theorem ex_sinks : ex1.sk0 60 50 = 18 ∧ ex1.sk1 60 50 = 20 ∧ ex1.skE 60 50 = 0 := by decide +kernel
theorem ex_surely : ex1.suB 0 199 = false ∧ ex1.asE 0 199 = 0 ∧ ex1.evB 0 180 = true ∧ ex1.asE 0 180 = 0 := by decide +kernel
theorem ex_case : ex1.ccErr ⟨950, 1⟩ (-1) = 0 := by decide +kernel
theorem ex_rests : ex1.rsL = [0] := by decide +kernel
theorem ex_clash : ex2.clI = true ∧ ex2.clL = [0, 1] ∧ ex2.possE = 0 := by decide +kernel
theorem ex_proof : ex2.clErr [0, 1] = 0 ∧ ex2.clErr [-1, 0, 1] = 32 := by decide +kernel
end Go.Proofs.YtjpagpplkldbkaaGreat
set_option linter.unusedVariables false
set_option linter.unusedSimpArgs false
namespace Go.Proofs.YtjpagpplkldbkaaGreat
open Go.RowKit Go.Shelf WH
section
variable {α : Type} {enc : α → List Value} {sz : Nat} {P : Program}
theorem step_app_cut {ops : Array Oper} {o : Oper} {a : Act} {K : Act → World → Prop} {Q : Exit → Act → World → Prop} {E : Prop} {w : World} (hl : ∀ x, (enc x).length = sz) (hs : 0 < sz) (h1 : ∀ x, ∀ u ∈ enc x, u.oneCell' = true)
    (hgd : o.guard = none) (s x : Operand) (t : TypeId) (ho : o.op = .call { callee := .builtin .append, args := #[s, x], argTypes := #[t, t] }) (e : TypeId) (z : Value) (bytes : Nat)
    (ht : P.underlying t = some (.slice e)) (hinfo : (P.info? e).map (fun i => (i.zero, i.size, i.bytes)) = some (some z, sz, bytes)) (hz : z.cells.size = sz)
    (w0 : World) (hw0 : Below w0.heap.size w0 w) (A : Option Addr) (n : Nat) (xs ys : List α) (hs' : a.eval s = .slice A n n) (hS : Sl enc sz w0 (.slice A n n) xs) (vx : Value) (hx' : a.eval x = vx) (hX : Sl enc sz w vx ys) (b1 : (n + ys.length) * bytes ≤ 140737488355328) (b2 : n + ys.length ≤ 140737488355328)
    (hK : ∀ v' w', Sl enc sz w' v' (xs ++ ys) → Below w.heap.size w w' → Off w0 w v' (xs ++ ys) → K (a.put o.dst v') w') :
    if Region.wanted o (yielded ops a.tmps) = true then Oper.wp P o a w K Q else E := by
  have hw : Region.wanted o (yielded ops a.tmps) = true := by simp [Region.wanted, hgd]
  rw [if_pos hw]
  obtain ⟨v', w', hrun, r1, r2, r3⟩ := run_app_cut (P := P) hl hs h1 t o.type e z bytes ht hinfo hz w0 hw0 A n xs ys hS vx hX b1 b2
  unfold Oper.wp execOp
  simp only [ho, resolve, invoke, builtin, Sem.run_bind, Sem.run_pure, Result.andThen_ok, List.map_toArray, List.map_cons, List.map_nil, hs', hx', hrun]
  exact hK v' w' r1 r2 r3
end
set_option maxRecDepth 100000 in
set_option maxHeartbeats 1000000 in
theorem lawlook_any (l e : Int) (w : World) : Calls Tryz.prog 159 #[.int .i64 l, .int .i64 e] w fun e' w' => e' = .returned (.agg #[.int .i64 l, .int .i64 e]) ∧ Below w.heap.size w w' := by
  go_enter Tryz.func159, Tryz.ntmps159
  go_wp2
  refine bodyPost_ret (v := .agg #[.int .i64 l, .int .i64 e]) (res_one rfl (.cell w.heap.size 25 _ (0, 0) _ rfl (by first | exact bk_new _ _ | exact bk_put2 (bk_new _ _)) Tryz.underlying25 rfl (by kernel_rfl) .nil)) rfl ?_
  exact ⟨rfl, by (repeat' with_reducible first|assumption|exact Below.refl _ _|apply bl_alloc|apply bl_drewN|apply bl_drew|refine bl_set ?_ (by simp<;>omega) _|refine bl_then ?_ (by assumption))⟩
set_option maxRecDepth 100000 in
set_option maxHeartbeats 1000000 in
theorem lawseen_any (a b l e : Int) (w : World) : Calls Tryz.prog 84 #[.int .i64 a, .int .i64 b, .int .i64 l, .int .i64 e] w fun e' w' => e' = .returned (.agg #[.int .i64 a, .int .i64 b, .int .i64 l, .int .i64 e]) ∧ Below w.heap.size w w' := by
  go_enter Tryz.func84, Tryz.ntmps84
  go_wp2_with fail
  refine (lawlook_any l e _).mono ?_
  rintro e1 w1 ⟨rfl, hb1⟩
  have hR := bk_below (bk_new w (.cells #[.int .i64 0, .int .i64 0, .int .i64 0, .int .i64 0] 111)) hb1
  obtain ⟨⟨r0, r1, r2, r3⟩, f0, f1, f2, f3⟩ := blk4 hR
  have hl := bk_lt hR
  have HR := Lib.hid hR
  clear hR
  go_wp2
  refine bodyPost_ret (v := .agg #[.int .i64 a, .int .i64 b, .int .i64 l, .int .i64 e]) (res_one rfl (.cell w.heap.size 111 _ (0, 0) _ rfl (bk_put4 HR.out) Tryz.underlying111 rfl (by kernel_rfl) .nil)) rfl ?_
  exact ⟨rfl, by (repeat' with_reducible first|assumption|exact Below.refl _ _|apply bl_alloc|apply bl_drewN|apply bl_drew|refine bl_set ?_ (by simp<;>omega) _|refine bl_then ?_ (by assumption))⟩
set_option maxRecDepth 100000 in
set_option maxHeartbeats 1000000 in
theorem few_any (v : Value) (f : Fl) (w : World) (hf : Fv w v f) : Calls Tryz.prog 20 #[v] w fun e w' => e = .returned (.bool (decide (f.seen.length ≤ 26) && decide (f.v.length ≤ 26))) ∧ Below w.heap.size w w' := by
  obtain ⟨vv, sv, rfl, hv, hs⟩ := hf
  obtain ⟨A, c, rfl, h1, ⟨h2, _⟩, _⟩ := hv
  obtain ⟨A', c', rfl, h3, ⟨h4, _⟩, _⟩ := hs
  unfold flC
  by_cases hs : f.seen.length ≤ 26
  · have d1 : decide ((f.seen.length : Int) ≤ 26) = true := by simp; omega
    have d2 : decide (f.seen.length ≤ 26) = true := by simpa using hs
    by_cases hv : f.v.length ≤ 26
    · have d3 : decide ((f.v.length : Int) ≤ 26) = true := by simp; omega
      have d4 : decide (f.v.length ≤ 26) = true := by simpa using hv
      have HE : Hid ((decide (f.seen.length ≤ 26) && decide (f.v.length ≤ 26)) = true) := Lib.hid (by rw [d2, d4]; rfl)
      clear hs hv
      go_enter Tryz.func20, Tryz.ntmps20
      go_wp2
      go_ret
      exact ⟨by rw [HE.out]; rfl, by (repeat' with_reducible first|assumption|exact Below.refl _ _|apply bl_alloc|apply bl_drewN|apply bl_drew|refine bl_set ?_ (by simp<;>omega) _|refine bl_then ?_ (by assumption))⟩
    · have d3 : decide ((f.v.length : Int) ≤ 26) = false := by simp; omega
      have d4 : decide (f.v.length ≤ 26) = false := by simpa using hv
      have HE : Hid ((decide (f.seen.length ≤ 26) && decide (f.v.length ≤ 26)) = false) := Lib.hid (by rw [d2, d4]; rfl)
      clear hs hv
      go_enter Tryz.func20, Tryz.ntmps20
      go_wp2
      go_ret
      exact ⟨by rw [HE.out]; rfl, by (repeat' with_reducible first|assumption|exact Below.refl _ _|apply bl_alloc|apply bl_drewN|apply bl_drew|refine bl_set ?_ (by simp<;>omega) _|refine bl_then ?_ (by assumption))⟩
  · have d1 : decide ((f.seen.length : Int) ≤ 26) = false := by simp; omega
    have d2 : decide (f.seen.length ≤ 26) = false := by simpa using hs
    have HE : Hid ((decide (f.seen.length ≤ 26) && decide (f.v.length ≤ 26)) = false) := Lib.hid (by rw [d2]; rfl)
    clear hs
    go_enter Tryz.func20, Tryz.ntmps20
    go_wp2
    go_ret
    exact ⟨by rw [HE.out]; rfl, by (repeat' with_reducible first|assumption|exact Below.refl _ _|apply bl_alloc|apply bl_drewN|apply bl_drew|refine bl_set ?_ (by simp<;>omega) _|refine bl_then ?_ (by assumption))⟩
set_option maxRecDepth 100000 in
set_option maxHeartbeats 1000000 in
theorem example_any (w : World) : Calls Tryz.prog 83 #[] w fun e w' => ∃ vv sv, e = .returned (.agg (flC ex1 vv sv)) ∧ Sl rnC 3 w' vv ex1.v ∧ Sl snC 4 w' sv ex1.seen ∧ (∃ A, sv = .slice A 1 1) ∧ (∀ b, vv.ownBlock = some b → w.heap.size ≤ b) ∧ (∀ b, sv.ownBlock = some b → w.heap.size ≤ b) ∧ Below w.heap.size w w' := by
  go_enter Tryz.func83, Tryz.ntmps83
  go_wp2_with fail
  refine (lawlook_any 100 0 _).mono ?_
  rintro e1 w1 ⟨rfl, hb1⟩
  have hC1 := hb1.size
  have h0 := bk_below (bk_alloc (bk_new w (.cells flZ 30)) (.cells #[.int .i64 100, .int .i64 500, .int .i64 200] 178)) hb1
  have hv1 := (Sl.new1 rnC_len (w.alloc (.cells flZ 30)) (⟨100, 500, 200⟩ : Rn) #[.int .i64 100, .int .i64 500, .int .i64 200] 178 rfl).below hb1
  rw [World.size_alloc] at hv1
  have hB1 : Below w.heap.size w w1 := by (repeat' with_reducible first|assumption|exact Below.refl _ _|apply bl_alloc|apply bl_drewN|apply bl_drew|refine bl_set ?_ (by simp<;>omega) _|refine bl_then ?_ (by assumption))
  have HV1 := Lib.hid hv1
  have H0 := Lib.hid h0
  clear hv1 h0 hb1
  go_wp2_with fail
  refine (lawseen_any 90 100 50 0 _).mono ?_
  rintro e2 w2 ⟨rfl, hb2⟩
  have h0 := bk_below H0.out hb2
  have HV2 := Lib.hid (HV1.out.below hb2)
  have hB2 := bl_then hB1 hb2
  have hs2 := hb2.size
  have hs1 := bk_lt H0.out
  clear hb2 hB1 HV1 H0
  unfold flZ at h0
  obtain ⟨⟨z0, z1, z2, z3, z4, z5⟩, r0, r1, r2, r3, r4, r5⟩ := agg6 h0
  have hl2 := bk_lt h0
  have H0 := Lib.hid h0
  clear h0
  go_wp2
  refine bodyPost_ret (v := .agg #[.slice (some ⟨w.heap.size + 1, 0, none⟩) 1 1, .int .i64 100, .int .i64 0, .int .i64 500, .int .i64 2000, .slice (some ⟨w2.heap.size, 0, none⟩) 1 1]) (res_one rfl (.cell w.heap.size 30 _ (0, 0) _ rfl (bk_alloc (bk_put6 H0.out) _) Tryz.underlying30 rfl (by kernel_rfl) .nil)) rfl ?_
  have hk : ∀ b, b ≠ w.heap.size → b < w2.heap.size → (((((((w2.setCell ⟨w.heap.size, 0, none⟩ (.slice (some ⟨w.heap.size + 1, 0, none⟩) 1 1)).setCell ⟨w.heap.size, 1, none⟩ (.int .i64 100)).setCell ⟨w.heap.size, 2, none⟩ (.int .i64 0)).setCell ⟨w.heap.size, 3, none⟩ (.int .i64 500)).setCell ⟨w.heap.size, 4, none⟩ (.int .i64 2000)).setCell ⟨w.heap.size, 5, none⟩ (.slice (some ⟨w2.heap.size, 0, none⟩) 1 1)).alloc (.cells #[.int .i64 90, .int .i64 100, .int .i64 50, .int .i64 0] 111)).heap[b]? = w2.heap[b]? := fun b b1 b2 =>
    (Below.heap_alloc _ _ _ (by simpa using b2)).trans (heap_put6 _ _ _ _ _ _ _ _ b b1)
  have hsn := Sl.new1 snC_len ((((((w2.setCell ⟨w.heap.size, 0, none⟩ (.slice (some ⟨w.heap.size + 1, 0, none⟩) 1 1)).setCell ⟨w.heap.size, 1, none⟩ (.int .i64 100)).setCell ⟨w.heap.size, 2, none⟩ (.int .i64 0)).setCell ⟨w.heap.size, 3, none⟩ (.int .i64 500)).setCell ⟨w.heap.size, 4, none⟩ (.int .i64 2000)).setCell ⟨w.heap.size, 5, none⟩ (.slice (some ⟨w2.heap.size, 0, none⟩) 1 1)) (⟨90, 100, 50, 0⟩ : Sn) #[.int .i64 90, .int .i64 100, .int .i64 50, .int .i64 0] 111 rfl
  have hsz : ((((((w2.setCell ⟨w.heap.size, 0, none⟩ (.slice (some ⟨w.heap.size + 1, 0, none⟩) 1 1)).setCell ⟨w.heap.size, 1, none⟩ (.int .i64 100)).setCell ⟨w.heap.size, 2, none⟩ (.int .i64 0)).setCell ⟨w.heap.size, 3, none⟩ (.int .i64 500)).setCell ⟨w.heap.size, 4, none⟩ (.int .i64 2000)).setCell ⟨w.heap.size, 5, none⟩ (.slice (some ⟨w2.heap.size, 0, none⟩) 1 1)).heap.size = w2.heap.size := by simp
  rw [hsz] at hsn
  have hs3 : w.heap.size + 1 < w2.heap.size := Sl.lt rnC_len (by decide) HV2.out (by simp) _ rfl
  refine ⟨_, _, rfl, HV2.out.keep (fun _ b hb => ?_), hsn, ⟨_, rfl⟩, fun b hb => ?_, fun b hb => ?_, by (repeat' with_reducible first|assumption|exact Below.refl _ _|apply bl_alloc|apply bl_drewN|apply bl_drew|refine bl_set ?_ (by simp<;>omega) _|refine bl_then ?_ (by assumption))⟩
  · have hb' : w.heap.size + 1 = b := by simpa [Value.ownBlock] using hb
    exact hk b (by omega) (by omega)
  · have hb' : w.heap.size + 1 = b := by simpa [Value.ownBlock] using hb
    omega
  · have hb' : w2.heap.size = b := by simpa [Value.ownBlock] using hb
    omega
end Go.Proofs.YtjpagpplkldbkaaGreat
