/- Steps of a law's walk: with sane. The contracts in the form 'these are the answers, so ..'. Plain laws: a filling of which only some items are known. A row's arguments: what they are in memory. -/
import Derived.ProofKit
import Derived.OpenShut
import Derived.ChangeOld
import Derived.Lib.SmallJoins
import Derived.Test.YtjpagpplkldbkaaGreatLib12
import Derived.Test.YtjpagpplkldbkaaGreatLib24
import Derived.Test.YtjpagpplkldbkaaGreatLib28
set_option linter.unusedVariables false
set_option linter.unusedSimpArgs false
namespace Go.Proofs.YtjpagpplkldbkaaGreat
open Go.RowKit Go.Shelf WH
section
variable {f : Fl} {v : Value} {w : World}
theorem sane_is : Calls Tryz.prog 19 #[] w fun e w' => e = .returned (.bool true) ∧ Below w.heap.size w w' := sane_any w
theorem check_is {n : Int} (h : f.possE = n) (hf : Fv w v f) : Calls Tryz.prog 38 #[v] w fun e w' => e = .returned (.int .i64 n) ∧ Below w.heap.size w w' := by
  subst h; exact check_any v f w hf
theorem possible_is {b : Bool} {n : Int} (h1 : f.possB = b) (h2 : f.possE = n) (hf : Fv w v f) : Calls Tryz.prog 36 #[v] w fun e w' => e = .returned (.tuple #[.bool b, .int .i64 n]) ∧ Below w.heap.size w w' := by
  subst h1; subst h2; exact possible_any v f w hf
theorem bounds_is {a b c d n : Int} (h1 : f.bLo = ⟨a, b⟩) (h2 : f.bHi = ⟨c, d⟩) (h3 : f.rdy true = n) (hf : Fv w v f) :
    Calls Tryz.prog 33 #[v] w fun e w' => e = .returned (.tuple #[.agg #[.int .i64 a, .int .i64 b], .agg #[.int .i64 c, .int .i64 d], .int .i64 n]) ∧ Below w.heap.size w w' := by
  have := bounds_any v f w hf
  rw [h1, h2, h3] at this
  exact this
theorem wear_is {a b n : Int} (h1 : f.wLo = a) (h2 : f.wHi = b) (h3 : f.rdy true = n) (hf : Fv w v f) :
    Calls Tryz.prog 65 #[v] w fun e w' => e = .returned (.tuple #[.agg #[.int .i64 a, .int .i64 b], .int .i64 n]) ∧ Below w.heap.size w w' := by
  subst h1; subst h2; subst h3; exact wear_any v f w hf
theorem reached_is {l a b n : Int} (h1 : f.rcLo l = a) (h2 : f.rcHi l = b) (h3 : f.rcE l = n) (hf : Fv w v f) :
    Calls Tryz.prog 21 #[v, .int .i64 l] w fun e w' => e = .returned (.tuple #[.agg #[.int .i64 a, .int .i64 b], .int .i64 n]) ∧ Below w.heap.size w w' := by
  subst h1; subst h2; subst h3; exact reached_api v f l w hf
theorem level_is {l a b n : Int} (h1 : f.lv0 l = a) (h2 : f.lv1 l = b) (h3 : f.lvE l = n) (hf : Fv w v f) :
    Calls Tryz.prog 23 #[v, .int .i64 l] w fun e w' => e = .returned (.tuple #[.agg #[.int .i64 a, .int .i64 b], .int .i64 n]) ∧ Below w.heap.size w w' := by
  subst h1; subst h2; subst h3; exact level_api v f l w hf
theorem start_is {a b n : Int} (h1 : f.lv0 0 = a) (h2 : f.lv1 0 = b) (h3 : f.lvE 0 = n) (hf : Fv w v f) :
    Calls Tryz.prog 42 #[v] w fun e w' => e = .returned (.tuple #[.agg #[.int .i64 a, .int .i64 b], .int .i64 n]) ∧ Below w.heap.size w w' := by
  subst h1; subst h2; subst h3; exact start_api v f w hf
theorem seen_is {l a b n : Int} (h1 : f.seLo l = a) (h2 : f.seHi l = b) (h3 : f.seE l = n) (hf : Fv w v f) :
    Calls Tryz.prog 25 #[v, .int .i64 l] w fun e w' => e = .returned (.tuple #[.agg #[.int .i64 a, .int .i64 b], .int .i64 n]) ∧ Below w.heap.size w w' := by
  subst h1; subst h2; subst h3; exact seen_api v f l w hf
theorem surely_is {x m n : Int} {b : Bool} (h1 : f.suB x m = b) (h2 : f.asE x m = n) (hf : Fv w v f) :
    Calls Tryz.prog 29 #[v, .int .i64 x, .int .i64 m] w fun e w' => e = .returned (.tuple #[.bool b, .int .i64 n]) ∧ Below w.heap.size w w' := by
  subst h1; subst h2; exact surely_api v f x m w hf
theorem ever_is {x m n : Int} {b : Bool} (h1 : f.evB x m = b) (h2 : f.asE x m = n) (hf : Fv w v f) :
    Calls Tryz.prog 31 #[v, .int .i64 x, .int .i64 m] w fun e w' => e = .returned (.tuple #[.bool b, .int .i64 n]) ∧ Below w.heap.size w w' := by
  subst h1; subst h2; exact ever_api v f x m w hf
theorem ckc_is {a b k n : Int} (h : f.ccErr ⟨a, b⟩ k = n) (hf : Fv w v f) :
    Calls Tryz.prog 34 #[v, .agg #[.int .i64 a, .int .i64 b], .int .i64 k] w fun e w' => e = .returned (.int .i64 n) ∧ Below w.heap.size w w' := by
  subst h; exact ckc_any v f ⟨a, b⟩ k w hf
theorem ckl_is {lv : Value} {l : List Int} {n : Int} (h : f.clErr l = n) (hf : Fv w v f) (hl : Sl inC 1 w lv l) :
    Calls Tryz.prog 43 #[v, lv] w fun e w' => e = .returned (.int .i64 n) ∧ Below w.heap.size w w' := by
  subst h; exact ckl_any v lv f l w hf hl
theorem clash_is {b : Bool} {n : Int} (h1 : f.clI = b) (h2 : f.possE = n) (hf : Fv w v f) :
    Calls Tryz.prog 58 #[v] w fun e w' => ∃ A c, e = .returned (.tuple #[.slice A f.clL.length c, .bool b, .int .i64 n]) ∧ Sl inC 1 w' (.slice A f.clL.length c) f.clL ∧ Below w.heap.size w w' := by
  subst h1; subst h2
  refine (clash_any v f w hf).mono ?_
  rintro e w' ⟨lv, rfl, hl, hb⟩
  obtain ⟨A, c, rfl, _⟩ := id hl
  exact ⟨A, c, rfl, hl, hb⟩
end
theorem possE_rdy {f : Fl} : (f.possE = 30 ∧ f.okB = false ∧ f.rdy true = 30 ∧ f.possB = false) ∨ (f.possE = 0 ∧ f.good ∧ f.okB = true ∧ f.rdy true = 31 ∧ f.sol.empty = true ∧ f.possB = false) ∨ (f.possE = 0 ∧ f.good ∧ f.okB = true ∧ f.rdy true = 0 ∧ f.sol.empty = false ∧ f.possB = true) := by
  unfold Fl.possE Fl.possB
  rcases @rdy_true f with ⟨h, h1⟩ | ⟨h, h1, h2⟩ | ⟨h, h1, h2⟩
  · exact .inl ⟨by rw [h1]; rfl, h1, h, by rw [h]; rfl⟩
  · exact .inr (.inl ⟨by rw [h1]; rfl, good_iff.1 h1, h1, h, h2, by rw [h]; rfl⟩)
  · exact .inr (.inr ⟨by rw [h1]; rfl, good_iff.1 h1, h1, h, h2, by rw [h]; rfl⟩)
theorem bnd_zero {f : Fl} (h : f.rdy true = 0) : f.bLo = f.lo ∧ f.bHi = f.hi := ⟨if_pos h, if_pos h⟩
theorem bnd_none {f : Fl} (h : f.rdy true ≠ 0) : f.bLo = ⟨0, 0⟩ ∧ f.bHi = ⟨0, 0⟩ := ⟨if_neg h, if_neg h⟩
end Go.Proofs.YtjpagpplkldbkaaGreat
set_option linter.unusedVariables false
set_option linter.unusedSimpArgs false
namespace Go.Proofs.YtjpagpplkldbkaaGreat
open Go.RowKit WH
def Fl.wdAt (f out : Fl) (i : Int) : Fl :=
  if i = -2 then { out with wl := f.wl, wh := f.wh }
  else if i = -1 then { out with lv := f.lv, er := f.er }
  else match f.seen[i.toNat]? with
    | none => out
    | some s => if 0 ≤ i then { out with seen := out.seen ++ [s] } else out
def Fl.wd0 (f : Fl) (h : Int) : Fl := ⟨f.v, h, 1000, 1, 4000, []⟩
def Fl.wd (f : Fl) (h : Int) (l : List Int) : Fl := l.foldl f.wdAt (f.wd0 h)
section
variable {f : Fl}
/-- What is so of a filling of which some items are known. -/
structure WdOk (f out : Fl) (l : List Int) : Prop where
  v : out.v = f.v
  look : lookB out.lv out.er f.H = true
  wear : withinB out.wl out.wh 1 4000 = true
  len : out.seen.length ≤ l.length
  seen : ∀ s ∈ out.seen, okSn f.H s = true
  two : ∀ g e, f.base g e → f.item (-2) g e → out.item (-2) g e
  one : ∀ g e, f.base g e → f.item (-1) g e → out.item (-1) g e
  cases_ : ∀ g e, f.base g e → (out.item (-2) g e ∧ out.item (-1) g e ∧ (∀ i : Nat, i < out.seen.length → out.item i g e) ↔ ∀ k ∈ l, f.item k g e)
theorem wd0_ok (hf : f.good) (hH : f.H ≤ 1000) : WdOk f (f.wd0 f.H) [] := by
  have h0 := H_bd hf.v
  have e2 : ∀ g e, f.base g e → (f.wd0 f.H).item (-2) g e := fun g e hb => by
    unfold Fl.item
    rw [if_pos rfl]
    unfold Fl.base at hb
    show (1000 : Rat) / ((4000 : Int) : Rat) ≤ g ∧ g ≤ 1000 / ((1 : Int) : Rat)
    push_cast
    constructor <;> grind
  have e1 : ∀ g e, f.base g e → (f.wd0 f.H).item (-1) g e := fun g e hb => by
    unfold Fl.item
    rw [if_neg (by decide), if_pos rfl]
    have a1 : lvLo (f.wd0 f.H).lv (f.wd0 f.H).er = 0 := by unfold lvLo Fl.wd0; dsimp only; omega
    have a2 : lvHi (f.wd0 f.H).H (f.wd0 f.H).lv (f.wd0 f.H).er = f.H := by
      have : (f.wd0 f.H).H = f.H := rfl
      rw [this]
      unfold lvHi Fl.wd0; dsimp only; omega
    rw [a1, a2]
    have t : ∀ x, (f.wd0 f.H).tv x = f.tv x := fun _ => rfl
    rw [t, t, tv_zero hf.v]
    exact ⟨hb.2.2.1, hb.2.2.2⟩
  refine ⟨rfl, by unfold lookB fromB Fl.wd0; simp; omega, by unfold withinB Fl.wd0; simp, by simp [Fl.wd0], by simp [Fl.wd0], fun g e hb _ => e2 g e hb, fun g e hb _ => e1 g e hb, fun g e hb => ?_⟩
  constructor
  · intro _ k hk; cases hk
  · intro _; exact ⟨e2 g e hb, e1 g e hb, fun i hi => by simp [Fl.wd0] at hi⟩
theorem H_of {a b : Fl} (hv : a.v = b.v) : a.H = b.H := by unfold Fl.H; rw [hv]
theorem item_seen {a b : Fl} (hv : a.v = b.v) {i j : Nat} (hs : a.seen[i]? = b.seen[j]?) (g e : Rat) : a.item i g e ↔ b.item j g e := by
  have hH : a.H = b.H := by unfold Fl.H; rw [hv]
  have ht : ∀ x, a.tv x = b.tv x := fun x => by unfold Fl.tv Fl.T; rw [hv]
  unfold Fl.item
  rw [if_neg (by omega), if_neg (by omega), if_neg (by omega), if_neg (by omega)]
  simp only [Int.toNat_natCast, hs, ht, hH]
theorem item_wear {a b : Fl} (h1 : a.wl = b.wl) (h2 : a.wh = b.wh) (g e : Rat) : a.item (-2) g e ↔ b.item (-2) g e := by
  unfold Fl.item; rw [if_pos rfl, if_pos rfl, h1, h2]
theorem item_from {a b : Fl} (hv : a.v = b.v) (h1 : a.lv = b.lv) (h2 : a.er = b.er) (g e : Rat) : a.item (-1) g e ↔ b.item (-1) g e := by
  have hH : a.H = b.H := by unfold Fl.H; rw [hv]
  have ht : ∀ x, a.tv x = b.tv x := fun x => by unfold Fl.tv Fl.T; rw [hv]
  unfold Fl.item; rw [if_neg (by decide), if_pos rfl, if_neg (by decide), if_pos rfl, h1, h2, ht, ht, hH]
theorem wdAt_ok (hf : f.good) {out : Fl} {l : List Int} (h : WdOk f out l) (k : Int) (hk : k ∈ f.all) : WdOk f (f.wdAt out k) (l ++ [k]) := by
  have hm := mem_all.1 hk
  have mem : ∀ g e, (∀ j ∈ l ++ [k], f.item j g e) ↔ (∀ j ∈ l, f.item j g e) ∧ f.item k g e := fun g e => by
    simp only [List.mem_append, List.mem_singleton, or_imp, forall_and, forall_eq]
  by_cases h2 : k = -2
  · subst h2
    have er : f.wdAt out (-2) = { out with wl := f.wl, wh := f.wh } := rfl
    rw [er]
    have i2 := fun g e => item_wear (a := { out with wl := f.wl, wh := f.wh }) (b := f) rfl rfl g e
    have i1 := fun g e => item_from (a := { out with wl := f.wl, wh := f.wh }) (b := out) rfl rfl rfl g e
    refine ⟨h.v, h.look, hf.wear, by have := h.len; simp; omega, h.seen, fun g e _ hi => (i2 g e).2 hi, fun g e hb hi => (i1 g e).2 (h.one g e hb hi), fun g e hb => ?_⟩
    rw [mem, i2, i1, ← h.cases_ g e hb]
    have hs : (∀ i : Nat, i < out.seen.length → ({ out with wl := f.wl, wh := f.wh } : Fl).item i g e) ↔ ∀ i : Nat, i < out.seen.length → out.item i g e := forall_congr' fun i => forall_congr' fun _ => item_seen rfl rfl g e
    show _ ∧ _ ∧ (∀ i : Nat, i < out.seen.length → ({ out with wl := f.wl, wh := f.wh } : Fl).item i g e) ↔ _
    rw [hs]
    constructor
    · rintro ⟨a, b, c⟩; exact ⟨⟨h.two g e hb a, b, c⟩, a⟩
    · rintro ⟨⟨_, b, c⟩, a⟩; exact ⟨a, b, c⟩
  · by_cases h1 : k = -1
    · subst h1
      have er : f.wdAt out (-1) = { out with lv := f.lv, er := f.er } := rfl
      rw [er]
      have i2 := fun g e => item_wear (a := { out with lv := f.lv, er := f.er }) (b := out) rfl rfl g e
      have i1 := fun g e => item_from (a := { out with lv := f.lv, er := f.er }) (b := f) h.v rfl rfl g e
      refine ⟨h.v, hf.look, h.wear, by have := h.len; simp; omega, h.seen, fun g e hb hi => (i2 g e).2 (h.two g e hb hi), fun g e _ hi => (i1 g e).2 hi, fun g e hb => ?_⟩
      rw [mem, i2, i1, ← h.cases_ g e hb]
      have hs : (∀ i : Nat, i < out.seen.length → ({ out with lv := f.lv, er := f.er } : Fl).item i g e) ↔ ∀ i : Nat, i < out.seen.length → out.item i g e := forall_congr' fun i => forall_congr' fun _ => item_seen rfl rfl g e
      show _ ∧ _ ∧ (∀ i : Nat, i < out.seen.length → ({ out with lv := f.lv, er := f.er } : Fl).item i g e) ↔ _
      rw [hs]
      constructor
      · rintro ⟨a, b, c⟩; exact ⟨⟨a, h.one g e hb b, c⟩, b⟩
      · rintro ⟨⟨a, _, c⟩, b⟩; exact ⟨a, b, c⟩
    · have hkn : k.toNat < f.seen.length := by omega
      have h3 : f.seen[k.toNat]? = some f.seen[k.toNat] := List.getElem?_eq_getElem hkn
      have er : f.wdAt out k = { out with seen := out.seen ++ [f.seen[k.toNat]] } := by
        unfold Fl.wdAt
        rw [if_neg h2, if_neg h1, h3]
        dsimp only
        rw [if_pos (by omega)]
      rw [er]
      have i2 := fun g e => item_wear (a := { out with seen := out.seen ++ [f.seen[k.toNat]] }) (b := out) rfl rfl g e
      have i1 := fun g e => item_from (a := { out with seen := out.seen ++ [f.seen[k.toNat]] }) (b := out) rfl rfl rfl g e
      refine ⟨h.v, h.look, h.wear, by have := h.len; simp; omega, fun s hs => ?_, fun g e hb hi => (i2 g e).2 (h.two g e hb hi), fun g e hb hi => (i1 g e).2 (h.one g e hb hi), fun g e hb => ?_⟩
      · rcases List.mem_append.1 hs with h4 | h4
        · exact h.seen s h4
        · rw [List.mem_singleton.1 h4]; exact hf.seen _ (List.getElem_mem hkn)
      · rw [mem, i2, i1, ← h.cases_ g e hb]
        have hl : ({ out with seen := out.seen ++ [f.seen[k.toNat]] } : Fl).seen.length = out.seen.length + 1 := by simp
        have hs : (∀ i : Nat, i < out.seen.length + 1 → ({ out with seen := out.seen ++ [f.seen[k.toNat]] } : Fl).item i g e) ↔ (∀ i : Nat, i < out.seen.length → out.item i g e) ∧ f.item k g e := by
          have last : ({ out with seen := out.seen ++ [f.seen[k.toNat]] } : Fl).item (out.seen.length : Nat) g e ↔ f.item k g e := by
            have := item_seen (a := { out with seen := out.seen ++ [f.seen[k.toNat]] }) (b := f) h.v (i := out.seen.length) (j := k.toNat) (by simp [h3]) g e
            rw [this, show ((k.toNat : Nat) : Int) = k by omega]
          have old : ∀ i : Nat, i < out.seen.length → (({ out with seen := out.seen ++ [f.seen[k.toNat]] } : Fl).item i g e ↔ out.item i g e) := fun i hi => item_seen (a := { out with seen := out.seen ++ [f.seen[k.toNat]] }) (b := out) rfl (i := i) (j := i) (List.getElem?_append_left hi) g e
          constructor
          · intro hh; exact ⟨fun i hi => (old i hi).1 (hh i (by omega)), last.1 (hh _ (by omega))⟩
          · rintro ⟨ha, hb'⟩ i hi
            by_cases hlt : i < out.seen.length
            · exact (old i hlt).2 (ha i hlt)
            · obtain rfl : i = out.seen.length := by omega
              exact last.2 hb'
        rw [hl, hs]
        constructor
        · rintro ⟨a, b, c, d⟩; exact ⟨⟨a, b, c⟩, d⟩
        · rintro ⟨⟨a, b, c⟩, d⟩; exact ⟨a, b, c, d⟩
theorem wd_ok (hf : f.good) (hH : f.H ≤ 1000) (l : List Int) (hl : ∀ k ∈ l, k ∈ f.all) : WdOk f (f.wd f.H l) l := by
  have key : ∀ (m l : List Int) (out : Fl), (∀ k ∈ m, k ∈ f.all) → WdOk f out l → WdOk f (m.foldl f.wdAt out) (l ++ m) := by
    intro m
    induction m with
    | nil => intro l out _ h; simpa using h
    | cons k m ih =>
      intro l out hm h
      have := ih (l ++ [k]) _ (fun x hx => hm x (List.mem_cons_of_mem _ hx)) (wdAt_ok hf h k (hm k List.mem_cons_self))
      simpa using this
  exact key l [] _ hl (wd0_ok hf hH)
/-- A filling of which only some items are known allows a case exactly if these do not contradict each other. -/
theorem wd_law (hf : f.good) (hH : f.H ≤ 1000) (l : List Int) (hl : ∀ k ∈ l, k ∈ f.all) (hn : l.length ≤ 24) : (f.wd f.H l).good ∧ (f.wd f.H l).sol.empty = f.apart l := by
  have h := wd_ok hf hH l hl
  have hg : (f.wd f.H l).good := by
    have hH2 : (f.wd f.H l).H = f.H := H_of h.v
    refine ⟨by rw [h.v]; exact hf.v, by rw [hH2]; exact h.look, h.wear, by have := h.len; omega, by rw [hH2]; exact h.seen⟩
  refine ⟨hg, ?_⟩
  have e1 := sol_empty hg
  have e2 := apart_iff hf l
  have e3 : (∃ g e, (f.wd f.H l).poss g e) ↔ ∃ g e, f.case_ l g e := by
    refine exists_congr fun g => exists_congr fun e => ?_
    rw [poss_iff]
    unfold Fl.case_
    rw [base_same h.v]
    constructor
    · rintro ⟨a, b, c, d⟩; exact ⟨a, (h.cases_ g e a).1 ⟨b, c, d⟩⟩
    · rintro ⟨a, b⟩; exact ⟨a, (h.cases_ g e a).2 b⟩
  rw [e3] at e1
  cases h5 : f.apart l with
  | true =>
    have := e2.1 h5
    cases h6 : (f.wd f.H l).sol.empty with
    | true => rfl
    | false => exact absurd (e1.1 h6) this
  | false =>
    refine e1.2 (Classical.not_not.1 fun hh => ?_)
    rw [e2.2 hh] at h5
    cases h5
end
end Go.Proofs.YtjpagpplkldbkaaGreat
set_option linter.unusedVariables false
set_option linter.unusedSimpArgs false
namespace Go.Proofs.YtjpagpplkldbkaaGreat
open Go.RowKit Go.Shelf WH Go.ChangeShapes Go.WideShapes
section
variable {H : Type} {en : TypeId × Value → H} {P : Program} {w : World} {spare : Nat → Bool} {held : Bool}
theorem wf_i64 {n : Int} (h : (Lit.int .i64 n).wf = true) : -9223372036854775808 ≤ n ∧ n ≤ 9223372036854775807 := by
  have := bounds_i64 h
  omega
/-- A slice whose elements read as what a list tells. -/
theorem sl_of_trod {α : Type} {enc : α → List Value} {sz : Nat} [Inhabited α] {t e : TypeId} {fuel : Nat} {cs : List Value} {x : DataW H × List MemPlace} (ht : P.underlying t = some (.slice e)) (hc : P.cellsOf e = sz) (hs : 0 < sz) (hl : ∀ a, (enc a).length = sz)
    (one : ∀ n cs y, DataW.trod en P w 0 spare held n e cs = some y → ∃ a : α, cs = enc a) (h : DataW.trod en P w 0 spare held fuel t cs = some x) : ∃ v xs, cs = [v] ∧ Sl enc sz w v xs := by
  rcases Go.Deep.open_slice ht h with ⟨rfl, _⟩ | ⟨a, len, cap, m, n, D, Pl, rfl, _, hle, hm, hmm, rfl, hx⟩
  · exact ⟨_, [], rfl, Sl.nil _ _ _⟩
  · have hlm : len ≤ m := by subst hmm; split <;> omega
    rw [hc] at hx
    obtain ⟨F, hF⟩ := Go.Deep.choose_lt (n := m) (p := fun i (z : α) => w.cells? 0 (a.add (i * sz)) sz = some (enc z)) (fun i hi => by
      obtain ⟨cs', h1, h2⟩ := hx i hi
      obtain ⟨z, rfl⟩ := one _ _ _ h2
      exact ⟨z, h1⟩)
    have hml : cap ≤ 9223372036854775807 := by unfold maxLen at hm; omega
    refine ⟨_, (List.range len).map F, rfl, some a, cap, by simp, by simpa using hle, ⟨hml, by intro h; cases h⟩, fun hne => ?_⟩
    have h0 : 0 < len := by
      rcases Nat.eq_zero_or_pos len with h | h
      · subst h; simp at hne
      · exact h
    have cell : ∀ j i u, j < len → (enc (F j))[i]? = some u → i < sz → w.cell? ((a.add (j * sz)).add i) = some u := fun j i u hj hu hi => by
      obtain ⟨_, _, h3⟩ := World.cells?_some (hF j (by omega))
      rw [h3 i hi]; exact hu
    obtain ⟨b, off, spot⟩ := a
    have hspot : spot = none := by
      have hz : 0 < (enc (F 0)).length := by rw [hl]; exact hs
      have := World.cell?_spot (cell 0 0 _ h0 (List.getElem?_eq_getElem hz) hs)
      simpa [Addr.add] using this
    subst hspot
    refine ⟨b, off, rfl, fun j i u hj hu hi => ?_⟩
    have hj' : j < len := by simpa using hj
    have := cell j i u hj' (by simpa [List.getElem?_map, hj'] using hu) hi
    rw [add_plain', add_plain'] at this
    exact this
theorem in_of_trod {t : TypeId} {fuel : Nat} {cs : List Value} {x : DataW H × List MemPlace} (ht : P.underlying t = some (.int .i64)) (h : DataW.trod en P w 0 spare held fuel t cs = some x) : ∃ n : Int, cs = [.int .i64 n] ∧ -9223372036854775808 ≤ n ∧ n ≤ 9223372036854775807 := by
  obtain ⟨n, rfl, _, hw⟩ := DataW.trod_int ht h
  exact ⟨n, rfl, wf_i64 hw⟩
end
section
variable {H : Type} {en : TypeId × Value → H} {w : World} {spare : Nat → Bool} {held : Bool}
set_option maxRecDepth 100000
theorem cells_int : Tryz.prog.cellsOf 3 = 1 := by kernel_rfl
theorem cells_span : Tryz.prog.cellsOf 27 = 2 := by kernel_rfl
theorem cells_look : Tryz.prog.cellsOf 25 = 2 := by kernel_rfl
theorem cells_ratio : Tryz.prog.cellsOf 41 = 2 := by kernel_rfl
theorem cells_ring : Tryz.prog.cellsOf 178 = 3 := by kernel_rfl
theorem cells_seen : Tryz.prog.cellsOf 111 = 4 := by kernel_rfl
theorem cells_vessel : Tryz.prog.cellsOf 23 = 1 := by kernel_rfl
theorem cells_seens : Tryz.prog.cellsOf 28 = 1 := by kernel_rfl
theorem cells_fill : Tryz.prog.cellsOf 30 = 6 := by kernel_rfl
theorem two_of {t : TypeId} {f0 f1 : Field} {fuel : Nat} {cs : List Value} {x : DataW H × List MemPlace} (ht : Tryz.prog.underlying t = some (.struct #[f0, f1])) (hc : Tryz.prog.cellsOf t = 2)
    (k0 : f0.type = 3) (k1 : f1.type = 3) (o0 : f0.offset = 0) (o1 : f1.offset = 1) (h : DataW.trod en Tryz.prog w 0 spare held fuel t cs = some x) :
    ∃ a b : Int, cs = [.int .i64 a, .int .i64 b] ∧ (-9223372036854775808 ≤ a ∧ a ≤ 9223372036854775807) ∧ -9223372036854775808 ≤ b ∧ b ≤ 9223372036854775807 := by
  obtain ⟨y0, y1, n, _, hl, h0, h1⟩ := trod_struct2 ht h
  rw [hc] at hl
  rw [k0, o0, cells_int] at h0
  rw [k1, o1, cells_int] at h1
  match cs, hl with
  | [c0, c1], _ =>
    obtain ⟨a, e0, b0⟩ := in_of_trod Tryz.underlying3 h0
    obtain ⟨b, e1, b1⟩ := in_of_trod Tryz.underlying3 h1
    simp at e0 e1
    subst e0; subst e1
    exact ⟨a, b, rfl, b0, b1⟩
theorem ring_of_trod {fuel : Nat} {cs : List Value} {x : DataW H × List MemPlace} (h : DataW.trod en Tryz.prog w 0 spare held fuel 178 cs = some x) : ∃ a : Rn, cs = rnC a := by
  obtain ⟨y0, y1, y2, n, _, hl, h0, h1, h2⟩ := Go.Deep.trod_struct3 Tryz.underlying178 h
  rw [cells_ring] at hl
  match cs, hl with
  | [c0, c1, c2], _ =>
    simp [cells_int] at h0 h1 h2
    obtain ⟨a, e0, _⟩ := in_of_trod Tryz.underlying3 h0
    obtain ⟨b, e1, _⟩ := in_of_trod Tryz.underlying3 h1
    obtain ⟨c, e2, _⟩ := in_of_trod Tryz.underlying3 h2
    simp at e0 e1 e2
    subst e0; subst e1; subst e2
    exact ⟨⟨a, b, c⟩, rfl⟩
theorem span_of_trod {fuel : Nat} {cs : List Value} {x : DataW H × List MemPlace} (h : DataW.trod en Tryz.prog w 0 spare held fuel 27 cs = some x) :
    ∃ a b : Int, cs = [.int .i64 a, .int .i64 b] ∧ (-9223372036854775808 ≤ a ∧ a ≤ 9223372036854775807) ∧ -9223372036854775808 ≤ b ∧ b ≤ 9223372036854775807 := two_of Tryz.underlying27 cells_span rfl rfl rfl rfl h
theorem look_of_trod {fuel : Nat} {cs : List Value} {x : DataW H × List MemPlace} (h : DataW.trod en Tryz.prog w 0 spare held fuel 25 cs = some x) :
    ∃ a b : Int, cs = [.int .i64 a, .int .i64 b] ∧ (-9223372036854775808 ≤ a ∧ a ≤ 9223372036854775807) ∧ -9223372036854775808 ≤ b ∧ b ≤ 9223372036854775807 := two_of Tryz.underlying25 cells_look rfl rfl rfl rfl h
theorem ratio_of_trod {fuel : Nat} {cs : List Value} {x : DataW H × List MemPlace} (h : DataW.trod en Tryz.prog w 0 spare held fuel 41 cs = some x) :
    ∃ a b : Int, cs = [.int .i64 a, .int .i64 b] ∧ (-9223372036854775808 ≤ a ∧ a ≤ 9223372036854775807) ∧ -9223372036854775808 ≤ b ∧ b ≤ 9223372036854775807 := two_of Tryz.underlying41 cells_ratio rfl rfl rfl rfl h
/-- A number that an int holds. -/
def Fits (n : Int) : Prop := -9223372036854775808 ≤ n ∧ n ≤ 9223372036854775807
def Sn.fits (s : Sn) : Prop := Fits s.lo ∧ Fits s.hi ∧ Fits s.lv ∧ Fits s.er
theorem seen_of_trod {fuel : Nat} {cs : List Value} {x : DataW H × List MemPlace} (h : DataW.trod en Tryz.prog w 0 spare held fuel 111 cs = some x) : ∃ a : Sn, cs = snC a ∧ a.fits := by
  obtain ⟨y0, y1, n, _, hl, h0, h1⟩ := trod_struct2 Tryz.underlying111 h
  rw [cells_seen] at hl
  match cs, hl with
  | [c0, c1, c2, c3], _ =>
    simp [cells_span, cells_look] at h0 h1
    obtain ⟨a, b, e0, b0, b1⟩ := span_of_trod h0
    obtain ⟨c, d, e1, b2, b3⟩ := look_of_trod h1
    simp at e0 e1
    obtain ⟨rfl, rfl⟩ := e0
    obtain ⟨rfl, rfl⟩ := e1
    exact ⟨⟨a, b, c, d⟩, rfl, b0, b1, b2, b3⟩
def Fl.fits (f : Fl) : Prop := Fits f.lv ∧ Fits f.er ∧ Fits f.wl ∧ Fits f.wh
theorem fl_of_trod {fuel : Nat} {cs : List Value} {x : DataW H × List MemPlace} (h : DataW.trod en Tryz.prog w 0 spare held fuel 30 cs = some x) :
    ∃ f : Fl, ∃ vv sv, cs = (flC f vv sv).toList ∧ Sl rnC 3 w vv f.v ∧ Sl snC 4 w sv f.seen ∧ f.fits := by
  obtain ⟨y0, y1, y2, y3, n, _, hl, h0, h1, h2, h3⟩ := Go.Joins.trod_struct4 Tryz.underlying30 h
  rw [cells_fill] at hl
  match cs, hl with
  | [c0, c1, c2, c3, c4, c5], _ =>
    simp [cells_span, cells_look, cells_vessel, cells_seens] at h0 h1 h2 h3
    obtain ⟨v, xs, e0, s0⟩ := sl_of_trod (enc := rnC) Tryz.underlying23 cells_ring (by decide) rnC_len (fun _ _ _ h => ring_of_trod h) h0
    obtain ⟨a, b, e1, b0, b1⟩ := look_of_trod h1
    obtain ⟨c, d, e2, b2, b3⟩ := span_of_trod h2
    obtain ⟨v2, ys, e3, s1⟩ := sl_of_trod (enc := snC) Tryz.underlying28 cells_seen (by decide) snC_len (fun _ _ _ h => (seen_of_trod h).imp fun _ h => h.1) h3
    simp at e0 e1 e2 e3
    subst e0
    obtain ⟨rfl, rfl⟩ := e1
    obtain ⟨rfl, rfl⟩ := e2
    subst e3
    exact ⟨⟨xs, a, b, c, d, ys⟩, _, _, rfl, s0, s1, b0, b1, b2, b3⟩
/-- A filling that came in. -/
theorem open_fl {r : Reach} {b0 : Nat} {v : Value} {d : DataW H} {ps : List MemPlace} (hv : Value.okWide Tryz.prog w r b0 30 v) (h : DataW.Trod en Tryz.prog w 0 spare held 30 v d ps) : ∃ f : Fl, Fv w v f ∧ f.fits := by
  obtain ⟨cs, rfl, _⟩ := okWide_struct Tryz.underlying30 hv
  obtain ⟨fuel, hf⟩ := h
  obtain ⟨f, vv, sv, e, s0, s1, hb⟩ := fl_of_trod (cs := cs.toList) (by simpa [Value.cells] using hf)
  refine ⟨f, ⟨vv, sv, ?_, s0, s1⟩, hb⟩
  have : cs = flC f vv sv := by
    have := congrArg List.toArray e
    simpa using this
  rw [this]
theorem open_ratio {r : Reach} {b0 : Nat} {v : Value} {d : DataW H} {ps : List MemPlace} (hv : Value.okWide Tryz.prog w r b0 41 v) (h : DataW.Trod en Tryz.prog w 0 spare held 41 v d ps) : ∃ a : Ra, v = raV a ∧ Fits a.n ∧ Fits a.d := by
  obtain ⟨cs, rfl, _⟩ := okWide_struct Tryz.underlying41 hv
  obtain ⟨fuel, hf⟩ := h
  obtain ⟨a, b, e, h1, h2⟩ := ratio_of_trod (cs := cs.toList) (by simpa [Value.cells] using hf)
  refine ⟨⟨a, b⟩, ?_, h1, h2⟩
  have : cs = #[.int .i64 a, .int .i64 b] := by
    have := congrArg List.toArray e
    simpa using this
  rw [this]
  rfl
theorem open_seen {r : Reach} {b0 : Nat} {v : Value} {d : DataW H} {ps : List MemPlace} (hv : Value.okWide Tryz.prog w r b0 111 v) (h : DataW.Trod en Tryz.prog w 0 spare held 111 v d ps) : ∃ a : Sn, v = .agg #[.int .i64 a.lo, .int .i64 a.hi, .int .i64 a.lv, .int .i64 a.er] ∧ a.fits := by
  obtain ⟨cs, rfl, _⟩ := okWide_struct Tryz.underlying111 hv
  obtain ⟨fuel, hf⟩ := h
  obtain ⟨a, e, h1⟩ := seen_of_trod (cs := cs.toList) (by simpa [Value.cells] using hf)
  refine ⟨a, ?_, h1⟩
  have : cs = #[.int .i64 a.lo, .int .i64 a.hi, .int .i64 a.lv, .int .i64 a.er] := by
    have := congrArg List.toArray e
    simpa [snC] using this
  rw [this]
theorem open_ints {r : Reach} {b0 : Nat} {v : Value} {d : DataW H} {ps : List MemPlace} (hv : Value.okWide Tryz.prog w r b0 53 v) (h : DataW.Trod en Tryz.prog w 0 spare held 53 v d ps) : ∃ l : List Int, Sl inC 1 w v l := by
  obtain ⟨a, n, c, rfl⟩ := okWide_slice Tryz.underlying53 hv
  obtain ⟨fuel, hf⟩ := h
  obtain ⟨v, xs, e, s⟩ := sl_of_trod (enc := inC) (cs := [.slice a n c]) Tryz.underlying53 cells_int (by decide) inC_len (fun _ _ _ h => (in_of_trod Tryz.underlying3 h).imp fun _ h => h.1) (by simpa [Value.cells] using hf)
  simp at e
  subst e
  exact ⟨xs, s⟩
end
end Go.Proofs.YtjpagpplkldbkaaGreat
