/- Patterns, plainly: the reference's answers: right, and what a pattern takes. -/
import Derived.Test.YtlkjfjlmjgkheaaGx14
import Derived.Test.YtlkjfjlmjgkheaaPe
namespace Go.Proofs.Ytlkjfjlmjgkheaa.G
open Go.RowKit Go.Proofs.YtlkjfjlmjgkheaaW.PrintWords Go.Proofs.YtlkjfjlmjgkheaaW.PrintLast Go.Proofs.YtlkjfjlmjgkheaaW.PrintMore Go.Proofs.YtlkjfjlmjgkheaaRd
theorem fitsL_cons (x : S25) (xs : List S25) : fitsL (x :: xs) = (fitsP x && fitsL xs) := by rw [fitsL]
theorem kinds_loop (xs : List S25) (hl : xs.length * 56 ≤ 140737488351232) (ih : ∀ y ∈ xs, Ev (fun k => r5_kinds.f k y.f0 y.f1 y.f2) (fitsP y)) (m : Nat) :
    ∀ (j : Nat), j + m = xs.length → Ev (fun k => r5_kinds.l0 k xs (xs.length : Int) (j : Int)) (fitsL (xs.drop j)) := by
  induction m with
  | zero =>
    intro j hj
    refine Ev.step (by intro k; rw [r5_kinds.l0]) ?_
    refine Ev.ite_neg (by omega) ?_
    rw [List.drop_of_length_le (by omega), fitsL]
    exact Ev.now _
  | succ m im =>
    intro j hj
    have hlt : j < xs.length := by omega
    refine Ev.step (by intro k; rw [r5_kinds.l0]) ?_
    refine Ev.ite_pos (by omega) (Ev.ite_pos (by omega) (Ev.ite_pos (by omega) ?_))
    rw [rd25n xs j hlt, w64s j (by omega), dropc xs j hlt, fitsL_cons]
    refine Ev.bind1 _ (ih xs[j] (List.getElem_mem hlt)) ?_
    by_cases h : fitsP xs[j] = true
    · rw [h, Bool.true_and]
      exact Ev.ite_pos rfl (im (j + 1) (by omega))
    · rw [Bool.eq_false_iff.2 h, Bool.false_and]
      exact Ev.ite_neg (by decide) (Ev.now _)
theorem kinds_ev (x : S25) (hx : ok25 x) : Ev (fun k => r5_kinds.f k x.f0 x.f1 x.f2) (fitsP x) := by
  revert hx
  refine ind25 (P := fun x => ok25 x → Ev (fun k => r5_kinds.f k x.f0 x.f1 x.f2) (fitsP x)) ?_ x
  intro x ih hx
  obtain ⟨hl, hs⟩ := ok25_subs hx
  have lp := kinds_loop x.f2 hl (fun y hy => ih y hy (hs y hy)) x.f2.length 0 (by omega)
  rw [List.drop_zero] at lp
  obtain ⟨a, s, l⟩ := x
  dsimp only at lp hl ⊢
  refine Ev.step (by intro k; rw [r5_kinds.f]) ?_
  rw [fitsP_eq]
  have j0t : Ev (fun k => r5_kinds.j0 k true a s l) false := by
    refine Ev.step (by intro k; rw [r5_kinds.j0]) ?_
    exact Ev.ite_pos rfl (Ev.now _)
  have j1t : Ev (fun k => r5_kinds.j1 k true a s l) false := by
    refine Ev.step (by intro k; rw [r5_kinds.j1]) ?_
    exact Ev.ite_pos rfl (Ev.now _)
  have j2t : Ev (fun k => r5_kinds.j2 k true a s l) false := by
    refine Ev.step (by intro k; rw [r5_kinds.j2]) ?_
    exact Ev.ite_pos rfl (Ev.now _)
  have j2f : Ev (fun k => r5_kinds.j2 k false a s l) (decide (1 ≤ a) && (decide (a ≤ 4) && fitsL l)) := by
    refine Ev.step (by intro k; rw [r5_kinds.j2]) ?_
    refine Ev.ite_neg (by decide) ?_
    by_cases h : a < 1
    · rw [decide_eq_false (by omega), Bool.false_and]
      exact Ev.ite_pos h (Ev.now _)
    · rw [decide_eq_true (by omega), Bool.true_and]
      refine Ev.ite_neg h ?_
      by_cases h' : a > 4
      · rw [decide_eq_false (by omega), Bool.false_and]
        exact Ev.ite_pos h' (Ev.now _)
      · rw [decide_eq_true (by omega), Bool.true_and]
        exact Ev.ite_neg h' lp
  by_cases h1 : a = 1
  · subst h1
    refine Ev.ite_pos rfl ?_
    rw [if_pos rfl]
    by_cases h2 : (l.length : Int) > 0
    · refine Ev.ite_pos h2 ?_
      rw [decide_eq_false (by omega), Bool.false_and]
      exact j0t
    · refine Ev.ite_neg h2 ?_
      rw [decide_eq_true (show (l.length : Int) = 0 by omega), Bool.true_and]
      have hnil : l = [] := List.eq_nil_of_length_eq_zero (by omega)
      subst hnil
      by_cases h3 : (s.length : Int) > 256
      · rw [decide_eq_true h3, decide_eq_false (by omega)]
        exact j0t
      · rw [decide_eq_false h3, decide_eq_true (by omega)]
        refine Ev.step (by intro k; rw [r5_kinds.j0]) ?_
        refine Ev.ite_neg (by decide) (Ev.ite_pos rfl ?_)
        refine Ev.step (by intro k; rw [r5_kinds.j1]) ?_
        refine Ev.ite_neg (by decide) (Ev.ite_neg (by decide) ?_)
        exact j2f
  · refine Ev.ite_neg h1 ?_
    rw [if_neg h1]
    refine Ev.step (by intro k; rw [r5_kinds.j0]) ?_
    refine Ev.ite_neg (by decide) (Ev.ite_neg h1 ?_)
    by_cases h2 : (s.length : Int) > 0
    · rw [decide_eq_true h2, decide_eq_false (by omega), Bool.false_and, ite_self]
      exact j1t
    · rw [decide_eq_false h2, decide_eq_true (show (s.length : Int) = 0 by omega), Bool.true_and]
      refine Ev.step (by intro k; rw [r5_kinds.j1]) ?_
      refine Ev.ite_neg (by decide) ?_
      by_cases h4 : a = 4
      · subst h4
        refine Ev.ite_pos rfl ?_
        rw [if_pos (by omega)]
        by_cases h5 : (l.length : Int) = 1
        · rw [show ((l.length : Int) != 1) = false by simp [h5], decide_eq_true h5]
          exact j2f
        · rw [show ((l.length : Int) != 1) = true by simp [h5], decide_eq_false h5]
          exact j2t
      · refine Ev.ite_neg h4 ?_
        by_cases h5 : a = 2 ∨ a = 3 ∨ a = 4
        · rw [if_pos h5, decide_eq_false h4]
          rw [decide_eq_true (by omega), decide_eq_true (by omega)] at j2f
          exact j2f
        · rw [if_neg h5]
          have e : (decide (1 ≤ a) && (decide (a ≤ 4) && fitsL l)) = false := by
            by_cases h : 1 ≤ a
            · rw [decide_eq_false (show ¬ a ≤ 4 by omega), Bool.false_and, Bool.and_false]
            · rw [decide_eq_false h, Bool.false_and]
          rw [e] at j2f
          exact j2f
theorem rright_ev (x : S25) (hx : ok25 x) : Ev (fun k => r5_Right.f k x.f0 x.f1 x.f2) (rightB x) := by
  obtain ⟨d, h, hd⟩ := rsize x hx
  unfold r5_Right.f
  refine Ev.bind1 _ h ?_
  dsimp only
  unfold rightB
  by_cases h : partsP x ≤ 200
  · refine Ev.ite_pos (by omega) ?_
    rw [decide_eq_true h, Bool.true_and, hd (by omega)]
    by_cases h' : deepP x ≤ 40
    · refine Ev.ite_pos (by omega) ?_
      rw [decide_eq_true h', Bool.true_and]
      exact Ev.bind1 (fitsP x) (kinds_ev x hx) (Ev.now _)
    · rw [decide_eq_false h', Bool.false_and]
      exact Ev.ite_neg (by omega) (Ev.now _)
  · rw [decide_eq_false h, Bool.false_and]
    exact Ev.ite_neg (by omega) (Ev.now _)
def RepB (n : Nat) (r : List Bool) (S : Nat → Prop) : Prop := r.length = n + 1 ∧ ∀ i, i ≤ n → (r.getD i false = true ↔ S i)
theorem RepB.congr {n : Nat} {r : List Bool} {S T : Nat → Prop} (h : RepB n r S) (hST : ∀ i, i ≤ n → (S i ↔ T i)) : RepB n r T :=
  ⟨h.1, fun i hi => (h.2 i hi).trans (hST i hi)⟩
theorem RepB.none (n : Nat) : RepB n (List.replicate (n + 1) false) (fun _ => False) := by
  refine ⟨by simp, fun i hi => ?_⟩
  rw [List.getD_eq_getElem?_getD, List.getElem?_replicate, if_pos (by omega)]
  simp
theorem getD_set (r : List Bool) (i j : Nat) (b : Bool) (hi : i < r.length) : (r.set i b).getD j false = if i = j then b else r.getD j false := by
  simp only [List.getD_eq_getElem?_getD, List.getElem?_set]
  split
  · rename_i e; subst e; simp
  · rfl
theorem RepB.set {n : Nat} {r : List Bool} {S : Nat → Prop} (h : RepB n r S) {i : Nat} (hi : i ≤ n) : RepB n (r.set i true) (fun j => S j ∨ j = i) := by
  refine ⟨by rw [List.length_set]; exact h.1, fun j hj => ?_⟩
  show _ ↔ (S j ∨ j = i)
  rw [getD_set r i j true (by rw [h.1]; omega), ← h.2 j hj]
  by_cases c : i = j
  · simp [c]
  · simp [c, Ne.symm c]
theorem rdF (r : List Bool) (i : Nat) : rdOf false r (i : Int) = r.getD i false := by
  simp [rdOf]
theorem rin_loop (v : Int) (xs : List S66) (hl : xs.length * 8 ≤ 140737488351232) (m : Nat) : ∀ (j : Nat), j + m = xs.length → Ev (fun k => r1_In.l0 k v xs (xs.length : Int) (j : Int)) (inSet (xs.drop j) v) := by
  induction m with
  | zero =>
    intro j hj
    refine Ev.step (by intro k; rw [r1_In.l0]) ?_
    refine Ev.ite_neg (by omega) ?_
    rw [List.drop_of_length_le (by omega)]
    exact Ev.now _
  | succ m im =>
    intro j hj
    have hlt : j < xs.length := by omega
    have e : rd_T66 xs (j : Int) = xs[j] := by simp [rd_T66, List.getD_eq_getElem?_getD, List.getElem?_eq_getElem hlt]
    refine Ev.step (by intro k; rw [r1_In.l0]) ?_
    refine Ev.ite_pos (by omega) (Ev.ite_pos (by omega) (Ev.ite_pos (by omega) ?_))
    have := im (j + 1) (by omega)
    rw [e, w64s j (by omega), dropc xs j hlt]
    unfold inSet at this ⊢
    rw [List.any_cons]
    by_cases h : xs[j].f0 ≤ v
    · refine Ev.ite_pos h ?_
      rw [decide_eq_true h, Bool.true_and]
      by_cases h' : v ≤ xs[j].f1
      · rw [decide_eq_true h', Bool.true_or]
        exact Ev.ite_pos h' (Ev.now _)
      · rw [decide_eq_false h', Bool.false_or]
        exact Ev.ite_neg h' this
    · rw [decide_eq_false h, Bool.false_and, Bool.false_or]
      exact Ev.ite_neg h this
theorem rin_ev (v : Int) (xs : List S66) (hl : xs.length * 8 ≤ 140737488351232) : Ev (fun k => r1_In.f k xs v) (inSet xs v) := rin_loop v xs hl xs.length 0 (by omega)
def REnds (path : List Int) (x : S25) : Prop := ∀ (r : List Bool) (S : Nat → Prop), RepB path.length r S →
  ∃ y, Ev (fun k => r5_ends.f k x.f0 x.f1 x.f2 path r) y ∧ RepB path.length y (En path (Lp x) S)
theorem rone_loop (path : List Int) (hp : path.length ≤ 255) (a : Int) (set : List S66) (hset : set.length * 8 ≤ 140737488351232) (subs : List S25) {r : List Bool} {S : Nat → Prop} (hr : RepB path.length r S) (m : Nat) :
    ∀ (j : Nat), j + m = path.length → ∀ z, RepB path.length z (fun p => ∃ i, ∃ h : i < path.length, i < j ∧ p = i + 1 ∧ S i ∧ inSet set path[i] = true) →
    ∃ y, Ev (fun k => r5_ends.l0 k r z path (path.length : Int) (j : Int) a set subs) y ∧ RepB path.length y (En path (fun w => ∃ v, w = [v] ∧ inSet set v = true) S) := by
  induction m with
  | zero =>
    intro j hj z hz
    refine ⟨z, ?_, hz.congr fun p hp' => ?_⟩
    · refine Ev.step (by intro k; rw [r5_ends.l0]) ?_
      exact Ev.ite_neg (by omega) (Ev.now _)
    · rw [En.one_]
      constructor
      · rintro ⟨i, h, _, e, s, q⟩; exact ⟨i, h, e, s, q⟩
      · rintro ⟨i, h, e, s, q⟩; exact ⟨i, h, by omega, e, s, q⟩
  | succ m ih =>
    intro j hj z hz
    have hlt : j < path.length := by omega
    have hbS := hr.2 j (by omega)
    have hrl := hr.1
    have hzl := hz.1
    have skip : (¬ (S j ∧ inSet set path[j] = true)) → RepB path.length z (fun p => ∃ i, ∃ h : i < path.length, i < j + 1 ∧ p = i + 1 ∧ S i ∧ inSet set path[i] = true) := fun hn => hz.congr fun p _ => by
      constructor
      · rintro ⟨i, h, l, e, s, q⟩; exact ⟨i, h, by omega, e, s, q⟩
      · rintro ⟨i, h, l, e, s, q⟩
        by_cases c : i = j
        · subst c; exact absurd ⟨s, q⟩ hn
        · exact ⟨i, h, by omega, e, s, q⟩
    by_cases hs : S j
    · by_cases hq : inSet set path[j] = true
      · obtain ⟨y, hy, hyr⟩ := ih (j + 1) (by omega) (z.set (j + 1) true) ((hz.set (show j + 1 ≤ path.length by omega)).congr fun p _ => by
          constructor
          · rintro (⟨i, h, l, e, s, q⟩ | e)
            · exact ⟨i, h, by omega, e, s, q⟩
            · exact ⟨j, hlt, by omega, e, hs, hq⟩
          · rintro ⟨i, h, l, e, s, q⟩
            by_cases c : i = j
            · subst c; exact Or.inr e
            · exact Or.inl ⟨i, h, by omega, e, s, q⟩)
        refine ⟨y, ?_, hyr⟩
        refine Ev.step (by intro k; rw [r5_ends.l0]) ?_
        refine Ev.ite_pos (by omega) (Ev.ite_pos (by omega) (Ev.ite_pos (by omega) (Ev.ite_pos (by omega) ?_)))
        refine Ev.ite_pos (by rw [rdF]; exact hbS.2 hs) ?_
        rw [rdn path j hlt]
        refine Ev.bind1 _ (rin_ev path[j] set hset) (Ev.ite_pos hq ?_)
        rw [w64s j (by omega)]
        refine Ev.ite_pos (by omega) (Ev.ite_pos (by omega) ?_)
        rw [Int.toNat_natCast]
        exact hy
      · obtain ⟨y, hy, hyr⟩ := ih (j + 1) (by omega) z (skip (fun h => hq h.2))
        refine ⟨y, ?_, hyr⟩
        refine Ev.step (by intro k; rw [r5_ends.l0]) ?_
        refine Ev.ite_pos (by omega) (Ev.ite_pos (by omega) (Ev.ite_pos (by omega) (Ev.ite_pos (by omega) ?_)))
        refine Ev.ite_pos (by rw [rdF]; exact hbS.2 hs) ?_
        rw [rdn path j hlt]
        refine Ev.bind1 _ (rin_ev path[j] set hset) (Ev.ite_neg hq ?_)
        rw [w64s j (by omega)]
        exact hy
    · obtain ⟨y, hy, hyr⟩ := ih (j + 1) (by omega) z (skip (fun h => hs h.1))
      refine ⟨y, ?_, hyr⟩
      refine Ev.step (by intro k; rw [r5_ends.l0]) ?_
      refine Ev.ite_pos (by omega) (Ev.ite_pos (by omega) (Ev.ite_pos (by omega) (Ev.ite_pos (by omega) ?_)))
      refine Ev.ite_neg (by rw [rdF]; exact fun h => hs (hbS.1 h)) ?_
      rw [w64s j (by omega)]
      exact hy
theorem rcat_loop (path : List Int) (subs : List S25) (hl : subs.length * 56 ≤ 140737488351232) (ih : ∀ y ∈ subs, REnds path y) (m : Nat) :
    ∀ (j : Nat), j + m = subs.length → ∀ z (S : Nat → Prop), RepB path.length z S → (∀ i, S i → i ≤ path.length) →
    ∃ y, Ev (fun k => r5_ends.l1 k path z subs (subs.length : Int) (j : Int)) y ∧ RepB path.length y (En path (Lcat (subs.drop j)) S) := by
  induction m with
  | zero =>
    intro j hj z S hz hS
    refine ⟨z, ?_, hz.congr fun p hp' => ?_⟩
    · refine Ev.step (by intro k; rw [r5_ends.l1]) ?_
      exact Ev.ite_neg (by omega) (Ev.now _)
    · rw [List.drop_of_length_le (by omega), Lcat, En.nil_ hS]
  | succ m im =>
    intro j hj z S hz hS
    have hlt : j < subs.length := by omega
    obtain ⟨u, hu, hur⟩ := ih subs[j] (List.getElem_mem hlt) z S hz
    obtain ⟨y, hy, hyr⟩ := im (j + 1) (by omega) u _ hur (fun i h => h.1)
    refine ⟨y, ?_, hyr.congr fun p _ => ?_⟩
    · refine Ev.step (by intro k; rw [r5_ends.l1]) ?_
      refine Ev.ite_pos (by omega) (Ev.ite_pos (by omega) (Ev.ite_pos (by omega) ?_))
      rw [rd25n subs j hlt, w64s j (by omega)]
      exact Ev.bind1 _ hu hy
    · rw [En.then_, dropc subs j hlt, Lcat]
theorem ralt_inner (path r : List Int) (rs : List Bool) (subs : List S25) (i : Int) (hp : path.length ≤ 255) {u : List Bool} {U Z : Nat → Prop} (hu : RepB path.length u U) {Q : List Bool → Prop}
    (next : ∀ z, RepB path.length z (fun p => Z p ∨ U p) → ∃ y, Ev (fun k => r5_ends.l2 k path rs z subs (subs.length : Int) (wrap64 (i + 1))) y ∧ Q y) (m : Nat) :
    ∀ (q : Nat), q + m = path.length + 1 → ∀ z, RepB path.length z (fun p => Z p ∨ (U p ∧ p < q)) →
    ∃ y, Ev (fun k => r5_ends.l3 k path rs z subs (subs.length : Int) i u (u.length : Int) (q : Int)) y ∧ Q y := by
  have hul := hu.1
  induction m with
  | zero =>
    intro q hq z hz
    obtain ⟨y, hy, hQ⟩ := next z (hz.congr fun p hp' => by
      constructor
      · rintro (h | h)
        · exact Or.inl h
        · exact Or.inr h.1
      · rintro (h | h)
        · exact Or.inl h
        · exact Or.inr ⟨h, by omega⟩)
    refine ⟨y, ?_, hQ⟩
    refine Ev.step (by intro k; rw [r5_ends.l3]) ?_
    exact Ev.ite_neg (by omega) hy
  | succ m im =>
    intro q hq z hz
    have hzl := hz.1
    have hzq := hz.2 q (by omega)
    have huq := hu.2 q (by omega)
    have step : ∀ b : Bool, (b = true ↔ ((Z q ∨ (U q ∧ q < q)) ∨ U q)) → RepB path.length (z.set q b) (fun p => Z p ∨ (U p ∧ p < q + 1)) := fun b hb => by
      refine ⟨by rw [List.length_set]; exact hz.1, fun p hp' => ?_⟩
      rw [getD_set z q p b (by omega)]
      by_cases c : q = p
      · subst c
        rw [if_pos rfl, hb]
        constructor
        · rintro ((h | h) | h)
          · exact Or.inl h
          · exact Or.inr ⟨h.1, by omega⟩
          · exact Or.inr ⟨h, by omega⟩
        · rintro (h | h)
          · exact Or.inl (Or.inl h)
          · exact Or.inr h.1
      · rw [if_neg c, hz.2 p hp']
        constructor
        · rintro (h | h)
          · exact Or.inl h
          · exact Or.inr ⟨h.1, by omega⟩
        · rintro (h | h)
          · exact Or.inl h
          · exact Or.inr ⟨h.1, by omega⟩
    by_cases c : z.getD q false = true
    · obtain ⟨y, hy, hQ⟩ := im (q + 1) (by omega) _ (step true ⟨fun _ => Or.inl (hzq.1 c), fun _ => rfl⟩)
      refine ⟨y, ?_, hQ⟩
      refine Ev.step (by intro k; rw [r5_ends.l3]) ?_
      refine Ev.ite_pos (by omega) (Ev.ite_pos (by omega) (Ev.ite_pos (by omega) (Ev.ite_pos (by omega) ?_)))
      refine Ev.ite_pos (by rw [rdF]; exact c) ?_
      rw [w64s q (by omega), Int.toNat_natCast]
      exact hy
    · obtain ⟨y, hy, hQ⟩ := im (q + 1) (by omega) _ (step (u.getD q false) (huq.trans ⟨Or.inr, fun h => h.elim (fun h => absurd (hzq.2 h) c) id⟩))
      refine ⟨y, ?_, hQ⟩
      refine Ev.step (by intro k; rw [r5_ends.l3]) ?_
      refine Ev.ite_pos (by omega) (Ev.ite_pos (by omega) (Ev.ite_pos (by omega) (Ev.ite_pos (by omega) ?_)))
      refine Ev.ite_neg (by rw [rdF]; exact c) ?_
      rw [w64s q (by omega), Int.toNat_natCast, rdF]
      exact hy
theorem ralt_loop (path : List Int) (hp : path.length ≤ 255) (subs : List S25) (hl : subs.length * 56 ≤ 140737488351232) (ih : ∀ y ∈ subs, REnds path y) {r : List Bool} {S : Nat → Prop} (hr : RepB path.length r S) (m : Nat) :
    ∀ (j : Nat), j + m = subs.length → ∀ z (Z : Nat → Prop), RepB path.length z Z →
    ∃ y, Ev (fun k => r5_ends.l2 k path r z subs (subs.length : Int) (j : Int)) y ∧ RepB path.length y (fun p => Z p ∨ En path (Lalt (subs.drop j)) S p) := by
  induction m with
  | zero =>
    intro j hj z Z hz
    refine ⟨z, ?_, hz.congr fun p hp' => ?_⟩
    · refine Ev.step (by intro k; rw [r5_ends.l2]) ?_
      exact Ev.ite_neg (by omega) (Ev.now _)
    · rw [List.drop_of_length_le (by omega), Lalt]
      exact ⟨Or.inl, fun h => h.elim id (fun h => absurd h (En.false_ p))⟩
  | succ m im =>
    intro j hj z Z hz
    have hlt : j < subs.length := by omega
    obtain ⟨u, hu, hur⟩ := ih subs[j] (List.getElem_mem hlt) r S hr
    obtain ⟨y, hy, hyr⟩ := ralt_inner path path r subs (j : Int) hp hur (Z := Z) (Q := fun y => RepB path.length y (fun p => (Z p ∨ En path (Lp subs[j]) S p) ∨ En path (Lalt (subs.drop (j + 1))) S p)) (fun z' hz' => by
      rw [w64s j (by omega)]
      exact im (j + 1) (by omega) z' _ hz') (path.length + 1) 0 (by omega) z (hz.congr fun p _ => by simp)
    refine ⟨y, ?_, hyr.congr fun p _ => ?_⟩
    · refine Ev.step (by intro k; rw [r5_ends.l2]) ?_
      refine Ev.ite_pos (by omega) (Ev.ite_pos (by omega) (Ev.ite_pos (by omega) ?_))
      rw [rd25n subs j hlt]
      exact Ev.bind1 _ hu hy
    · rw [dropc subs j hlt, Lalt, En.or_, or_assoc]
theorem count_set {z : List Bool} {q : Nat} (hq : q < z.length) (h : ¬ z.getD q false = true) : (z.set q true).count false + 1 = z.count false := by
  rw [List.getD_eq_getElem?_getD, List.getElem?_eq_getElem hq] at h
  have h' : z[q] = false := Bool.eq_false_iff.2 h
  have hp : 0 < z.count false := List.count_pos_iff.2 (h' ▸ List.getElem_mem hq)
  rw [List.count_set hq]
  simp [h']
  omega
theorem rstar_loop (path : List Int) (hp : path.length ≤ 255) (a : Int) (set : List S66) (y : S25) (ih : REnds path y) {S : Nat → Prop} (hS : ∀ i, S i → i ≤ path.length) (m : Nat) :
    ∀ (z : List Bool), z.count false = m → ∀ (T : Nat → Prop), RepB path.length z T → (∀ i, S i → T i) → (∀ i, T i → En path (StarOf (Lp y)) S i) →
    ∃ e, Ev (fun k => r5_ends.l4 k path z true a set [y]) e ∧ RepB path.length e (En path (StarOf (Lp y)) S) := by
  induction m using Nat.strongRecOn with
  | ind m im =>
    intro z hm T hz h0 h1
    obtain ⟨u, hu, hur⟩ := ih z T hz
    have hul := hur.1
    have inner : ∀ (m' q : Nat), q + m' = path.length + 1 → ∀ (z' : List Bool) (f : Bool), RepB path.length z' (fun p => T p ∨ (En path (Lp y) T p ∧ p < q)) → (f = true → z'.count false < m) → (f = false → z'.count false = m ∧ ∀ p, p < q → En path (Lp y) T p → T p) →
        ∃ e, Ev (fun k => r5_ends.l5 k path z' f u (u.length : Int) (q : Int) a set [y]) e ∧ RepB path.length e (En path (StarOf (Lp y)) S) := by
      intro m'
      induction m' with
      | zero =>
        intro q hq z' f hz' ht hf
        by_cases c : f = true
        · obtain ⟨e, he, her⟩ := im _ (ht c) z' rfl (fun p => T p ∨ (En path (Lp y) T p ∧ p < q)) hz' (fun i s => Or.inl (h0 i s)) (fun i t => t.elim (h1 i) (fun h => En.more h1 h.1))
          refine ⟨e, ?_, her⟩
          subst c
          refine Ev.step (by intro k; rw [r5_ends.l5]) ?_
          exact Ev.ite_neg (by omega) he
        · have c' : f = false := Bool.eq_false_iff.2 c
          subst c'
          have hcl := (hf rfl).2
          refine ⟨z', ?_, hz'.congr fun p hp' => ?_⟩
          · refine Ev.step (by intro k; rw [r5_ends.l5]) ?_
            refine Ev.ite_neg (by omega) ?_
            refine Ev.step (by intro k; rw [r5_ends.l4]) ?_
            exact Ev.ite_neg (by decide) (Ev.now _)
          · have : T p ↔ En path (StarOf (Lp y)) S p := En.star_ h0 h1 (fun j hj => hcl j (by have := hj.1; omega) hj) p
            rw [← this]
            exact ⟨fun h => h.elim id (fun h => hcl p h.2 h.1), Or.inl⟩
      | succ m' im' =>
        intro q hq z' f hz' ht hf
        have hzl := hz'.1
        have hzq := hz'.2 q (by omega)
        have huq := hur.2 q (by omega)
        have same : (En path (Lp y) T q → T q ∨ (En path (Lp y) T q ∧ q < q)) → RepB path.length z' (fun p => T p ∨ (En path (Lp y) T p ∧ p < q + 1)) := fun hh => hz'.congr fun p _ => by
          constructor
          · rintro (h | h)
            · exact Or.inl h
            · exact Or.inr ⟨h.1, by omega⟩
          · rintro (h | h)
            · exact Or.inl h
            · by_cases c : p = q
              · subst c; exact hh h.1
              · exact Or.inr ⟨h.1, by omega⟩
        have samef : (En path (Lp y) T q → T q ∨ (En path (Lp y) T q ∧ q < q)) → (f = false → z'.count false = m ∧ ∀ p, p < q + 1 → En path (Lp y) T p → T p) := fun hh hf' => ⟨(hf hf').1, fun p hp' h => by
          by_cases c : p = q
          · subst c; exact (hh h).elim id (fun h => absurd h.2 (by omega))
          · exact (hf hf').2 p (by omega) h⟩
        by_cases c : u.getD q false = true
        · by_cases d : z'.getD q false = true
          · have hh : En path (Lp y) T q → T q ∨ (En path (Lp y) T q ∧ q < q) := fun _ => hzq.1 d
            obtain ⟨e, he, her⟩ := im' (q + 1) (by omega) z' f (same hh) ht (samef hh)
            refine ⟨e, ?_, her⟩
            refine Ev.step (by intro k; rw [r5_ends.l5]) ?_
            refine Ev.ite_pos (by omega) (Ev.ite_pos (by omega) (Ev.ite_pos (by omega) ?_))
            refine Ev.ite_pos (by rw [rdF]; exact c) (Ev.ite_pos (by omega) (Ev.ite_pos (by rw [rdF]; exact d) ?_))
            rw [w64s q (by omega)]
            exact he
          · have cs := count_set (by omega : q < z'.length) d
            obtain ⟨e, he, her⟩ := im' (q + 1) (by omega) (z'.set q true) true ((hz'.set (show q ≤ path.length by omega)).congr fun p _ => by
              constructor
              · rintro ((h | h) | h)
                · exact Or.inl h
                · exact Or.inr ⟨h.1, by omega⟩
                · subst h; exact Or.inr ⟨huq.1 c, by omega⟩
              · rintro (h | h)
                · exact Or.inl (Or.inl h)
                · by_cases c' : p = q
                  · exact Or.inr c'
                  · exact Or.inl (Or.inr ⟨h.1, by omega⟩)) (fun _ => by
                by_cases g : f = true
                · have := ht g; omega
                · have := (hf (Bool.eq_false_iff.2 g)).1; omega) (fun h => by cases h)
            refine ⟨e, ?_, her⟩
            refine Ev.step (by intro k; rw [r5_ends.l5]) ?_
            refine Ev.ite_pos (by omega) (Ev.ite_pos (by omega) (Ev.ite_pos (by omega) ?_))
            refine Ev.ite_pos (by rw [rdF]; exact c) (Ev.ite_pos (by omega) (Ev.ite_neg (by rw [rdF]; exact d) ?_))
            rw [w64s q (by omega), Int.toNat_natCast]
            exact he
        · have hh : En path (Lp y) T q → T q ∨ (En path (Lp y) T q ∧ q < q) := fun h => absurd (huq.2 h) c
          obtain ⟨e, he, her⟩ := im' (q + 1) (by omega) z' f (same hh) ht (samef hh)
          refine ⟨e, ?_, her⟩
          refine Ev.step (by intro k; rw [r5_ends.l5]) ?_
          refine Ev.ite_pos (by omega) (Ev.ite_pos (by omega) (Ev.ite_pos (by omega) ?_))
          refine Ev.ite_neg (by rw [rdF]; exact c) ?_
          rw [w64s q (by omega)]
          exact he
    obtain ⟨e, he, her⟩ := inner (path.length + 1) 0 (by omega) z false (hz.congr fun p _ => by simp) (fun h => by cases h) (fun _ => ⟨hm, fun p h => absurd h (by omega)⟩)
    refine ⟨e, ?_, her⟩
    refine Ev.step (by intro k; rw [r5_ends.l4]) ?_
    refine Ev.ite_pos rfl (Ev.ite_pos (by simp) ?_)
    rw [show rd_T25 [y] 0 = y from rfl]
    exact Ev.bind1 _ hu he
theorem rends_ev (path : List Int) (hp : path.length ≤ 255) (x : S25) (hx : ok25 x) (hf : fitsP x = true) : REnds path x := by
  revert hx hf
  refine ind25 (P := fun x => ok25 x → fitsP x = true → REnds path x) ?_ x
  intro x ih hx hf r S0 hr0
  obtain ⟨hl, hs⟩ := ok25_subs hx
  have hset := ok25_set hx
  have hr : RepB path.length r (fun i => S0 i ∧ i ≤ path.length) := hr0.congr fun i hi => ⟨fun h => ⟨h, hi⟩, fun h => h.1⟩
  have hS : ∀ i, (fun i => S0 i ∧ i ≤ path.length) i → i ≤ path.length := fun i h => h.2
  suffices hh : ∃ y, Ev (fun k => r5_ends.f k x.f0 x.f1 x.f2 path r) y ∧ RepB path.length y (En path (Lp x) (fun i => S0 i ∧ i ≤ path.length)) by
    obtain ⟨y, h1, h2⟩ := hh
    exact ⟨y, h1, h2.congr fun j _ => En.congr (fun _ => Iff.rfl) (fun i hi => ⟨fun h => h.1, fun h => ⟨h, hi⟩⟩) j⟩
  generalize (fun i => S0 i ∧ i ≤ path.length) = S at hr hS
  have hrl := hr.1
  have cp : r.take (min r.length (List.replicate r.length false).length) ++ (List.replicate r.length false).drop (min r.length (List.replicate r.length false).length) = r := by
    rw [List.length_replicate, Nat.min_self, List.take_length, List.drop_of_length_le (by simp), List.append_nil]
  have hnone : RepB path.length (List.replicate r.length false) (fun _ => False) := by rw [hrl]; exact RepB.none _
  have go : ∀ (y : List Bool), Ev (fun k => if x.f0 = 1 then r5_ends.l0 k r (List.replicate r.length false) path (path.length : Int) 0 x.f0 x.f1 x.f2 else if x.f0 = 2 then r5_ends.l1 k path r x.f2 (x.f2.length : Int) 0 else if x.f0 = 3 then r5_ends.l2 k path r (List.replicate r.length false) x.f2 (x.f2.length : Int) 0 else if x.f0 = 4 then r5_ends.l4 k path r true x.f0 x.f1 x.f2 else some (List.replicate r.length false)) y → Ev (fun k => r5_ends.f k x.f0 x.f1 x.f2 path r) y := by
    intro y hy
    refine Ev.step (by intro k; rw [r5_ends.f]) ?_
    refine Ev.ite_pos (by omega) ?_
    rw [Int.toNat_natCast]
    refine Ev.ite_pos (by omega) ?_
    refine Ev.some (a := List.replicate r.length false) ?_
    rw [cp]
    exact hy
  rcases fits_cases hf with h | ⟨h, hf⟩
  · obtain ⟨y, hy, hyr⟩ := rone_loop path hp 1 x.f1 hset x.f2 hr path.length 0 (by omega) (List.replicate r.length false) (hnone.congr fun p _ => by simp)
    refine ⟨y, go y ?_, by rw [Lp_one h]; exact hyr⟩
    rw [h]
    exact Ev.ite_pos rfl hy
  · have ih' : ∀ y ∈ x.f2, REnds path y := fun y hy => ih y hy (hs y hy) (hf y hy)
    rcases h with h | h | ⟨h, h1⟩
    · obtain ⟨y, hy, hyr⟩ := rcat_loop path x.f2 hl ih' x.f2.length 0 (by omega) r S hr hS
      refine ⟨y, go y ?_, by rw [Lp_cat h]; exact hyr⟩
      rw [h]
      exact Ev.ite_neg (by decide) (Ev.ite_pos rfl hy)
    · obtain ⟨y, hy, hyr⟩ := ralt_loop path hp x.f2 hl ih' hr x.f2.length 0 (by omega) (List.replicate r.length false) _ hnone
      refine ⟨y, go y ?_, by rw [Lp_alt h]; exact hyr.congr fun p _ => by simp⟩
      rw [h]
      exact Ev.ite_neg (by decide) (Ev.ite_neg (by decide) (Ev.ite_pos rfl hy))
    · obtain ⟨y, hy1⟩ := List.length_eq_one_iff.1 h1
      rw [hy1] at ih'
      obtain ⟨e, he, her⟩ := rstar_loop path hp 4 x.f1 y (ih' y (by simp)) hS _ r rfl S hr (fun _ h => h) (fun i h => En.here hS h)
      refine ⟨e, go e ?_, by rw [Lp_star h, hy1]; exact her.congr fun p _ => by simp only [Lhd]⟩
      rw [h, hy1]
      exact Ev.ite_neg (by decide) (Ev.ite_neg (by decide) (Ev.ite_neg (by decide) (Ev.ite_pos rfl he)))
theorem rtakes_ev (x : S25) (hx : ok25 x) (path : List Int) : ∃ b, Ev (fun k => r5_Takes.f k x.f0 x.f1 x.f2 path) b ∧ Takes x path b := by
  by_cases hr : rightB x = true
  · by_cases hl : path.length ≤ 255
    · have h1 : RepB path.length ((List.replicate (path.length + 1) false).set 0 true) (fun i => i = 0) := ((RepB.none path.length).set (Nat.zero_le _)).congr fun i _ => by simp
      obtain ⟨y, hy, hyr⟩ := rends_ev path hl x hx ((rightB_iff x).1 hr).2.2 _ _ h1
      have hyl := hyr.1
      refine ⟨y.getD path.length false, ?_, (hyr.2 path.length (Nat.le_refl _)).trans ?_⟩
      · unfold r5_Takes.f
        refine Ev.bind1 _ (rright_ev x hx) (Ev.ite_pos hr (Ev.ite_pos (by omega) ?_))
        refine Ev.bind1 (y.getD path.length false) ?_ (Ev.now _)
        unfold r5_Match.f
        rw [w64s path.length (by omega), Int.toNat_natCast]
        refine Ev.ite_pos (by omega) (Ev.ite_pos (by omega) ?_)
        refine Ev.some (a := List.replicate (path.length + 1) false) ?_
        refine Ev.ite_pos (by rw [List.length_replicate]; omega) ?_
        refine Ev.bind1 y hy ?_
        refine Ev.ite_pos (by omega) (Ev.ite_pos (by omega) ?_)
        rw [rdF]
        exact Ev.now _
      · rw [En.whole]
        exact ⟨fun h => ⟨hr, hl, h⟩, fun h => h.2.2⟩
    · refine ⟨false, ?_, by simp [Takes, hl]⟩
      unfold r5_Takes.f
      refine Ev.bind1 _ (rright_ev x hx) (Ev.ite_pos hr ?_)
      exact Ev.ite_neg (by omega) (Ev.now _)
  · refine ⟨false, ?_, by simp [Takes, hr]⟩
    unfold r5_Takes.f
    exact Ev.bind1 _ (rright_ev x hx) (Ev.ite_neg hr (Ev.now _))
end Go.Proofs.Ytlkjfjlmjgkheaa.G
