/- PatCounts, its pure statement: any number, so many times, takes the paths of so many numbers. -/
import Derived.Test.YtlkjfjlmjgkheaaPe
import Derived.Test.YtlkjfjlmjgkheaaGx8
import Derived.Test.YtlkjfjlmjgkheaaPuPatCounts
namespace Go.Proofs.Ytlkjfjlmjgkheaa.G
open Go.RowKit Go.Proofs.YtlkjfjlmjgkheaaW.PrintWords Go.Proofs.YtlkjfjlmjgkheaaW.PrintLast Go.Proofs.YtlkjfjlmjgkheaaW.PrintMore Go.Proofs.YtlkjfjlmjgkheaaRd
def anyP : S25 := ⟨1, [⟨0, 4294967295⟩], []⟩
def starP : S25 := ⟨4, [], [anyP]⟩
def optP : S25 := ⟨3, [], [anyP, ⟨2, [], []⟩]⟩
theorem ok_any : ok25 anyP := by
  unfold anyP
  rw [ok25]
  refine ⟨by decide, ⟨by simp, fun x hx => ?_⟩, by simp, by rw [ok25s]; trivial⟩
  rw [List.mem_singleton] at hx
  subst hx
  exact ⟨by decide, by decide⟩
theorem ok_nil {a : Int} (ha : (Lit.int .i64 a).wf = true) {l : List S25} (hl : l.length ≤ 1000) (h : ∀ y ∈ l, ok25 y) : ok25 ⟨a, [], l⟩ := by
  rw [ok25]
  exact ⟨ha, ⟨by simp, by simp⟩, by omega, ok25s_of h⟩
theorem ok_star : ok25 starP := ok_nil (by decide) (by simp) (by intro y hy; rw [List.mem_singleton] at hy; subst hy; exact ok_any)
theorem ok_opt : ok25 optP := by
  refine ok_nil (by decide) (by simp) ?_
  intro y hy
  rcases List.mem_cons.1 hy with rfl | hy
  · exact ok_any
  · rw [List.mem_singleton] at hy; subst hy; exact ok_nil (by decide) (by simp) (by simp)
theorem parts_any : partsP anyP = 1 := by unfold anyP; rw [partsP_eq]; rfl
theorem parts_star : partsP starP = 2 := by unfold starP; rw [partsP_eq]; simp only [partsL, parts_any]
theorem parts_opt : partsP optP = 3 := by unfold optP; rw [partsP_eq]; simp only [partsL, parts_any]; rw [partsP_eq]; rfl
theorem deep_any : deepP anyP = 1 := by unfold anyP; rw [deepP_eq]; rfl
theorem deep_star : deepP starP = 2 := by unfold starP; rw [deepP_eq]; simp only [deepL, deep_any]; rfl
theorem deep_opt : deepP optP = 2 := by unfold optP; rw [deepP_eq]; simp only [deepL, deep_any]; rw [deepP_eq]; rfl
theorem fits_any : fitsP anyP = true := by unfold anyP; rw [fitsP_eq]; rfl
theorem fits_star : fitsP starP = true := by
  unfold starP; rw [fitsP_eq, if_neg (by decide), if_pos (by decide)]
  simp [fitsL, fits_any]
theorem fits_opt : fitsP optP = true := by
  unfold optP; rw [fitsP_eq, if_neg (by decide), if_pos (by decide)]
  have : fitsP ⟨2, [], []⟩ = true := by rw [fitsP_eq]; rfl
  simp [fitsL, fits_any, this]
def inR (w : List Int) : Prop := ∀ v ∈ w, 0 ≤ v ∧ v ≤ 4294967295
theorem Lp_any (u : List Int) : Lp anyP u ↔ ∃ v, u = [v] ∧ 0 ≤ v ∧ v ≤ 4294967295 := by
  rw [Lp_one rfl]
  simp [anyP, inSet]
theorem Lp_opt (u : List Int) : Lp optP u ↔ Lp anyP u ∨ u = [] := by
  rw [Lp_alt rfl]
  simp only [optP, Lalt, or_false]
  rw [Lp_cat (x := ⟨2, [], []⟩) rfl]
  simp only [Lcat]
theorem opt_many (c : Nat) : ∀ w, inR w → (Lcat (List.replicate c optP) w ↔ w.length ≤ c) := by
  induction c with
  | zero => intro w _; simp [Lcat]
  | succ c ih =>
    intro w hw
    rw [List.replicate_succ]
    simp only [Lcat]
    constructor
    · rintro ⟨u, v, rfl, hu, hv⟩
      rw [ih v (fun x hx => hw x (by simp [hx]))] at hv
      rw [Lp_opt, Lp_any] at hu
      rcases hu with ⟨x, rfl, _⟩ | rfl
      · simp; omega
      · simp; omega
    · intro h
      cases w with
      | nil => exact ⟨[], [], rfl, (Lp_opt _).2 (Or.inr rfl), (ih [] (by intro x hx; cases hx)).2 (by simp)⟩
      | cons x xs =>
        refine ⟨[x], xs, rfl, (Lp_opt _).2 (Or.inl ((Lp_any _).2 ⟨x, rfl, hw x (by simp)⟩)), (ih xs (fun y hy => hw y (by simp [hy]))).2 ?_⟩
        simp at h; exact h
theorem star_many (w : List Int) (hw : inR w) : StarOf (Lp anyP) w := by
  induction w with
  | nil => exact StarOf.nil
  | cons x xs ih =>
    have := StarOf.cons (P := Lp anyP) (u := [x]) ((Lp_any _).2 ⟨x, rfl, hw x (by simp)⟩) (ih (fun y hy => hw y (by simp [hy])))
    exact this
theorem any_many (a : Nat) (L : List S25) : ∀ w, inR w → (Lcat (List.replicate a anyP ++ L) w ↔ a ≤ w.length ∧ Lcat L (w.drop a)) := by
  induction a with
  | zero => intro w _; simp
  | succ a ih =>
    intro w hw
    rw [List.replicate_succ, List.cons_append]
    simp only [Lcat]
    constructor
    · rintro ⟨u, v, rfl, hu, hv⟩
      rw [ih v (fun x hx => hw x (by simp [hx]))] at hv
      rw [Lp_any] at hu
      obtain ⟨x, rfl, _⟩ := hu
      simp
      exact ⟨hv.1, hv.2⟩
    · rintro ⟨h, h'⟩
      cases w with
      | nil => simp at h
      | cons x xs =>
        refine ⟨[x], xs, rfl, (Lp_any _).2 ⟨x, rfl, hw x (by simp)⟩, (ih xs (fun y hy => hw y (by simp [hy]))).2 ⟨by simp at h; exact h, ?_⟩⟩
        simpa using h'
theorem twin_any : Ev (fun k => pat_twin.f k 1 [⟨0, 4294967295⟩] []) (1, [⟨0, 4294967295⟩], []) := Ev.of (k := 5) (fun k => pat_twin.mono _ _ _ k) (by kernel_rfl)
def cP (l : List S25) : S25 := ⟨2, [], l⟩
theorem rep_snoc {α : Type} (L : List α) (x : α) (j : Nat) : (L ++ List.replicate j x) ++ [x] = L ++ List.replicate (j + 1) x := by
  rw [List.append_assoc, List.replicate_succ']
theorem times_opt (L : List S25) (c : Nat) (hc : c ≤ 40) (hL : L.length ≤ 100) (ok : ok25 (cP (L ++ List.replicate c optP))) (hr : rightB (cP (L ++ List.replicate c optP)) = true) (m : Nat) :
    ∀ (j : Nat), j + m = c → Ev (fun k => pat_Times.l1 k (c : Int) (j : Int) 1 [⟨0, 4294967295⟩] [] 2 (L ++ List.replicate j optP)) ((2 : Int), ([] : List S66), L ++ List.replicate c optP, (0 : Int)) := by
  induction m with
  | zero =>
    intro j hj
    have : j = c := by omega
    subst this
    refine Ev.step (by intro k; rw [pat_Times.l1]) ?_
    refine Ev.ite_neg (by omega) ?_
    have hp := ((rightB_iff _).1 hr).1
    refine Ev.bind1 _ (right_ev (cP (L ++ List.replicate j optP)) ok (by omega)) ?_
    exact Ev.ite_pos hr (Ev.now _)
  | succ m ih =>
    intro j hj
    refine Ev.step (by intro k; rw [pat_Times.l1]) ?_
    refine Ev.ite_pos (by omega) ?_
    refine Ev.bind1 _ twin_any ?_
    refine Ev.ite_pos (by rw [List.length_append, List.length_replicate]; omega) ?_
    have := ih (j + 1) (by omega)
    rw [← rep_snoc] at this
    rw [w64s j (by omega)]
    exact this
theorem times_any (x2 : Int) (a : Nat) (ha : a ≤ 40) {r : Int × List S66 × List S25 × Int}
    (next : Ev (fun k => if x2 < 0 then ((pat_twin.f k 1 [⟨0, 4294967295⟩] []).bind fun bt193 => (if (List.replicate a anyP).length < 2513169434916 then (pat_Times.j3 k (a : Int) x2 1 [⟨0, 4294967295⟩] [] 2 (List.replicate a anyP ++ [(⟨4, ([] : List (S66)), (([(⟨bt193.1, bt193.2.1, bt193.2.2⟩ : S25)] : List (S25)))⟩ : S25)])) else (none))) else (pat_Times.j3 k (a : Int) x2 1 [⟨0, 4294967295⟩] [] 2 (List.replicate a anyP))) r) (m : Nat) :
    ∀ (j : Nat), j + m = a → Ev (fun k => pat_Times.l0 k (a : Int) x2 (a : Int) (j : Int) 1 [⟨0, 4294967295⟩] [] 2 (List.replicate j anyP)) r := by
  induction m with
  | zero =>
    intro j hj
    have : j = a := by omega
    subst this
    refine Ev.step (by intro k; rw [pat_Times.l0]) ?_
    exact Ev.ite_neg (by omega) next
  | succ m ih =>
    intro j hj
    refine Ev.step (by intro k; rw [pat_Times.l0]) ?_
    refine Ev.ite_pos (by omega) ?_
    refine Ev.bind1 _ twin_any ?_
    refine Ev.ite_pos (by rw [List.length_replicate]; omega) ?_
    have := ih (j + 1) (by omega)
    rw [List.replicate_succ'] at this
    rw [w64s j (by omega)]
    exact this
theorem partsL_app (l l' : List S25) : partsL (l ++ l') = partsL l + partsL l' := by
  induction l with
  | nil => simp [partsL]
  | cons x xs ih => simp only [List.cons_append, partsL, ih]; omega
theorem partsL_rep (x : S25) (n : Nat) : partsL (List.replicate n x) = n * partsP x := by
  induction n with
  | zero => simp [partsL]
  | succ n ih => rw [List.replicate_succ, partsL, ih, Nat.succ_mul]; omega
theorem deepL_le2 {l : List S25} {d : Nat} (h : ∀ y ∈ l, deepP y ≤ d) : deepL l ≤ d := by
  induction l with
  | nil => simp [deepL]
  | cons x xs ih =>
    have h1 := h x (by simp)
    have h2 := ih (fun y hy => h y (by simp [hy]))
    simp only [deepL]
    omega
theorem fitsL_of {l : List S25} (h : ∀ y ∈ l, fitsP y = true) : fitsL l = true := by
  rw [fitsL_any]
  have : (l.any fun x => !fitsP x) = false := by
    rw [List.any_eq_false]
    intro y hy
    simp [h y hy]
  rw [this]; rfl
theorem cat_right {l : List S25} (hp : partsL l ≤ 199) (h : ∀ y ∈ l, y = anyP ∨ y = optP ∨ y = starP) : rightB (cP l) = true := by
  rw [rightB_iff]
  refine ⟨?_, ?_, ?_⟩
  · have : partsP (cP l) = partsL l + 1 := partsP_eq _
    omega
  · have e : deepP (cP l) = deepL l + 1 := deepP_eq _
    have := deepL_le2 (l := l) (d := 2) (fun y hy => by
      rcases h y hy with rfl | rfl | rfl
      · rw [deep_any]; omega
      · rw [deep_opt]; omega
      · rw [deep_star]; omega)
    omega
  · unfold cP
    rw [fitsP_eq, if_neg (by decide), if_pos (by decide)]
    have : fitsL l = true := fitsL_of (fun y hy => by
      rcases h y hy with rfl | rfl | rfl
      · exact fits_any
      · exact fits_opt
      · exact fits_star)
    rw [this]; rfl
theorem cat_ok {l : List S25} (hl : l.length ≤ 1000) (h : ∀ y ∈ l, y = anyP ∨ y = optP ∨ y = starP) : ok25 (cP l) :=
  ok_nil (by decide) hl (fun y hy => by
    rcases h y hy with rfl | rfl | rfl
    · exact ok_any
    · exact ok_opt
    · exact ok_star)
theorem times_ev (a : Nat) (ha : a < 40) (b : Nat) (hb : b < 40) (hab : a ≤ b) : Ev (fun k => pat_Times.f k 1 [⟨0, 4294967295⟩] [] (a : Int) (b : Int)) ((2 : Int), ([] : List S66), List.replicate a anyP ++ List.replicate (b - a) optP, (0 : Int)) := by
  have hmem : ∀ y ∈ List.replicate a anyP ++ List.replicate (b - a) optP, y = anyP ∨ y = optP ∨ y = starP := fun y hy => by
    rcases List.mem_append.1 hy with hy | hy
    · exact Or.inl (List.eq_of_mem_replicate hy)
    · exact Or.inr (Or.inl (List.eq_of_mem_replicate hy))
  have hparts : partsL (List.replicate a anyP ++ List.replicate (b - a) optP) ≤ 199 := by
    rw [partsL_app, partsL_rep, partsL_rep, parts_any, parts_opt]; omega
  have hlen : (List.replicate a anyP ++ List.replicate (b - a) optP).length ≤ 1000 := by
    rw [List.length_append, List.length_replicate, List.length_replicate]; omega
  have l1 := times_opt (List.replicate a anyP) (b - a) (by omega) (by rw [List.length_replicate]; omega) (cat_ok hlen hmem) (cat_right hparts hmem) (b - a) 0 (by omega)
  unfold pat_Times.f
  refine Ev.ite_neg (by omega) ?_
  refine Ev.bind1 _ (right_ev anyP ok_any (by rw [parts_any]; omega)) ?_
  refine Ev.ite_pos ((rightB_iff _).2 ⟨by rw [parts_any]; omega, by rw [deep_any]; omega, fits_any⟩) (Ev.ite_pos (by omega) ?_)
  rw [decide_eq_false (by omega)]
  refine Ev.step (by intro k; rw [pat_Times.j0]) ?_
  refine Ev.ite_neg (by decide) (Ev.ite_neg (by omega) (Ev.ite_pos (by omega) (Ev.ite_neg (by rw [w64 (by omega) (by omega)]; omega) ?_)))
  refine Ev.step (by intro k; rw [pat_Times.j1]) ?_
  refine times_any (b : Int) a (by omega) ?_ a 0 (by omega)
  refine Ev.ite_neg (by omega) ?_
  refine Ev.step (by intro k; rw [pat_Times.j3]) ?_
  have e : mx 0 (wrap64 (mx (b : Int) (a : Int) - (a : Int))) = ((b - a : Nat) : Int) := by
    rw [mx_eq, mx_eq, w64 (by omega) (by omega)]; omega
  rw [e]
  have l2 := l1
  rw [List.replicate_zero, List.append_nil] at l2
  exact l2
theorem times_star (a : Nat) (ha : a < 40) : Ev (fun k => pat_Times.f k 1 [⟨0, 4294967295⟩] [] (a : Int) (-1)) ((2 : Int), ([] : List S66), List.replicate a anyP ++ [starP], (0 : Int)) := by
  have hmem : ∀ y ∈ (List.replicate a anyP ++ [starP]) ++ List.replicate 0 optP, y = anyP ∨ y = optP ∨ y = starP := fun y hy => by
    rw [List.replicate_zero, List.append_nil] at hy
    rcases List.mem_append.1 hy with hy | hy
    · exact Or.inl (List.eq_of_mem_replicate hy)
    · exact Or.inr (Or.inr (List.mem_singleton.1 hy))
  have hparts : partsL ((List.replicate a anyP ++ [starP]) ++ List.replicate 0 optP) ≤ 199 := by
    rw [List.replicate_zero, List.append_nil, partsL_app, partsL_rep, parts_any]
    simp only [partsL, parts_star]; omega
  have hlen : ((List.replicate a anyP ++ [starP]) ++ List.replicate 0 optP).length ≤ 1000 := by
    simp; omega
  have l1 := times_opt (List.replicate a anyP ++ [starP]) 0 (by omega) (by simp; omega) (cat_ok hlen hmem) (cat_right hparts hmem) 0 0 (by omega)
  rw [List.replicate_zero, List.append_nil] at l1
  unfold pat_Times.f
  refine Ev.ite_neg (by omega) ?_
  refine Ev.bind1 _ (right_ev anyP ok_any (by rw [parts_any]; omega)) ?_
  refine Ev.ite_pos ((rightB_iff _).2 ⟨by rw [parts_any]; omega, by rw [deep_any]; omega, fits_any⟩) (Ev.ite_neg (by decide) ?_)
  refine Ev.step (by intro k; rw [pat_Times.j0]) ?_
  refine Ev.ite_neg (by decide) (Ev.ite_neg (by omega) (Ev.ite_neg (by decide) ?_))
  refine Ev.step (by intro k; rw [pat_Times.j1]) ?_
  refine times_any (-1) a (by omega) ?_ a 0 (by omega)
  refine Ev.ite_pos (by decide) ?_
  refine Ev.bind1 _ twin_any ?_
  refine Ev.ite_pos (by rw [List.length_replicate]; omega) ?_
  refine Ev.step (by intro k; rw [pat_Times.j3]) ?_
  have e : mx 0 (wrap64 (mx (-1) (a : Int) - (a : Int))) = ((0 : Nat) : Int) := by
    rw [mx_eq, mx_eq, w64 (by omega) (by omega)]; omega
  rw [e]
  exact l1
theorem times_less (a b : Nat) (hb : b < a) : Ev (fun k => pat_Times.f k 1 [⟨0, 4294967295⟩] [] (a : Int) (b : Int)) ((0 : Int), ([] : List S66), ([] : List S25), (2 : Int)) := by
  unfold pat_Times.f
  refine Ev.ite_neg (by omega) ?_
  refine Ev.bind1 _ (right_ev anyP ok_any (by rw [parts_any]; omega)) ?_
  refine Ev.ite_pos ((rightB_iff _).2 ⟨by rw [parts_any]; omega, by rw [deep_any]; omega, fits_any⟩) (Ev.ite_pos (by omega) ?_)
  rw [decide_eq_true (by omega)]
  refine Ev.step (by intro k; rw [pat_Times.j0]) ?_
  exact Ev.ite_pos rfl (Ev.now _)
theorem counts_end (a : Nat) (ha : a < 40) (b : Nat) (hb : b < 40) (w : List Int) (hw : inR w) (hl : w.length < 60) (x9 : Int) (h9 : ¬ x9 < (w.length : Int)) : Ev (fun k => dragomanlaw05_PatCounts.l0 k (a : Int) (b : Int) w (w.length : Int) x9) true := by
  refine Ev.step (by intro k; rw [dragomanlaw05_PatCounts.l0]) ?_
  refine Ev.ite_neg h9 ?_
  refine Ev.some (a := ((1 : Int), [(⟨0, 4294967295⟩ : S66)], ([] : List S25))) ?_
  by_cases hab : a ≤ b
  · have hmem : ∀ y ∈ List.replicate a anyP ++ List.replicate (b - a) optP, y = anyP ∨ y = optP ∨ y = starP := fun y hy => by
      rcases List.mem_append.1 hy with hy | hy
      · exact Or.inl (List.eq_of_mem_replicate hy)
      · exact Or.inr (Or.inl (List.eq_of_mem_replicate hy))
    have hmem' : ∀ y ∈ List.replicate a anyP ++ [starP], y = anyP ∨ y = optP ∨ y = starP := fun y hy => by
      rcases List.mem_append.1 hy with hy | hy
      · exact Or.inl (List.eq_of_mem_replicate hy)
      · exact Or.inr (Or.inr (List.mem_singleton.1 hy))
    have hparts : partsL (List.replicate a anyP ++ List.replicate (b - a) optP) ≤ 199 := by
      rw [partsL_app, partsL_rep, partsL_rep, parts_any, parts_opt]; omega
    have hparts' : partsL (List.replicate a anyP ++ [starP]) ≤ 199 := by
      rw [partsL_app, partsL_rep, parts_any]; simp only [partsL, parts_star]; omega
    have e1 : partsP (cP (List.replicate a anyP ++ List.replicate (b - a) optP)) = _ + 1 := partsP_eq _
    have e2 : partsP (cP (List.replicate a anyP ++ [starP])) = _ + 1 := partsP_eq _
    have r1 := cat_right hparts hmem
    have r2 := cat_right hparts' hmem'
    obtain ⟨b1, m1, t1⟩ := match_ev (cP (List.replicate a anyP ++ List.replicate (b - a) optP)) (cat_ok (by simp; omega) hmem) (by rw [e1]; simp only [cP]; omega) w
    obtain ⟨b2, m2, t2⟩ := match_ev (cP (List.replicate a anyP ++ [starP])) (cat_ok (by simp; omega) hmem') (by rw [e2]; simp only [cP]; omega) w
    have q1 : b1 = true ↔ a ≤ w.length ∧ w.length ≤ b := by
      rw [show b1 = true ↔ _ from t1, Lp_cat rfl]
      simp only [cP]
      rw [any_many a _ w hw, opt_many _ _ (fun v hv => hw v (List.mem_of_mem_drop hv)), List.length_drop]
      constructor
      · rintro ⟨_, _, h1, h2⟩; omega
      · rintro ⟨h1, h2⟩; exact ⟨r1, by omega, h1, by omega⟩
    have q2 : b2 = true ↔ a ≤ w.length := by
      rw [show b2 = true ↔ _ from t2, Lp_cat rfl]
      simp only [cP]
      rw [any_many a _ w hw]
      constructor
      · rintro ⟨_, _, h1, _⟩; exact h1
      · intro h1
        refine ⟨r2, by omega, h1, ?_⟩
        simp only [Lcat]
        refine ⟨w.drop a, [], (List.append_nil _).symm, ?_, rfl⟩
        rw [Lp_star rfl]
        simp only [starP, Lhd]
        exact star_many _ (fun v hv => hw v (List.mem_of_mem_drop hv))
    refine Ev.bind1 _ (times_ev a ha b hb hab) ?_
    refine Ev.ite_neg (by omega) ?_
    refine Ev.some (a := ((1 : Int), [(⟨0, 4294967295⟩ : S66)], ([] : List S25))) ?_
    refine Ev.bind1 _ (times_star a ha) ?_
    refine Ev.ite_pos rfl (Ev.ite_pos rfl ?_)
    refine Ev.bind1 _ m1 ?_
    by_cases h1 : (w.length : Int) ≥ (a : Int)
    · refine Ev.ite_pos h1 ?_
      have e3 : (b1 == decide ((w.length : Int) ≤ (b : Int))) = true := by
        rw [beq_iff_eq, Bool.eq_iff_iff, q1, decide_eq_true_eq]; omega
      refine Ev.ite_pos e3 ?_
      refine Ev.bind1 _ m2 ?_
      have e4 : (b2 == decide ((w.length : Int) ≥ (a : Int))) = true := by
        rw [beq_iff_eq, Bool.eq_iff_iff, q2, decide_eq_true_eq]; omega
      rw [e4]
      exact Ev.now _
    · refine Ev.ite_neg h1 ?_
      have e3 : (b1 == false) = true := by
        rw [beq_iff_eq, Bool.eq_false_iff]
        intro h; rw [q1] at h; omega
      refine Ev.ite_pos e3 ?_
      refine Ev.bind1 _ m2 ?_
      have e4 : (b2 == decide ((w.length : Int) ≥ (a : Int))) = true := by
        rw [beq_iff_eq, Bool.eq_iff_iff, q2, decide_eq_true_eq]; omega
      rw [e4]
      exact Ev.now _
  · refine Ev.bind1 _ (times_less a b (by omega)) ?_
    exact Ev.ite_pos (by omega) (Ev.now _)
theorem counts_loop (a : Nat) (ha : a < 40) (b : Nat) (hb : b < 40) (n : Nat) (hn : n < 60) (m : Nat) : ∀ (j : Nat), j + m = n → ∀ w : List Int, w.length = n → inR w → Ev (fun k => dragomanlaw05_PatCounts.l0 k (a : Int) (b : Int) w (n : Int) (j : Int)) true := by
  induction m with
  | zero =>
    intro j hj w hl hw
    have := counts_end a ha b hb w hw (by omega) (j : Int) (by omega)
    rw [hl] at this
    exact this
  | succ m ih =>
    intro j hj w hl hw
    refine Ev.step (by intro k; rw [dragomanlaw05_PatCounts.l0]) ?_
    refine Ev.ite_pos (by omega) (Ev.ite_pos (by omega) (Ev.ite_pos (by omega) ?_))
    rw [w64s j (by omega)]
    refine ih (j + 1) (by omega) _ (by rw [List.length_set]; exact hl) ?_
    intro v hv
    rcases List.mem_or_eq_of_mem_set hv with hv | rfl
    · exact hw v hv
    · omega
theorem u8_mod (a : Int) (h : (Lit.int .u8 a).wf = true) (n : Int) (hn : 0 < n) (hn' : n ≤ 60) : ∃ k : Nat, wrap64 (Int.tmod a n) = (k : Int) ∧ (k : Int) < n := by
  have h0 : 0 ≤ a := by
    simp only [Lit.wf, Bool.and_eq_true, decide_eq_true_eq] at h
    exact h.1
  have h1 : 0 ≤ Int.tmod a n := Int.tmod_nonneg n h0
  have h2 : Int.tmod a n < n := Int.tmod_lt_of_pos a hn
  refine ⟨(Int.tmod a n).toNat, ?_, ?_⟩
  · rw [w64 (by omega) (by omega)]; omega
  · omega
theorem PatCounts_pure : PatCounts.Pure := by
  intro x y z hx hy hz
  refine Ev.rounds (r := true) ?_
  unfold dragomanlaw05_PatCounts.f
  refine Ev.bind1 _ alive05 (Ev.ite_pos rfl ?_)
  obtain ⟨a, ea, la⟩ := u8_mod x hx 40 (by omega) (by omega)
  obtain ⟨b, eb, lb⟩ := u8_mod y hy 40 (by omega) (by omega)
  obtain ⟨n, en, ln⟩ := u8_mod z hz 60 (by omega) (by omega)
  rw [ea, eb, en, Int.toNat_natCast]
  refine Ev.ite_pos (by omega) (Ev.ite_pos (by omega) ?_)
  refine Ev.some (a := List.replicate n (0 : Int)) ?_
  rw [List.length_replicate]
  refine counts_loop a (by omega) b (by omega) n (by omega) n 0 (by omega) _ (by rw [List.length_replicate]) ?_
  intro v hv
  rw [List.eq_of_mem_replicate hv]
  omega
end Go.Proofs.Ytlkjfjlmjgkheaa.G
