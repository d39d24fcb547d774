/- Patterns, plainly: their sizes, by the program and by the reference; the examples. -/
import Derived.Test.YtlkjfjlmjgkheaaGx9
import Derived.Test.YtlkjfjlmjgkheaaOk
import Derived.Test.YtlkjfjlmjgkheaaEv
namespace Go.Proofs.Ytlkjfjlmjgkheaa.G
open Go.RowKit Go.Proofs.YtlkjfjlmjgkheaaW.PrintWords Go.Proofs.YtlkjfjlmjgkheaaW.PrintLast Go.Proofs.YtlkjfjlmjgkheaaW.PrintMore Go.Proofs.YtlkjfjlmjgkheaaRd
theorem alive05 : Ev (fun k => l5_alive.f k) true := Ev.of (k := 60) (fun k => l5_alive.mono k) (by kernel_rfl)
theorem rd25n (xs : List S25) (j : Nat) (h : j < xs.length) : rd_T25 xs (j : Int) = xs[j] := by
  simp [rd_T25, List.getD_eq_getElem?_getD, List.getElem?_eq_getElem h]
theorem eta25 (x : S25) : (⟨x.f0, x.f1, x.f2⟩ : S25) = x := by obtain ⟨a, b, c⟩ := x; rfl
theorem ok25_subs {x : S25} (h : ok25 x) : x.f2.length * 56 ≤ 140737488351232 ∧ ∀ y ∈ x.f2, ok25 y := by
  obtain ⟨a, b, c⟩ := x
  rw [ok25] at h
  exact ⟨h.2.2.1, ok25s_mem h.2.2.2⟩
theorem ok25_set {x : S25} (h : ok25 x) : x.f1.length * 8 ≤ 140737488351232 := by
  obtain ⟨a, b, c⟩ := x
  rw [ok25] at h
  exact h.2.1.1
theorem sub_lt {x y : S25} (h : y ∈ x.f2) : SizeOf.sizeOf y < SizeOf.sizeOf x := by
  obtain ⟨a, b, c⟩ := x
  have h1 := List.sizeOf_lt_of_mem h
  have h2 : SizeOf.sizeOf (S25.mk a b c) = 1 + SizeOf.sizeOf a + SizeOf.sizeOf b + SizeOf.sizeOf c := S25.mk.sizeOf_spec a b c
  dsimp only at h1
  omega
theorem ind25 {P : S25 → Prop} (h : ∀ x, (∀ y ∈ x.f2, P y) → P x) : ∀ x, P x := by
  have key : ∀ n x, SizeOf.sizeOf x < n → P x := by
    intro n
    induction n with
    | zero => intro x hx; omega
    | succ n ih => intro x hx; exact h x (fun y hy => ih y (by have := sub_lt hy; omega))
  intro x
  exact key _ x (Nat.lt_succ_self _)
mutual
def partsP : S25 → Nat
  | ⟨_, _, l⟩ => partsL l + 1
def partsL : List S25 → Nat
  | [] => 0
  | x :: xs => partsP x + partsL xs
end
mutual
def deepP : S25 → Nat
  | ⟨_, _, l⟩ => deepL l + 1
def deepL : List S25 → Nat
  | [] => 0
  | x :: xs => max (deepP x) (deepL xs)
end
theorem partsP_eq (x : S25) : partsP x = partsL x.f2 + 1 := by obtain ⟨a, b, c⟩ := x; rw [partsP]
theorem deepP_eq (x : S25) : deepP x = deepL x.f2 + 1 := by obtain ⟨a, b, c⟩ := x; rw [deepP]
theorem deepL_le (l : List S25) (h : ∀ y ∈ l, deepP y ≤ partsP y) : deepL l ≤ partsL l := by
  induction l with
  | nil => simp [deepL]
  | cons x xs ih =>
    have h1 := h x (by simp)
    have h2 := ih (fun y hy => h y (by simp [hy]))
    simp only [deepL, partsL]
    omega
theorem deep_le (x : S25) : deepP x ≤ partsP x := by
  refine ind25 (P := fun x => deepP x ≤ partsP x) ?_ x
  intro x ih
  have := deepL_le x.f2 ih
  rw [partsP_eq, deepP_eq]
  omega
theorem parts_mem {l : List S25} {y : S25} (h : y ∈ l) : partsP y ≤ partsL l := by
  induction l with
  | nil => cases h
  | cons x xs ih =>
    simp only [partsL]
    rcases List.mem_cons.1 h with rfl | h
    · omega
    · have := ih h; omega
theorem rsize_loop (xs : List S25) (hl : xs.length * 56 ≤ 140737488351232) (ih : ∀ y ∈ xs, ∃ d, Ev (fun k => r5_Size.f k y.f0 y.f1 y.f2) (((min (partsP y) 1000000 : Nat) : Int), d) ∧ (partsP y < 1000000 → d = (deepP y : Int))) (m : Nat) :
    ∀ (j : Nat) (a : Nat) (d : Int), j + m = xs.length → 1 ≤ a → a ≤ 1000000 →
    ∃ e, Ev (fun k => r5_Size.l0 k a d xs (xs.length : Int) (j : Int)) (((min (a + partsL (xs.drop j)) 1000000 : Nat) : Int), e) ∧ (∀ D : Nat, d = (D : Int) → D ≤ 1000000 → a + partsL (xs.drop j) < 1000000 → e = ((max D (deepL (xs.drop j)) : Nat) : Int) + 1) := by
  induction m with
  | zero =>
    intro j a d hj ha hb
    refine ⟨wrap64 (d + 1), ?_, ?_⟩
    · refine Ev.step (by intro k; rw [r5_Size.l0]) ?_
      refine Ev.ite_neg (by omega) ?_
      rw [List.drop_of_length_le (by omega)]
      rw [show min (a + partsL []) 1000000 = a by simp [partsL]; omega]
      exact Ev.now _
    · intro D hD hD2 hp
      subst hD
      rw [List.drop_of_length_le (by omega), w64 (by omega) (by omega)]
      simp [deepL]
  | succ m im =>
    intro j a d hj ha hb
    have hlt : j < xs.length := by omega
    obtain ⟨e1, he1, hd1⟩ := ih xs[j] (List.getElem_mem hlt)
    have hp1 : 1 ≤ partsP xs[j] := by rw [partsP_eq]; omega
    have hmn : mn (wrap64 ((a : Int) + ((min (partsP xs[j]) 1000000 : Nat) : Int))) 1000000 = ((min (a + partsP xs[j]) 1000000 : Nat) : Int) := by
      rw [w64 (by omega) (by omega), mn_eq]; omega
    obtain ⟨e, he, hd⟩ := im (j + 1) (min (a + partsP xs[j]) 1000000) (mx d e1) (by omega) (by omega) (by omega)
    refine ⟨e, ?_, ?_⟩
    · refine Ev.step (by intro k; rw [r5_Size.l0]) ?_
      refine Ev.ite_pos (by omega) (Ev.ite_pos (by omega) (Ev.ite_pos (by omega) ?_))
      rw [rd25n xs j hlt]
      refine Ev.bind1 _ he1 ?_
      dsimp only
      rw [hmn, w64s j (by omega)]
      rw [dropc xs j hlt, partsL, show min (a + (partsP xs[j] + partsL (xs.drop (j + 1)))) 1000000 = min (min (a + partsP xs[j]) 1000000 + partsL (xs.drop (j + 1))) 1000000 by omega]
      exact he
    · intro D hD hD2 hp
      rw [dropc xs j hlt, partsL] at hp
      have h1 := hd1 (by omega)
      have h2 := deep_le xs[j]
      have := hd (max D (deepP xs[j])) (by rw [hD, h1, mx_eq]; omega) (by omega) (by omega)
      rw [this, dropc xs j hlt, deepL]
      omega
theorem rsize (x : S25) (hx : ok25 x) : ∃ d, Ev (fun k => r5_Size.f k x.f0 x.f1 x.f2) (((min (partsP x) 1000000 : Nat) : Int), d) ∧ (partsP x < 1000000 → d = (deepP x : Int)) := by
  revert hx
  refine ind25 (P := fun x => ok25 x → ∃ d, Ev (fun k => r5_Size.f k x.f0 x.f1 x.f2) (((min (partsP x) 1000000 : Nat) : Int), d) ∧ (partsP x < 1000000 → d = (deepP x : Int))) ?_ x
  intro x ih hx
  obtain ⟨hl, hs⟩ := ok25_subs hx
  obtain ⟨e, he, hd⟩ := rsize_loop x.f2 hl (fun y hy => ih y hy (hs y hy)) x.f2.length 0 1 0 (by omega) (by omega) (by omega)
  refine ⟨e, ?_, ?_⟩
  · refine Ev.step (by intro k; rw [r5_Size.f]) ?_
    rw [partsP_eq, Nat.add_comm]
    simpa using he
  · intro hp
    rw [partsP_eq] at hp
    have := hd 0 rfl (by omega) (by simpa [Nat.add_comm] using hp)
    rw [this, deepP_eq]
    simp
theorem great_ev (x : S25) (hx : ok25 x) : Ev (fun k => r5_Great.f k x.f0 x.f1 x.f2) (decide (partsP x > 3000)) := by
  obtain ⟨d, h, _⟩ := rsize x hx
  unfold r5_Great.f
  refine Ev.bind1 _ h ?_
  dsimp only
  have : decide (((min (partsP x) 1000000 : Nat) : Int) > 3000) = decide (partsP x > 3000) := by
    by_cases h : partsP x > 3000
    · rw [decide_eq_true h, decide_eq_true (by omega)]
    · rw [decide_eq_false h, decide_eq_false (by omega)]
  rw [this]
  exact Ev.now _
theorem psize_loop (xs : List S25) (hl : xs.length * 56 ≤ 140737488351232) (ih : ∀ y ∈ xs, Ev (fun k => pat_Size.f k y.f0 y.f1 y.f2) ((partsP y : Int), (deepP y : Int))) (m : Nat) :
    ∀ (j a d : Nat), j + m = xs.length → a + partsL (xs.drop j) ≤ 1000000 → d ≤ 1000000 →
    Ev (fun k => pat_Size.l0 k a d xs (xs.length : Int) (j : Int)) (((a + partsL (xs.drop j) : Nat) : Int), ((max d (deepL (xs.drop j)) + 1 : Nat) : Int)) := by
  induction m with
  | zero =>
    intro j a d hj ha hb
    refine Ev.step (by intro k; rw [pat_Size.l0]) ?_
    refine Ev.ite_neg (by omega) ?_
    rw [List.drop_of_length_le (by omega)]
    simp only [partsL, deepL, Nat.add_zero, Nat.max_zero]
    rw [w64s d (by omega)]
    exact Ev.now _
  | succ m im =>
    intro j a d hj ha hb
    have hlt : j < xs.length := by omega
    rw [dropc xs j hlt, partsL] at ha
    have h2 := deep_le xs[j]
    have := im (j + 1) (a + partsP xs[j]) (max d (deepP xs[j])) (by omega) (by omega) (by omega)
    refine Ev.step (by intro k; rw [pat_Size.l0]) ?_
    refine Ev.ite_pos (by omega) (Ev.ite_pos (by omega) (Ev.ite_pos (by omega) ?_))
    rw [rd25n xs j hlt]
    refine Ev.bind1 _ (ih xs[j] (List.getElem_mem hlt)) ?_
    dsimp only
    rw [w64 (by omega) (by omega), mx_eq, w64s j (by omega), dropc xs j hlt, partsL, deepL, show (a : Int) + (partsP xs[j] : Int) = ((a + partsP xs[j] : Nat) : Int) by omega, show max (d : Int) (deepP xs[j] : Int) = ((max d (deepP xs[j]) : Nat) : Int) by omega, ← Nat.add_assoc, ← Nat.max_assoc]
    exact this
theorem psize (x : S25) (hx : ok25 x) (hp : partsP x ≤ 1000000) : Ev (fun k => pat_Size.f k x.f0 x.f1 x.f2) ((partsP x : Int), (deepP x : Int)) := by
  revert hx hp
  refine ind25 (P := fun x => ok25 x → partsP x ≤ 1000000 → Ev (fun k => pat_Size.f k x.f0 x.f1 x.f2) ((partsP x : Int), (deepP x : Int))) ?_ x
  intro x ih hx hp
  obtain ⟨hl, hs⟩ := ok25_subs hx
  rw [partsP_eq] at hp
  have := psize_loop x.f2 hl (fun y hy => ih y hy (hs y hy) (by have := parts_mem hy; omega)) x.f2.length 0 1 0 (by omega) (by rw [List.drop_zero]; omega) (by omega)
  refine Ev.step (by intro k; rw [pat_Size.f]) ?_
  rw [partsP_eq, deepP_eq, Nat.add_comm]
  simpa using this
end Go.Proofs.Ytlkjfjlmjgkheaa.G
