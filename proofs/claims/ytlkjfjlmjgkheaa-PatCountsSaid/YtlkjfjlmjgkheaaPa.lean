/- Patterns, plainly: their sizes, by the program and by the reference; the examples. -/
import Derived.Test.YtlkjfjlmjgkheaaGx9
import Derived.Test.YtlkjfjlmjgkheaaOk
import Derived.Test.YtlkjfjlmjgkheaaEv
namespace Go.Proofs.Ytlkjfjlmjgkheaa.G
open Go.RowKit Go.Proofs.YtlkjfjlmjgkheaaW.PrintWords Go.Proofs.YtlkjfjlmjgkheaaW.PrintLast Go.Proofs.YtlkjfjlmjgkheaaW.PrintMore Go.Proofs.YtlkjfjlmjgkheaaRd
theorem alive05 : Ev (fun k => dragomanlaw05_alive.f k) true := Ev.of (k := 60) (fun k => dragomanlaw05_alive.mono k) (by kernel_rfl)
theorem rd25n (xs : List S25) (j : Nat) (h : j < xs.length) : rd_T25 xs (j : Int) = xs[j] := by
  simp [rd_T25, List.getD_eq_getElem?_getD, List.getElem?_eq_getElem h]
theorem eta25 (x : S25) : (⟨x.f0, x.f1, x.f2⟩ : S25) = x := by obtain ⟨a, b, c⟩ := x; rfl
theorem ok25_subs {x : S25} (h : ok25 x) : x.f2.length * 56 ≤ 140737488351232 ∧ ∀ y ∈ x.f2, ok25 y := by
  obtain ⟨a, b, c⟩ := x
  rw [ok25] at h
  exact ⟨h.2.2.1, ok25s_mem h.2.2.2⟩
theorem sub_lt {x y : S25} (h : y ∈ x.f2) : SizeOf.sizeOf y < SizeOf.sizeOf x := by
  obtain ⟨a, b, c⟩ := x
  have h1 := List.sizeOf_lt_of_mem h
  have h2 : SizeOf.sizeOf (S25.mk a b c) = 1 + SizeOf.sizeOf a + SizeOf.sizeOf b + SizeOf.sizeOf c := S25.mk.sizeOf_spec a b c
  dsimp only at h1
  omega
theorem ind25 {P : S25 → Prop} (h : ∀ x, (∀ y ∈ x.f2, P y) → P x) : ∀ x, P x := by
  have key : ∀ n x, SizeOf.sizeOf x < n → P x := by
    intro n
    induction n with
    | zero => intro x hx; omega
    | succ n ih => intro x hx; exact h x (fun y hy => ih y (by have := sub_lt hy; omega))
  intro x
  exact key _ x (Nat.lt_succ_self _)
mutual
def partsP : S25 → Nat
  | ⟨_, _, l⟩ => partsL l + 1
def partsL : List S25 → Nat
  | [] => 0
  | x :: xs => partsP x + partsL xs
end
mutual
def deepP : S25 → Nat
  | ⟨_, _, l⟩ => deepL l + 1
def deepL : List S25 → Nat
  | [] => 0
  | x :: xs => max (deepP x) (deepL xs)
end
theorem partsP_eq (x : S25) : partsP x = partsL x.f2 + 1 := by obtain ⟨a, b, c⟩ := x; rw [partsP]
theorem deepP_eq (x : S25) : deepP x = deepL x.f2 + 1 := by obtain ⟨a, b, c⟩ := x; rw [deepP]
theorem deepL_le (l : List S25) (h : ∀ y ∈ l, deepP y ≤ partsP y) : deepL l ≤ partsL l := by
  induction l with
  | nil => simp [deepL]
  | cons x xs ih =>
    have h1 := h x (by simp)
    have h2 := ih (fun y hy => h y (by simp [hy]))
    simp only [deepL, partsL]
    omega
theorem deep_le (x : S25) : deepP x ≤ partsP x := by
  refine ind25 (P := fun x => deepP x ≤ partsP x) ?_ x
  intro x ih
  have := deepL_le x.f2 ih
  rw [partsP_eq, deepP_eq]
  omega
theorem parts_mem {l : List S25} {y : S25} (h : y ∈ l) : partsP y ≤ partsL l := by
  induction l with
  | nil => cases h
  | cons x xs ih =>
    simp only [partsL]
    rcases List.mem_cons.1 h with rfl | h
    · omega
    · have := ih h; omega
theorem psize_loop (xs : List S25) (hl : xs.length * 56 ≤ 140737488351232) (ih : ∀ y ∈ xs, Ev (fun k => pat_Size.f k y.f0 y.f1 y.f2) ((partsP y : Int), (deepP y : Int))) (m : Nat) :
    ∀ (j a d : Nat), j + m = xs.length → a + partsL (xs.drop j) ≤ 1000000 → d ≤ 1000000 →
    Ev (fun k => pat_Size.l0 k a d xs (xs.length : Int) (j : Int)) (((a + partsL (xs.drop j) : Nat) : Int), ((max d (deepL (xs.drop j)) + 1 : Nat) : Int)) := by
  induction m with
  | zero =>
    intro j a d hj ha hb
    refine Ev.step (by intro k; rw [pat_Size.l0]) ?_
    refine Ev.ite_neg (by omega) ?_
    rw [List.drop_of_length_le (by omega)]
    simp only [partsL, deepL, Nat.add_zero, Nat.max_zero]
    rw [w64s d (by omega)]
    exact Ev.now _
  | succ m im =>
    intro j a d hj ha hb
    have hlt : j < xs.length := by omega
    rw [dropc xs j hlt, partsL] at ha
    have h2 := deep_le xs[j]
    have := im (j + 1) (a + partsP xs[j]) (max d (deepP xs[j])) (by omega) (by omega) (by omega)
    refine Ev.step (by intro k; rw [pat_Size.l0]) ?_
    refine Ev.ite_pos (by omega) (Ev.ite_pos (by omega) (Ev.ite_pos (by omega) ?_))
    rw [rd25n xs j hlt]
    refine Ev.bind1 _ (ih xs[j] (List.getElem_mem hlt)) ?_
    dsimp only
    rw [w64 (by omega) (by omega), mx_eq, w64s j (by omega), dropc xs j hlt, partsL, deepL, show (a : Int) + (partsP xs[j] : Int) = ((a + partsP xs[j] : Nat) : Int) by omega, show max (d : Int) (deepP xs[j] : Int) = ((max d (deepP xs[j]) : Nat) : Int) by omega, ← Nat.add_assoc, ← Nat.max_assoc]
    exact this
theorem psize (x : S25) (hx : ok25 x) (hp : partsP x ≤ 1000000) : Ev (fun k => pat_Size.f k x.f0 x.f1 x.f2) ((partsP x : Int), (deepP x : Int)) := by
  revert hx hp
  refine ind25 (P := fun x => ok25 x → partsP x ≤ 1000000 → Ev (fun k => pat_Size.f k x.f0 x.f1 x.f2) ((partsP x : Int), (deepP x : Int))) ?_ x
  intro x ih hx hp
  obtain ⟨hl, hs⟩ := ok25_subs hx
  rw [partsP_eq] at hp
  have := psize_loop x.f2 hl (fun y hy => ih y hy (hs y hy) (by have := parts_mem hy; omega)) x.f2.length 0 1 0 (by omega) (by rw [List.drop_zero]; omega) (by omega)
  refine Ev.step (by intro k; rw [pat_Size.f]) ?_
  rw [partsP_eq, deepP_eq, Nat.add_comm]
  simpa using this
end Go.Proofs.Ytlkjfjlmjgkheaa.G
