/- Patterns, plainly: a copy is the pattern; the same is the same. -/
import Derived.Test.YtlkjfjlmjgkheaaGx10
import Derived.Test.YtlkjfjlmjgkheaaGx15
import Derived.Test.YtlkjfjlmjgkheaaGx16
import Derived.Test.YtlkjfjlmjgkheaaPa
namespace Go.Proofs.Ytlkjfjlmjgkheaa.G
open Go.RowKit Go.Proofs.YtlkjfjlmjgkheaaW.PrintWords Go.Proofs.YtlkjfjlmjgkheaaW.PrintLast Go.Proofs.YtlkjfjlmjgkheaaW.PrintMore Go.Proofs.YtlkjfjlmjgkheaaRd
theorem take_snoc {α : Type} (xs : List α) (j : Nat) (h : j < xs.length) : xs.take j ++ [xs[j]] = xs.take (j + 1) := by
  rw [List.take_append_getElem h]
theorem copy_loop (a : Int) (set : List S66) (xs : List S25) (hl : xs.length * 56 ≤ 140737488351232) (ih : ∀ y ∈ xs, Ev (fun k => r5_Copy.f k y.f0 y.f1 y.f2) (y.f0, y.f1, y.f2)) (m : Nat) :
    ∀ (j : Nat), j + m = xs.length → Ev (fun k => r5_Copy.l0 k xs (xs.length : Int) (j : Int) a set (xs.take j)) (a, set, xs) := by
  induction m with
  | zero =>
    intro j hj
    refine Ev.step (by intro k; rw [r5_Copy.l0]) ?_
    refine Ev.ite_neg (by omega) ?_
    rw [List.take_of_length_le (by omega)]
    exact Ev.now _
  | succ m im =>
    intro j hj
    have hlt : j < xs.length := by omega
    refine Ev.step (by intro k; rw [r5_Copy.l0]) ?_
    refine Ev.ite_pos (by omega) (Ev.ite_pos (by omega) (Ev.ite_pos (by omega) ?_))
    rw [rd25n xs j hlt, w64s j (by omega)]
    refine Ev.bind1 _ (ih xs[j] (List.getElem_mem hlt)) ?_
    refine Ev.ite_pos (by rw [List.length_take]; omega) ?_
    dsimp only
    rw [eta25, take_snoc xs j hlt]
    exact im (j + 1) (by omega)
theorem copy_ev (x : S25) (hx : ok25 x) : Ev (fun k => r5_Copy.f k x.f0 x.f1 x.f2) (x.f0, x.f1, x.f2) := by
  revert hx
  refine ind25 (P := fun x => ok25 x → Ev (fun k => r5_Copy.f k x.f0 x.f1 x.f2) (x.f0, x.f1, x.f2)) ?_ x
  intro x ih hx
  obtain ⟨hl, hs⟩ := ok25_subs hx
  have hset := ok25_set hx
  refine Ev.step (by intro k; rw [r5_Copy.f]) ?_
  refine Ev.some (a := ([] : List S66)) ?_
  refine Ev.ite_pos (by rw [List.length_nil]; omega) ?_
  rw [List.nil_append]
  exact copy_loop x.f0 x.f1 x.f2 hl (fun y hy => ih y hy (hs y hy)) x.f2.length 0 (by omega)
theorem same66_loop (xs : List S66) (hl : xs.length * 8 ≤ 140737488351232) (m : Nat) : ∀ (j : Nat), j + m = xs.length → Ev (fun k => r1_Same.l0 k xs xs (xs.length : Int) (j : Int)) true := by
  induction m with
  | zero =>
    intro j hj
    refine Ev.step (by intro k; rw [r1_Same.l0]) ?_
    exact Ev.ite_neg (by omega) (Ev.now _)
  | succ m im =>
    intro j hj
    have hlt : j < xs.length := by omega
    refine Ev.step (by intro k; rw [r1_Same.l0]) ?_
    refine Ev.ite_pos (by omega) (Ev.ite_pos (by omega) (Ev.ite_pos (by omega) (Ev.ite_pos (by omega) ?_)))
    refine Ev.ite_neg (by simp) ?_
    rw [w64s j (by omega)]
    exact im (j + 1) (by omega)
theorem same66_ev (xs : List S66) (hl : xs.length * 8 ≤ 140737488351232) : Ev (fun k => r1_Same.f k xs xs) true := by
  unfold r1_Same.f
  exact Ev.ite_pos rfl (same66_loop xs hl xs.length 0 (by omega))
theorem same_loop (a b : Int) (s t : List S66) (xs : List S25) (hl : xs.length * 56 ≤ 140737488351232) (ih : ∀ y ∈ xs, Ev (fun k => r5_Same.f k y.f0 y.f1 y.f2 y.f0 y.f1 y.f2) true) (m : Nat) :
    ∀ (j : Nat), j + m = xs.length → Ev (fun k => r5_Same.l0 k (xs.length : Int) (j : Int) a s xs b t xs) true := by
  induction m with
  | zero =>
    intro j hj
    refine Ev.step (by intro k; rw [r5_Same.l0]) ?_
    exact Ev.ite_neg (by omega) (Ev.now _)
  | succ m im =>
    intro j hj
    have hlt : j < xs.length := by omega
    refine Ev.step (by intro k; rw [r5_Same.l0]) ?_
    refine Ev.ite_pos (by omega) (Ev.ite_pos (by omega) (Ev.ite_pos (by omega) (Ev.ite_pos (by omega) ?_)))
    rw [rd25n xs j hlt, w64s j (by omega)]
    exact Ev.bind1 _ (ih xs[j] (List.getElem_mem hlt)) (Ev.ite_pos rfl (im (j + 1) (by omega)))
theorem same_ev (x : S25) (hx : ok25 x) : Ev (fun k => r5_Same.f k x.f0 x.f1 x.f2 x.f0 x.f1 x.f2) true := by
  revert hx
  refine ind25 (P := fun x => ok25 x → Ev (fun k => r5_Same.f k x.f0 x.f1 x.f2 x.f0 x.f1 x.f2) true) ?_ x
  intro x ih hx
  obtain ⟨hl, hs⟩ := ok25_subs hx
  refine Ev.step (by intro k; rw [r5_Same.f]) ?_
  refine Ev.ite_pos rfl ?_
  refine Ev.bind1 _ (same66_ev x.f1 (ok25_set hx)) (Ev.ite_pos rfl ?_)
  rw [bne_self_eq_false]
  refine Ev.step (by intro k; rw [r5_Same.j0]) ?_
  exact Ev.ite_neg (by decide) (same_loop x.f0 x.f0 x.f1 x.f1 x.f2 hl (fun y hy => ih y hy (hs y hy)) x.f2.length 0 (by omega))
theorem nums_loop (xs : List Int) (hl : xs.length * 4 ≤ 140737488351232) (m : Nat) : ∀ (j : Nat), j + m = xs.length → Ev (fun k => r1_Nums.l0 k xs xs (xs.length : Int) (j : Int)) true := by
  induction m with
  | zero =>
    intro j hj
    refine Ev.step (by intro k; rw [r1_Nums.l0]) ?_
    exact Ev.ite_neg (by omega) (Ev.now _)
  | succ m im =>
    intro j hj
    refine Ev.step (by intro k; rw [r1_Nums.l0]) ?_
    refine Ev.ite_pos (by omega) (Ev.ite_pos (by omega) (Ev.ite_pos (by omega) (Ev.ite_pos (by omega) (Ev.ite_pos rfl ?_))))
    rw [w64s j (by omega)]
    exact im (j + 1) (by omega)
theorem nums_ev (xs : List Int) (hl : xs.length * 4 ≤ 140737488351232) : Ev (fun k => r1_Nums.f k xs xs) true := by
  unfold r1_Nums.f
  exact Ev.ite_pos rfl (nums_loop xs hl xs.length 0 (by omega))
end Go.Proofs.Ytlkjfjlmjgkheaa.G
