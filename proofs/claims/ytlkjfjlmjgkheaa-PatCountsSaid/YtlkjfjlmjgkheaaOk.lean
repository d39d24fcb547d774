/- Of what is read: its numbers are of their kinds, its lists and strings within the reach (laid by wip/tools/rowgen.py). -/
import Derived.Test.YtlkjfjlmjgkheaaGx0
import Derived.Test.YtlkjfjlmjgkheaaRd
namespace Go.Proofs.Ytlkjfjlmjgkheaa.G
open Go.RowKit Go.Proofs.YtlkjfjlmjgkheaaW.PrintWords Go.Proofs.YtlkjfjlmjgkheaaW.PrintLast Go.Proofs.YtlkjfjlmjgkheaaRd Go.Proofs.Ytlkjfjlmjgkheaa.G
set_option linter.unusedVariables false
def ok66 (x : S66) : Prop := (fun a : Int => (Lit.int .u32 a).wf = true) x.f0 ∧ (fun a : Int => (Lit.int .u32 a).wf = true) x.f1
mutual
def ok25 : S25 → Prop
  | ⟨f0, f1, f2⟩ => (fun a : Int => (Lit.int .i64 a).wf = true) f0 ∧ (fun xs : List (S66) => xs.length * 8 ≤ 140737488351232 ∧ ∀ x ∈ xs, ok66 x) f1 ∧ (f2.length * 56 ≤ 140737488351232 ∧ ok25s f2)
def ok25s : List S25 → Prop
  | [] => True
  | x :: xs => ok25 x ∧ ok25s xs
end
theorem ok25s_of {xs : List S25} (h : ∀ x ∈ xs, ok25 x) : ok25s xs := by
  induction xs with
  | nil => simp [ok25s]
  | cons x xs ih => rw [ok25s]; exact ⟨h x (by simp), ih (fun y hy => h y (by simp [hy]))⟩
theorem ok25s_mem {xs : List S25} (h : ok25s xs) : ∀ x ∈ xs, ok25 x := by
  induction xs with
  | nil => simp
  | cons x xs ih =>
    rw [ok25s] at h
    intro y hy
    rcases List.mem_cons.1 hy with rfl | hy
    · exact h.1
    · exact ih h.2 y hy
end Go.Proofs.Ytlkjfjlmjgkheaa.G
