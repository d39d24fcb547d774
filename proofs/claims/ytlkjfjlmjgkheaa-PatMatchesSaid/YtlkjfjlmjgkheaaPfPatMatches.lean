/- PatMatches, its pure statement: the program and the reference both answer by what a pattern takes. -/
import Derived.Test.YtlkjfjlmjgkheaaPh
import Derived.Test.YtlkjfjlmjgkheaaPi
import Derived.Test.YtlkjfjlmjgkheaaPuPatMatches
namespace Go.Proofs.Ytlkjfjlmjgkheaa.G
open Go.RowKit Go.Proofs.YtlkjfjlmjgkheaaW.PrintWords Go.Proofs.YtlkjfjlmjgkheaaW.PrintLast Go.Proofs.YtlkjfjlmjgkheaaW.PrintMore Go.Proofs.YtlkjfjlmjgkheaaRd
theorem PatMatches_pure : PatMatches.Pure := by
  intro p w hp hw
  have hwl : w.length * 4 ≤ 140737488351232 := hw.1
  refine Ev.rounds (r := true) ?_
  unfold l5_PatMatches.f
  refine Ev.bind1 _ alive05 (Ev.ite_pos rfl ?_)
  refine Ev.bind1 _ (great_ev p hp) ?_
  have done : Ev (fun k => l5_PatMatches.j0 k w true p.f0 p.f1 p.f2) true := by
    refine Ev.step (by intro k; rw [l5_PatMatches.j0]) ?_
    exact Ev.ite_pos rfl (Ev.now _)
  by_cases g : partsP p > 3000
  · rw [decide_eq_true g]
    exact Ev.ite_pos rfl done
  · rw [decide_eq_false g]
    refine Ev.ite_neg (by decide) ?_
    by_cases l : (w.length : Int) > 300
    · rw [decide_eq_true l]
      exact done
    · rw [decide_eq_false l]
      obtain ⟨b1, e1, t1⟩ := match_ev p hp (by omega) w
      obtain ⟨b2, e2, t2⟩ := rtakes_ev p hp w
      obtain ⟨b3, e3, t3⟩ := empty_ev p hp (by omega)
      obtain ⟨b4, e4, t4⟩ := rtakes_ev p hp []
      refine Ev.step (by intro k; rw [l5_PatMatches.j0]) ?_
      refine Ev.ite_neg (by decide) ?_
      refine Ev.bind1 _ (copy_ev p hp) ?_
      dsimp only
      refine Ev.some (a := ([] : List Int)) ?_
      refine Ev.ite_pos (by rw [List.length_nil]; omega) ?_
      refine Ev.some (a := w) ?_
      refine Ev.bind1 _ (right_ev p hp (by omega)) ?_
      refine Ev.bind1 _ (rright_ev p hp) (Ev.ite_pos (by simp) ?_)
      refine Ev.bind1 _ e1 (Ev.bind1 _ e2 (Ev.ite_pos (by rw [takes_eq t1 t2]; simp) ?_))
      refine Ev.bind1 _ e3 (Ev.bind1 _ e4 (Ev.ite_pos (by rw [takes_eq t3 t4]; simp) ?_))
      refine Ev.bind1 _ (same_ev p hp) (Ev.ite_pos rfl ?_)
      exact Ev.bind1 _ (nums_ev w hwl) (Ev.now _)
end Go.Proofs.Ytlkjfjlmjgkheaa.G
