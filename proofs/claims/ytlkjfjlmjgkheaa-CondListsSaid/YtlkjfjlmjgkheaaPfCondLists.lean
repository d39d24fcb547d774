/- The pure statement of CondLists, proved: the program's answers on lists are the reference's. -/
import Derived.Test.YtlkjfjlmjgkheaaPuCondLists
import Derived.Test.YtlkjfjlmjgkheaaQHCc
namespace Go.Proofs.Ytlkjfjlmjgkheaa.H
open Go.RowKit Go.Proofs.YtlkjfjlmjgkheaaW.PrintWords Go.Proofs.YtlkjfjlmjgkheaaW.PrintLast Go.Proofs.YtlkjfjlmjgkheaaRd Go.Proofs.Ytlkjfjlmjgkheaa.H
theorem CondLists_pure : CondLists.Pure := by
  intro c r hc hr
  have h2 : c.f2.length * 64 ≤ 140737488351232 ∧ ∀ x ∈ c.f2, ok61 x := hc.2.2.1
  have h3 : c.f3.length * 32 ≤ 140737488351232 ∧ ∀ x ∈ c.f3, ok64 x := hc.2.2.2.1
  have hm : r.f2.length * 4 ≤ 140737488351232 ∧ ∀ x ∈ r.f2, (Lit.int .u32 x).wf = true := hr.2.2.1
  refine Ev.rounds (r := true) ?_
  unfold dragomanlaw11_CondLists.f
  refine Ev.bind1 _ alive11 (Ev.ite_pos rfl ?_)
  obtain ⟨b, e, hb⟩ := great11 c hc
  refine Ev.bind1 _ e ?_
  have done : Ev (fun k => dragomanlaw11_CondLists.j0 k true c.f0 c.f1 c.f2 c.f3 c.f4 c.f5 r.f0.f0 r.f0.f1 r.f1 r.f2 r.f3 r.f4 r.f5 r.f6) true := by
    refine Ev.step (by intro k; rw [dragomanlaw11_CondLists.j0]) ?_
    exact Ev.ite_pos rfl (Ev.now _)
  cases b with
  | true => exact Ev.ite_pos rfl done
  | false =>
    refine Ev.ite_neg (by decide) ?_
    rw [great03]
    refine Ev.some ?_
    generalize (decide ((r.f1.length : Int) > 1000) || decide ((r.f2.length : Int) > 1000)) = q
    cases q with
    | true => exact done
    | false =>
      obtain ⟨g, hg⟩ := takeB_ex r.f1
      have hcm : ∀ c ∈ r.f2, u32 c := fun x hx => u32_of (hm.2 x hx)
      have hbx : ∀ x ∈ c.f3, ∀ b ∈ x.f1, u32 b.f0 ∧ u32 b.f1 := fun x hx b hb => ⟨u32_of (((h3.2 x hx).2.2 b hb).1), u32_of (((h3.2 x hx).2.2 b hb).2)⟩
      refine Ev.step (by intro k; rw [dragomanlaw11_CondLists.j0]) ?_
      refine Ev.ite_neg (by decide) ?_
      refine Ev.bind1 _ (path_ev (g := g) c.f2 (fun x hx => pat_in hg x (h2.2 x hx).2 (Nat.le_trans (hb rfl x hx) (by omega)))) ?_
      refine Ev.bind1 (firstL g (fun x => x.f0) c.f2) (rpath_loop (g := g) c.f2 (by omega) (fun x hx => rpat_in hg x (h2.2 x hx).2) c.f2.length 0 (by omega)) (Ev.ite_pos (by simp) ?_)
      rw [comms_eq hcm hbx]
      refine Ev.some ?_
      refine Ev.bind1 (firstL (hasA r.f2) (fun x => x.f0) c.f3) (rcomms_loop r.f2 hcm (by omega) c.f3 (by omega) (fun x hx => ⟨by have : x.f1.length * 8 ≤ 140737488351232 := (h3.2 x hx).2.1; omega, hbx x hx⟩) c.f3.length 0 (by omega)) ?_
      simp only [beq_self_eq_true]
      exact Ev.now _
end Go.Proofs.Ytlkjfjlmjgkheaa.H
