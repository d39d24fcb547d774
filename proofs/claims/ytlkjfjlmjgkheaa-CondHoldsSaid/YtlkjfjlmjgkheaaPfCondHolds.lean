/- The pure statement of CondHolds, proved: whether any condition is right, and holds of any route, is the document's answer; both stay. -/
import Derived.Test.YtlkjfjlmjgkheaaPuCondHolds
import Derived.Test.YtlkjfjlmjgkheaaQHCh
namespace Go.Proofs.Ytlkjfjlmjgkheaa.H
open Go.RowKit Go.Proofs.YtlkjfjlmjgkheaaW.PrintWords Go.Proofs.YtlkjfjlmjgkheaaW.PrintLast Go.Proofs.YtlkjfjlmjgkheaaRd Go.Proofs.Ytlkjfjlmjgkheaa.H
theorem CondHolds_pure : CondHolds.Pure := by
  intro c r hc hr
  have h1 : c.f1.length * 40 ≤ 140737488351232 ∧ ∀ x ∈ c.f1, ok83 x := hc.2.1
  have h2 : c.f2.length * 64 ≤ 140737488351232 ∧ ∀ x ∈ c.f2, ok61 x := hc.2.2.1
  have h3 : c.f3.length * 32 ≤ 140737488351232 ∧ ∀ x ∈ c.f3, ok64 x := hc.2.2.2.1
  have h4 : u32 c.f4 := u32_of hc.2.2.2.2.1
  have h5 : u32 c.f5 := u32_of hc.2.2.2.2.2
  have hp : u32 r.f0.f0 := u32_of hr.1.1
  have hw : r.f1.length * 4 ≤ 140737488351232 := hr.2.1.1
  have hm : r.f2.length * 4 ≤ 140737488351232 ∧ ∀ x ∈ r.f2, (Lit.int .u32 x).wf = true := hr.2.2.1
  have h7 : u32 r.f6 := u32_of hr.2.2.2.2.2.2
  refine Ev.rounds (r := true) ?_
  unfold dragomanlaw11_CondHolds.f
  refine Ev.bind1 _ alive11 (Ev.ite_pos rfl ?_)
  obtain ⟨b, e, hb⟩ := great11 c hc
  refine Ev.bind1 _ e ?_
  have done : Ev (fun k => dragomanlaw11_CondHolds.j0 k true c.f0 c.f1 c.f2 c.f3 c.f4 c.f5 r.f0.f0 r.f0.f1 r.f1 r.f2 r.f3 r.f4 r.f5 r.f6) true := by
    refine Ev.step (by intro k; rw [dragomanlaw11_CondHolds.j0]) ?_
    exact Ev.ite_pos rfl (Ev.now _)
  cases b with
  | true => exact Ev.ite_pos rfl done
  | false =>
    refine Ev.ite_neg (by decide) ?_
    rw [great03]
    refine Ev.some ?_
    generalize (decide ((r.f1.length : Int) > 1000) || decide ((r.f2.length : Int) > 1000)) = q
    cases q with
    | true => exact done
    | false =>
      have hcm : ∀ c ∈ r.f2, u32 c := fun x hx => u32_of (hm.2 x hx)
      have hx1 : ∀ x ∈ c.f1, u32 x.f1.f0.f0 := fun x hx => u32_of (h1.2 x hx).2.1.1
      have hx2 : ∀ x ∈ c.f2, ok25 x.f1 ∧ partsP x.f1 ≤ 1000000 := fun x hx => ⟨(h2.2 x hx).2, Nat.le_trans (hb rfl x hx) (by omega)⟩
      have hx3 : ∀ x ∈ c.f3, x.f1.length ≤ 140737488355328 ∧ ∀ b ∈ x.f1, u32 b.f0 ∧ u32 b.f1 := fun x hx => ⟨by have : x.f1.length * 8 ≤ 140737488351232 := (h3.2 x hx).2.1; omega, fun b hb => ⟨u32_of (((h3.2 x hx).2.2 b hb).1), u32_of (((h3.2 x hx).2.2 b hb).2)⟩⟩
      refine Ev.step (by intro k; rw [dragomanlaw11_CondHolds.j0]) ?_
      refine Ev.ite_neg (by decide) ?_
      refine Ev.bind1 _ (copy11 c hc) ?_
      rw [copy03 _ _ _ _ _ _ _ _ hw hm.1]
      refine Ev.some ?_
      dsimp only
      refine Ev.bind1 _ (pcond hx1 hx2) (Ev.bind1 _ (rcond (by omega) (by omega) (by omega) hx1 (fun x hx => (hx2 x hx).1)) (Ev.ite_pos (by simp) ?_))
      obtain ⟨v, v1, v2⟩ := both_holds (a0 := c.f0) (l1 := c.f1) (l2 := c.f2) (l3 := c.f3) r.f0.f0 r.f0.f1 r.f1 r.f2 r.f3 r.f4 r.f5 r.f6 (by omega) (by omega) (by omega) (by omega) hx1 hx2 hx3 hcm hp h7 h4 h5
      refine Ev.bind1 _ v1 (Ev.bind1 _ v2 (Ev.ite_pos (by simp) ?_))
      refine Ev.bind1 _ (same11 _ _ _ (by omega) (by omega) (by omega) (fun x hx => (hx2 x hx).1) (fun x hx => (hx3 x hx).1)) (Ev.ite_pos rfl ?_)
      exact Ev.bind1 _ (cmp_same _ _ _ _ _ _ _ _ (by omega) (by omega)) (Ev.now _)
end Go.Proofs.Ytlkjfjlmjgkheaa.H
