/- The pure statement of CondOwn, proved: no condition looks at a field that its kind does not name. -/
import Derived.Test.YtlkjfjlmjgkheaaPuCondOwn
import Derived.Test.YtlkjfjlmjgkheaaQHCe
namespace Go.Proofs.Ytlkjfjlmjgkheaa.H
open Go.RowKit Go.Proofs.YtlkjfjlmjgkheaaW.PrintWords Go.Proofs.YtlkjfjlmjgkheaaW.PrintLast Go.Proofs.YtlkjfjlmjgkheaaRd Go.Proofs.Ytlkjfjlmjgkheaa.H
theorem CondOwn_pure : CondOwn.Pure := by
  intro c r s hc hr hs
  have h2 : c.f2.length * 64 ≤ 140737488351232 ∧ ∀ x ∈ c.f2, ok61 x := hc.2.2.1
  have h3 : c.f3.length * 32 ≤ 140737488351232 ∧ ∀ x ∈ c.f3, ok64 x := hc.2.2.2.1
  have hm : r.f2.length * 4 ≤ 140737488351232 ∧ ∀ x ∈ r.f2, (Lit.int .u32 x).wf = true := hr.2.2.1
  have hs1 : s.f1.length * 4 ≤ 140737488351232 := hs.2.1.1
  have hs2 : s.f2.length * 4 ≤ 140737488351232 := hs.2.2.1.1
  have hcm : ∀ c ∈ r.f2, u32 c := fun x hx => u32_of (hm.2 x hx)
  have hbx : ∀ x ∈ c.f3, ∀ b ∈ x.f1, u32 b.f0 ∧ u32 b.f1 := fun x hx b hb => ⟨u32_of (((h3.2 x hx).2.2 b hb).1), u32_of (((h3.2 x hx).2.2 b hb).2)⟩
  refine Ev.rounds (r := true) ?_
  unfold dragomanlaw11_CondOwn.f
  refine Ev.bind1 _ alive11 (Ev.ite_pos rfl ?_)
  obtain ⟨b, e, hb⟩ := great11 c hc
  refine Ev.bind1 _ e ?_
  have done : Ev (fun k => dragomanlaw11_CondOwn.j0 k true c.f0 c.f1 c.f2 c.f3 c.f4 c.f5 r.f0.f0 r.f0.f1 r.f1 r.f2 r.f3 r.f4 r.f5 r.f6 s.f0.f0 s.f0.f1 s.f1 s.f2 s.f3 s.f4 s.f5 s.f6) true := by
    refine Ev.step (by intro k; rw [dragomanlaw11_CondOwn.j0]) ?_
    exact Ev.ite_pos rfl (Ev.now _)
  cases b with
  | true => exact Ev.ite_pos rfl done
  | false =>
    refine Ev.ite_neg (by decide) ?_
    rw [great03]
    refine Ev.some ?_
    generalize (decide ((r.f1.length : Int) > 1000) || decide ((r.f2.length : Int) > 1000)) = q
    cases q with
    | true => exact Ev.ite_pos rfl done
    | false =>
      refine Ev.ite_neg (by decide) ?_
      rw [great03]
      refine Ev.some ?_
      generalize (decide ((s.f1.length : Int) > 1000) || decide ((s.f2.length : Int) > 1000)) = q
      cases q with
      | true => exact done
      | false =>
        obtain ⟨v, hv⟩ := holds_ev c.f0 c.f1 c.f2 c.f3 c.f4 c.f5 r.f0.f0 r.f0.f1 r.f1 r.f2 r.f3 r.f4 r.f5 r.f6 (fun x hx => ⟨(h2.2 x hx).2, Nat.le_trans (hb rfl x hx) (by omega)⟩) hcm hbx
        have cp : r3_Copy.f s.f0.f0 s.f0.f1 s.f1 s.f2 s.f3 s.f4 s.f5 s.f6 = some (s.f0.f0, s.f0.f1, s.f1, s.f2, s.f3, s.f4, s.f5, s.f6) := by
          unfold r3_Copy.f
          rw [Option.bind_some, List.length_nil, if_pos (by omega), Option.bind_some, List.length_nil, if_pos (by omega), List.nil_append, List.nil_append]
        have fin : Ev (fun k => (cond_Holds.f k c.f0 c.f1 c.f2 c.f3 c.f4 c.f5 r.f0.f0 r.f0.f1 r.f1 r.f2 r.f3 r.f4 r.f5 r.f6).bind fun t => (cond_Holds.f k c.f0 c.f1 c.f2 c.f3 c.f4 c.f5 r.f0.f0 r.f0.f1 r.f1 r.f2 r.f3 r.f4 r.f5 r.f6).bind fun u => some (t == u)) true := by
          refine Ev.bind1 _ hv (Ev.bind1 _ hv ?_)
          rw [beq_self_eq_true]
          exact Ev.now _
        refine Ev.step (by intro k; rw [dragomanlaw11_CondOwn.j0, cp]) ?_
        refine Ev.ite_neg (by decide) ?_
        refine Ev.some ?_
        dsimp only
        by_cases g1 : c.f0 = 1
        · refine Ev.ite_pos g1 ?_
          have q : ∀ k, cond_Holds.f k c.f0 c.f1 [] [] 0 0 r.f0.f0 r.f0.f1 s.f1 s.f2 s.f3 s.f4 s.f5 s.f6 = cond_Holds.f k c.f0 c.f1 c.f2 c.f3 c.f4 c.f5 r.f0.f0 r.f0.f1 r.f1 r.f2 r.f3 r.f4 r.f5 r.f6 := by
            intro k; unfold cond_Holds.f cond_Right.f holdsIn; simp [g1]
          simp only [q]
          exact fin
        refine Ev.ite_neg g1 ?_
        by_cases g2 : c.f0 = 2
        · refine Ev.ite_pos g2 ?_
          have q : ∀ k, cond_Holds.f k c.f0 [] c.f2 [] 0 0 s.f0.f0 s.f0.f1 r.f1 s.f2 s.f3 s.f4 s.f5 s.f6 = cond_Holds.f k c.f0 c.f1 c.f2 c.f3 c.f4 c.f5 r.f0.f0 r.f0.f1 r.f1 r.f2 r.f3 r.f4 r.f5 r.f6 := by
            intro k; unfold cond_Holds.f cond_Right.f holdsIn; simp [g2]
          simp only [q]
          exact fin
        refine Ev.ite_neg g2 ?_
        by_cases g3 : c.f0 = 3
        · refine Ev.ite_pos g3 ?_
          have q : ∀ k, cond_Holds.f k c.f0 [] [] c.f3 0 0 s.f0.f0 s.f0.f1 s.f1 r.f2 s.f3 s.f4 s.f5 s.f6 = cond_Holds.f k c.f0 c.f1 c.f2 c.f3 c.f4 c.f5 r.f0.f0 r.f0.f1 r.f1 r.f2 r.f3 r.f4 r.f5 r.f6 := by
            intro k; unfold cond_Holds.f cond_Right.f holdsIn; simp [g3]
          simp only [q]
          exact fin
        refine Ev.ite_neg g3 ?_
        by_cases g7 : c.f0 = 7
        · refine Ev.ite_pos g7 ?_
          have q : ∀ k, cond_Holds.f k c.f0 c.f1 [] [] 0 0 s.f0.f0 s.f0.f1 s.f1 s.f2 s.f3 s.f4 s.f5 r.f6 = cond_Holds.f k c.f0 c.f1 c.f2 c.f3 c.f4 c.f5 r.f0.f0 r.f0.f1 r.f1 r.f2 r.f3 r.f4 r.f5 r.f6 := by
            intro k; unfold cond_Holds.f cond_Right.f holdsIn; simp [g7]
          simp only [q]
          exact fin
        refine Ev.ite_neg g7 ?_
        have q : ∀ k, cond_Holds.f k c.f0 [] [] [] c.f4 c.f5 s.f0.f0 s.f0.f1 s.f1 s.f2 r.f3 r.f4 r.f5 s.f6 = cond_Holds.f k c.f0 c.f1 c.f2 c.f3 c.f4 c.f5 r.f0.f0 r.f0.f1 r.f1 r.f2 r.f3 r.f4 r.f5 r.f6 := by
          intro k
          unfold cond_Holds.f cond_Right.f holdsIn
          by_cases g : c.f0 = 4 ∨ c.f0 = 5 ∨ c.f0 = 6
          · rcases g with g | g | g <;> simp [g]
          · simp [g1, g2, g3, g7, g]
        simp only [q]
        exact fin
end Go.Proofs.Ytlkjfjlmjgkheaa.H
