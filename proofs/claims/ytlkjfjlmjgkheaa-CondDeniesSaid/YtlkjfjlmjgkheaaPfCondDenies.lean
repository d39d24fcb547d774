/- The pure statement of CondDenies, proved: the turned lists, with an entry behind that takes all, answer the other way round. -/
import Derived.Test.YtlkjfjlmjgkheaaPuCondDenies
import Derived.Test.YtlkjfjlmjgkheaaQHCd
namespace Go.Proofs.Ytlkjfjlmjgkheaa.H
open Go.RowKit Go.Proofs.YtlkjfjlmjgkheaaW.PrintWords Go.Proofs.YtlkjfjlmjgkheaaW.PrintLast Go.Proofs.YtlkjfjlmjgkheaaRd Go.Proofs.Ytlkjfjlmjgkheaa.H
section
variable (c : S46) (r : S50)
theorem denies_end (hc : ok46 c) (hr : ok50 r) (hb : ∀ x ∈ c.f2, partsP x.f1 ≤ 3000) (hp : r.f1.length ≤ 255) (a0 : Int) (l1 : List S83) (a4 a5 : Int) (m : Nat) :
    ∀ (j : Nat), j + m = c.f3.length → Ev (fun k => dragomanlaw11_CondDenies.l1 k (c.f3.length : Int) (j : Int) c.f0 c.f1 c.f2 c.f3 c.f4 c.f5 r.f0.f0 r.f0.f1 r.f1 r.f2 r.f3 r.f4 r.f5 r.f6 a0 l1 (c.f2.map turn61) ((c.f3.take j).map turn64 ++ c.f3.drop j) a4 a5) true := by
  have h2 : c.f2.length * 64 ≤ 140737488351232 ∧ ∀ x ∈ c.f2, ok61 x := hc.2.2.1
  have h3 : c.f3.length * 32 ≤ 140737488351232 ∧ ∀ x ∈ c.f3, ok64 x := hc.2.2.2.1
  have hw : r.f1.length * 4 ≤ 140737488351232 ∧ ∀ x ∈ r.f1, (Lit.int .u32 x).wf = true := hr.2.1
  have hm : r.f2.length * 4 ≤ 140737488351232 ∧ ∀ x ∈ r.f2, (Lit.int .u32 x).wf = true := hr.2.2.1
  have hcm : ∀ c ∈ r.f2, u32 c := fun x hx => u32_of (hm.2 x hx)
  have hbx : ∀ x ∈ c.f3, ∀ b ∈ x.f1, u32 b.f0 ∧ u32 b.f1 := fun x hx b hb => ⟨u32_of (((h3.2 x hx).2.2 b hb).1), u32_of (((h3.2 x hx).2.2 b hb).2)⟩
  induction m with
  | zero =>
    intro j hj
    refine Ev.step (by intro k; rw [dragomanlaw11_CondDenies.l1]) ?_
    refine Ev.ite_neg (by omega) ?_
    rw [List.take_of_length_le (by omega), List.drop_of_length_le (by omega), List.append_nil]
    refine Ev.ite_pos (by rw [List.length_map]; omega) (Ev.ite_pos (by rw [List.length_map]; omega) ?_)
    obtain ⟨g, hg⟩ := takeB_ex r.f1
    have hgt : ∀ x, g (turn61 x) = g x := fun x => takes_eq (hg (turn61 x)) (hg x)
    have hga : g ⟨false, allP⟩ = true := (hg ⟨false, allP⟩).2 ⟨right_allP, hp, Lp_allP (fun v hv => u32_of (hw.2 v hv))⟩
    have big : ∀ x ∈ c.f2, partsP x.f1 ≤ 1000000 := fun x hx => Nat.le_trans (hb x hx) (by omega)
    refine Ev.bind1 _ (path_ev (g := g) (c.f2.map turn61 ++ [⟨false, allP⟩]) ?_) ?_
    · intro x hx
      rcases List.mem_append.1 hx with hx | hx
      · obtain ⟨y, hy, rfl⟩ := List.mem_map.1 hx
        exact pat_in hg (turn61 y) (h2.2 y hy).2 (big y hy)
      · rw [List.mem_singleton] at hx
        subst hx
        exact pat_in hg _ ok_allP (by show partsP allP ≤ _; rw [parts_allP]; omega)
    refine Ev.bind1 _ (path_ev (g := g) c.f2 (fun x hx => pat_in hg x (h2.2 x hx).2 (big x hx))) ?_
    rw [firstL_turned g (fun x => x.f0) turn61 hgt (fun _ => rfl) ⟨false, allP⟩ hga rfl c.f2]
    refine Ev.ite_pos (by cases firstL g (fun x => x.f0) c.f2 <;> rfl) ?_
    rw [comms_eq (l := c.f3.map turn64 ++ [(⟨false, []⟩ : S64)]) hcm ?_, comms_eq hcm hbx]
    · refine Ev.some (Ev.some ?_)
      rw [firstL_turned (hasA r.f2) (fun x => x.f0) turn64 (fun _ => rfl) (fun _ => rfl) ⟨false, []⟩ rfl rfl c.f3]
      have : ((!firstL (hasA r.f2) (fun x => x.f0) c.f3) != firstL (hasA r.f2) (fun x => x.f0) c.f3) = true := by cases firstL (hasA r.f2) (fun x => x.f0) c.f3 <;> rfl
      rw [this]
      exact Ev.now _
    · intro x hx
      rcases List.mem_append.1 hx with hx | hx
      · obtain ⟨y, hy, rfl⟩ := List.mem_map.1 hx
        exact hbx y hy
      · rw [List.mem_singleton] at hx
        subst hx
        intro b hb
        simp at hb
  | succ m im =>
    intro j hj
    have hlt : j < c.f3.length := by omega
    obtain ⟨h', e⟩ := map_take_get turn64 c.f3 j hlt
    refine Ev.step (by intro k; rw [dragomanlaw11_CondDenies.l1]) ?_
    refine Ev.ite_pos (by omega) (Ev.ite_pos (by omega) (Ev.ite_pos (by rw [len_mtd]; omega) ?_))
    rw [rd64n _ j h', e, Int.toNat_natCast, w64s j (by omega)]
    show Ev (fun k => dragomanlaw11_CondDenies.l1 k _ _ _ _ _ _ _ _ _ _ _ _ _ _ _ _ _ _ _ ((List.map turn64 (c.f3.take j) ++ c.f3.drop j).set j (turn64 c.f3[j])) _ _) true
    rw [map_take_set turn64 c.f3 j hlt]
    exact im (j + 1) (by omega)
theorem denies_mid (hc : ok46 c) (hr : ok50 r) (hb : ∀ x ∈ c.f2, partsP x.f1 ≤ 3000) (hp : r.f1.length ≤ 255) (a0 : Int) (l1 : List S83) (a4 a5 : Int) (m : Nat) :
    ∀ (j : Nat), j + m = c.f2.length → Ev (fun k => dragomanlaw11_CondDenies.l0 k (c.f2.length : Int) (j : Int) c.f0 c.f1 c.f2 c.f3 c.f4 c.f5 r.f0.f0 r.f0.f1 r.f1 r.f2 r.f3 r.f4 r.f5 r.f6 a0 l1 ((c.f2.take j).map turn61 ++ c.f2.drop j) c.f3 a4 a5) true := by
  have h2 : c.f2.length * 64 ≤ 140737488351232 ∧ ∀ x ∈ c.f2, ok61 x := hc.2.2.1
  induction m with
  | zero =>
    intro j hj
    refine Ev.step (by intro k; rw [dragomanlaw11_CondDenies.l0]) ?_
    refine Ev.ite_neg (by omega) ?_
    rw [List.take_of_length_le (by omega), List.drop_of_length_le (by omega), List.append_nil]
    exact denies_end c r hc hr hb hp a0 l1 a4 a5 c.f3.length 0 (by omega)
  | succ m im =>
    intro j hj
    have hlt : j < c.f2.length := by omega
    obtain ⟨h', e⟩ := map_take_get turn61 c.f2 j hlt
    refine Ev.step (by intro k; rw [dragomanlaw11_CondDenies.l0]) ?_
    refine Ev.ite_pos (by omega) (Ev.ite_pos (by omega) (Ev.ite_pos (by rw [len_mtd]; omega) ?_))
    rw [rd61n _ j h', e, eta25, Int.toNat_natCast, w64s j (by omega)]
    show Ev (fun k => dragomanlaw11_CondDenies.l0 k _ _ _ _ _ _ _ _ _ _ _ _ _ _ _ _ _ _ ((List.map turn61 (c.f2.take j) ++ c.f2.drop j).set j (turn61 c.f2[j])) _ _ _) true
    rw [map_take_set turn61 c.f2 j hlt]
    exact im (j + 1) (by omega)
end
theorem CondDenies_pure : CondDenies.Pure := by
  intro c r hc hr
  refine Ev.rounds (r := true) ?_
  unfold dragomanlaw11_CondDenies.f
  refine Ev.bind1 _ alive11 (Ev.ite_pos rfl ?_)
  obtain ⟨b, e, hb⟩ := great11 c hc
  refine Ev.bind1 _ e ?_
  have done : Ev (fun k => dragomanlaw11_CondDenies.j0 k true c.f0 c.f1 c.f2 c.f3 c.f4 c.f5 r.f0.f0 r.f0.f1 r.f1 r.f2 r.f3 r.f4 r.f5 r.f6) true := by
    refine Ev.step (by intro k; rw [dragomanlaw11_CondDenies.j0]) ?_
    exact Ev.ite_pos rfl (Ev.now _)
  cases b with
  | true => exact Ev.ite_pos rfl done
  | false =>
    refine Ev.ite_neg (by decide) ?_
    rw [great03]
    refine Ev.some ?_
    generalize (decide ((r.f1.length : Int) > 1000) || decide ((r.f2.length : Int) > 1000)) = q
    cases q with
    | true => exact Ev.ite_pos rfl done
    | false =>
      refine Ev.ite_neg (by decide) ?_
      by_cases l : (r.f1.length : Int) > 255
      · rw [decide_eq_true l]
        exact done
      · rw [decide_eq_false l]
        refine Ev.step (by intro k; rw [dragomanlaw11_CondDenies.j0]) ?_
        refine Ev.ite_neg (by decide) ?_
        refine Ev.bind1 _ (copy11 c hc) ?_
        exact denies_mid c r hc hr (hb rfl) (by omega) c.f0 c.f1 c.f4 c.f5 c.f2.length 0 (by omega)
end Go.Proofs.Ytlkjfjlmjgkheaa.H
