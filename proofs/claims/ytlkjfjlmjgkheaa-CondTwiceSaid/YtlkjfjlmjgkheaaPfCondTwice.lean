/- The pure statement of CondTwice, proved: an entry twice, and communities twice in another order, change no answer. -/
import Derived.Test.YtlkjfjlmjgkheaaPuCondTwice
import Derived.Test.YtlkjfjlmjgkheaaQHCd
namespace Go.Proofs.Ytlkjfjlmjgkheaa.H
open Go.RowKit Go.Proofs.YtlkjfjlmjgkheaaW.PrintWords Go.Proofs.YtlkjfjlmjgkheaaW.PrintLast Go.Proofs.YtlkjfjlmjgkheaaRd Go.Proofs.Ytlkjfjlmjgkheaa.H
theorem any_same {α : Type} {p : α → Bool} {a b : List α} (h : ∀ v, v ∈ a ↔ v ∈ b) : a.any p = b.any p := by
  rw [Bool.eq_iff_iff, List.any_eq_true, List.any_eq_true]
  exact ⟨fun ⟨x, hx, q⟩ => ⟨x, (h x).1 hx, q⟩, fun ⟨x, hx, q⟩ => ⟨x, (h x).2 hx, q⟩⟩
theorem hasA_same {a b : List Int} (h : ∀ v, v ∈ a ↔ v ∈ b) : hasA a = hasA b := by
  funext x
  unfold hasA
  congr 1
  funext y
  exact any_same h
section
variable (c : S46) (r : S50)
theorem twice_back (hr : r.f2.length ≤ 1000) (a0 : Int) (l1 : List S83) (X2 : List S61) (X3 : List S64) (a4 a5 : Int)
    (hend : ∀ B : List Int, (∀ v, v ∈ B ↔ v ∈ r.f2) → Ev (fun k => (cond_TakesPath.f k X2 r.f1).bind fun t416 => ((cond_TakesPath.f k c.f2 r.f1).bind fun t417 => (if (t416 == t417) = true then ((cond_TakesComms.f X3 B).bind fun t418 => ((cond_TakesComms.f c.f3 r.f2).bind fun t419 => (some (t418 == t419)))) else (none)))) true) (m : Nat) :
    ∀ (B : List Int), m ≤ r.f2.length → B.length + 2 * m = 2 * r.f2.length → (∀ v, v ∈ B ↔ v ∈ r.f2.drop m) →
    Ev (fun k => dragomanlaw11_CondTwice.l0 k B ((m : Int) - 1) c.f0 c.f1 c.f2 c.f3 c.f4 c.f5 r.f0.f0 r.f0.f1 r.f1 r.f2 r.f3 r.f4 r.f5 r.f6 a0 l1 X2 X3 a4 a5) true := by
  induction m with
  | zero =>
    intro B hm hB hv
    refine Ev.step (by intro k; rw [dragomanlaw11_CondTwice.l0]) ?_
    refine Ev.ite_neg (by omega) ?_
    exact hend B (by simpa using hv)
  | succ m im =>
    intro B hm hB hv
    have hlt : m < r.f2.length := by omega
    have e1 : (((m + 1 : Nat) : Int) - 1) = (m : Int) := by omega
    rw [e1]
    refine Ev.step (by intro k; rw [dragomanlaw11_CondTwice.l0]) ?_
    refine Ev.ite_pos (by omega) (Ev.ite_pos (by omega) (Ev.ite_pos (by omega) ?_))
    rw [rdn r.f2 m hlt, w64 (i := (m : Int) - 1) (by omega) (by omega)]
    refine Ev.some (a := [r.f2[m], r.f2[m]]) ?_
    refine Ev.ite_pos (by show B.length + 2 < _; omega) ?_
    refine im (B ++ [r.f2[m], r.f2[m]]) (by omega) (by rw [List.length_append]; show B.length + 2 + 2 * m = _; omega) ?_
    intro v
    rw [List.mem_append, hv, dropc r.f2 m hlt]
    constructor
    · rintro (h | h)
      · exact List.mem_cons_of_mem _ h
      · rcases List.mem_cons.1 h with h | h
        · exact h ▸ List.mem_cons_self
        · rw [List.mem_singleton] at h
          exact h ▸ List.mem_cons_self
    · intro h
      rcases List.mem_cons.1 h with h | h
      · exact Or.inr (h ▸ List.mem_cons_self)
      · exact Or.inl h
theorem twice_j2 (hr : r.f2.length ≤ 1000) (hu : ∀ c ∈ r.f2, u32 c) (hbx : ∀ x ∈ c.f3, ∀ b ∈ x.f1, u32 b.f0 ∧ u32 b.f1) {g : S61 → Bool} (hg : ∀ x ∈ c.f2, Ev (fun k => patIn k r.f1 x) (g x)) (a0 : Int) (l1 : List S83) (X2 : List S61) (X3 : List S64) (a4 a5 : Int)
    (h2 : X2 = c.f2 ∨ ∃ e ∈ c.f2, X2 = c.f2 ++ [e]) (h3 : X3 = c.f3 ∨ ∃ e ∈ c.f3, X3 = c.f3 ++ [e]) :
    Ev (fun k => dragomanlaw11_CondTwice.j2 k c.f0 c.f1 c.f2 c.f3 c.f4 c.f5 r.f0.f0 r.f0.f1 r.f1 r.f2 r.f3 r.f4 r.f5 r.f6 a0 l1 X2 X3 a4 a5) true := by
  refine Ev.step (by intro k; rw [dragomanlaw11_CondTwice.j2]) ?_
  rw [w64 (i := (r.f2.length : Int) - 1) (by omega) (by omega)]
  refine twice_back c r hr a0 l1 X2 X3 a4 a5 ?_ r.f2.length [] (Nat.le_refl _) (by simp) (by simp)
  intro B hB
  have m2 : ∀ x ∈ X2, x ∈ c.f2 := by
    rcases h2 with rfl | ⟨e, he, rfl⟩
    · exact fun x hx => hx
    · intro x hx
      rcases List.mem_append.1 hx with hx | hx
      · exact hx
      · rw [List.mem_singleton] at hx; subst hx; exact he
  have m3 : ∀ x ∈ X3, x ∈ c.f3 := by
    rcases h3 with rfl | ⟨e, he, rfl⟩
    · exact fun x hx => hx
    · intro x hx
      rcases List.mem_append.1 hx with hx | hx
      · exact hx
      · rw [List.mem_singleton] at hx; subst hx; exact he
  have q2 : firstL g (fun x => x.f0) X2 = firstL g (fun x => x.f0) c.f2 := by
    rcases h2 with rfl | ⟨e, he, rfl⟩
    · rfl
    · exact firstL_again g (fun x => x.f0) c.f2 e he
  have q3 : firstL (hasA B) (fun x => x.f0) X3 = firstL (hasA r.f2) (fun x => x.f0) c.f3 := by
    rw [hasA_same hB]
    rcases h3 with rfl | ⟨e, he, rfl⟩
    · rfl
    · exact firstL_again (hasA r.f2) (fun x => x.f0) c.f3 e he
  refine Ev.bind1 _ (path_ev (g := g) X2 (fun x hx => hg x (m2 x hx))) ?_
  refine Ev.bind1 _ (path_ev (g := g) c.f2 hg) ?_
  rw [q2]
  refine Ev.ite_pos (by simp) ?_
  rw [comms_eq (l := X3) (comms := B) (fun v hv => hu v ((hB v).1 hv)) (fun x hx => hbx x (m3 x hx)), comms_eq hu hbx, q3]
  refine Ev.some (Ev.some ?_)
  simp only [beq_self_eq_true]
  exact Ev.now _
end
theorem tmod_nat (n : Int) (l : Nat) (h : 0 ≤ n) (h' : n ≤ 255) (hl : 0 < l) : ∃ i : Nat, Int.tmod (wrap64 n) (l : Int) = (i : Int) ∧ i < l := by
  rw [w64 (by omega) (by omega)]
  refine ⟨n.toNat % l, ?_, Nat.mod_lt _ hl⟩
  rw [Int.tmod_eq_emod_of_nonneg h, Int.natCast_emod, Int.toNat_of_nonneg h]
theorem CondTwice_pure : CondTwice.Pure := by
  intro c r n hc hr hn
  have h2 : c.f2.length * 64 ≤ 140737488351232 ∧ ∀ x ∈ c.f2, ok61 x := hc.2.2.1
  have h3 : c.f3.length * 32 ≤ 140737488351232 ∧ ∀ x ∈ c.f3, ok64 x := hc.2.2.2.1
  have hm : r.f2.length * 4 ≤ 140737488351232 ∧ ∀ x ∈ r.f2, (Lit.int .u32 x).wf = true := hr.2.2.1
  have hcm : ∀ c ∈ r.f2, u32 c := fun x hx => u32_of (hm.2 x hx)
  have hbx : ∀ x ∈ c.f3, ∀ b ∈ x.f1, u32 b.f0 ∧ u32 b.f1 := fun x hx b hb => ⟨u32_of (((h3.2 x hx).2.2 b hb).1), u32_of (((h3.2 x hx).2.2 b hb).2)⟩
  have hn1 : 0 ≤ n ∧ n ≤ 255 := by
    have hn' : (Lit.int .u8 n).wf = true := hn
    simp only [Lit.wf, IntKind.min, IntKind.max, IntKind.signed, IntKind.bits, Bool.and_eq_true] at hn'
    obtain ⟨p, q⟩ := hn'
    exact ⟨by simpa using p, by have := q; simp at this; omega⟩
  refine Ev.rounds (r := true) ?_
  unfold dragomanlaw11_CondTwice.f
  refine Ev.bind1 _ alive11 (Ev.ite_pos rfl ?_)
  obtain ⟨b, e, hb⟩ := great11 c hc
  refine Ev.bind1 _ e ?_
  have done : Ev (fun k => dragomanlaw11_CondTwice.j0 k n true c.f0 c.f1 c.f2 c.f3 c.f4 c.f5 r.f0.f0 r.f0.f1 r.f1 r.f2 r.f3 r.f4 r.f5 r.f6) true := by
    refine Ev.step (by intro k; rw [dragomanlaw11_CondTwice.j0]) ?_
    exact Ev.ite_pos rfl (Ev.now _)
  cases b with
  | true => exact Ev.ite_pos rfl done
  | false =>
    refine Ev.ite_neg (by decide) ?_
    rw [great03]
    refine Ev.some ?_
    by_cases q1 : (r.f1.length : Int) > 1000
    · rw [decide_eq_true q1, Bool.true_or]
      exact done
    rw [decide_eq_false q1, Bool.false_or]
    by_cases q2 : (r.f2.length : Int) > 1000
    · rw [decide_eq_true q2]
      exact done
    rw [decide_eq_false q2]
    obtain ⟨g, hg⟩ := takeB_ex r.f1
    have hpi : ∀ x ∈ c.f2, Ev (fun k => patIn k r.f1 x) (g x) := fun x hx => pat_in hg x (h2.2 x hx).2 (Nat.le_trans (hb rfl x hx) (by omega))
    have j2 := twice_j2 c r (by omega) hcm hbx hpi c.f0 c.f1
    have j1 : ∀ X2 : List S61, (X2 = c.f2 ∨ ∃ e ∈ c.f2, X2 = c.f2 ++ [e]) → Ev (fun k => dragomanlaw11_CondTwice.j1 k n c.f0 c.f1 c.f2 c.f3 c.f4 c.f5 r.f0.f0 r.f0.f1 r.f1 r.f2 r.f3 r.f4 r.f5 r.f6 c.f0 c.f1 X2 c.f3 c.f4 c.f5) true := by
      intro X2 hX
      refine Ev.step (by intro k; rw [dragomanlaw11_CondTwice.j1]) ?_
      by_cases p : (c.f3.length : Int) > 0
      · obtain ⟨i, hi, hlt⟩ := tmod_nat n c.f3.length hn1.1 hn1.2 (by omega)
        rw [hi]
        refine Ev.ite_pos p (Ev.ite_neg (by omega) (Ev.ite_pos (by omega) (Ev.ite_pos (by omega) (Ev.ite_pos (by omega) ?_))))
        rw [rd64n c.f3 i hlt, eta64]
        exact j2 X2 _ c.f4 c.f5 hX (Or.inr ⟨_, List.getElem_mem hlt, rfl⟩)
      · exact Ev.ite_neg p (j2 X2 _ c.f4 c.f5 hX (Or.inl rfl))
    refine Ev.step (by intro k; rw [dragomanlaw11_CondTwice.j0]) ?_
    refine Ev.ite_neg (by decide) ?_
    refine Ev.bind1 _ (copy11 c hc) ?_
    dsimp only
    by_cases p : (c.f2.length : Int) > 0
    · obtain ⟨i, hi, hlt⟩ := tmod_nat n c.f2.length hn1.1 hn1.2 (by omega)
      rw [hi]
      refine Ev.ite_pos p (Ev.ite_neg (by omega) (Ev.ite_pos (by omega) (Ev.ite_pos (by omega) (Ev.ite_pos (by omega) ?_))))
      rw [rd61n c.f2 i hlt, eta61]
      exact j1 _ (Or.inr ⟨_, List.getElem_mem hlt, rfl⟩)
    · exact Ev.ite_neg p (j1 _ (Or.inl rfl))
end Go.Proofs.Ytlkjfjlmjgkheaa.H
