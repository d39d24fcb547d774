/- A scope with one label to which jumps come back: the others' texts are walked where the jump stands. -/
import Derived.ScopeJumps
import Derived.WalkMore
namespace Go
def Exit.jumpsF (P : Program) (c : Code) (J : Act → World → Prop) (Q : Exit → Act → World → Prop) : Nat → Exit → Act → World → Prop
  | 0, .goto _, _, _ => False
  | d + 1, .goto l, a, w => (l = 0 ∧ J a w) ∨ ∃ rest, findLabel c l = some rest ∧ rest.wp P (Exit.jumpsF P c J Q d) a w
  | _, e, a, w => Q e a w
section
variable {P : Program} {a : Act} {w : World} {Q : Exit → Act → World → Prop}
theorem Exit.jumpsF_mono {c : Code} {J J' : Act → World → Prop} (hJ : ∀ a w, J a w → J' a w) : ∀ (d : Nat) (e : Exit) (a : Act) (w : World), Exit.jumpsF P c J Q d e a w → Exit.jumpsF P c J' Q d e a w := by
  intro d
  induction d with
  | zero => intro e a w h; cases e <;> exact h
  | succ d ih =>
    intro e a w h
    cases e with
    | goto l =>
      rcases h with ⟨rfl, h⟩ | ⟨r, hr, h⟩
      · exact Or.inl ⟨rfl, hJ _ _ h⟩
      · exact Or.inr ⟨r, hr, wp_mono h ih⟩
    | _ => exact h
theorem wp_scope_back {c rest0 : Code} (d : Nat) (J : Nat → Act → World → Prop) (hf0 : findLabel c 0 = some (Code.skip.seq rest0))
    (first : (∀ n a w, J n a w → rest0.wp P (Exit.jumpsF P c (fun a' w' => ∃ n, J n a' w') Q d) a w) → c.wp P (Exit.jumpsF P c (fun a' w' => ∃ n, J n a' w') Q d) a w)
    (pass : ∀ n a w, J n a w → rest0.wp P (Exit.jumpsF P c (fun a' w' => ∃ n', n' < n ∧ J n' a' w') Q d) a w) : (Code.scope c).wp P Q a w := by
  obtain ⟨rest, hrest⟩ : ∃ rest, rest = Code.skip.seq rest0 := ⟨_, rfl⟩
  have hf : findLabel c 0 = some rest := by rw [hrest]; exact hf0
  have pass' : ∀ n a w, J n a w → rest.wp P (Exit.jumpsF P c (fun a' w' => ∃ n', n' < n ∧ J n' a' w') Q d) a w := by
    intro n a w hj
    rw [hrest]
    exact wp_seq (wp_skip (pass n a w hj))
  intro b k cs
  have fin : ∀ (J' : Act → World → Prop), (∀ a w, J' a w → ∃ e a' w', Q e a' w' ∧ Arrives P (lone (b.at a (.code rest :: .inScope c :: k)) cs w) b k cs e a' w') →
      ∀ (d : Nat) (e : Exit) (a₁ : Act) (w₁ : World) (s : Machine), Exit.jumpsF P c J' Q d e a₁ w₁ → Arrives P s b (.inScope c :: k) cs e a₁ w₁ → ∃ e' a' w', Q e' a' w' ∧ Arrives P s b k cs e' a' w' := by
    intro J' hJ'
    intro d
    induction d with
    | zero =>
      intro e a₁ w₁ s hq harr
      cases e with
      | normal => exact ⟨.normal, a₁, w₁, hq, Steps.trans harr (.one step_inScope)⟩
      | exit id => exact ⟨.exit id, a₁, w₁, hq, fun k' hk => harr k' (by simp [exitTo, hk])⟩
      | goto l' => exact hq.elim
      | ret => exact ⟨_, a₁, w₁, hq, harr⟩
      | panic ch => exact ⟨_, a₁, w₁, hq, harr⟩
      | outgrown => exact ⟨_, a₁, w₁, hq, harr⟩
    | succ d ih =>
      intro e a₁ w₁ s hq harr
      cases e with
      | normal => exact ⟨.normal, a₁, w₁, hq, Steps.trans harr (.one step_inScope)⟩
      | exit id => exact ⟨.exit id, a₁, w₁, hq, fun k' hk => harr k' (by simp [exitTo, hk])⟩
      | goto l' =>
        rcases hq with ⟨rfl, hj⟩ | ⟨r', hr', hw⟩
        · have hg : gotoIn 0 (.inScope c :: k) = some (.code rest :: .inScope c :: k) := by simp [gotoIn, hf]
          obtain ⟨e₂, a₂, w₂, hq₂, harr₂⟩ := hJ' a₁ w₁ hj
          exact ⟨e₂, a₂, w₂, hq₂, .of_steps (harr _ hg) harr₂⟩
        · have hg : gotoIn l' (.inScope c :: k) = some (.code r' :: .inScope c :: k) := by simp [gotoIn, hr']
          obtain ⟨e₂, a₂, w₂, hq₂, harr₂⟩ := hw b (.inScope c :: k) cs
          obtain ⟨e₃, a₃, w₃, hq₃, harr₃⟩ := ih e₂ a₂ w₂ _ hq₂ harr₂
          exact ⟨e₃, a₃, w₃, hq₃, .of_steps (harr _ hg) harr₃⟩
      | ret => exact ⟨_, a₁, w₁, hq, harr⟩
      | panic ch => exact ⟨_, a₁, w₁, hq, harr⟩
      | outgrown => exact ⟨_, a₁, w₁, hq, harr⟩
  have key : ∀ n a w, J n a w → ∃ e a' w', Q e a' w' ∧ Arrives P (lone (b.at a (.code rest :: .inScope c :: k)) cs w) b k cs e a' w' := by
    intro n
    induction n using Nat.strongRecOn with
    | _ n ih =>
      intro a w hJ
      obtain ⟨e, a₁, w₁, hq, harr⟩ := pass' n a w hJ b (.inScope c :: k) cs
      exact fin _ (fun a' w' ⟨n', hn, hj⟩ => ih n' hn a' w' hj) d e a₁ w₁ _ hq harr
  obtain ⟨e, a₁, w₁, hq, harr⟩ := first (fun n a w hJ => wp_mono (pass n a w hJ) (Exit.jumpsF_mono (fun a' w' ⟨n', _, h⟩ => ⟨n', h⟩) d)) b (.inScope c :: k) cs
  obtain ⟨e₂, a₂, w₂, hq₂, harr₂⟩ := fin _ (fun a' w' ⟨n, hj⟩ => key n a' w' hj) d e a₁ w₁ _ hq harr
  exact ⟨e₂, a₂, w₂, hq₂, .of_steps (.one step_scope) harr₂⟩
end
end Go
