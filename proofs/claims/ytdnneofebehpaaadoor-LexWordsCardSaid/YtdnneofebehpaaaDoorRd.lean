/- Readings: what the row's form reads as data is of the printed kinds; lengths and numbers are in their bounds. (Plain lemmas of this session.) -/
import Derived.Test.YtdnneofebehpaaaDoorWWords
import Derived.SizedLaws
import Derived.ChangeArms
import Derived.Deep.Slices
namespace Go.Proofs.YtdnneofebehpaaaDoorRd
open Go.Proofs.YtdnneofebehpaaaDoorW.PrintWords
set_option linter.unusedVariables false
def RdN (n : Nat) (P : Program) (t : TypeId) {α : Type} (d : Kd α) (ok : α → Prop) : Prop :=
  ∀ (H : Type) (enc : TypeId × Value → H) (w : World) (base : Nat) (spare : Nat → Bool) (held : Bool) (fuel : Nat) (cs : List Value) (x : DataW H) (ps : List MemPlace), fuel ≤ n →
    DataW.trod enc P w base spare held fuel t cs = some (x, ps) → (∀ m ∈ x.weights P t, m ≤ reachBytes) → ∃ a, d.K w a cs ∧ ok a
theorem RdN.mono {n : Nat} {P : Program} {t : TypeId} {α : Type} {d : Kd α} {ok ok' : α → Prop} (h : RdN n P t d ok) (ho : ∀ x, ok x → ok' x) : RdN n P t d ok' := by
  intro H enc w base spare held fuel cs x ps hf hx hw
  obtain ⟨a, h1, h2⟩ := h H enc w base spare held fuel cs x ps hf hx hw
  exact ⟨a, h1, ho a h2⟩
theorem rd_string {P : Program} {t : TypeId} (ht : P.underlying t = some .string) (n : Nat) : RdN n P t Kd.string (fun a => a.size ≤ 140737488351232) := by
  intro H enc w base spare held fuel cs x ps hf hx hw
  obtain ⟨a, rfl, hd, ha⟩ := DataW.trod_string ht hx
  obtain ⟨rfl, _⟩ := Prod.mk.inj hd
  refine ⟨a, rfl, ?_⟩
  have := hw a.data.toList.length (by simp [DataW.weights])
  rw [data_length] at this
  exact this
end Go.Proofs.YtdnneofebehpaaaDoorRd
