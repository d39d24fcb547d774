/- Readings: what the row's form reads as data is of the printed kinds; lengths and numbers are in their bounds. (Plain lemmas of this session.) -/
import Derived.Test.YtdnneofebehpaaaGreatDoorWWords
import Derived.SizedLaws
import Derived.ChangeArms
import Derived.Deep.Slices
namespace Go.Proofs.YtdnneofebehpaaaGreatDoorRd
open Go.Proofs.YtdnneofebehpaaaGreatDoorW.PrintWords
set_option linter.unusedVariables false
def RdN (n : Nat) (P : Program) (t : TypeId) {α : Type} (d : Kd α) (ok : α → Prop) : Prop :=
  ∀ (H : Type) (enc : TypeId × Value → H) (w : World) (base : Nat) (spare : Nat → Bool) (held : Bool) (fuel : Nat) (cs : List Value) (x : DataW H) (ps : List MemPlace), fuel ≤ n →
    DataW.trod enc P w base spare held fuel t cs = some (x, ps) → (∀ m ∈ x.weights P t, m ≤ reachBytes) → ∃ a, d.K w a cs ∧ ok a
theorem RdN.mono {n : Nat} {P : Program} {t : TypeId} {α : Type} {d : Kd α} {ok ok' : α → Prop} (h : RdN n P t d ok) (ho : ∀ x, ok x → ok' x) : RdN n P t d ok' := by
  intro H enc w base spare held fuel cs x ps hf hx hw
  obtain ⟨a, h1, h2⟩ := h H enc w base spare held fuel cs x ps hf hx hw
  exact ⟨a, h1, ho a h2⟩
theorem rd_int {P : Program} {t : TypeId} {k : IntKind} (ht : P.underlying t = some (.int k)) (n : Nat) : RdN n P t (Kd.int k) (fun a => (Lit.int k a).wf = true) := by
  intro H enc w base spare held fuel cs x ps hf hx hw
  obtain ⟨a, rfl, _, ha⟩ := DataW.trod_int ht hx
  exact ⟨a, rfl, ha⟩
def RdF (n : Nat) (P : Program) (fs : List Field) (off : Nat) {α : Type} (d : Kd α) (ok : α → Prop) : Prop :=
  ∀ (H : Type) (enc : TypeId × Value → H) (w : World) (base : Nat) (spare : Nat → Bool) (held : Bool) (fuel : Nat) (cs : List Value) (xs : List (DataW H × List MemPlace)), fuel ≤ n → cs.length = off + d.sz → xs.length = fs.length →
    (∀ (i : Nat) (f : Field), fs[i]? = some f → DataW.trod enc P w base spare held fuel f.type ((cs.drop f.offset).take (P.cellsOf f.type)) = xs[i]?) → (∀ m ∈ DataW.weightsEach P (fs.map (·.type)) (xs.map (·.1)), m ≤ reachBytes) → ∃ a, d.K w a (cs.drop off) ∧ ok a
theorem rd_last {n : Nat} {P : Program} {f : Field} {off : Nat} {α : Type} {d : Kd α} {ok : α → Prop} (ho : f.offset = off) (hc : P.cellsOf f.type = d.sz) (h : RdN n P f.type d ok) : RdF n P [f] off d ok := by
  intro H enc w base spare held fuel cs xs hf hl hx ht hw
  match xs, hx with
  | [x], _ =>
    have h0 := ht 0 f rfl
    rw [ho, hc, List.take_of_length_le (by rw [List.length_drop]; omega)] at h0
    exact h H enc w base spare held fuel _ x.1 x.2 hf h0 (fun m hm => hw m (by simpa [DataW.weightsEach] using hm))
theorem rd_cons {n : Nat} {P : Program} {f : Field} {fs : List Field} {off : Nat} {α β : Type} {d : Kd α} {e : Kd β} {ok : α → Prop} {ok' : β → Prop} (ho : f.offset = off) (hc : P.cellsOf f.type = d.sz) (h : RdN n P f.type d ok) (hr : RdF n P fs (off + d.sz) e ok') :
    RdF n P (f :: fs) off (Kd.pair d e) (fun x => ok x.1 ∧ ok' x.2) := by
  intro H enc w base spare held fuel cs xs hf hl hx ht hw
  match xs, hx with
  | x :: xs, hx =>
    have h0 := ht 0 f rfl
    rw [ho, hc] at h0
    obtain ⟨a, ha, oka⟩ := h H enc w base spare held fuel _ x.1 x.2 hf h0 (fun m hm => hw m (by simp [DataW.weightsEach]; exact Or.inl hm))
    have hl' : cs.length = off + d.sz + e.sz := by rw [hl]; show off + (d.sz + e.sz) = _; omega
    obtain ⟨b, hb, okb⟩ := hr H enc w base spare held fuel cs xs hf hl' (by simpa using hx) (fun i g hg => by have := ht (i + 1) g (by simpa using hg); simpa using this) (fun m hm => hw m (by simp [DataW.weightsEach]; exact Or.inr hm))
    refine ⟨(a, b), ⟨(cs.drop off).take d.sz, cs.drop (off + d.sz), ?_, ha, hb⟩, oka, okb⟩
    rw [← List.drop_drop, List.take_append_drop]
theorem rd_struct {n : Nat} {P : Program} {t : TypeId} {fs : Array Field} {α : Type} {d : Kd α} {ok : α → Prop} (ht : P.underlying t = some (.struct fs)) (hc : P.cellsOf t = d.sz) (h : RdF n P fs.toList 0 d ok) : RdN (n + 1) P t d ok := by
  intro H enc w base spare held fuel cs x ps hf hx hw
  obtain ⟨xs, m, hm, hd, hl, hxl, hel⟩ := DataW.trod_struct ht hx
  obtain ⟨hd1, _⟩ := Prod.mk.inj hd
  subst hd1
  have := h H enc w base spare held m cs xs (by omega) (by rw [hl, hc]; omega) (by simpa using hxl) (fun i f hi => hel i f (by simpa using hi)) (fun q hq => hw q (by simpa [DataW.weights, ht] using hq))
  simpa using this
theorem rd_iso {n : Nat} {P : Program} {t : TypeId} {α β : Type} {d : Kd α} {ok : α → Prop} {f : β → α} {g : α → β} (hfg : ∀ x, f (g x) = x) (h : RdN n P t d ok) : RdN n P t (Kd.iso d f) (fun x => ok (f x)) := by
  intro H enc w base spare held fuel cs x ps hf hx hw
  obtain ⟨a, h1, h2⟩ := h H enc w base spare held fuel cs x ps hf hx hw
  exact ⟨g a, by show d.K w (f (g a)) cs; rw [hfg]; exact h1, by show ok (f (g a)); rw [hfg]; exact h2⟩
theorem rd_zero {P : Program} {t : TypeId} {α : Type} {d : Kd α} {ok : α → Prop} : RdN 0 P t d ok := by
  intro H enc w base spare held fuel cs x ps hf hx hw
  obtain rfl : fuel = 0 := by omega
  simp [DataW.trod] at hx
end Go.Proofs.YtdnneofebehpaaaGreatDoorRd
