/- Readings: what the row's form reads as data is of the printed kinds; lengths and numbers are in their bounds. (Plain lemmas of this session.) -/
import Derived.Test.YtdnneofebehpaaaDoorWWords
import Derived.SizedLaws
import Derived.ChangeArms
import Derived.Deep.Slices
namespace Go.Proofs.YtdnneofebehpaaaDoorRd
open Go.Proofs.YtdnneofebehpaaaDoorW.PrintWords
set_option linter.unusedVariables false
def RdN (n : Nat) (P : Program) (t : TypeId) {α : Type} (d : Kd α) (ok : α → Prop) : Prop :=
  ∀ (H : Type) (enc : TypeId × Value → H) (w : World) (base : Nat) (spare : Nat → Bool) (held : Bool) (fuel : Nat) (cs : List Value) (x : DataW H) (ps : List MemPlace), fuel ≤ n →
    DataW.trod enc P w base spare held fuel t cs = some (x, ps) → (∀ m ∈ x.weights P t, m ≤ reachBytes) → ∃ a, d.K w a cs ∧ ok a
theorem RdN.mono {n : Nat} {P : Program} {t : TypeId} {α : Type} {d : Kd α} {ok ok' : α → Prop} (h : RdN n P t d ok) (ho : ∀ x, ok x → ok' x) : RdN n P t d ok' := by
  intro H enc w base spare held fuel cs x ps hf hx hw
  obtain ⟨a, h1, h2⟩ := h H enc w base spare held fuel cs x ps hf hx hw
  exact ⟨a, h1, ho a h2⟩
theorem rd_bool {P : Program} {t : TypeId} (ht : P.underlying t = some .bool) (n : Nat) : RdN n P t Kd.bool (fun _ => True) := by
  intro H enc w base spare held fuel cs x ps hf hx hw
  obtain ⟨a, rfl, _⟩ := DataW.trod_bool ht hx
  exact ⟨a, rfl, trivial⟩
theorem rd_string {P : Program} {t : TypeId} (ht : P.underlying t = some .string) (n : Nat) : RdN n P t Kd.string (fun a => a.size ≤ 140737488351232) := by
  intro H enc w base spare held fuel cs x ps hf hx hw
  obtain ⟨a, rfl, hd, ha⟩ := DataW.trod_string ht hx
  obtain ⟨rfl, _⟩ := Prod.mk.inj hd
  refine ⟨a, rfl, ?_⟩
  have := hw a.data.toList.length (by simp [DataW.weights])
  rw [data_length] at this
  exact this
theorem weights_all_mem {H : Type} {P : Program} {e : TypeId} : ∀ {l : List (DataW H)} {d : DataW H}, d ∈ l → ∀ m ∈ d.weights P e, m ∈ DataW.weightsAll P e l
  | x :: l, d, h, m, hm => by
    simp only [DataW.weightsAll, List.mem_append]
    rcases List.mem_cons.1 h with rfl | h
    · exact Or.inl hm
    · exact Or.inr (weights_all_mem h m hm)
theorem rd_slice {P : Program} {t e : TypeId} {α : Type} {d : Kd α} {ok : α → Prop} {n : Nat} (ht : P.underlying t = some (.slice e)) (hc : P.cellsOf e = d.sz) {B : Nat} (hB : P.bytesOf e = B) (h : RdN n P e d ok) :
    RdN (n + 1) P t (Kd.slice e d) (fun xs => xs.length * B ≤ 140737488351232 ∧ ∀ x ∈ xs, ok x) := by
  intro H enc w base spare held fuel cs x ps hf hx hw
  rcases DataW.trod_slice ht hx with ⟨rfl, h0⟩ | ⟨a, len, cap, elems, rest, m, hm, rfl, hd, hb, hl, hmx, hlen, hel, hsp, hns⟩
  · refine ⟨[], ⟨none, 0, rfl, Nat.le_refl _, rfl, by simp, fun h => absurd h (by simp)⟩, by simp, by simp⟩
  · obtain ⟨hd1, _⟩ := Prod.mk.inj hd
    subst hd1
    have hwt : (elems.length + rest.length) * B ≤ reachBytes := by
      have := hw ((elems.length + rest.length) * P.bytesOf e) (by simp [DataW.weights, ht])
      rwa [hB] at this
    have hx : ∀ i, i < len → ∃ (y : α) (c : List Value), w.cells? base (a.add (i * d.sz)) d.sz = some c ∧ d.K w y c ∧ ok y := by
      intro i hi
      have hk := hel i hi
      rw [List.getElem?_eq_getElem (by omega)] at hk
      obtain ⟨c, h1, h2⟩ := Option.bind_eq_some_iff.1 hk
      rw [hc] at h1
      obtain ⟨y, hy, ho⟩ := h H enc w base spare held m c elems[i].1 elems[i].2 (by omega) h2 (fun q hq => hw q (by
        simp only [DataW.weights, ht, List.mem_cons, List.mem_append]
        exact Or.inr (Or.inl (weights_all_mem (l := elems.map (·.1)) (List.mem_map.2 ⟨elems[i], List.getElem_mem _, rfl⟩) q hq))))
      exact ⟨y, c, h1, hy, ho⟩
    rcases Nat.eq_zero_or_pos len with h0 | h0
    · subst h0
      exact ⟨[], ⟨some a, cap, rfl, Nat.zero_le _, rfl, by simp, fun h => absurd h (by simp)⟩, by simp, by simp⟩
    · have hne : Nonempty α := by obtain ⟨y, _⟩ := hx 0 h0; exact ⟨y⟩
      have hin : Inhabited α := Classical.inhabited_of_nonempty hne
      obtain ⟨f, hfx⟩ := Deep.choose_lt (p := fun i (y : α) => ∃ c, w.cells? base (a.add (i * d.sz)) d.sz = some c ∧ d.K w y c ∧ ok y) hx
      refine ⟨(List.range len).map f, ⟨some a, cap, by simp, by simpa using hl, by simp, ?_, fun _ => ⟨a, rfl, ?_⟩⟩, ?_, ?_⟩
      · simp only [maxLen] at hmx
        simp
        omega
      · intro j p hj
        have hjl : j < len := by
          have := (List.getElem?_eq_some_iff.1 hj).1
          simpa using this
        have hp : f j = p := by
          rw [List.getElem?_map, List.getElem?_range hjl] at hj
          simpa using hj
        subst hp
        obtain ⟨c, h1, h2, _⟩ := hfx j hjl
        obtain ⟨_, hcl, hcell⟩ := World.cells?_some h1
        refine ⟨c, hcl, h2, fun i u hu => ?_⟩
        have hil : i < d.sz := by rw [← hcl]; exact (List.getElem?_eq_some_iff.1 hu).1
        have := hcell i hil
        rw [Deep.add_add] at this
        rw [this]
        exact hu
      · have : len * B ≤ (elems.length + rest.length) * B := Nat.mul_le_mul_right _ (by omega)
        simp only [List.length_map, List.length_range]
        simp only [reachBytes] at hwt
        omega
      · intro x hx
        obtain ⟨i, hi, rfl⟩ := List.mem_map.1 hx
        obtain ⟨c, _, _, ho⟩ := hfx i (by simpa using hi)
        exact ho
theorem rd_le {n m : Nat} {P : Program} {t : TypeId} {α : Type} {d : Kd α} {ok : α → Prop} (h : RdN m P t d ok) (hn : n ≤ m) : RdN n P t d ok := by
  intro H enc w base spare held fuel cs x ps hf hx hw
  exact h H enc w base spare held fuel cs x ps (by omega) hx hw
end Go.Proofs.YtdnneofebehpaaaDoorRd
