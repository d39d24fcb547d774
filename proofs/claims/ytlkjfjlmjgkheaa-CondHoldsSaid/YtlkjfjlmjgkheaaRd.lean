/- Readings: what the row's form reads as data is of the printed kinds; lengths and numbers are in their bounds. (Plain lemmas of this session.) -/
import Derived.Test.YtlkjfjlmjgkheaaWWords
import Derived.SizedLaws
import Derived.ChangeArms
import Derived.Deep.Slices
namespace Go.Proofs.YtlkjfjlmjgkheaaRd
open Go.Proofs.YtlkjfjlmjgkheaaW.PrintWords
set_option linter.unusedVariables false
def RdN (n : Nat) (P : Program) (t : TypeId) {α : Type} (d : Kd α) (ok : α → Prop) : Prop :=
  ∀ (H : Type) (enc : TypeId × Value → H) (w : World) (base : Nat) (spare : Nat → Bool) (held : Bool) (fuel : Nat) (cs : List Value) (x : DataW H) (ps : List MemPlace), fuel ≤ n →
    DataW.trod enc P w base spare held fuel t cs = some (x, ps) → (∀ m ∈ x.weights P t, m ≤ reachBytes) → ∃ a, d.K w a cs ∧ ok a
theorem RdN.mono {n : Nat} {P : Program} {t : TypeId} {α : Type} {d : Kd α} {ok ok' : α → Prop} (h : RdN n P t d ok) (ho : ∀ x, ok x → ok' x) : RdN n P t d ok' := by
  intro H enc w base spare held fuel cs x ps hf hx hw
  obtain ⟨a, h1, h2⟩ := h H enc w base spare held fuel cs x ps hf hx hw
  exact ⟨a, h1, ho a h2⟩
theorem rd_int {P : Program} {t : TypeId} {k : IntKind} (ht : P.underlying t = some (.int k)) (n : Nat) : RdN n P t (Kd.int k) (fun a => (Lit.int k a).wf = true) := by
  intro H enc w base spare held fuel cs x ps hf hx hw
  obtain ⟨a, rfl, _, ha⟩ := DataW.trod_int ht hx
  exact ⟨a, rfl, ha⟩
theorem rd_bool {P : Program} {t : TypeId} (ht : P.underlying t = some .bool) (n : Nat) : RdN n P t Kd.bool (fun _ => True) := by
  intro H enc w base spare held fuel cs x ps hf hx hw
  obtain ⟨a, rfl, _⟩ := DataW.trod_bool ht hx
  exact ⟨a, rfl, trivial⟩
theorem weights_all_mem {H : Type} {P : Program} {e : TypeId} : ∀ {l : List (DataW H)} {d : DataW H}, d ∈ l → ∀ m ∈ d.weights P e, m ∈ DataW.weightsAll P e l
  | x :: l, d, h, m, hm => by
    simp only [DataW.weightsAll, List.mem_append]
    rcases List.mem_cons.1 h with rfl | h
    · exact Or.inl hm
    · exact Or.inr (weights_all_mem h m hm)
theorem rd_slice {P : Program} {t e : TypeId} {α : Type} {d : Kd α} {ok : α → Prop} {n : Nat} (ht : P.underlying t = some (.slice e)) (hc : P.cellsOf e = d.sz) {B : Nat} (hB : P.bytesOf e = B) (h : RdN n P e d ok) :
    RdN (n + 1) P t (Kd.slice e d) (fun xs => xs.length * B ≤ 140737488351232 ∧ ∀ x ∈ xs, ok x) := by
  intro H enc w base spare held fuel cs x ps hf hx hw
  rcases DataW.trod_slice ht hx with ⟨rfl, h0⟩ | ⟨a, len, cap, elems, rest, m, hm, rfl, hd, hb, hl, hmx, hlen, hel, hsp, hns⟩
  · refine ⟨[], ⟨none, 0, rfl, Nat.le_refl _, rfl, by simp, fun h => absurd h (by simp)⟩, by simp, by simp⟩
  · obtain ⟨hd1, _⟩ := Prod.mk.inj hd
    subst hd1
    have hwt : (elems.length + rest.length) * B ≤ reachBytes := by
      have := hw ((elems.length + rest.length) * P.bytesOf e) (by simp [DataW.weights, ht])
      rwa [hB] at this
    have hx : ∀ i, i < len → ∃ (y : α) (c : List Value), w.cells? base (a.add (i * d.sz)) d.sz = some c ∧ d.K w y c ∧ ok y := by
      intro i hi
      have hk := hel i hi
      rw [List.getElem?_eq_getElem (by omega)] at hk
      obtain ⟨c, h1, h2⟩ := Option.bind_eq_some_iff.1 hk
      rw [hc] at h1
      obtain ⟨y, hy, ho⟩ := h H enc w base spare held m c elems[i].1 elems[i].2 (by omega) h2 (fun q hq => hw q (by
        simp only [DataW.weights, ht, List.mem_cons, List.mem_append]
        exact Or.inr (Or.inl (weights_all_mem (l := elems.map (·.1)) (List.mem_map.2 ⟨elems[i], List.getElem_mem _, rfl⟩) q hq))))
      exact ⟨y, c, h1, hy, ho⟩
    rcases Nat.eq_zero_or_pos len with h0 | h0
    · subst h0
      exact ⟨[], ⟨some a, cap, rfl, Nat.zero_le _, rfl, by simp, fun h => absurd h (by simp)⟩, by simp, by simp⟩
    · have hne : Nonempty α := by obtain ⟨y, _⟩ := hx 0 h0; exact ⟨y⟩
      have hin : Inhabited α := Classical.inhabited_of_nonempty hne
      obtain ⟨f, hfx⟩ := Deep.choose_lt (p := fun i (y : α) => ∃ c, w.cells? base (a.add (i * d.sz)) d.sz = some c ∧ d.K w y c ∧ ok y) hx
      refine ⟨(List.range len).map f, ⟨some a, cap, by simp, by simpa using hl, by simp, ?_, fun _ => ⟨a, rfl, ?_⟩⟩, ?_, ?_⟩
      · simp only [maxLen] at hmx
        simp
        omega
      · intro j p hj
        have hjl : j < len := by
          have := (List.getElem?_eq_some_iff.1 hj).1
          simpa using this
        have hp : f j = p := by
          rw [List.getElem?_map, List.getElem?_range hjl] at hj
          simpa using hj
        subst hp
        obtain ⟨c, h1, h2, _⟩ := hfx j hjl
        obtain ⟨_, hcl, hcell⟩ := World.cells?_some h1
        refine ⟨c, hcl, h2, fun i u hu => ?_⟩
        have hil : i < d.sz := by rw [← hcl]; exact (List.getElem?_eq_some_iff.1 hu).1
        have := hcell i hil
        rw [Deep.add_add] at this
        rw [this]
        exact hu
      · have : len * B ≤ (elems.length + rest.length) * B := Nat.mul_le_mul_right _ (by omega)
        simp only [List.length_map, List.length_range]
        simp only [reachBytes] at hwt
        omega
      · intro x hx
        obtain ⟨i, hi, rfl⟩ := List.mem_map.1 hx
        obtain ⟨c, _, _, ho⟩ := hfx i (by simpa using hi)
        exact ho
def RdF (n : Nat) (P : Program) (fs : List Field) (off : Nat) {α : Type} (d : Kd α) (ok : α → Prop) : Prop :=
  ∀ (H : Type) (enc : TypeId × Value → H) (w : World) (base : Nat) (spare : Nat → Bool) (held : Bool) (fuel : Nat) (cs : List Value) (xs : List (DataW H × List MemPlace)), fuel ≤ n → cs.length = off + d.sz → xs.length = fs.length →
    (∀ (i : Nat) (f : Field), fs[i]? = some f → DataW.trod enc P w base spare held fuel f.type ((cs.drop f.offset).take (P.cellsOf f.type)) = xs[i]?) → (∀ m ∈ DataW.weightsEach P (fs.map (·.type)) (xs.map (·.1)), m ≤ reachBytes) → ∃ a, d.K w a (cs.drop off) ∧ ok a
theorem rd_last {n : Nat} {P : Program} {f : Field} {off : Nat} {α : Type} {d : Kd α} {ok : α → Prop} (ho : f.offset = off) (hc : P.cellsOf f.type = d.sz) (h : RdN n P f.type d ok) : RdF n P [f] off d ok := by
  intro H enc w base spare held fuel cs xs hf hl hx ht hw
  match xs, hx with
  | [x], _ =>
    have h0 := ht 0 f rfl
    rw [ho, hc, List.take_of_length_le (by rw [List.length_drop]; omega)] at h0
    exact h H enc w base spare held fuel _ x.1 x.2 hf h0 (fun m hm => hw m (by simpa [DataW.weightsEach] using hm))
theorem rd_cons {n : Nat} {P : Program} {f : Field} {fs : List Field} {off : Nat} {α β : Type} {d : Kd α} {e : Kd β} {ok : α → Prop} {ok' : β → Prop} (ho : f.offset = off) (hc : P.cellsOf f.type = d.sz) (h : RdN n P f.type d ok) (hr : RdF n P fs (off + d.sz) e ok') :
    RdF n P (f :: fs) off (Kd.pair d e) (fun x => ok x.1 ∧ ok' x.2) := by
  intro H enc w base spare held fuel cs xs hf hl hx ht hw
  match xs, hx with
  | x :: xs, hx =>
    have h0 := ht 0 f rfl
    rw [ho, hc] at h0
    obtain ⟨a, ha, oka⟩ := h H enc w base spare held fuel _ x.1 x.2 hf h0 (fun m hm => hw m (by simp [DataW.weightsEach]; exact Or.inl hm))
    have hl' : cs.length = off + d.sz + e.sz := by rw [hl]; show off + (d.sz + e.sz) = _; omega
    obtain ⟨b, hb, okb⟩ := hr H enc w base spare held fuel cs xs hf hl' (by simpa using hx) (fun i g hg => by have := ht (i + 1) g (by simpa using hg); simpa using this) (fun m hm => hw m (by simp [DataW.weightsEach]; exact Or.inr hm))
    refine ⟨(a, b), ⟨(cs.drop off).take d.sz, cs.drop (off + d.sz), ?_, ha, hb⟩, oka, okb⟩
    rw [← List.drop_drop, List.take_append_drop]
theorem rd_struct {n : Nat} {P : Program} {t : TypeId} {fs : Array Field} {α : Type} {d : Kd α} {ok : α → Prop} (ht : P.underlying t = some (.struct fs)) (hc : P.cellsOf t = d.sz) (h : RdF n P fs.toList 0 d ok) : RdN (n + 1) P t d ok := by
  intro H enc w base spare held fuel cs x ps hf hx hw
  obtain ⟨xs, m, hm, hd, hl, hxl, hel⟩ := DataW.trod_struct ht hx
  obtain ⟨hd1, _⟩ := Prod.mk.inj hd
  subst hd1
  have := h H enc w base spare held m cs xs (by omega) (by rw [hl, hc]; omega) (by simpa using hxl) (fun i f hi => hel i f (by simpa using hi)) (fun q hq => hw q (by simpa [DataW.weights, ht] using hq))
  simpa using this
theorem rd_iso {n : Nat} {P : Program} {t : TypeId} {α β : Type} {d : Kd α} {ok : α → Prop} {f : β → α} {g : α → β} (hfg : ∀ x, f (g x) = x) (h : RdN n P t d ok) : RdN n P t (Kd.iso d f) (fun x => ok (f x)) := by
  intro H enc w base spare held fuel cs x ps hf hx hw
  obtain ⟨a, h1, h2⟩ := h H enc w base spare held fuel cs x ps hf hx hw
  exact ⟨g a, by show d.K w (f (g a)) cs; rw [hfg]; exact h1, by show ok (f (g a)); rw [hfg]; exact h2⟩
theorem rd_zero {P : Program} {t : TypeId} {α : Type} {d : Kd α} {ok : α → Prop} : RdN 0 P t d ok := by
  intro H enc w base spare held fuel cs x ps hf hx hw
  obtain rfl : fuel = 0 := by omega
  simp [DataW.trod] at hx
theorem rd_le {n m : Nat} {P : Program} {t : TypeId} {α : Type} {d : Kd α} {ok : α → Prop} (h : RdN m P t d ok) (hn : n ≤ m) : RdN n P t d ok := by
  intro H enc w base spare held fuel cs x ps hf hx hw
  exact h H enc w base spare held fuel cs x ps (by omega) hx hw
end Go.Proofs.YtlkjfjlmjgkheaaRd
