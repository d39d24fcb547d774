/- Of what is read: its numbers are of their kinds, its lists and strings within the reach (laid by wip/tools/rowgen.py). -/
import Derived.Test.YtlkjfjlmjgkheaaHx0
import Derived.Test.YtlkjfjlmjgkheaaRd
namespace Go.Proofs.Ytlkjfjlmjgkheaa.H
open Go.RowKit Go.Proofs.YtlkjfjlmjgkheaaW.PrintWords Go.Proofs.YtlkjfjlmjgkheaaW.PrintLast Go.Proofs.YtlkjfjlmjgkheaaRd Go.Proofs.Ytlkjfjlmjgkheaa.H
set_option linter.unusedVariables false
def ok48 (x : S48) : Prop := (fun a : Int => (Lit.int .u32 a).wf = true) x.f0 ∧ (fun a : Int => (Lit.int .i64 a).wf = true) x.f1
theorem rd48 (n : Nat) : RdN n Try.prog 48 k48 ok48 := by
  cases n with
  | zero => exact rd_zero
  | succ n => exact RdN.mono (rd_iso (g := fun p => ⟨p.1, p.2⟩) (fun _ => rfl) (rd_struct Try.underlying48 (by kernel_rfl) (rd_cons (by first | rfl | decide) (by kernel_rfl) (rd_int Try.underlying36 n) (rd_last (by first | rfl | decide) (by kernel_rfl) (rd_int Try.underlying3 n))))) (fun _ h => h)
def ok81 (x : S81) : Prop := ok48 x.f0 ∧ (fun a : Int => (Lit.int .i64 a).wf = true) x.f1 ∧ (fun a : Int => (Lit.int .i64 a).wf = true) x.f2
theorem rd81 (n : Nat) : RdN n Try.prog 81 k81 ok81 := by
  cases n with
  | zero => exact rd_zero
  | succ n => exact RdN.mono (rd_iso (g := fun p => ⟨p.1, p.2.1, p.2.2⟩) (fun _ => rfl) (rd_struct Try.underlying81 (by kernel_rfl) (rd_cons (by first | rfl | decide) (by kernel_rfl) (rd48 n) (rd_cons (by first | rfl | decide) (by kernel_rfl) (rd_int Try.underlying3 n) (rd_last (by first | rfl | decide) (by kernel_rfl) (rd_int Try.underlying3 n)))))) (fun _ h => h)
def ok83 (x : S83) : Prop := (fun _ : Bool => True) x.f0 ∧ ok81 x.f1
theorem rd83 (n : Nat) : RdN n Try.prog 83 k83 ok83 := by
  cases n with
  | zero => exact rd_zero
  | succ n => exact RdN.mono (rd_iso (g := fun p => ⟨p.1, p.2⟩) (fun _ => rfl) (rd_struct Try.underlying83 (by kernel_rfl) (rd_cons (by first | rfl | decide) (by kernel_rfl) (rd_bool Try.underlying4 n) (rd_last (by first | rfl | decide) (by kernel_rfl) (rd81 n))))) (fun _ h => h)
def ok66 (x : S66) : Prop := (fun a : Int => (Lit.int .u32 a).wf = true) x.f0 ∧ (fun a : Int => (Lit.int .u32 a).wf = true) x.f1
theorem rd66 (n : Nat) : RdN n Try.prog 66 k66 ok66 := by
  cases n with
  | zero => exact rd_zero
  | succ n => exact RdN.mono (rd_iso (g := fun p => ⟨p.1, p.2⟩) (fun _ => rfl) (rd_struct Try.underlying66 (by kernel_rfl) (rd_cons (by first | rfl | decide) (by kernel_rfl) (rd_int Try.underlying36 n) (rd_last (by first | rfl | decide) (by kernel_rfl) (rd_int Try.underlying36 n))))) (fun _ h => h)
mutual
def ok25 : S25 → Prop
  | ⟨f0, f1, f2⟩ => (fun a : Int => (Lit.int .i64 a).wf = true) f0 ∧ (fun xs : List (S66) => xs.length * 8 ≤ 140737488351232 ∧ ∀ x ∈ xs, ok66 x) f1 ∧ (f2.length * 56 ≤ 140737488351232 ∧ ok25s f2)
def ok25s : List S25 → Prop
  | [] => True
  | x :: xs => ok25 x ∧ ok25s xs
end
theorem ok25s_of {xs : List S25} (h : ∀ x ∈ xs, ok25 x) : ok25s xs := by
  induction xs with
  | nil => simp [ok25s]
  | cons x xs ih => rw [ok25s]; exact ⟨h x (by simp), ih (fun y hy => h y (by simp [hy]))⟩
theorem ok25s_mem {xs : List S25} (h : ok25s xs) : ∀ x ∈ xs, ok25 x := by
  induction xs with
  | nil => simp
  | cons x xs ih =>
    rw [ok25s] at h
    intro y hy
    rcases List.mem_cons.1 hy with rfl | hy
    · exact h.1
    · exact ih h.2 y hy
theorem fold25 {w : World} {x : S25} {cs : List Value} (h : (F25 k25).K w x cs) : k25.K w x cs := by
  obtain ⟨_, _, rfl, rfl, ⟨_, _, rfl, ⟨A1, c1, rfl, l1, g1⟩, ⟨A2, c2, rfl, l2, g2⟩⟩⟩ := h
  exact k25_mk w x l1 g1 l2 g2
theorem rd25 (n : Nat) : RdN n Try.prog 25 k25 ok25 := by
  induction n with
  | zero => exact rd_zero
  | succ n ih =>
    have h := (rd_iso (g := fun p => ⟨p.1, p.2.1, p.2.2⟩) (f := fun x : S25 => (x.f0, x.f1, x.f2)) (fun _ => rfl) (rd_struct Try.underlying25 (by kernel_rfl) (rd_cons (by first | rfl | decide) (by kernel_rfl) (rd_int Try.underlying3 n) (rd_cons (by first | rfl | decide) (by kernel_rfl) (rd_le (rd_slice Try.underlying22 (by kernel_rfl) (by kernel_rfl : Try.prog.bytesOf 66 = 8) (rd66 n)) (Nat.le_succ n)) (rd_last (by first | rfl | decide) (by kernel_rfl) (rd_le (rd_slice Try.underlying23 (by kernel_rfl) (by kernel_rfl : Try.prog.bytesOf 25 = 56) ih) (Nat.le_succ n)))))))
    intro H enc w base spare held fuel cs x ps hf hx hw
    obtain ⟨a, h1, h2⟩ := h H enc w base spare held fuel cs x ps hf hx hw
    refine ⟨a, fold25 h1, ?_⟩
    obtain ⟨f0, f1, f2⟩ := a
    rw [ok25]
    exact ⟨h2.1, h2.2.1, ⟨(h2.2.2).1, ok25s_of (h2.2.2).2⟩⟩
def ok61 (x : S61) : Prop := (fun _ : Bool => True) x.f0 ∧ ok25 x.f1
theorem rd61 (n : Nat) : RdN n Try.prog 61 k61 ok61 := by
  cases n with
  | zero => exact rd_zero
  | succ n => exact RdN.mono (rd_iso (g := fun p => ⟨p.1, p.2⟩) (fun _ => rfl) (rd_struct Try.underlying61 (by kernel_rfl) (rd_cons (by first | rfl | decide) (by kernel_rfl) (rd_bool Try.underlying4 n) (rd_last (by first | rfl | decide) (by kernel_rfl) (rd25 n))))) (fun _ h => h)
def ok76 (x : S76) : Prop := (fun a : Int => (Lit.int .u32 a).wf = true) x.f0 ∧ (fun a : Int => (Lit.int .u32 a).wf = true) x.f1
theorem rd76 (n : Nat) : RdN n Try.prog 76 k76 ok76 := by
  cases n with
  | zero => exact rd_zero
  | succ n => exact RdN.mono (rd_iso (g := fun p => ⟨p.1, p.2⟩) (fun _ => rfl) (rd_struct Try.underlying76 (by kernel_rfl) (rd_cons (by first | rfl | decide) (by kernel_rfl) (rd_int Try.underlying36 n) (rd_last (by first | rfl | decide) (by kernel_rfl) (rd_int Try.underlying36 n))))) (fun _ h => h)
def ok64 (x : S64) : Prop := (fun _ : Bool => True) x.f0 ∧ (fun xs : List (S76) => xs.length * 8 ≤ 140737488351232 ∧ ∀ x ∈ xs, ok76 x) x.f1
theorem rd64 (n : Nat) : RdN n Try.prog 64 k64 ok64 := by
  cases n with
  | zero => exact rd_zero
  | succ n => exact RdN.mono (rd_iso (g := fun p => ⟨p.1, p.2⟩) (fun _ => rfl) (rd_struct Try.underlying64 (by kernel_rfl) (rd_cons (by first | rfl | decide) (by kernel_rfl) (rd_bool Try.underlying4 n) (rd_last (by first | rfl | decide) (by kernel_rfl) (rd_le (rd_slice Try.underlying62 (by kernel_rfl) (by kernel_rfl : Try.prog.bytesOf 76 = 8) (rd76 n)) (Nat.le_succ n)))))) (fun _ h => h)
def ok46 (x : S46) : Prop := (fun a : Int => (Lit.int .i64 a).wf = true) x.f0 ∧ (fun xs : List (S83) => xs.length * 40 ≤ 140737488351232 ∧ ∀ x ∈ xs, ok83 x) x.f1 ∧ (fun xs : List (S61) => xs.length * 64 ≤ 140737488351232 ∧ ∀ x ∈ xs, ok61 x) x.f2 ∧ (fun xs : List (S64) => xs.length * 32 ≤ 140737488351232 ∧ ∀ x ∈ xs, ok64 x) x.f3 ∧ (fun a : Int => (Lit.int .u32 a).wf = true) x.f4 ∧ (fun a : Int => (Lit.int .u32 a).wf = true) x.f5
theorem rd46 (n : Nat) : RdN n Try.prog 46 k46 ok46 := by
  cases n with
  | zero => exact rd_zero
  | succ n => exact RdN.mono (rd_iso (g := fun p => ⟨p.1, p.2.1, p.2.2.1, p.2.2.2.1, p.2.2.2.2.1, p.2.2.2.2.2⟩) (fun _ => rfl) (rd_struct Try.underlying46 (by kernel_rfl) (rd_cons (by first | rfl | decide) (by kernel_rfl) (rd_int Try.underlying3 n) (rd_cons (by first | rfl | decide) (by kernel_rfl) (rd_le (rd_slice Try.underlying42 (by kernel_rfl) (by kernel_rfl : Try.prog.bytesOf 83 = 40) (rd83 n)) (Nat.le_succ n)) (rd_cons (by first | rfl | decide) (by kernel_rfl) (rd_le (rd_slice Try.underlying43 (by kernel_rfl) (by kernel_rfl : Try.prog.bytesOf 61 = 64) (rd61 n)) (Nat.le_succ n)) (rd_cons (by first | rfl | decide) (by kernel_rfl) (rd_le (rd_slice Try.underlying44 (by kernel_rfl) (by kernel_rfl : Try.prog.bytesOf 64 = 32) (rd64 n)) (Nat.le_succ n)) (rd_cons (by first | rfl | decide) (by kernel_rfl) (rd_int Try.underlying36 n) (rd_last (by first | rfl | decide) (by kernel_rfl) (rd_int Try.underlying36 n))))))))) (fun _ h => h)
def ok50 (x : S50) : Prop := ok48 x.f0 ∧ (fun xs : List Int => xs.length * 4 ≤ 140737488351232 ∧ ∀ x ∈ xs, (fun a : Int => (Lit.int .u32 a).wf = true) x) x.f1 ∧ (fun xs : List Int => xs.length * 4 ≤ 140737488351232 ∧ ∀ x ∈ xs, (fun a : Int => (Lit.int .u32 a).wf = true) x) x.f2 ∧ (fun a : Int => (Lit.int .u32 a).wf = true) x.f3 ∧ (fun a : Int => (Lit.int .u32 a).wf = true) x.f4 ∧ (fun a : Int => (Lit.int .i64 a).wf = true) x.f5 ∧ (fun a : Int => (Lit.int .u32 a).wf = true) x.f6
theorem rd50 (n : Nat) : RdN n Try.prog 50 k50 ok50 := by
  cases n with
  | zero => exact rd_zero
  | succ n => exact RdN.mono (rd_iso (g := fun p => ⟨p.1, p.2.1, p.2.2.1, p.2.2.2.1, p.2.2.2.2.1, p.2.2.2.2.2.1, p.2.2.2.2.2.2⟩) (fun _ => rfl) (rd_struct Try.underlying50 (by kernel_rfl) (rd_cons (by first | rfl | decide) (by kernel_rfl) (rd48 n) (rd_cons (by first | rfl | decide) (by kernel_rfl) (rd_le (rd_slice Try.underlying26 (by kernel_rfl) (by kernel_rfl : Try.prog.bytesOf 36 = 4) (rd_int Try.underlying36 n)) (Nat.le_succ n)) (rd_cons (by first | rfl | decide) (by kernel_rfl) (rd_le (rd_slice Try.underlying26 (by kernel_rfl) (by kernel_rfl : Try.prog.bytesOf 36 = 4) (rd_int Try.underlying36 n)) (Nat.le_succ n)) (rd_cons (by first | rfl | decide) (by kernel_rfl) (rd_int Try.underlying36 n) (rd_cons (by first | rfl | decide) (by kernel_rfl) (rd_int Try.underlying36 n) (rd_cons (by first | rfl | decide) (by kernel_rfl) (rd_int Try.underlying3 n) (rd_last (by first | rfl | decide) (by kernel_rfl) (rd_int Try.underlying36 n)))))))))) (fun _ h => h)
end Go.Proofs.Ytlkjfjlmjgkheaa.H
