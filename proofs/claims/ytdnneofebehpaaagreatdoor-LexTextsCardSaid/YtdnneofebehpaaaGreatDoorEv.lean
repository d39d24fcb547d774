/- Plain lemmas on 'from some number of rounds on', lists read by whole numbers, wraps. -/
import Derived.Test.YtdnneofebehpaaaGreatDoorLx0
namespace Go.Proofs.YtdnneofebehpaaaGreatDoor.L
open Go.RowKit Go.Proofs.YtdnneofebehpaaaGreatDoorW.PrintWords Go.Proofs.YtdnneofebehpaaaGreatDoorW.PrintLast Go.Proofs.YtdnneofebehpaaaGreatDoorW.PrintMore
theorem Ev.ite_pos {α : Type} {c : Prop} [Decidable c] {A B : Nat → Option α} {r : α} (h : c) (e : Ev A r) : Ev (fun k => if c then A k else B k) r := by
  simpa only [if_pos h] using e
theorem Ev.ite_neg {α : Type} {c : Prop} [Decidable c] {A B : Nat → Option α} {r : α} (h : ¬ c) (e : Ev B r) : Ev (fun k => if c then A k else B k) r := by
  simpa only [if_neg h] using e
theorem Ev.bind1 {α β : Type} {g : Nat → Option α} {f : Nat → α → Option β} {r : β} (a : α) (h : Ev g a) (k : Ev (fun n => f n a) r) : Ev (fun n => (g n).bind (f n)) r := Ev.bind h k
theorem Ev.some {α β : Type} {f : Nat → α → Option β} {a : α} {r : β} (k : Ev (fun n => f n a) r) : Ev (fun n => (some a).bind (f n)) r := k
theorem w64 {i : Int} (h : -9223372036854775808 ≤ i) (h' : i ≤ 9223372036854775807) : wrap64 i = i := by
  unfold wrap64; omega
theorem w64s (j : Nat) (h : j < 9223372036854775807) : wrap64 ((j : Int) + 1) = ((j + 1 : Nat) : Int) := by
  rw [w64 (by omega) (by omega)]; omega
theorem dropc {α : Type} (xs : List α) (j : Nat) (h : j < xs.length) : xs.drop j = xs[j] :: xs.drop (j + 1) := List.drop_eq_getElem_cons h
theorem mx_eq (a b : Int) : mx a b = max a b := by unfold mx; omega
theorem mn_eq (a b : Int) : mn a b = min a b := by unfold mn; omega
end Go.Proofs.YtdnneofebehpaaaGreatDoor.L
