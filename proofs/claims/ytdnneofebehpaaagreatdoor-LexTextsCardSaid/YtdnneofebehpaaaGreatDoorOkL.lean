/- Of what is read: its numbers are of their kinds, its lists and strings within the reach (laid by wip/tools/rowgen.py). -/
import Derived.Test.YtdnneofebehpaaaGreatDoorLx0
import Derived.Test.YtdnneofebehpaaaGreatDoorRd
namespace Go.Proofs.YtdnneofebehpaaaGreatDoor.L
open Go.RowKit Go.Proofs.YtdnneofebehpaaaGreatDoorW.PrintWords Go.Proofs.YtdnneofebehpaaaGreatDoorW.PrintLast Go.Proofs.YtdnneofebehpaaaGreatDoorRd Go.Proofs.YtdnneofebehpaaaGreatDoor.L
set_option linter.unusedVariables false
structure S24 where
  f0 : Int
  f1 : Int
def k24 : Kd S24 := Kd.iso (Kd.pair (Kd.int .u32) (Kd.int .i64)) (fun x : S24 => (x.f0, x.f1))
theorem k24_open {w : World} {x : S24} {cs : List Value} (h : k24.K w x cs) : cs = [.int .u32 x.f0, .int .i64 x.f1] := by
  obtain ⟨_, _, rfl, rfl, rfl⟩ := h
  exact rfl
structure S28 where
  f0 : Int
  f1 : S24
  f2 : S26
  f3 : Int
def k28 : Kd S28 := Kd.iso (Kd.pair (Kd.int .u32) (Kd.pair k24 (Kd.pair k26 (Kd.int .i64)))) (fun x : S28 => (x.f0, x.f1, x.f2, x.f3))
theorem k28_open {w : World} {x : S28} {cs : List Value} (h : k28.K w x cs) : cs = [.int .u32 x.f0, .int .u32 x.f1.f0, .int .i64 x.f1.f1, .int .u32 x.f2.f0, .int .u32 x.f2.f1, .int .i64 x.f3] := by
  obtain ⟨_, _, rfl, rfl, h⟩ := h
  obtain ⟨_, _, rfl, h1, h⟩ := h
  obtain ⟨_, _, rfl, h2, rfl⟩ := h
  obtain rfl := k24_open h1
  obtain rfl := k26_open h2
  exact rfl
def ok24 (x : S24) : Prop := (fun a : Int => (Lit.int .u32 a).wf = true) x.f0 ∧ (fun a : Int => (Lit.int .i64 a).wf = true) x.f1
theorem rd24 (n : Nat) : RdN n Tryz.prog 24 k24 ok24 := by
  cases n with
  | zero => exact rd_zero
  | succ n => exact RdN.mono (rd_iso (g := fun p => ⟨p.1, p.2⟩) (fun _ => rfl) (rd_struct Tryz.underlying24 (by kernel_rfl) (rd_cons (by first | rfl | decide) (by kernel_rfl) (rd_int Tryz.underlying22 n) (rd_last (by first | rfl | decide) (by kernel_rfl) (rd_int Tryz.underlying3 n))))) (fun _ h => h)
def ok26 (x : S26) : Prop := (fun a : Int => (Lit.int .u32 a).wf = true) x.f0 ∧ (fun a : Int => (Lit.int .u32 a).wf = true) x.f1
theorem rd26 (n : Nat) : RdN n Tryz.prog 26 k26 ok26 := by
  cases n with
  | zero => exact rd_zero
  | succ n => exact RdN.mono (rd_iso (g := fun p => ⟨p.1, p.2⟩) (fun _ => rfl) (rd_struct Tryz.underlying26 (by kernel_rfl) (rd_cons (by first | rfl | decide) (by kernel_rfl) (rd_int Tryz.underlying22 n) (rd_last (by first | rfl | decide) (by kernel_rfl) (rd_int Tryz.underlying22 n))))) (fun _ h => h)
def ok28 (x : S28) : Prop := (fun a : Int => (Lit.int .u32 a).wf = true) x.f0 ∧ ok24 x.f1 ∧ ok26 x.f2 ∧ (fun a : Int => (Lit.int .i64 a).wf = true) x.f3
theorem rd28 (n : Nat) : RdN n Tryz.prog 28 k28 ok28 := by
  cases n with
  | zero => exact rd_zero
  | succ n => exact RdN.mono (rd_iso (g := fun p => ⟨p.1, p.2.1, p.2.2.1, p.2.2.2⟩) (fun _ => rfl) (rd_struct Tryz.underlying28 (by kernel_rfl) (rd_cons (by first | rfl | decide) (by kernel_rfl) (rd_int Tryz.underlying22 n) (rd_cons (by first | rfl | decide) (by kernel_rfl) (rd24 n) (rd_cons (by first | rfl | decide) (by kernel_rfl) (rd26 n) (rd_last (by first | rfl | decide) (by kernel_rfl) (rd_int Tryz.underlying3 n))))))) (fun _ h => h)
end Go.Proofs.YtdnneofebehpaaaGreatDoor.L
