/- The pure statement of LexTexts, proved. -/
import Derived.Test.YtdnneofebehpaaaGreatDoorPuLexTexts
import Derived.Test.YtdnneofebehpaaaGreatDoorQv
namespace Go.Proofs.YtdnneofebehpaaaGreatDoor.L
open Go.RowKit Go.Proofs.YtdnneofebehpaaaGreatDoorW.PrintWords Go.Proofs.YtdnneofebehpaaaGreatDoorW.PrintLast Go.Proofs.YtdnneofebehpaaaGreatDoorRd Go.Proofs.YtdnneofebehpaaaGreatDoor.L
theorem u32wf {a : Int} (h : (Lit.int .u32 a).wf = true) : 0 ≤ a ∧ a < 4294967296 := by
  have h' : (decide (IntKind.u32.min ≤ a) && decide (a ≤ IntKind.u32.max)) = true := h
  rw [Bool.and_eq_true] at h'
  have h1 := of_decide_eq_true h'.1
  have h2 := of_decide_eq_true h'.2
  have e1 : IntKind.u32.min = 0 := by decide
  have e2 : IntKind.u32.max = 4294967295 := by decide
  omega
theorem i64wf {a : Int} (h : (Lit.int .i64 a).wf = true) : -9223372036854775808 ≤ a ∧ a ≤ 9223372036854775807 := by
  have h' : (decide (IntKind.i64.min ≤ a) && decide (a ≤ IntKind.i64.max)) = true := h
  rw [Bool.and_eq_true] at h'
  have h1 := of_decide_eq_true h'.1
  have h2 := of_decide_eq_true h'.2
  have e1 : IntKind.i64.min = -9223372036854775808 := by decide
  have e2 : IntKind.i64.max = 9223372036854775807 := by decide
  omega
theorem LexTexts_pure : LexTexts.Pure := fun z0 o => by
  obtain ⟨h0, ⟨h1, h2⟩, ⟨h3, h4⟩, _⟩ := o
  exact (texts_ev z0.f0 z0.f1.f0 z0.f1.f1 z0.f2.f0 z0.f2.f1 z0.f3 (u32wf h0) (u32wf h1) (i64wf h2) (u32wf h3) (u32wf h4)).rounds
end Go.Proofs.YtdnneofebehpaaaGreatDoor.L
