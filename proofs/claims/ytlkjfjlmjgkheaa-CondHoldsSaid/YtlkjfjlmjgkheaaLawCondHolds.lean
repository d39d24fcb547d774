/- What is proved: the law CondHolds holds for every input. Conditions: none beyond the given row's own cells. -/
import Derived.Test.YtlkjfjlmjgkheaaRows
import Derived.Test.YtlkjfjlmjgkheaaPfCondHolds
import Derived.WalkKit
import Derived.ProofKit
import Derived.OpenShut
import Derived.ShutString
import Derived.ChangeOld
import Derived.Below
import Derived.SizedLaws
namespace Go.Proofs.Ytlkjfjlmjgkheaa.condHolds
open Go.ChangeShapes Go.WideShapes Go.ChangeAt
open Go.ChangeMaps (open_string shut_string)
open Go.RowKit Go.Proofs.YtlkjfjlmjgkheaaW.PrintWords Go.Proofs.YtlkjfjlmjgkheaaW.PrintLast Go.Proofs.YtlkjfjlmjgkheaaRd Go.Proofs.Ytlkjfjlmjgkheaa.H
set_option linter.unusedVariables false
set_option linter.unusedSimpArgs false
theorem own : ownKnob Try.prog.godebug = none := by kernel_rfl
theorem laidOut : laidOutB Try.prog = true := by kernel_rfl
set_option maxRecDepth 100000 in
theorem lifted (os : Os) (started : os.Started) (H : Type) (enc : TypeId × Value → H) :
    ReturnsInHanded {} Try.checked os 8 .any (Rows.condHoldsSpec.pre6 enc Try.prog Try.f8 Rows.condHoldsRow.domain false) (Rows.condHoldsSpec.post enc Try.prog Try.f8 false true false false) := by
  refine returnsInHanded_of_change_sized (C := Try.checked) own started (by kernel_rfl) Try.func8
    (ChangeSpec.witness6 (enc := enc) (C := Try.checked) false ⟨#[], #[.agg #[(.int .i64 0), (.slice none 0 0), (.slice none 0 0), (.slice none 0 0), (.int .u32 0), (.int .u32 0)], .agg #[(.int .u32 0), (.int .i64 0), (.slice none 0 0), (.slice none 0 0), (.int .u32 0), (.int .u32 0), (.int .i64 0), (.int .u32 0)]], []⟩ 8 (by kernel_rfl) (by kernel_rfl) (by kernel_rfl) (by kernel_rfl)) ?_
  intro W base args ds gs before hval0 hW hcnd hsz0 _
  have hsz : (DataW.weightsEach Try.prog (Try.f8.params.toList ++ Rows.condHoldsSpec.plain.varTypes Try.prog) (ds ++ gs)).all (· ≤ reachBytes) = true := hsz0
  have hval : ∀ (j : Nat) t v, Try.f8.params[j]? = some t → args[j]? = some v → Value.okWide Try.prog W .any base t v := hval0
  have hW' := hW
  obtain ⟨p, q, hA0, hV, rfl, hfz, hnd⟩ := hW
  have hA : DataW.TrodAll enc Try.prog W 0 (fun _ => true) true Try.f8.params.toList args.toList ds p := hA0
  rw [Try.params8] at hA hval hsz
  obtain ⟨v0, vs0, d0, ds0, p0, q0, hargs, rfl, rfl, h0, r0⟩ := trodAll_cons hA
  obtain ⟨v1, vs1, d1, ds1, p1, q1, rfl, rfl, rfl, h1, r1⟩ := trodAll_cons r0
  obtain ⟨rfl, rfl, rfl⟩ := trodAll_nil r1
  obtain rfl : args = #[v0, v1] := by cases args; simp_all
  obtain ⟨rfl, rfl⟩ := trodVars_none hV
  have k0 := h0
  have lt0 : ∀ x ∈ p0, x.block < W.heap.size := by obtain ⟨m, hm⟩ := k0; exact DataW.trod_lt m _ _ _ hm
  obtain ⟨fuel0, hf0⟩ := h0
  obtain ⟨z0, K0, o0⟩ := (show RdN fuel0 Try.prog 46 k46 ok46 from (rd46 fuel0)) _ enc W 0 _ true fuel0 _ _ _ (Nat.le_refl _) hf0 (fun m hm => by have z := List.all_eq_true.1 hsz m (DataW.weights_mem_each (j := 0) (t := 46) rfl rfl m hm); simpa using z)
  obtain ⟨cs0, rfl, _⟩ := okWide_struct Try.underlying46 (hval 0 46 v0 rfl rfl)
  have e0 : (Value.agg cs0).cells.toList = cs0.toList := rfl
  rw [e0] at K0
  obtain ⟨A0_1, c0_1, A0_2, c0_2, A0_3, c0_3, ec0, l0_1, g0_1, l0_2, g0_2, l0_3, g0_3⟩ := k46_open K0
  obtain rfl : cs0 = #[.int .i64 z0.f0, .slice A0_1 z0.f1.length c0_1, .slice A0_2 z0.f2.length c0_2, .slice A0_3 z0.f3.length c0_3, .int .u32 z0.f4, .int .u32 z0.f5] := by cases cs0; simp only at ec0; subst ec0; rfl
  have k1 := h1
  have lt1 : ∀ x ∈ p1, x.block < W.heap.size := by obtain ⟨m, hm⟩ := k1; exact DataW.trod_lt m _ _ _ hm
  obtain ⟨fuel1, hf1⟩ := h1
  obtain ⟨z1, K1, o1⟩ := (show RdN fuel1 Try.prog 50 k50 ok50 from (rd50 fuel1)) _ enc W 0 _ true fuel1 _ _ _ (Nat.le_refl _) hf1 (fun m hm => by have z := List.all_eq_true.1 hsz m (DataW.weights_mem_each (j := 1) (t := 50) rfl rfl m hm); simpa using z)
  obtain ⟨cs1, rfl, _⟩ := okWide_struct Try.underlying50 (hval 1 50 v1 rfl rfl)
  have e1 : (Value.agg cs1).cells.toList = cs1.toList := rfl
  rw [e1] at K1
  obtain ⟨A1_2, c1_2, A1_3, c1_3, ec1, l1_2, g1_2, l1_3, g1_3⟩ := k50_open K1
  obtain rfl : cs1 = #[.int .u32 z1.f0.f0, .int .i64 z1.f0.f1, .slice A1_2 z1.f1.length c1_2, .slice A1_3 z1.f2.length c1_3, .int .u32 z1.f3, .int .u32 z1.f4, .int .i64 z1.f5, .int .u32 z1.f6] := by cases cs1; simp only at ec1; subst ec1; rfl
  clear hA0 hval0 hsz0 hsz
  obtain ⟨rk, hr⟩ := CondHolds_pure z0 z1 o0 o1
  refine (dragomanlaw11_CondHolds.calls rk z0.f0 _ _ (z0.f1) _ _ (z0.f2) _ _ (z0.f3) z0.f4 z0.f5 z1.f0.f0 z1.f0.f1 _ _ (z1.f1) _ _ (z1.f2) z1.f3 z1.f4 z1.f5 z1.f6 true W g0_1 l0_1 g0_2 l0_2 g0_3 l0_3 g1_2 l1_2 g1_3 l1_3 hr).mono ?_
  rintro e W' ⟨rfl, bel⟩
  exact ⟨_, rfl, _, _, _, [], _, [], hW', trodAll_mk1 (shut_bool Try.underlying4 _), (trodAll_cons_mk (Below.trod laidOut (by kernel_rfl) (of_decide_eq_true (by kernel_rfl)) k0 bel lt0) (trodAll_cons_mk (Below.trod laidOut (by kernel_rfl) (of_decide_eq_true (by kernel_rfl)) k1 bel lt1) trodAll_mk0)), rfl, bel.frame _, fun h => by cases h⟩
theorem over : Rows.condHoldsRow.holds Try.pinned (OpenSpec.ofChange Rows.condHoldsSpec) :=
  OpenClaim.holds_of_wide 8 Try.f8 rfl rfl rfl rfl rfl rfl rfl ⟨rfl, rfl, rfl, rfl, rfl⟩ rfl rfl rfl rfl rfl (by kernel_rfl) Try.func8 (by kernel_rfl)
    (of_decide_eq_true (by kernel_rfl)) (by unfold Func.isWrapper; first | (rw [if_pos (by decide +kernel)]; kernel_rfl) | (rw [if_neg (by decide +kernel)]; exact ⟨rfl, rfl⟩))
    (fun os started H enc _ => lifted os started H enc)
theorem proved : Rows.CondHoldsSaid := over
#print axioms proved
end Go.Proofs.Ytlkjfjlmjgkheaa.condHolds
namespace Go.Proofs.Ytlkjfjlmjgkheaa
theorem condHolds_holds : Rows.CondHoldsSaid := condHolds.proved
end Go.Proofs.Ytlkjfjlmjgkheaa
