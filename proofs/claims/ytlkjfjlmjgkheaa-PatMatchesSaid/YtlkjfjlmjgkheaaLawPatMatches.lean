/- What is proved: the law PatMatches holds for every input. Conditions: none beyond the given row's own cells. -/
import Derived.Test.YtlkjfjlmjgkheaaRows
import Derived.Test.YtlkjfjlmjgkheaaPfPatMatches
import Derived.WalkKit
import Derived.ProofKit
import Derived.OpenShut
import Derived.ShutString
import Derived.ChangeOld
import Derived.Below
import Derived.SizedLaws
namespace Go.Proofs.Ytlkjfjlmjgkheaa.patMatches
open Go.ChangeShapes Go.WideShapes Go.ChangeAt
open Go.ChangeMaps (open_string shut_string)
open Go.RowKit Go.Proofs.YtlkjfjlmjgkheaaW.PrintWords Go.Proofs.YtlkjfjlmjgkheaaW.PrintLast Go.Proofs.YtlkjfjlmjgkheaaRd Go.Proofs.Ytlkjfjlmjgkheaa.G
set_option linter.unusedVariables false
set_option linter.unusedSimpArgs false
theorem own : ownKnob Try.prog.godebug = none := by kernel_rfl
theorem laidOut : laidOutB Try.prog = true := by kernel_rfl
set_option maxRecDepth 100000 in
theorem lifted (os : Os) (started : os.Started) (H : Type) (enc : TypeId × Value → H) :
    ReturnsInHanded {} Try.checked os 3 .any (Rows.patMatchesSpec.pre6 enc Try.prog Try.f3 Rows.patMatchesRow.domain false) (Rows.patMatchesSpec.post enc Try.prog Try.f3 false true false false) := by
  refine returnsInHanded_of_change_sized (C := Try.checked) own started (by kernel_rfl) Try.func3
    (ChangeSpec.witness6 (enc := enc) (C := Try.checked) false ⟨#[], #[.agg #[(.int .i64 0), (.slice none 0 0), (.slice none 0 0)], .slice none 0 0], []⟩ 8 (by kernel_rfl) (by kernel_rfl) (by kernel_rfl) (by kernel_rfl)) ?_
  intro W base args ds gs before hval0 hW hcnd hsz0 _
  have hsz : (DataW.weightsEach Try.prog (Try.f3.params.toList ++ Rows.patMatchesSpec.plain.varTypes Try.prog) (ds ++ gs)).all (· ≤ reachBytes) = true := hsz0
  have hval : ∀ (j : Nat) t v, Try.f3.params[j]? = some t → args[j]? = some v → Value.okWide Try.prog W .any base t v := hval0
  have hW' := hW
  obtain ⟨p, q, hA0, hV, rfl, hfz, hnd⟩ := hW
  have hA : DataW.TrodAll enc Try.prog W 0 (fun _ => true) true Try.f3.params.toList args.toList ds p := hA0
  rw [Try.params3] at hA hval hsz
  obtain ⟨v0, vs0, d0, ds0, p0, q0, hargs, rfl, rfl, h0, r0⟩ := trodAll_cons hA
  obtain ⟨v1, vs1, d1, ds1, p1, q1, rfl, rfl, rfl, h1, r1⟩ := trodAll_cons r0
  obtain ⟨rfl, rfl, rfl⟩ := trodAll_nil r1
  obtain rfl : args = #[v0, v1] := by cases args; simp_all
  obtain ⟨rfl, rfl⟩ := trodVars_none hV
  have k0 := h0
  have lt0 : ∀ x ∈ p0, x.block < W.heap.size := by obtain ⟨m, hm⟩ := k0; exact DataW.trod_lt m _ _ _ hm
  obtain ⟨fuel0, hf0⟩ := h0
  obtain ⟨z0, K0, o0⟩ := (show RdN fuel0 Try.prog 25 k25 ok25 from (rd25 fuel0)) _ enc W 0 _ true fuel0 _ _ _ (Nat.le_refl _) hf0 (fun m hm => by have z := List.all_eq_true.1 hsz m (DataW.weights_mem_each (j := 0) (t := 25) rfl rfl m hm); simpa using z)
  obtain ⟨cs0, rfl, _⟩ := okWide_struct Try.underlying25 (hval 0 25 v0 rfl rfl)
  have e0 : (Value.agg cs0).cells.toList = cs0.toList := rfl
  rw [e0] at K0
  obtain ⟨A0_1, c0_1, A0_2, c0_2, ec0, l0_1, g0_1, l0_2, g0_2⟩ := k25_open K0
  obtain rfl : cs0 = #[.int .i64 z0.f0, .slice A0_1 z0.f1.length c0_1, .slice A0_2 z0.f2.length c0_2] := by cases cs0; simp only at ec0; subst ec0; rfl
  have k1 := h1
  have lt1 : ∀ x ∈ p1, x.block < W.heap.size := by obtain ⟨m, hm⟩ := k1; exact DataW.trod_lt m _ _ _ hm
  obtain ⟨fuel1, hf1⟩ := h1
  obtain ⟨z1, K1, o1⟩ := (show RdN fuel1 Try.prog 26 (Kd.slice 36 (Kd.int .u32)) (fun xs : List Int => xs.length * 4 ≤ 140737488351232 ∧ ∀ x ∈ xs, (fun a : Int => (Lit.int .u32 a).wf = true) x) from (rd_le (rd_slice Try.underlying26 (by kernel_rfl) (by kernel_rfl : Try.prog.bytesOf 36 = 4) (rd_int Try.underlying36 fuel1)) (Nat.le_succ fuel1))) _ enc W 0 _ true fuel1 _ _ _ (Nat.le_refl _) hf1 (fun m hm => by have z := List.all_eq_true.1 hsz m (DataW.weights_mem_each (j := 1) (t := 26) rfl rfl m hm); simpa using z)
  obtain ⟨a1, len1, cap1, rfl⟩ := okWide_slice Try.underlying26 (hval 1 26 v1 rfl rfl)
  obtain ⟨A1, c1, ec1, l1, g1⟩ := K1
  simp only [Value.cells, List.cons.injEq, Value.slice.injEq, and_true] at ec1
  obtain ⟨rfl, rfl, rfl⟩ := ec1
  clear hA0 hval0 hsz0 hsz
  obtain ⟨rk, hr⟩ := PatMatches_pure z0 z1 o0 o1
  refine (l5_PatMatches.calls rk z0.f0 _ _ (z0.f1) _ _ (z0.f2) _ _ z1 true W g0_1 l0_1 g0_2 l0_2 g1 l1 hr).mono ?_
  rintro e W' ⟨rfl, bel⟩
  exact ⟨_, rfl, _, _, _, [], _, [], hW', trodAll_mk1 (shut_bool Try.underlying4 _), (trodAll_cons_mk (Below.trod laidOut (by kernel_rfl) (of_decide_eq_true (by kernel_rfl)) k0 bel lt0) (trodAll_cons_mk (Below.trod laidOut (by kernel_rfl) (of_decide_eq_true (by kernel_rfl)) k1 bel lt1) trodAll_mk0)), rfl, bel.frame _, fun h => by cases h⟩
theorem over : Rows.patMatchesRow.holds Try.pinned (OpenSpec.ofChange Rows.patMatchesSpec) :=
  OpenClaim.holds_of_wide 3 Try.f3 rfl rfl rfl rfl rfl rfl rfl ⟨rfl, rfl, rfl, rfl, rfl⟩ rfl rfl rfl rfl rfl (by kernel_rfl) Try.func3 (by kernel_rfl)
    (of_decide_eq_true (by kernel_rfl)) (by unfold Func.isWrapper; first | (rw [if_pos (by decide +kernel)]; kernel_rfl) | (rw [if_neg (by decide +kernel)]; exact ⟨rfl, rfl⟩))
    (fun os started H enc _ => lifted os started H enc)
theorem proved : Rows.PatMatchesSaid := over
#print axioms proved
end Go.Proofs.Ytlkjfjlmjgkheaa.patMatches
namespace Go.Proofs.Ytlkjfjlmjgkheaa
theorem patMatches_holds : Rows.PatMatchesSaid := patMatches.proved
end Go.Proofs.Ytlkjfjlmjgkheaa
