/- What is proved: the law PatJoins holds for every input. Conditions: none beyond the given row's own cells. -/
import Derived.Test.YtlkjfjlmjgkheaaRows
import Derived.Test.YtlkjfjlmjgkheaaPfPatJoins
import Derived.WalkKit
import Derived.ProofKit
import Derived.OpenShut
import Derived.ShutString
import Derived.ChangeOld
import Derived.Below
import Derived.SizedLaws
namespace Go.Proofs.Ytlkjfjlmjgkheaa.patJoins
open Go.ChangeShapes Go.WideShapes Go.ChangeAt
open Go.ChangeMaps (open_string shut_string)
open Go.RowKit Go.Proofs.YtlkjfjlmjgkheaaW.PrintWords Go.Proofs.YtlkjfjlmjgkheaaW.PrintLast Go.Proofs.YtlkjfjlmjgkheaaRd Go.Proofs.Ytlkjfjlmjgkheaa.G
set_option linter.unusedVariables false
set_option linter.unusedSimpArgs false
theorem own : ownKnob Try.prog.godebug = none := by kernel_rfl
theorem laidOut : laidOutB Try.prog = true := by kernel_rfl
set_option maxRecDepth 100000 in
theorem lifted (os : Os) (started : os.Started) (H : Type) (enc : TypeId × Value → H) :
    ReturnsInHanded {} Try.checked os 5 .any (Rows.patJoinsSpec.pre6 enc Try.prog Try.f5 Rows.patJoinsRow.domain false) (Rows.patJoinsSpec.post enc Try.prog Try.f5 false true false false) := by
  refine returnsInHanded_of_change_sized (C := Try.checked) own started (by kernel_rfl) Try.func5
    (ChangeSpec.witness6 (enc := enc) (C := Try.checked) false ⟨#[], #[.agg #[(.int .i64 0), (.slice none 0 0), (.slice none 0 0)], .agg #[(.int .i64 0), (.slice none 0 0), (.slice none 0 0)], .slice none 0 0], []⟩ 8 (by kernel_rfl) (by kernel_rfl) (by kernel_rfl) (by kernel_rfl)) ?_
  intro W base args ds gs before hval0 hW hcnd hsz0 _
  have hsz : (DataW.weightsEach Try.prog (Try.f5.params.toList ++ Rows.patJoinsSpec.plain.varTypes Try.prog) (ds ++ gs)).all (· ≤ reachBytes) = true := hsz0
  have hval : ∀ (j : Nat) t v, Try.f5.params[j]? = some t → args[j]? = some v → Value.okWide Try.prog W .any base t v := hval0
  have hW' := hW
  obtain ⟨p, q, hA0, hV, rfl, hfz, hnd⟩ := hW
  have hA : DataW.TrodAll enc Try.prog W 0 (fun _ => true) true Try.f5.params.toList args.toList ds p := hA0
  rw [Try.params5] at hA hval hsz
  obtain ⟨v0, vs0, d0, ds0, p0, q0, hargs, rfl, rfl, h0, r0⟩ := trodAll_cons hA
  obtain ⟨v1, vs1, d1, ds1, p1, q1, rfl, rfl, rfl, h1, r1⟩ := trodAll_cons r0
  obtain ⟨v2, vs2, d2, ds2, p2, q2, rfl, rfl, rfl, h2, r2⟩ := trodAll_cons r1
  obtain ⟨rfl, rfl, rfl⟩ := trodAll_nil r2
  obtain rfl : args = #[v0, v1, v2] := by cases args; simp_all
  obtain ⟨rfl, rfl⟩ := trodVars_none hV
  have k0 := h0
  have lt0 : ∀ x ∈ p0, x.block < W.heap.size := by obtain ⟨m, hm⟩ := k0; exact DataW.trod_lt m _ _ _ hm
  obtain ⟨fuel0, hf0⟩ := h0
  obtain ⟨z0, K0, o0⟩ := (show RdN fuel0 Try.prog 25 k25 ok25 from (rd25 fuel0)) _ enc W 0 _ true fuel0 _ _ _ (Nat.le_refl _) hf0 (fun m hm => by have z := List.all_eq_true.1 hsz m (DataW.weights_mem_each (j := 0) (t := 25) rfl rfl m hm); simpa using z)
  obtain ⟨cs0, rfl, _⟩ := okWide_struct Try.underlying25 (hval 0 25 v0 rfl rfl)
  have e0 : (Value.agg cs0).cells.toList = cs0.toList := rfl
  rw [e0] at K0
  obtain ⟨A0_1, c0_1, A0_2, c0_2, ec0, l0_1, g0_1, l0_2, g0_2⟩ := k25_open K0
  obtain rfl : cs0 = #[.int .i64 z0.f0, .slice A0_1 z0.f1.length c0_1, .slice A0_2 z0.f2.length c0_2] := by cases cs0; simp only at ec0; subst ec0; rfl
  have k1 := h1
  have lt1 : ∀ x ∈ p1, x.block < W.heap.size := by obtain ⟨m, hm⟩ := k1; exact DataW.trod_lt m _ _ _ hm
  obtain ⟨fuel1, hf1⟩ := h1
  obtain ⟨z1, K1, o1⟩ := (show RdN fuel1 Try.prog 25 k25 ok25 from (rd25 fuel1)) _ enc W 0 _ true fuel1 _ _ _ (Nat.le_refl _) hf1 (fun m hm => by have z := List.all_eq_true.1 hsz m (DataW.weights_mem_each (j := 1) (t := 25) rfl rfl m hm); simpa using z)
  obtain ⟨cs1, rfl, _⟩ := okWide_struct Try.underlying25 (hval 1 25 v1 rfl rfl)
  have e1 : (Value.agg cs1).cells.toList = cs1.toList := rfl
  rw [e1] at K1
  obtain ⟨A1_1, c1_1, A1_2, c1_2, ec1, l1_1, g1_1, l1_2, g1_2⟩ := k25_open K1
  obtain rfl : cs1 = #[.int .i64 z1.f0, .slice A1_1 z1.f1.length c1_1, .slice A1_2 z1.f2.length c1_2] := by cases cs1; simp only at ec1; subst ec1; rfl
  have k2 := h2
  have lt2 : ∀ x ∈ p2, x.block < W.heap.size := by obtain ⟨m, hm⟩ := k2; exact DataW.trod_lt m _ _ _ hm
  obtain ⟨fuel2, hf2⟩ := h2
  obtain ⟨z2, K2, o2⟩ := (show RdN fuel2 Try.prog 26 (Kd.slice 36 (Kd.int .u32)) (fun xs : List Int => xs.length * 4 ≤ 140737488351232 ∧ ∀ x ∈ xs, (fun a : Int => (Lit.int .u32 a).wf = true) x) from (rd_le (rd_slice Try.underlying26 (by kernel_rfl) (by kernel_rfl : Try.prog.bytesOf 36 = 4) (rd_int Try.underlying36 fuel2)) (Nat.le_succ fuel2))) _ enc W 0 _ true fuel2 _ _ _ (Nat.le_refl _) hf2 (fun m hm => by have z := List.all_eq_true.1 hsz m (DataW.weights_mem_each (j := 2) (t := 26) rfl rfl m hm); simpa using z)
  obtain ⟨a2, len2, cap2, rfl⟩ := okWide_slice Try.underlying26 (hval 2 26 v2 rfl rfl)
  obtain ⟨A2, c2, ec2, l2, g2⟩ := K2
  simp only [Value.cells, List.cons.injEq, Value.slice.injEq, and_true] at ec2
  obtain ⟨rfl, rfl, rfl⟩ := ec2
  clear hA0 hval0 hsz0 hsz
  obtain ⟨rk, hr⟩ := PatJoins_pure z0 z1 z2 o0 o1 o2
  refine (dragomanlaw05_PatJoins.calls rk z0.f0 (fun k_ => k_ < W.heap.size) _ _ (z0.f1) (fun k_ => k_ < W.heap.size) _ _ (z0.f2) z1.f0 (fun k_ => k_ < W.heap.size) _ _ (z1.f1) (fun k_ => k_ < W.heap.size) _ _ (z1.f2) _ _ z2 true W (Kd.V_mk l0_1 (Kd.C_F k66_heap g0_1)) (Kd.V_mk l0_2 (Kd.C_F k25_heap g0_2)) (Kd.V_mk l1_1 (Kd.C_F k66_heap g1_1)) (Kd.V_mk l1_2 (Kd.C_F k25_heap g1_2)) g2 l2 hr).mono ?_
  rintro e W' ⟨rfl, bel⟩
  exact ⟨_, rfl, _, _, _, [], _, [], hW', trodAll_mk1 (shut_bool Try.underlying4 _), (trodAll_cons_mk (Below.trod laidOut (by kernel_rfl) (of_decide_eq_true (by kernel_rfl)) k0 bel lt0) (trodAll_cons_mk (Below.trod laidOut (by kernel_rfl) (of_decide_eq_true (by kernel_rfl)) k1 bel lt1) (trodAll_cons_mk (Below.trod laidOut (by kernel_rfl) (of_decide_eq_true (by kernel_rfl)) k2 bel lt2) trodAll_mk0))), rfl, bel.frame _, fun h => by cases h⟩
theorem over : Rows.patJoinsRow.holds Try.pinned (OpenSpec.ofChange Rows.patJoinsSpec) :=
  OpenClaim.holds_of_wide 5 Try.f5 rfl rfl rfl rfl rfl rfl rfl ⟨rfl, rfl, rfl, rfl, rfl⟩ rfl rfl rfl rfl rfl (by kernel_rfl) Try.func5 (by kernel_rfl)
    (of_decide_eq_true (by kernel_rfl)) (by unfold Func.isWrapper; first | (rw [if_pos (by decide +kernel)]; kernel_rfl) | (rw [if_neg (by decide +kernel)]; exact ⟨rfl, rfl⟩))
    (fun os started H enc _ => lifted os started H enc)
theorem proved : Rows.PatJoinsSaid := over
#print axioms proved
end Go.Proofs.Ytlkjfjlmjgkheaa.patJoins
namespace Go.Proofs.Ytlkjfjlmjgkheaa
theorem patJoins_holds : Rows.PatJoinsSaid := patJoins.proved
end Go.Proofs.Ytlkjfjlmjgkheaa
