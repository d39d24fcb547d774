/- What is proved: the law LexJoined holds for every input. Conditions: what the given card lists (the library's tables and errors read as their initialisers lay them), tied to the program's text. -/
import Derived.Test.YtdnneofebehpaaaDoorRows
import Derived.Test.YtdnneofebehpaaaDoorCards
import Derived.Test.YtdnneofebehpaaaDoorTie
import Derived.Test.YtdnneofebehpaaaDoorGl
import Derived.Test.YtdnneofebehpaaaDoorPfLexJoined
import Derived.WalkKit
import Derived.ProofKit
import Derived.OpenShut
import Derived.ShutString
import Derived.ChangeOld
import Derived.Below
import Derived.SizedLaws
namespace Go.Proofs.YtdnneofebehpaaaDoor.lexJoined
open Go.ChangeShapes Go.WideShapes Go.ChangeAt
open Go.ChangeMaps (open_string shut_string)
open Go.RowKit Go.Proofs.YtdnneofebehpaaaDoorW.PrintWords Go.Proofs.YtdnneofebehpaaaDoorW.PrintLast Go.Proofs.YtdnneofebehpaaaDoorRd Go.Proofs.YtdnneofebehpaaaDoor.L
set_option linter.unusedVariables false
set_option linter.unusedSimpArgs false
set_option maxRecDepth 100000 in
theorem lifted (os : Os) (started : os.Started) (H : Type) (enc : TypeId × Value → H) :
    ReturnsInHanded {} Tryd.checked os 5 .any (fun w args => (Rows.lexJoinedSpec.pre enc Tryd.prog Tryd.f5 Rows.lexJoinedRow.domain false w args ∧ laidMetH Tryd.prog Rows.lexJoinedRow.laid w) ∧ sizedMet enc Tryd.prog Tryd.f5 (OpenSpec.ofChange Rows.lexJoinedSpec) false w args) (Rows.lexJoinedSpec.post enc Tryd.prog Tryd.f5 false true false false) := by
  refine returns_laid (C := Tryd.checked) (X := fun w _ => laidMetH Tryd.prog Rows.lexJoinedRow.laid w) (fun _ _ _ hh h => h.of_heap hh) own started (by kernel_rfl) Tryd.func5
    (ChangeSpec.witness_shaped (enc := enc) (C := Tryd.checked) (os := os) (X := fun w _ => laidMetH Tryd.prog Rows.lexJoinedRow.laid w) false (World.laidAll Tryd.prog os Rows.lexJoinedRow.laid) #[.slice none 0 0, .bool false] 8 (World.laidAll_os _ _ _)
      (World.shaped_of_ZipB (by kernel_rfl) (by kernel_rfl)) (by kernel_rfl) (by kernel_rfl) (by kernel_rfl)
      (by rw [MakeChecks.laidMetH_plain _ _ _ (by kernel_rfl)]; exact laidMet_laidAll _ (by kernel_rfl) (by kernel_rfl))) ?_
  intro W base args ds gs before hval0 hW hcnd hsz0 hL hS _
  have hsz : (DataW.weightsEach Tryd.prog (Tryd.f5.params.toList ++ Rows.lexJoinedSpec.plain.varTypes Tryd.prog) (ds ++ gs)).all (· ≤ reachBytes) = true := hsz0
  have hval : ∀ (j : Nat) t v, Tryd.f5.params[j]? = some t → args[j]? = some v → Value.okWide Tryd.prog W .any base t v := hval0
  have hW' := hW
  obtain ⟨p, q, hA0, hV, rfl, hfz, hnd⟩ := hW
  have hA : DataW.TrodAll enc Tryd.prog W 0 (fun _ => true) true Tryd.f5.params.toList args.toList ds p := hA0
  rw [Tryd.params5] at hA hval hsz
  obtain ⟨v0, vs0, d0, ds0, p0, q0, hargs, rfl, rfl, h0, r0⟩ := trodAll_cons hA
  obtain ⟨v1, vs1, d1, ds1, p1, q1, rfl, rfl, rfl, h1, r1⟩ := trodAll_cons r0
  obtain ⟨rfl, rfl, rfl⟩ := trodAll_nil r1
  obtain rfl : args = #[v0, v1] := by cases args; simp_all
  obtain ⟨rfl, rfl⟩ := trodVars_none hV
  have k0 := h0
  have lt0 : ∀ x ∈ p0, x.block < W.heap.size := by obtain ⟨m, hm⟩ := k0; exact DataW.trod_lt m _ _ _ hm
  obtain ⟨fuel0, hf0⟩ := h0
  obtain ⟨z0, K0, o0⟩ := (show RdN fuel0 Tryd.prog 23 (Kd.slice 30 (Kd.slice 9 Kd.string)) (fun xs : List (List ByteArray) => xs.length * 24 ≤ 140737488351232 ∧ ∀ x ∈ xs, (fun xs : List ByteArray => xs.length * 16 ≤ 140737488351232 ∧ ∀ x ∈ xs, (fun a : ByteArray => a.size ≤ 140737488351232) x) x) from (rd_le (rd_slice Tryd.underlying23 (by kernel_rfl) (by kernel_rfl : Tryd.prog.bytesOf 30 = 24) (rd_le (rd_slice Tryd.underlying30 (by kernel_rfl) (by kernel_rfl : Tryd.prog.bytesOf 9 = 16) (rd_string Tryd.underlying9 fuel0)) (Nat.le_succ fuel0))) (Nat.le_succ fuel0))) _ enc W 0 _ true fuel0 _ _ _ (Nat.le_refl _) hf0 (fun m hm => by have z := List.all_eq_true.1 hsz m (DataW.weights_mem_each (j := 0) (t := 23) rfl rfl m hm); simpa using z)
  obtain ⟨a0, len0, cap0, rfl⟩ := okWide_slice Tryd.underlying23 (hval 0 23 v0 rfl rfl)
  obtain ⟨A0, c0, ec0, l0, g0⟩ := K0
  simp only [Value.cells, List.cons.injEq, Value.slice.injEq, and_true] at ec0
  obtain ⟨rfl, rfl, rfl⟩ := ec0
  have k1 := h1
  have lt1 : ∀ x ∈ p1, x.block < W.heap.size := by obtain ⟨m, hm⟩ := k1; exact DataW.trod_lt m _ _ _ hm
  obtain ⟨fuel1, hf1⟩ := h1
  obtain ⟨z1, K1, o1⟩ := (show RdN fuel1 Tryd.prog 4 Kd.bool (fun _ : Bool => True) from (rd_bool Tryd.underlying4 fuel1)) _ enc W 0 _ true fuel1 _ _ _ (Nat.le_refl _) hf1 (fun m hm => by have z := List.all_eq_true.1 hsz m (DataW.weights_mem_each (j := 1) (t := 4) rfl rfl m hm); simpa using z)
  obtain ⟨x1, rfl⟩ : ∃ x, v1 = .bool x := by
    first | (obtain ⟨x, rfl, _⟩ := open_bool Tryd.underlying4 (hval 1 4 v1 rfl rfl) k1; exact ⟨x, rfl⟩)
  have ec1 : ([.bool x1] : List Value) = [.bool z1] := K1
  obtain rfl : x1 = z1 := by simpa using ec1
  clear hA0 hval0 hsz0 hsz
  obtain ⟨rk, hr⟩ := LexJoined_pure z0 x1 o0 o1
  refine (dragomanlaw14_LexJoined.calls rk _ _ z0 x1 true W g0 l0 (gl_of hL hS) hr).mono ?_
  rintro e W' ⟨rfl, bel⟩
  exact ⟨_, rfl, _, _, _, [], _, [], hW', trodAll_mk1 (shut_bool Tryd.underlying4 _), (trodAll_cons_mk (Below.trod laidOut (by kernel_rfl) (of_decide_eq_true (by kernel_rfl)) k0 bel lt0) (trodAll_cons_mk (Below.trod laidOut (by kernel_rfl) (of_decide_eq_true (by kernel_rfl)) k1 bel lt1) trodAll_mk0)), rfl, bel.frame _, fun h => by cases h⟩
theorem over : Rows.lexJoinedRow.holds Tryd.pinned (OpenSpec.ofChange Rows.lexJoinedSpec) :=
  OpenClaim.holds_of_wide 5 Tryd.f5 rfl rfl rfl rfl rfl rfl rfl ⟨rfl, rfl, rfl, rfl, rfl⟩ rfl rfl rfl rfl rfl (by kernel_rfl) Tryd.func5 (by kernel_rfl)
    (of_decide_eq_true (by kernel_rfl)) (by unfold Func.isWrapper; first | (rw [if_pos (by decide +kernel)]; kernel_rfl) | (rw [if_neg (by decide +kernel)]; exact ⟨rfl, rfl⟩))
    (fun os started H enc _ => lifted os started H enc)
theorem proved : Rows.LexJoinedSaid := over
theorem card : Rows.LexJoinedCardSaid :=
  Claim7.holds_tied_plain_at .later [] [.data, .data, .data, .data, .sentinel, .sentinel, .listed, .data, .pinned] true (true, "4865ee397029e8d555eb9802c706a4aa250556dc311fe4418c7747ac9bc8d152") true
    proved (fun _ h => by cases h) (by kernel_rfl) (fun _ h => by cases h) lexJoined_row_tie rfl ⟨rfl, rfl⟩ (by kernel_rfl) rfl
    (fun f fn hf hfn => by
      obtain rfl : f = 5 := Option.some.inj ((show Tryd.prog.funcNamed "dragoman/dragomanlaw14.LexJoined" = some 5 by kernel_rfl).symm.trans hf) |>.symm
      obtain rfl : fn = Tryd.f5 := (Option.some.inj (Tryd.func5.symm.trans hfn)).symm
      exact ⟨by kernel_rfl, fun j t ht => by
        rw [Tryd.params5] at ht
        have hm : t ∈ [23, 4] := by simpa using Array.mem_of_getElem? ht
        have hall : ([23, 4].all fun u => !Tryd.prog.wantsStandIn u) = true := by kernel_rfl
        exact (show Tryd.prog.wantsStandIn t = false by simpa using List.all_eq_true.1 hall t hm)⟩)
    (by kernel_rfl)
#print axioms card
end Go.Proofs.YtdnneofebehpaaaDoor.lexJoined
namespace Go.Proofs.YtdnneofebehpaaaDoor
theorem lexJoined_holds : Rows.LexJoinedCardSaid := lexJoined.card
end Go.Proofs.YtdnneofebehpaaaDoor
