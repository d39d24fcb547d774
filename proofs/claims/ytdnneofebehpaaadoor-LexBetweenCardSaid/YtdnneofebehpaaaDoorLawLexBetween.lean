/- What is proved: the law LexBetween holds for every input. Conditions: what the given card lists (the library's tables and errors read as their initialisers lay them), tied to the program's text. -/
import Derived.Test.YtdnneofebehpaaaDoorRows
import Derived.Test.YtdnneofebehpaaaDoorCards
import Derived.Test.YtdnneofebehpaaaDoorTie
import Derived.Test.YtdnneofebehpaaaDoorGl
import Derived.Test.YtdnneofebehpaaaDoorPfLexBetween
import Derived.WalkKit
import Derived.ProofKit
import Derived.OpenShut
import Derived.ShutString
import Derived.ChangeOld
import Derived.Below
import Derived.SizedLaws
namespace Go.Proofs.YtdnneofebehpaaaDoor.lexBetween
open Go.ChangeShapes Go.WideShapes Go.ChangeAt
open Go.ChangeMaps (open_string shut_string)
open Go.RowKit Go.Proofs.YtdnneofebehpaaaDoorW.PrintWords Go.Proofs.YtdnneofebehpaaaDoorW.PrintLast Go.Proofs.YtdnneofebehpaaaDoorRd Go.Proofs.YtdnneofebehpaaaDoor.L
set_option linter.unusedVariables false
set_option linter.unusedSimpArgs false
set_option maxRecDepth 100000 in
theorem lifted (os : Os) (started : os.Started) (H : Type) (enc : TypeId × Value → H) :
    ReturnsInHanded {} Tryd.checked os 6 .any (fun w args => (Rows.lexBetweenSpec.pre enc Tryd.prog Tryd.f6 Rows.lexBetweenRow.domain false w args ∧ laidMetH Tryd.prog Rows.lexBetweenRow.laid w) ∧ sizedMet enc Tryd.prog Tryd.f6 (OpenSpec.ofChange Rows.lexBetweenSpec) false w args) (Rows.lexBetweenSpec.post enc Tryd.prog Tryd.f6 false true false false) := by
  refine returns_laid (C := Tryd.checked) (X := fun w _ => laidMetH Tryd.prog Rows.lexBetweenRow.laid w) (fun _ _ _ hh h => h.of_heap hh) own started (by kernel_rfl) Tryd.func6
    (ChangeSpec.witness_shaped (enc := enc) (C := Tryd.checked) (os := os) (X := fun w _ => laidMetH Tryd.prog Rows.lexBetweenRow.laid w) false (World.laidAll Tryd.prog os Rows.lexBetweenRow.laid) #[.string ⟨#[]⟩, .int .u8 0] 8 (World.laidAll_os _ _ _)
      (World.shaped_of_ZipB (by kernel_rfl) (by kernel_rfl)) (by kernel_rfl) (by kernel_rfl) (by kernel_rfl)
      (by rw [MakeChecks.laidMetH_plain _ _ _ (by kernel_rfl)]; exact laidMet_laidAll _ (by kernel_rfl) (by kernel_rfl))) ?_
  intro W base args ds gs before hval0 hW hcnd hsz0 hL hS _
  have hsz : (DataW.weightsEach Tryd.prog (Tryd.f6.params.toList ++ Rows.lexBetweenSpec.plain.varTypes Tryd.prog) (ds ++ gs)).all (· ≤ reachBytes) = true := hsz0
  have hval : ∀ (j : Nat) t v, Tryd.f6.params[j]? = some t → args[j]? = some v → Value.okWide Tryd.prog W .any base t v := hval0
  have hW' := hW
  obtain ⟨p, q, hA0, hV, rfl, hfz, hnd⟩ := hW
  have hA : DataW.TrodAll enc Tryd.prog W 0 (fun _ => true) true Tryd.f6.params.toList args.toList ds p := hA0
  rw [Tryd.params6] at hA hval hsz
  obtain ⟨v0, vs0, d0, ds0, p0, q0, hargs, rfl, rfl, h0, r0⟩ := trodAll_cons hA
  obtain ⟨v1, vs1, d1, ds1, p1, q1, rfl, rfl, rfl, h1, r1⟩ := trodAll_cons r0
  obtain ⟨rfl, rfl, rfl⟩ := trodAll_nil r1
  obtain rfl : args = #[v0, v1] := by cases args; simp_all
  obtain ⟨rfl, rfl⟩ := trodVars_none hV
  have k0 := h0
  have lt0 : ∀ x ∈ p0, x.block < W.heap.size := by obtain ⟨m, hm⟩ := k0; exact DataW.trod_lt m _ _ _ hm
  obtain ⟨fuel0, hf0⟩ := h0
  obtain ⟨z0, K0, o0⟩ := (show RdN fuel0 Tryd.prog 9 Kd.string (fun a : ByteArray => a.size ≤ 140737488351232) from (rd_string Tryd.underlying9 fuel0)) _ enc W 0 _ true fuel0 _ _ _ (Nat.le_refl _) hf0 (fun m hm => by have z := List.all_eq_true.1 hsz m (DataW.weights_mem_each (j := 0) (t := 9) rfl rfl m hm); simpa using z)
  obtain ⟨x0, rfl⟩ : ∃ x, v0 = .string x := by
    first | (obtain ⟨x, rfl, _⟩ := open_string Tryd.underlying9 (hval 0 9 v0 rfl rfl) k0; exact ⟨x, rfl⟩)
  have ec0 : ([.string x0] : List Value) = [.string z0] := K0
  obtain rfl : x0 = z0 := by simpa using ec0
  have k1 := h1
  have lt1 : ∀ x ∈ p1, x.block < W.heap.size := by obtain ⟨m, hm⟩ := k1; exact DataW.trod_lt m _ _ _ hm
  obtain ⟨fuel1, hf1⟩ := h1
  obtain ⟨z1, K1, o1⟩ := (show RdN fuel1 Tryd.prog 5 (Kd.int .u8) (fun a : Int => (Lit.int .u8 a).wf = true) from (rd_int Tryd.underlying5 fuel1)) _ enc W 0 _ true fuel1 _ _ _ (Nat.le_refl _) hf1 (fun m hm => by have z := List.all_eq_true.1 hsz m (DataW.weights_mem_each (j := 1) (t := 5) rfl rfl m hm); simpa using z)
  obtain ⟨x1, rfl⟩ : ∃ x, v1 = .int .u8 x := by
    first | (obtain ⟨x, rfl, _⟩ := open_int Tryd.underlying5 (hval 1 5 v1 rfl rfl) k1; exact ⟨x, rfl⟩)
  have ec1 : ([.int .u8 x1] : List Value) = [.int .u8 z1] := K1
  obtain rfl : x1 = z1 := by simpa using ec1
  clear hA0 hval0 hsz0 hsz
  obtain ⟨rk, hr⟩ := LexBetween_pure x0 x1 o0 o1
  refine (dragomanlaw14_LexBetween.calls rk x0 x1 true W  (gl_of hL hS) hr).mono ?_
  rintro e W' ⟨rfl, bel⟩
  exact ⟨_, rfl, _, _, _, [], _, [], hW', trodAll_mk1 (shut_bool Tryd.underlying4 _), (trodAll_cons_mk (Below.trod laidOut (by kernel_rfl) (of_decide_eq_true (by kernel_rfl)) k0 bel lt0) (trodAll_cons_mk (Below.trod laidOut (by kernel_rfl) (of_decide_eq_true (by kernel_rfl)) k1 bel lt1) trodAll_mk0)), rfl, bel.frame _, fun h => by cases h⟩
theorem over : Rows.lexBetweenRow.holds Tryd.pinned (OpenSpec.ofChange Rows.lexBetweenSpec) :=
  OpenClaim.holds_of_wide 6 Tryd.f6 rfl rfl rfl rfl rfl rfl rfl ⟨rfl, rfl, rfl, rfl, rfl⟩ rfl rfl rfl rfl rfl (by kernel_rfl) Tryd.func6 (by kernel_rfl)
    (of_decide_eq_true (by kernel_rfl)) (by unfold Func.isWrapper; first | (rw [if_pos (by decide +kernel)]; kernel_rfl) | (rw [if_neg (by decide +kernel)]; exact ⟨rfl, rfl⟩))
    (fun os started H enc _ => lifted os started H enc)
theorem proved : Rows.LexBetweenSaid := over
theorem card : Rows.LexBetweenCardSaid :=
  Claim7.holds_tied_plain_at .later [] [.data, .data, .data, .data, .sentinel, .sentinel, .listed, .data, .pinned] true (true, "4865ee397029e8d555eb9802c706a4aa250556dc311fe4418c7747ac9bc8d152") true
    proved (fun _ h => by cases h) (by kernel_rfl) (fun _ h => by cases h) lexBetween_row_tie rfl ⟨rfl, rfl⟩ (by kernel_rfl) rfl
    (fun f fn hf hfn => by
      obtain rfl : f = 6 := Option.some.inj ((show Tryd.prog.funcNamed "dragoman/dragomanlaw14.LexBetween" = some 6 by kernel_rfl).symm.trans hf) |>.symm
      obtain rfl : fn = Tryd.f6 := (Option.some.inj (Tryd.func6.symm.trans hfn)).symm
      exact ⟨by kernel_rfl, fun j t ht => by
        rw [Tryd.params6] at ht
        have hm : t ∈ [9, 5] := by simpa using Array.mem_of_getElem? ht
        have hall : ([9, 5].all fun u => !Tryd.prog.wantsStandIn u) = true := by kernel_rfl
        exact (show Tryd.prog.wantsStandIn t = false by simpa using List.all_eq_true.1 hall t hm)⟩)
    (by kernel_rfl)
#print axioms card
end Go.Proofs.YtdnneofebehpaaaDoor.lexBetween
namespace Go.Proofs.YtdnneofebehpaaaDoor
theorem lexBetween_holds : Rows.LexBetweenCardSaid := lexBetween.card
end Go.Proofs.YtdnneofebehpaaaDoor
