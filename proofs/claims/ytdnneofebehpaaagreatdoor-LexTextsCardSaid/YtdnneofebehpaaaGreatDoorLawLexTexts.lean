/- What is proved: the law LexTexts holds for every input. Conditions: what the given card lists (the library's tables and errors read as their initialisers lay them), tied to the program's text. -/
import Derived.Test.YtdnneofebehpaaaGreatDoorRows
import Derived.Test.YtdnneofebehpaaaGreatDoorCards
import Derived.Test.YtdnneofebehpaaaGreatDoorTie
import Derived.Test.YtdnneofebehpaaaGreatDoorGl
import Derived.Test.YtdnneofebehpaaaGreatDoorPfLexTexts
import Derived.WalkKit
import Derived.ProofKit
import Derived.OpenShut
import Derived.ShutString
import Derived.ChangeOld
import Derived.Below
import Derived.SizedLaws
namespace Go.Proofs.YtdnneofebehpaaaGreatDoor.lexTexts
open Go.ChangeShapes Go.WideShapes Go.ChangeAt
open Go.ChangeMaps (open_string shut_string)
open Go.RowKit Go.Proofs.YtdnneofebehpaaaGreatDoorW.PrintWords Go.Proofs.YtdnneofebehpaaaGreatDoorW.PrintLast Go.Proofs.YtdnneofebehpaaaGreatDoorRd Go.Proofs.YtdnneofebehpaaaGreatDoor.L
set_option linter.unusedVariables false
set_option linter.unusedSimpArgs false
set_option maxRecDepth 100000 in
theorem lifted (os : Os) (started : os.Started) (H : Type) (enc : TypeId × Value → H) :
    ReturnsInHanded {} Tryz.checked os 3 .any (fun w args => (Rows.lexTextsSpec.pre enc Tryz.prog Tryz.f3 Rows.lexTextsRow.domain false w args ∧ laidMetH Tryz.prog Rows.lexTextsRow.laid w) ∧ sizedMet enc Tryz.prog Tryz.f3 (OpenSpec.ofChange Rows.lexTextsSpec) false w args) (Rows.lexTextsSpec.post enc Tryz.prog Tryz.f3 false true false false) := by
  refine returns_laid (C := Tryz.checked) (X := fun w _ => laidMetH Tryz.prog Rows.lexTextsRow.laid w) (fun _ _ _ hh h => h.of_heap hh) own started (by kernel_rfl) Tryz.func3
    (ChangeSpec.witness_shaped (enc := enc) (C := Tryz.checked) (os := os) (X := fun w _ => laidMetH Tryz.prog Rows.lexTextsRow.laid w) false (World.laidAll Tryz.prog os Rows.lexTextsRow.laid) #[.agg #[(.int .u32 0), (.int .u32 0), (.int .i64 0), (.int .u32 0), (.int .u32 0), (.int .i64 0)]] 8 (World.laidAll_os _ _ _)
      (World.shaped_of_ZipB (by kernel_rfl) (by kernel_rfl)) (by kernel_rfl) (by kernel_rfl) (by kernel_rfl)
      (by rw [MakeChecks.laidMetH_plain _ _ _ (by kernel_rfl)]; exact laidMet_laidAll _ (by kernel_rfl) (by kernel_rfl))) ?_
  intro W base args ds gs before hval0 hW hcnd hsz0 hL hS _
  have hsz : (DataW.weightsEach Tryz.prog (Tryz.f3.params.toList ++ Rows.lexTextsSpec.plain.varTypes Tryz.prog) (ds ++ gs)).all (· ≤ reachBytes) = true := hsz0
  have hval : ∀ (j : Nat) t v, Tryz.f3.params[j]? = some t → args[j]? = some v → Value.okWide Tryz.prog W .any base t v := hval0
  have hW' := hW
  obtain ⟨p, q, hA0, hV, rfl, hfz, hnd⟩ := hW
  have hA : DataW.TrodAll enc Tryz.prog W 0 (fun _ => true) true Tryz.f3.params.toList args.toList ds p := hA0
  rw [Tryz.params3] at hA hval hsz
  obtain ⟨v0, vs0, d0, ds0, p0, q0, hargs, rfl, rfl, h0, r0⟩ := trodAll_cons hA
  obtain ⟨rfl, rfl, rfl⟩ := trodAll_nil r0
  obtain rfl : args = #[v0] := by cases args; simp_all
  obtain ⟨rfl, rfl⟩ := trodVars_none hV
  have k0 := h0
  have lt0 : ∀ x ∈ p0, x.block < W.heap.size := by obtain ⟨m, hm⟩ := k0; exact DataW.trod_lt m _ _ _ hm
  obtain ⟨fuel0, hf0⟩ := h0
  obtain ⟨z0, K0, o0⟩ := (show RdN fuel0 Tryz.prog 28 k28 ok28 from (rd28 fuel0)) _ enc W 0 _ true fuel0 _ _ _ (Nat.le_refl _) hf0 (fun m hm => by have z := List.all_eq_true.1 hsz m (DataW.weights_mem_each (j := 0) (t := 28) rfl rfl m hm); simpa using z)
  obtain ⟨cs0, rfl, _⟩ := okWide_struct Tryz.underlying28 (hval 0 28 v0 rfl rfl)
  have e0 : (Value.agg cs0).cells.toList = cs0.toList := rfl
  rw [e0] at K0
  have ec0 := k28_open K0
  obtain rfl : cs0 = #[.int .u32 z0.f0, .int .u32 z0.f1.f0, .int .i64 z0.f1.f1, .int .u32 z0.f2.f0, .int .u32 z0.f2.f1, .int .i64 z0.f3] := by cases cs0; simp only at ec0; subst ec0; rfl
  clear hA0 hval0 hsz0 hsz
  obtain ⟨rk, hr⟩ := LexTexts_pure z0 o0
  refine (dragomanlaw14_LexTexts.calls rk z0.f0 z0.f1.f0 z0.f1.f1 z0.f2.f0 z0.f2.f1 z0.f3 true W  (gl_of hL hS) hr).mono ?_
  rintro e W' ⟨rfl, bel⟩
  exact ⟨_, rfl, _, _, _, [], _, [], hW', trodAll_mk1 (shut_bool Tryz.underlying4 _), (trodAll_cons_mk (Below.trod laidOut (by kernel_rfl) (of_decide_eq_true (by kernel_rfl)) k0 bel lt0) trodAll_mk0), rfl, bel.frame _, fun h => by cases h⟩
theorem over : Rows.lexTextsRow.holds Tryz.pinned (OpenSpec.ofChange Rows.lexTextsSpec) :=
  OpenClaim.holds_of_wide 3 Tryz.f3 rfl rfl rfl rfl rfl rfl rfl ⟨rfl, rfl, rfl, rfl, rfl⟩ rfl rfl rfl rfl rfl (by kernel_rfl) Tryz.func3 (by kernel_rfl)
    (of_decide_eq_true (by kernel_rfl)) (by unfold Func.isWrapper; first | (rw [if_pos (by decide +kernel)]; kernel_rfl) | (rw [if_neg (by decide +kernel)]; exact ⟨rfl, rfl⟩))
    (fun os started H enc _ => lifted os started H enc)
theorem proved : Rows.LexTextsSaid := over
theorem card : Rows.LexTextsCardSaid :=
  Claim7.holds_tied_plain_at .later [] [.data, .data, .data, .data, .sentinel, .sentinel, .listed, .data, .pinned] true (true, "38271fce2172592fa9c6158ee86fc5aa16a16c83d3c3718c931e65f1471ad2be") true
    proved (fun _ h => by cases h) (by kernel_rfl) (fun _ h => by cases h) lexTexts_row_tie rfl ⟨rfl, rfl⟩ (by kernel_rfl) rfl
    (fun f fn hf hfn => by
      obtain rfl : f = 3 := Option.some.inj ((show Tryz.prog.funcNamed "dragoman/dragomanlaw14.LexTexts" = some 3 by kernel_rfl).symm.trans hf) |>.symm
      obtain rfl : fn = Tryz.f3 := (Option.some.inj (Tryz.func3.symm.trans hfn)).symm
      exact ⟨by kernel_rfl, fun j t ht => by
        rw [Tryz.params3] at ht
        have hm : t ∈ [28] := by simpa using Array.mem_of_getElem? ht
        have hall : ([28].all fun u => !Tryz.prog.wantsStandIn u) = true := by kernel_rfl
        exact (show Tryz.prog.wantsStandIn t = false by simpa using List.all_eq_true.1 hall t hm)⟩)
    (by kernel_rfl)
#print axioms card
end Go.Proofs.YtdnneofebehpaaaGreatDoor.lexTexts
namespace Go.Proofs.YtdnneofebehpaaaGreatDoor
theorem lexTexts_holds : Rows.LexTextsCardSaid := lexTexts.card
end Go.Proofs.YtdnneofebehpaaaGreatDoor
