import Derived.Test.YtdnneofebehpaaaDoorLx0
import Derived.Test.YtdnneofebehpaaaDoorLx10
import Derived.Test.YtdnneofebehpaaaDoorLx13
import Derived.Test.YtdnneofebehpaaaDoorLx14
namespace Go.Proofs.YtdnneofebehpaaaDoor.L
open Go.RowKit Go.Proofs.YtdnneofebehpaaaDoorW.PrintWords Go.Proofs.YtdnneofebehpaaaDoorW.PrintLast Go.Proofs.YtdnneofebehpaaaDoorW.PrintMore
attribute [local go_sem] max2_int min2_int max_two min_two max_three min_three max_four min_four
set_option linter.unusedVariables false
set_option linter.unusedSimpArgs false
mutual
def dragomanref14_Tokens.l0 : Nat → ByteArray → List (S39) → Int → Option ((List (S39)) × Int)
  | 0, _, _, _ => none
  | k + 1, x0, x4, x5 => if x5 = (x0.size : Int) then (some (x4, 0)) else (if x5 < 0 then (some (([] : List (S39)), 4)) else (if 0 ≤ x5 then (if x5 < (x0.size : Int) then ((dragomanref14_has.f k (⟨#[123, 125, 91, 93, 59]⟩ : ByteArray) (bt x0 x5)).bind fun t217 => (if t217 = true then (if x5 ≤ (wrap64 (x5 + 1)) then (if (wrap64 (x5 + 1)) ≤ (x0.size : Int) then (if x4.length < 5864062014805 then ((dragomanref14_skip.f k x0 (wrap64 (x5 + 1))).bind fun t221 => (dragomanref14_Tokens.l0 k x0 (x4 ++ [(⟨bt x0 x5, x0.extract (x5 : Int).toNat ((wrap64 (x5 + 1)) : Int).toNat⟩ : S39)]) t221)) else (none)) else (none)) else (none)) else (if (bt x0 x5) = 34 then (dragomanref14_Tokens.l1 k x0 x4 x5 (wrap64 (x5 + 1))) else (dragomanref14_Tokens.l2 k x0 x4 x5 x5)))) else (none)) else (none)))
def dragomanref14_Tokens.l1 : Nat → ByteArray → List (S39) → Int → Int → Option ((List (S39)) × Int)
  | 0, _, _, _, _ => none
  | k + 1, x0, x4, x5, x6 => if x6 < (x0.size : Int) then (if 0 ≤ x6 then (if (bt x0 x6) = 34 then (if x6 = (x0.size : Int) then (some (([] : List (S39)), 4)) else (if (bt x0 x6) = 10 then (some (([] : List (S39)), 4)) else (if 0 ≤ (wrap64 (x5 + 1)) then (if (wrap64 (x5 + 1)) ≤ x6 then (if x6 ≤ (x0.size : Int) then (if x4.length < 5864062014805 then ((dragomanref14_skip.f k x0 (wrap64 (x6 + 1))).bind fun t225 => (dragomanref14_Tokens.l0 k x0 (x4 ++ [(⟨113, x0.extract ((wrap64 (x5 + 1)) : Int).toNat (x6 : Int).toNat⟩ : S39)]) t225)) else (none)) else (none)) else (none)) else (none)))) else (if (bt x0 x6) = 10 then (if x6 = (x0.size : Int) then (some (([] : List (S39)), 4)) else (some (([] : List (S39)), 4))) else (dragomanref14_Tokens.l1 k x0 x4 x5 (wrap64 (x6 + 1))))) else (none)) else (if x6 = (x0.size : Int) then (some (([] : List (S39)), 4)) else (none))
def dragomanref14_Tokens.l2 : Nat → ByteArray → List (S39) → Int → Int → Option ((List (S39)) × Int)
  | 0, _, _, _, _ => none
  | k + 1, x0, x4, x5, x6 => if x6 < (x0.size : Int) then (if 0 ≤ x6 then ((dragomanref14_has.f k (⟨#[32, 9, 10, 123, 125, 91, 93, 59, 34, 35]⟩ : ByteArray) (bt x0 x6)).bind fun t226 => (if t226 = true then (if 0 ≤ x5 then (if x5 ≤ x6 then (if x6 ≤ (x0.size : Int) then (if x4.length < 5864062014805 then ((dragomanref14_skip.f k x0 x6).bind fun t230 => (dragomanref14_Tokens.l0 k x0 (x4 ++ [(⟨119, x0.extract (x5 : Int).toNat (x6 : Int).toNat⟩ : S39)]) t230)) else (none)) else (none)) else (none)) else (none)) else (dragomanref14_Tokens.l2 k x0 x4 x5 (wrap64 (x6 + 1))))) else (none)) else (if 0 ≤ x5 then (if x5 ≤ x6 then (if x6 ≤ (x0.size : Int) then (if x4.length < 5864062014805 then ((dragomanref14_skip.f k x0 x6).bind fun t234 => (dragomanref14_Tokens.l0 k x0 (x4 ++ [(⟨119, x0.extract (x5 : Int).toNat (x6 : Int).toNat⟩ : S39)]) t234)) else (none)) else (none)) else (none)) else (none))
end
def dragomanref14_Tokens.f (k : Nat) (a0 : ByteArray) : Option ((List (S39)) × Int) := if (a0.size : Int) > 65536 then (some (([] : List (S39)), 6)) else ((dragomanref14_may.f k a0).bind fun t215 => (if t215 = true then ((dragomanref14_skip.f k a0 0).bind fun t216 => (dragomanref14_Tokens.l0 k a0 ([] : List (S39)) t216)) else (some (([] : List (S39)), 4))))
theorem dragomanref14_Tokens.mono_l : ∀ k, (∀ y0 y1 y2, LeO (dragomanref14_Tokens.l0 k y0 y1 y2) (dragomanref14_Tokens.l0 (k + 1) y0 y1 y2)) ∧ (∀ y0 y1 y2 y3, LeO (dragomanref14_Tokens.l1 k y0 y1 y2 y3) (dragomanref14_Tokens.l1 (k + 1) y0 y1 y2 y3)) ∧ (∀ y0 y1 y2 y3, LeO (dragomanref14_Tokens.l2 k y0 y1 y2 y3) (dragomanref14_Tokens.l2 (k + 1) y0 y1 y2 y3))
  | 0 => ⟨fun _ _ _ r h => by simp [dragomanref14_Tokens.l0] at h, fun _ _ _ _ r h => by simp [dragomanref14_Tokens.l1] at h, fun _ _ _ _ r h => by simp [dragomanref14_Tokens.l2] at h⟩
  | k + 1 => by
    obtain ⟨ih0, ih1, ih2⟩ := dragomanref14_Tokens.mono_l k
    refine ⟨?_, ?_, ?_⟩
    · intro y0 y1 y2
      unfold dragomanref14_Tokens.l0
      repeat' first
      | (with_reducible exact ih0 _ _ _)
      | (with_reducible exact ih1 _ _ _ _)
      | (with_reducible exact ih2 _ _ _ _)
      | (with_reducible exact dragomanref14_has.mono _ _ _)
      | (with_reducible exact dragomanref14_may.mono _ _)
      | (with_reducible exact dragomanref14_skip.mono _ _ _)
      | (with_reducible exact LeO.refl _)
      | (with_reducible exact LeO.none _)
      | (with_reducible refine LeO.ite ?_ ?_)
      | (with_reducible refine LeO.bind ?_ (fun _ => ?_))
      | exact ih0 _ _ _
      | exact ih1 _ _ _ _
      | exact ih2 _ _ _ _
      | exact dragomanref14_has.mono _ _ _
      | exact dragomanref14_may.mono _ _
      | exact dragomanref14_skip.mono _ _ _
      | exact LeO.none _
      | refine LeO.ite ?_ ?_
      | refine LeO.bind ?_ (fun _ => ?_)
    · intro y0 y1 y2 y3
      unfold dragomanref14_Tokens.l1
      repeat' first
      | (with_reducible exact ih0 _ _ _)
      | (with_reducible exact ih1 _ _ _ _)
      | (with_reducible exact ih2 _ _ _ _)
      | (with_reducible exact dragomanref14_has.mono _ _ _)
      | (with_reducible exact dragomanref14_may.mono _ _)
      | (with_reducible exact dragomanref14_skip.mono _ _ _)
      | (with_reducible exact LeO.refl _)
      | (with_reducible exact LeO.none _)
      | (with_reducible refine LeO.ite ?_ ?_)
      | (with_reducible refine LeO.bind ?_ (fun _ => ?_))
      | exact ih0 _ _ _
      | exact ih1 _ _ _ _
      | exact ih2 _ _ _ _
      | exact dragomanref14_has.mono _ _ _
      | exact dragomanref14_may.mono _ _
      | exact dragomanref14_skip.mono _ _ _
      | exact LeO.none _
      | refine LeO.ite ?_ ?_
      | refine LeO.bind ?_ (fun _ => ?_)
    · intro y0 y1 y2 y3
      unfold dragomanref14_Tokens.l2
      repeat' first
      | (with_reducible exact ih0 _ _ _)
      | (with_reducible exact ih1 _ _ _ _)
      | (with_reducible exact ih2 _ _ _ _)
      | (with_reducible exact dragomanref14_has.mono _ _ _)
      | (with_reducible exact dragomanref14_may.mono _ _)
      | (with_reducible exact dragomanref14_skip.mono _ _ _)
      | (with_reducible exact LeO.refl _)
      | (with_reducible exact LeO.none _)
      | (with_reducible refine LeO.ite ?_ ?_)
      | (with_reducible refine LeO.bind ?_ (fun _ => ?_))
      | exact ih0 _ _ _
      | exact ih1 _ _ _ _
      | exact ih2 _ _ _ _
      | exact dragomanref14_has.mono _ _ _
      | exact dragomanref14_may.mono _ _
      | exact dragomanref14_skip.mono _ _ _
      | exact LeO.none _
      | refine LeO.ite ?_ ?_
      | refine LeO.bind ?_ (fun _ => ?_)
theorem dragomanref14_Tokens.mono : ∀ a0 k, LeO (dragomanref14_Tokens.f k a0) (dragomanref14_Tokens.f (k + 1) a0) := by
  intro a0 k
  obtain ⟨ih0, ih1, ih2⟩ := dragomanref14_Tokens.mono_l k
  unfold dragomanref14_Tokens.f
  repeat' first
      | (with_reducible exact ih0 _ _ _)
      | (with_reducible exact ih1 _ _ _ _)
      | (with_reducible exact ih2 _ _ _ _)
      | (with_reducible exact dragomanref14_has.mono _ _ _)
      | (with_reducible exact dragomanref14_may.mono _ _)
      | (with_reducible exact dragomanref14_skip.mono _ _ _)
      | (with_reducible exact LeO.refl _)
      | (with_reducible exact LeO.none _)
      | (with_reducible refine LeO.ite ?_ ?_)
      | (with_reducible refine LeO.bind ?_ (fun _ => ?_))
      | exact ih0 _ _ _
      | exact ih1 _ _ _ _
      | exact ih2 _ _ _ _
      | exact dragomanref14_has.mono _ _ _
      | exact dragomanref14_may.mono _ _
      | exact dragomanref14_skip.mono _ _ _
      | exact LeO.none _
      | refine LeO.ite ?_ ?_
      | refine LeO.bind ?_ (fun _ => ?_)
def dragomanref14_Tokens.T17 : Bool × List (List Nat × List Nat) := (true, [([], []), ([], []), ([], []), ([1, 2], [1, 2]), ([], []), ([], []), ([], []), ([6], [6]), ([4, 5, 7], [4, 5, 7]), ([3, 8], [3, 8]), ([9], [9]), ([0, 10], [0, 10]), ([11, 11, 0, 1, 2, 3, 4, 5, 6, 7, 8, 9, 10, 11], [0, 11])])
def dragomanref14_Tokens.B17 : List Nat := [0, 0, 0, 6, 0, 0, 0, 64, 240, 510, 1022, 2047, 4095]
theorem dragomanref14_Tokens.tab17 : rtab .any (opsOf Tryd.f13 17) = dragomanref14_Tokens.T17 := by kernel_rfl
theorem dragomanref14_Tokens.bits17 : waitsOk dragomanref14_Tokens.T17.2 dragomanref14_Tokens.B17 = true := by kernel_rfl
set_option maxHeartbeats 8000000 in
set_option maxRecDepth 100000 in
theorem dragomanref14_Tokens.calls (k : Nat) (a0 : ByteArray) (r1 : List (S39)) (r2 : Int) (w : World) (h : dragomanref14_Tokens.f k a0 = some (r1, r2)) :
    Calls Tryd.prog 13 #[.string a0] w fun e w' => ∃ v0_ : Value, e = .returned (.tuple #[v0_, .int .i64 r2]) ∧ Kd.R k39 39 w' w.heap.size (fun _ => True) v0_ r1 ∧ Below w.heap.size w w' := by
  have hu39 := Tryd.underlying39
  have HB := Aside0.mk (Below.refl w.heap.size w)
  have H : (if (a0.size : Int) > 65536 then (some (([] : List (S39)), 6)) else ((dragomanref14_may.f k a0).bind fun t215 => (if t215 = true then ((dragomanref14_skip.f k a0 0).bind fun t216 => (dragomanref14_Tokens.l0 k a0 ([] : List (S39)) t216)) else (some (([] : List (S39)), 4))))) = some (r1, r2) := h
  clear h
  by_cases c2 : (a0.size : Int) > 65536
  · rw [if_pos c2] at H
    have c2b0 : decide (65536 < (a0.size : Int)) = true := decide_eq_true c2
    have c2b1 : decide (65536 < a0.size) = true := decide_eq_true (by omega)
    clear c2
    simp only [Option.some.injEq, Prod.mk.injEq] at H
    obtain ⟨rfl, rfl⟩ := H
    go_enter Tryd.func13, Tryd.ntmps13
    go_wp2
    first | go_ret2 | refine ⟨_, results_tmp2 rfl _ _ _, ?_⟩
    exact ⟨_, by first | rfl | (simp [errW_none, errW_some] <;> rfl) | (simp [*, errW_none, errW_some] <;> rfl), by first | exact Kd.R_nil _ _ _ _ _ | exact Kd.N_nil _ _ _ _ _ | exact Kd.V_nil _ _ _ _ _ | exact Kd.Q_nil _ _ _ _ _ | exact Kd.S_nil _ _ _ _ _, by repeat (first | (with_reducible first | exact HB.out | apply below_alloc | apply pw_below_drewN | apply below_drew1) | exact HB.out)⟩
  · rw [if_neg c2] at H
    have c2b0 : decide (65536 < (a0.size : Int)) = false := decide_eq_false c2
    have c2b1 : decide (65536 < a0.size) = false := decide_eq_false (by omega)
    clear c2
    replace H := Option.bind_eq_some_iff.mp H
    obtain ⟨t215, A30, H⟩ := H
    replace H : (if t215 = true then ((dragomanref14_skip.f k a0 0).bind fun t216 => (dragomanref14_Tokens.l0 k a0 ([] : List (S39)) t216)) else (some (([] : List (S39)), 4))) = some (r1, r2) := H
    have A3 := Aside0.mk A30
    clear A30
    by_cases c4 : t215 = true
    · subst c4
      have H1 : ((dragomanref14_skip.f k a0 0).bind fun t216 => (dragomanref14_Tokens.l0 k a0 ([] : List (S39)) t216)) = some (r1, r2) := by rw [if_pos rfl] at H; exact H
      clear H
      have H := H1
      clear H1
      replace H := Option.bind_eq_some_iff.mp H
      obtain ⟨t216, A50, H⟩ := H
      replace H : (dragomanref14_Tokens.l0 k a0 ([] : List (S39)) t216) = some (r1, r2) := H
      have A5 := Aside0.mk A50
      clear A50
      have H' := Aside0.mk H
      clear H
      go_enter Tryd.func13, Tryd.ntmps13
      go_wp2_with (first | ((with_reducible refine gate_callee (f := 27) rfl ?_); refine goesL_ (some 11) rfl rfl Tryd.func27 (by kernel_rfl) rfl #[.string a0] rfl (by (try simp only [List.map_toArray, List.map_cons, List.map_nil]); first | done | rfl | (simp only [List.length_drop, List.length_take]; rfl)) ?_; (with_reducible refine (dragomanref14_may.calls k a0 true _ A3.out).mono ?_); rintro e w' ⟨rfl, ⟨nd, rfl⟩⟩; refine ⟨_, rfl, ?_⟩) | ((with_reducible refine gate_callee (f := 35) rfl ?_); refine goesL_ (some 14) rfl rfl Tryd.func35 (by kernel_rfl) rfl #[.string a0, .int .i64 0] rfl (by (try simp only [List.map_toArray, List.map_cons, List.map_nil]); first | done | rfl | (simp only [List.length_drop, List.length_take]; rfl)) ?_; (with_reducible refine (dragomanref14_skip.calls k a0 0 t216 _ A5.out).mono ?_); rintro e w' ⟨rfl, ⟨nd, rfl⟩⟩; refine ⟨_, rfl, ?_⟩))
      go_loopg [4, 5] k (fun kq v4 v5 w' => ∃ (x4_1 : List (S39)) (x5_1 : Int), v5 = .int .i64 x5_1 ∧ Aside0 (dragomanref14_Tokens.l0 kq a0 x4_1 x5_1 = some (r1, r2)) ∧ Aside0 (kq ≤ k) ∧ Aside0 (Kd.R k39 39 w' w.heap.size (fun _ => True) v4 x4_1) ∧ Aside0 (Below w.heap.size w w'))
      case atStart => exact ⟨(([] : List (S39))), (t216), (by first | rfl | (simp; done) | (simp [*]; done)), H', ⟨Nat.le_refl _⟩, ⟨by first | exact Kd.R_nil _ _ _ _ _ | exact Kd.N_nil _ _ _ _ _ | exact Kd.V_nil _ _ _ _ _ | exact Kd.Q_nil _ _ _ _ _ | exact Kd.S_nil _ _ _ _ _⟩, ⟨by repeat (first | (with_reducible first | exact HB.out | apply below_alloc | apply pw_below_drewN | apply below_drew1) | exact HB.out)⟩⟩
      case round =>
        clear H'
        try clear c1
        try clear c2
        try clear c2b0
        try clear c2b1
        try clear p2
        try clear c3
        try clear c4
        obtain ⟨x4_1, x5_1, rfl, HA, HK1, HO_4, HB⟩ := hrel
        cases gk with
        | zero => exact absurd HA.out (by simp [dragomanref14_Tokens.l0])
        | succ k1 =>
          have H := HA.out
          clear HA
          simp only [dragomanref14_Tokens.l0] at H
          by_cases c6 : x5_1 = (a0.size : Int)
          · rw [if_pos c6] at H
            have c6b0 : (x5_1 == (a0.size : Int)) = true := beq_iff_eq.mpr c6
            have c6b1 : (x5_1 != (a0.size : Int)) = false := bne_eq_false_iff_eq.mpr c6
            clear c6
            simp only [Option.some.injEq, Prod.mk.injEq] at H
            obtain ⟨rfl, rfl⟩ := H
            go_wp2
            first | go_ret2 | refine ⟨_, results_tmp2 rfl _ _ _, ?_⟩
            exact ⟨_, by first | rfl | (simp [errW_none, errW_some] <;> rfl) | (simp [*, errW_none, errW_some] <;> rfl), by (with_reducible repeat (first | apply Kd.R_alloc | apply Kd.R_drewN | apply Kd.R_drew)); exact HO_4.out, by repeat (first | (with_reducible first | exact HB.out | apply below_alloc | apply pw_below_drewN | apply below_drew1) | exact HB.out)⟩
          · rw [if_neg c6] at H
            have c6b0 : (x5_1 == (a0.size : Int)) = false := beq_eq_false_iff_ne.mpr c6
            have c6b1 : (x5_1 != (a0.size : Int)) = true := bne_iff_ne.mpr c6
            by_cases c7 : x5_1 < 0
            · rw [if_pos c7] at H
              have c7b0 : decide (x5_1 < 0) = true := decide_eq_true c7
              clear c7
              simp only [Option.some.injEq, Prod.mk.injEq] at H
              obtain ⟨rfl, rfl⟩ := H
              go_wp2
              first | go_ret2 | refine ⟨_, results_tmp2 rfl _ _ _, ?_⟩
              exact ⟨_, by first | rfl | (simp [errW_none, errW_some] <;> rfl) | (simp [*, errW_none, errW_some] <;> rfl), by first | exact Kd.R_nil _ _ _ _ _ | exact Kd.N_nil _ _ _ _ _ | exact Kd.V_nil _ _ _ _ _ | exact Kd.Q_nil _ _ _ _ _ | exact Kd.S_nil _ _ _ _ _, by repeat (first | (with_reducible first | exact HB.out | apply below_alloc | apply pw_below_drewN | apply below_drew1) | exact HB.out)⟩
            · rw [if_neg c7] at H
              have c7b0 : decide (x5_1 < 0) = false := decide_eq_false c7
              clear c7
              by_cases c8 : 0 ≤ x5_1
              · rw [if_pos c8] at H
                have c8b0 : decide (0 ≤ x5_1) = true := decide_eq_true c8
                clear c8
                by_cases c9 : x5_1 < (a0.size : Int)
                · rw [if_pos c9] at H
                  have c9b0 : decide (x5_1 < (a0.size : Int)) = true := decide_eq_true c9
                  clear c9
                  replace H := Option.bind_eq_some_iff.mp H
                  obtain ⟨t217, A110, H⟩ := H
                  replace H : (if t217 = true then (if x5_1 ≤ (wrap64 (x5_1 + 1)) then (if (wrap64 (x5_1 + 1)) ≤ (a0.size : Int) then (if x4_1.length < 5864062014805 then ((dragomanref14_skip.f k1 a0 (wrap64 (x5_1 + 1))).bind fun t221 => (dragomanref14_Tokens.l0 k1 a0 (x4_1 ++ [(⟨bt a0 x5_1, a0.extract (x5_1 : Int).toNat ((wrap64 (x5_1 + 1)) : Int).toNat⟩ : S39)]) t221)) else (none)) else (none)) else (none)) else (if (bt a0 x5_1) = 34 then (dragomanref14_Tokens.l1 k1 a0 x4_1 x5_1 (wrap64 (x5_1 + 1))) else (dragomanref14_Tokens.l2 k1 a0 x4_1 x5_1 x5_1))) = some (r1, r2) := H
                  have A11 := Aside0.mk A110
                  clear A110
                  by_cases c12 : t217 = true
                  · subst c12
                    have H1 : (if x5_1 ≤ (wrap64 (x5_1 + 1)) then (if (wrap64 (x5_1 + 1)) ≤ (a0.size : Int) then (if x4_1.length < 5864062014805 then ((dragomanref14_skip.f k1 a0 (wrap64 (x5_1 + 1))).bind fun t221 => (dragomanref14_Tokens.l0 k1 a0 (x4_1 ++ [(⟨bt a0 x5_1, a0.extract (x5_1 : Int).toNat ((wrap64 (x5_1 + 1)) : Int).toNat⟩ : S39)]) t221)) else (none)) else (none)) else (none)) = some (r1, r2) := by rw [if_pos rfl] at H; exact H
                    clear H
                    have H := H1
                    clear H1
                    have c14b0 := eq_true (of_decide_eq_true (by first | (with_reducible assumption) | assumption) : 0 ≤ x5_1)
                    by_cases c15 : x5_1 ≤ (wrap64 (x5_1 + 1))
                    · rw [if_pos c15] at H
                      have c15b0 := eq_true c15
                      have c15b1 : decide (x5_1 ≤ (wrap64 (x5_1 + 1))) = true := decide_eq_true c15
                      by_cases c16 : (wrap64 (x5_1 + 1)) ≤ (a0.size : Int)
                      · rw [if_pos c16] at H
                        have c16b0 := eq_true c16
                        have c16b1 : decide ((wrap64 (x5_1 + 1)) ≤ (a0.size : Int)) = true := decide_eq_true c16
                        by_cases c17 : x4_1.length < 5864062014805
                        · rw [if_pos c17] at H
                          have LMc17 := Aside0.mk c17
                          clear c17
                          obtain ⟨y218, hy218⟩ : ∃ y_ : List (S39), y_ = (x4_1 ++ [(⟨bt a0 x5_1, a0.extract (x5_1 : Int).toNat ((wrap64 (x5_1 + 1)) : Int).toNat⟩ : S39)]) := ⟨_, rfl⟩
                          replace H : ((dragomanref14_skip.f k1 a0 (wrap64 (x5_1 + 1))).bind fun t221 => (dragomanref14_Tokens.l0 k1 a0 y218 t221)) = some (r1, r2) := by first | (rw [hy218]; with_reducible exact H) | (have H2_ := (Option.bind_some _ _).symm.trans H; rw [hy218]; with_reducible exact H2_) | (have H2_ := (Option.bind_some _ _).symm.trans H; with_reducible exact H2_) | with_reducible exact H | (rw [hy218]; exact H) | exact H
                          have Ny218 := Aside0.mk hy218
                          clear hy218
                          replace H := Option.bind_eq_some_iff.mp H
                          obtain ⟨t221, A180, H⟩ := H
                          replace H : (dragomanref14_Tokens.l0 k1 a0 y218 t221) = some (r1, r2) := H
                          have A18 := Aside0.mk A180
                          clear A180
                          have H' := Aside0.mk H
                          clear H
                          have p10 : 0 ≤ (x5_1 : Int) := of_decide_eq_true (by first | (with_reducible assumption) | assumption)
                          have q10 : x5_1 < (a0.size : Int) := of_decide_eq_true (by first | (with_reducible assumption) | assumption)
                          have hx10 := bt_at a0 x5_1
                          replace p10 := eq_true p10
                          replace q10 := eq_true q10
                          try go_wp2_with (first | ((with_reducible refine gate_callee (f := 36) rfl ?_); refine goesL_ (some 51) rfl rfl Tryd.func36 (by kernel_rfl) rfl #[.string (⟨#[123, 125, 91, 93, 59]⟩ : ByteArray), .int .u8 (bt a0 x5_1)] rfl (by (try simp only [List.map_toArray, List.map_cons, List.map_nil]); first | done | rfl | (simp only [List.length_drop, List.length_take]; rfl)) ?_; (with_reducible refine (dragomanref14_has.calls k1 (⟨#[123, 125, 91, 93, 59]⟩ : ByteArray) (bt a0 x5_1) true _ A11.out).mono ?_); rintro e w' ⟨rfl, ⟨nd, rfl⟩⟩; refine ⟨_, rfl, ?_⟩))
                          (try (rw [drewN_self wr]; generalize hq_ : World.drewN wr _ = wr; have n0_ : Aside0 (Kd.R k39 39 wr w.heap.size (fun _ => True) u4 x4_1) := ⟨by rw [← hq_]; exact (by (with_reducible repeat (first | apply Kd.R_alloc | apply Kd.R_drewN | apply Kd.R_drew)); exact HO_4.out)⟩; have n1_ : Aside0 (Below w.heap.size w wr) := ⟨by rw [← hq_]; exact (by repeat (first | (with_reducible first | exact HB.out | apply below_alloc | apply pw_below_drewN | apply below_drew1) | exact HB.out))⟩; clear HO_4 HB hq_; have HO_4 := n0_; have HB := n1_; clear n0_ n1_))
                          have n0_ := Aside0.mk (Kd.R_drew HO_4.out)
                          have n1_ := Aside0.mk (below_drew1 HB.out)
                          clear HO_4
                          clear HB
                          have HO_4 := n0_
                          have HB := n1_
                          clear n0_ n1_
                          have p13 : 0 ≤ (x5_1 : Int) := of_decide_eq_true (by first | (with_reducible assumption) | assumption)
                          have q13 : x5_1 < (a0.size : Int) := of_decide_eq_true (by first | (with_reducible assumption) | assumption)
                          have hx13 := bt_at a0 x5_1
                          replace p13 := eq_true p13
                          replace q13 := eq_true q13
                          refine start_ (n := 13) (S := fun w' => True) (ds := []) #[false, false, false, false, false, false, false, false, false, false, false, false, false] (by kernel_rfl) rfl rfl trivial (fun hHeld => ?_); refine with_tabW dragomanref14_Tokens.tab17 dragomanref14_Tokens.bits17 (fun HT_ HW_ => ?_)
                          generalize wr.drew = w19 at HO_4 HB hHeld ⊢
                          refine pure_ (i := 0) (N := some 52) (v := ?_) (a' := ?_) #[true, false, false, false, false, false, false, false, false, false, false, false, false] rfl rfl (any_of HT_.out (by kernel_rfl)) (fun _ _ _ h => h) (Or.inl ⟨by rfl, ?_⟩) ?_ ?_
                          rotate_left
                          · intro w'
                            go_simp
                            with_reducible rfl
                          rotate_left
                          · simp only [Act.put, List.setIfInBounds_toArray, List.set_cons_zero, List.set_cons_succ, i64_w, i32_w]
                            rfl
                          refine pure_ (i := 1) (N := some 53) (v := ?_) (a' := ?_) #[true, true, false, false, false, false, false, false, false, false, false, false, false] rfl rfl (any_of HT_.out (by kernel_rfl)) (fun _ _ _ h => h) (Or.inl ⟨by rfl, ?_⟩) ?_ ?_
                          rotate_left
                          · intro w'
                            go_simp
                            with_reducible rfl
                          rotate_left
                          · simp only [Act.put, List.setIfInBounds_toArray, List.set_cons_zero, List.set_cons_succ, i64_w, i32_w]
                            rfl
                          refine pure_ (i := 2) (N := some 54) (v := ?_) (a' := ?_) #[true, true, true, false, false, false, false, false, false, false, false, false, false] rfl rfl (any_of HT_.out (by kernel_rfl)) (fun _ _ _ h => h) (Or.inl ⟨by rfl, ?_⟩) ?_ ?_
                          rotate_left
                          · intro w'
                            go_simp
                            with_reducible rfl
                          rotate_left
                          · simp only [Act.put, List.setIfInBounds_toArray, List.set_cons_zero, List.set_cons_succ, i64_w, i32_w]
                            rfl
                          refine pure_ (i := 4) (N := some 56) (v := ?_) (a' := ?_) #[true, true, true, false, true, false, false, false, false, false, false, false, false] rfl rfl (any_of HT_.out (by kernel_rfl)) (fun _ _ _ h => h) (Or.inl ⟨by rfl, ?_⟩) ?_ ?_
                          rotate_left
                          · intro w'
                            go_simp
                            with_reducible rfl
                          rotate_left
                          · simp only [Act.put, List.setIfInBounds_toArray, List.set_cons_zero, List.set_cons_succ, i64_w, i32_w]
                            rfl
                          refine pure_ (i := 5) (N := some 57) (v := ?_) (a' := ?_) #[true, true, true, false, true, true, false, false, false, false, false, false, false] rfl rfl (any_of HT_.out (by kernel_rfl)) (fun _ _ _ h => h) (Or.inl ⟨by rfl, ?_⟩) ?_ ?_
                          rotate_left
                          · intro w'
                            go_simp
                            with_reducible rfl
                          rotate_left
                          · simp only [Act.put, List.setIfInBounds_toArray, List.set_cons_zero, List.set_cons_succ, i64_w, i32_w]
                            rfl
                          refine pure_ (i := 6) (N := some 58) (v := ?_) (a' := ?_) #[true, true, true, false, true, true, true, false, false, false, false, false, false] rfl rfl (any_of HT_.out (by kernel_rfl)) (fun _ _ _ h => h) (Or.inl ⟨by rfl, ?_⟩) ?_ ?_
                          rotate_left
                          · intro w'
                            go_simp
                            with_reducible rfl
                          rotate_left
                          · simp only [Act.put, List.setIfInBounds_toArray, List.set_cons_zero, List.set_cons_succ, i64_w, i32_w]
                            rfl
                          refine pure_ (i := 7) (N := some 59) (v := ?_) (a' := ?_) #[true, true, true, false, true, true, true, true, false, false, false, false, false] rfl rfl (any_of HT_.out (by kernel_rfl)) (fun _ _ _ h => h) (Or.inl ⟨by rfl, ?_⟩) ?_ ?_
                          rotate_left
                          · intro w'
                            go_simp
                            with_reducible rfl
                          rotate_left
                          · simp only [Act.put, List.setIfInBounds_toArray, List.set_cons_zero, List.set_cons_succ, i64_w, i32_w]
                            rfl
                          refine pure_ (i := 8) (N := some 60) (v := ?_) (a' := ?_) #[true, true, true, false, true, true, true, true, true, false, false, false, false] rfl rfl (any_of HT_.out (by kernel_rfl)) (fun _ _ _ h => h) (Or.inl ⟨by rfl, ?_⟩) ?_ ?_
                          rotate_left
                          · intro w'
                            go_simp
                            with_reducible rfl
                          rotate_left
                          · simp only [Act.put, List.setIfInBounds_toArray, List.set_cons_zero, List.set_cons_succ, i64_w, i32_w]
                            rfl
                          refine take_ (i := 3) (N := some 55) (v := ?_) (a' := ?_) #[true, true, true, true, true, true, true, true, true, false, false, false, false] rfl rfl (take_ofW HT_.out HW_.out (by kernel_rfl)) (fun _ _ _ h => h) (Or.inl ⟨by rfl, ?_⟩) hHeld ?_ ?_
                          rotate_left
                          · intro w' _
                            go_simp
                            with_reducible rfl
                          rotate_left
                          · simp only [Act.put, List.setIfInBounds_toArray, List.set_cons_zero, List.set_cons_succ, i64_w, i32_w]
                            rfl
                          refine pure_ (i := 9) (N := some 61) (v := ?_) (a' := ?_) #[true, true, true, true, true, true, true, true, true, true, false, false, false] rfl rfl (any_of HT_.out (by kernel_rfl)) (fun _ _ _ h => h) (Or.inl ⟨by rfl, ?_⟩) ?_ ?_
                          rotate_left
                          · intro w'
                            go_simp
                            with_reducible rfl
                          rotate_left
                          · simp only [Act.put, List.setIfInBounds_toArray, List.set_cons_zero, List.set_cons_succ, i64_w, i32_w]
                            rfl
                          refine one_ (i := 10) (N := some 62) #[true, true, true, true, true, true, true, true, true, true, true, false, false] rfl rfl (one_of HT_.out (by kernel_rfl)) (by decide) (fun K hK => ?_)
                          refine value_ (w1 := ?_) (v := ?_) (by rfl) rfl ?_ ?_
                          rotate_left 2
                          · go_simp
                            constructor
                            · rfl
                            · rfl
                          refine hK.out _ _ trivial (fun hHeld => ?_)
                          clear hK K
                          refine norm_ (a' := ?_) ?_ ?_
                          rotate_left
                          · show Act.put _ (some 62) _ = _
                            simp only [Act.put, List.setIfInBounds_toArray, List.set_cons_zero, List.set_cons_succ, i64_w, i32_w]
                            rfl
                          refine one_ (i := 11) (N := some 63) #[true, true, true, true, true, true, true, true, true, true, true, true, false] rfl rfl (one_of HT_.out (by kernel_rfl)) (by decide) (fun K hK => ?_)
                          refine Kd.R_append_step k39 (w0 := w) w.heap.size (by rfl) (.tmp 52) (.tmp 62) 35 39 (.agg #[(.int .u8 0), (.string ⟨#[]⟩)]) 24 rfl Tryd.underlying35 info39 rfl (by decide) (by omega) u4 x4_1 (⟨bt a0 x5_1, a0.extract (x5_1 : Int).toNat ((wrap64 (x5_1 + 1)) : Int).toNat⟩ : S39) [.int .u8 (bt a0 x5_1), .string (a0.extract (x5_1 : Int).toNat ((wrap64 (x5_1 + 1)) : Int).toNat)] (fun _ => True) (fun _ => False) rfl rfl ?aP (fun _ hk => hk.elim) ?aF ?aO ?aB ?aS ?aL ?_
                          (case aP => exact k39_mkM _ _ _ (⟨bt a0 x5_1, a0.extract (x5_1 : Int).toNat ((wrap64 (x5_1 + 1)) : Int).toNat⟩ : S39))
                          (case aB => exact (by repeat (first | (with_reducible first | exact HB.out | apply below_alloc | apply pw_below_drewN | apply below_drew1) | exact HB.out)))
                          (case aF => exact (fun _ _ => trivial))
                          (case aO => exact (by (with_reducible repeat (first | apply Kd.R_alloc | apply Kd.R_drewN | apply Kd.R_drew)); exact HO_4.out))
                          (case aS => exact (below_size (by repeat (first | (with_reducible first | exact HB.out | apply below_alloc | apply pw_below_drewN | apply below_drew1) | exact HB.out))))
                          (case aL => have := LMc17.out; omega)
                          intro v219 w20 ho hb hg hat
                          rw [← Ny218.out] at ho
                          have n0_ := Aside0.mk (hb)
                          have n1_ := Aside0.mk (ho)
                          clear HB
                          clear HO_4
                          have HB := n0_
                          have HO220 := n1_
                          clear n0_ n1_
                          clear ho hb hg hat
                          refine hK.out _ _ trivial (fun hHeld => ?_)
                          clear hK K
                          refine norm_ (a' := ?_) ?_ ?_
                          rotate_left
                          · show Act.put _ (some 63) _ = _
                            simp only [Act.put, List.setIfInBounds_toArray, List.set_cons_zero, List.set_cons_succ, i64_w, i32_w]
                            rfl
                          refine pure_ (i := 12) (N := some 4) (v := ?_) (a' := ?_) #[true, true, true, true, true, true, true, true, true, true, true, true, true] rfl rfl (any_of HT_.out (by kernel_rfl)) (fun _ _ _ h => h) (Or.inl ⟨by rfl, ?_⟩) ?_ ?_
                          rotate_left
                          · intro w'
                            go_simp
                            with_reducible rfl
                          rotate_left
                          · simp only [Act.put, List.setIfInBounds_toArray, List.set_cons_zero, List.set_cons_succ, i64_w, i32_w]
                            rfl
                          refine done_ (done_of HT_.out (by kernel_rfl)) ?_
                          try go_wp2_with (first | ((with_reducible refine gate_callee (f := 35) rfl ?_); refine goesL_ (some 21) rfl rfl Tryd.func35 (by kernel_rfl) rfl #[.string a0, .int .i64 (wrap64 (x5_1 + 1))] rfl (by (try simp only [List.map_toArray, List.map_cons, List.map_nil]); first | done | rfl | (simp only [List.length_drop, List.length_take]; rfl)) ?_; (with_reducible refine (dragomanref14_skip.calls k1 a0 (wrap64 (x5_1 + 1)) t221 _ A18.out).mono ?_); rintro e w' ⟨rfl, ⟨nd, rfl⟩⟩; refine ⟨_, rfl, ?_⟩))
                          go_roundg k1
                          case measure => have := HK1.out; omega
                          case rel => exact ⟨(y218), (t221), (by first | rfl | (simp; done) | (simp [*]; done)), H', ⟨by have := HK1.out; omega⟩, ⟨by (with_reducible repeat (first | apply Kd.R_alloc | apply Kd.R_drewN | apply Kd.R_drew)); exact HO220.out⟩, ⟨by repeat (first | (with_reducible first | exact HB.out | apply below_alloc | apply pw_below_drewN | apply below_drew1) | exact HB.out)⟩⟩
                        · rw [if_neg c17] at H
                          exact absurd H (by simp)
                      · rw [if_neg c16] at H
                        exact absurd H (by simp)
                    · rw [if_neg c15] at H
                      exact absurd H (by simp)
                  · replace c12 := Bool.eq_false_iff.mpr c12
                    subst c12
                    have H1 : (if (bt a0 x5_1) = 34 then (dragomanref14_Tokens.l1 k1 a0 x4_1 x5_1 (wrap64 (x5_1 + 1))) else (dragomanref14_Tokens.l2 k1 a0 x4_1 x5_1 x5_1)) = some (r1, r2) := by rw [if_neg (show ¬ (false = true) by decide)] at H; exact H
                    clear H
                    have H := H1
                    clear H1
                    by_cases c22 : (bt a0 x5_1) = 34
                    · rw [if_pos c22] at H
                      have c22b0 : ((bt a0 x5_1) == 34) = true := beq_iff_eq.mpr c22
                      have c22b1 : ((bt a0 x5_1) != 34) = false := bne_eq_false_iff_eq.mpr c22
                      clear c22
                      have H' := Aside0.mk H
                      clear H
                      have p10 : 0 ≤ (x5_1 : Int) := of_decide_eq_true (by first | (with_reducible assumption) | assumption)
                      have q10 : x5_1 < (a0.size : Int) := of_decide_eq_true (by first | (with_reducible assumption) | assumption)
                      have hx10 := bt_at a0 x5_1
                      replace p10 := eq_true p10
                      replace q10 := eq_true q10
                      go_wp2_with (first | ((with_reducible refine gate_callee (f := 36) rfl ?_); refine goesL_ (some 51) rfl rfl Tryd.func36 (by kernel_rfl) rfl #[.string (⟨#[123, 125, 91, 93, 59]⟩ : ByteArray), .int .u8 (bt a0 x5_1)] rfl (by (try simp only [List.map_toArray, List.map_cons, List.map_nil]); first | done | rfl | (simp only [List.length_drop, List.length_take]; rfl)) ?_; (with_reducible refine (dragomanref14_has.calls k1 (⟨#[123, 125, 91, 93, 59]⟩ : ByteArray) (bt a0 x5_1) false _ A11.out).mono ?_); rintro e w' ⟨rfl, ⟨nd, rfl⟩⟩; refine ⟨_, rfl, ?_⟩; have p21 : 0 ≤ (x5_1 : Int) := of_decide_eq_true (by first | (with_reducible assumption) | assumption); have q21 : x5_1 < (a0.size : Int) := of_decide_eq_true (by first | (with_reducible assumption) | assumption); have hx21 := bt_at a0 x5_1; replace p21 := eq_true p21; replace q21 := eq_true q21))
                      go_loopg [6] k1 (fun kq v6 w' => ∃ (x6_2 : Int), v6 = .int .i64 x6_2 ∧ Aside0 (dragomanref14_Tokens.l1 kq a0 x4_1 x5_1 x6_2 = some (r1, r2)) ∧ Aside0 (kq ≤ k1) ∧ Aside0 (Kd.R k39 39 w' w.heap.size (fun _ => True) u4 x4_1) ∧ Aside0 (Below w.heap.size w w'))
                      case atStart => exact ⟨(wrap64 (x5_1 + 1)), (by first | rfl | (simp; done) | (simp [*]; done)), H', ⟨Nat.le_refl _⟩, ⟨by (with_reducible repeat (first | apply Kd.R_alloc | apply Kd.R_drewN | apply Kd.R_drew)); exact HO_4.out⟩, ⟨by repeat (first | (with_reducible first | exact HB.out | apply below_alloc | apply pw_below_drewN | apply below_drew1) | exact HB.out)⟩⟩
                      case round =>
                        clear H'
                        try clear c1
                        try clear p1
                        try clear q1
                        try clear hx1
                        try clear c2
                        try clear c2b0
                        try clear c2b1
                        try clear p2
                        try clear q2
                        try clear hx2
                        try clear c3
                        try clear c4
                        try clear c6
                        try clear c6b0
                        try clear c6b1
                        try clear p6
                        try clear c7
                        try clear c7b0
                        try clear c8
                        try clear c8b0
                        try clear c9
                        try clear c9b0
                        try clear p10
                        try clear q10
                        try clear hx10
                        try clear c12
                        try clear c13
                        try clear p13
                        try clear q13
                        try clear hx13
                        try clear c14
                        try clear c14b0
                        try clear c15
                        try clear c15b0
                        try clear c15b1
                        try clear c16
                        try clear c16b0
                        try clear c16b1
                        try clear c17
                        try clear p21
                        try clear q21
                        try clear hx21
                        try clear c22
                        try clear c22b0
                        try clear c22b1
                        try clear p10
                        try clear p13
                        try clear p2
                        try clear p21
                        try clear q10
                        try clear q13
                        try clear q21
                        obtain ⟨x6_2, rfl, HA, HK2, HO_4, HB⟩ := hrel
                        cases gk with
                        | zero => exact absurd HA.out (by simp [dragomanref14_Tokens.l1])
                        | succ k2 =>
                          have H := HA.out
                          clear HA
                          simp only [dragomanref14_Tokens.l1] at H
                          by_cases c23 : x6_2 < (a0.size : Int)
                          · rw [if_pos c23] at H
                            have c23b0 : decide (x6_2 < (a0.size : Int)) = true := decide_eq_true c23
                            clear c23
                            by_cases c24 : 0 ≤ x6_2
                            · rw [if_pos c24] at H
                              have c24b0 : decide (0 ≤ x6_2) = true := decide_eq_true c24
                              clear c24
                              by_cases c26 : (bt a0 x6_2) = 34
                              · rw [if_pos c26] at H
                                have c26b0 : ((bt a0 x6_2) == 34) = true := beq_iff_eq.mpr c26
                                have c26b1 : ((bt a0 x6_2) != 34) = false := bne_eq_false_iff_eq.mpr c26
                                clear c26
                                by_cases c27 : x6_2 = (a0.size : Int)
                                · rw [if_pos c27] at H
                                  have c27b0 : (x6_2 == (a0.size : Int)) = true := beq_iff_eq.mpr c27
                                  have c27b1 : (x6_2 != (a0.size : Int)) = false := bne_eq_false_iff_eq.mpr c27
                                  clear c27
                                  simp only [Option.some.injEq, Prod.mk.injEq] at H
                                  obtain ⟨rfl, rfl⟩ := H
                                  have p25 : 0 ≤ (x6_2 : Int) := of_decide_eq_true (by first | (with_reducible assumption) | assumption)
                                  have q25 : x6_2 < (a0.size : Int) := of_decide_eq_true (by first | (with_reducible assumption) | assumption)
                                  have hx25 := bt_at a0 x6_2
                                  replace p25 := eq_true p25
                                  replace q25 := eq_true q25
                                  go_wp2
                                  first | go_ret2 | refine ⟨_, results_tmp2 rfl _ _ _, ?_⟩
                                  exact ⟨_, by first | rfl | (simp [errW_none, errW_some] <;> rfl) | (simp [*, errW_none, errW_some] <;> rfl), by first | exact Kd.R_nil _ _ _ _ _ | exact Kd.N_nil _ _ _ _ _ | exact Kd.V_nil _ _ _ _ _ | exact Kd.Q_nil _ _ _ _ _ | exact Kd.S_nil _ _ _ _ _, by repeat (first | (with_reducible first | exact HB.out | apply below_alloc | apply pw_below_drewN | apply below_drew1) | exact HB.out)⟩
                                · rw [if_neg c27] at H
                                  have c27b0 : (x6_2 == (a0.size : Int)) = false := beq_eq_false_iff_ne.mpr c27
                                  have c27b1 : (x6_2 != (a0.size : Int)) = true := bne_iff_ne.mpr c27
                                  by_cases c29 : (bt a0 x6_2) = 10
                                  · rw [if_pos c29] at H
                                    have c29b0 : ((bt a0 x6_2) == 10) = true := beq_iff_eq.mpr c29
                                    have c29b1 : ((bt a0 x6_2) != 10) = false := bne_eq_false_iff_eq.mpr c29
                                    clear c29
                                    simp only [Option.some.injEq, Prod.mk.injEq] at H
                                    obtain ⟨rfl, rfl⟩ := H
                                    have p25 : 0 ≤ (x6_2 : Int) := of_decide_eq_true (by first | (with_reducible assumption) | assumption)
                                    have q25 : x6_2 < (a0.size : Int) := of_decide_eq_true (by first | (with_reducible assumption) | assumption)
                                    have hx25 := bt_at a0 x6_2
                                    replace p25 := eq_true p25
                                    replace q25 := eq_true q25
                                    have p28 : 0 ≤ (x6_2 : Int) := of_decide_eq_true (by first | (with_reducible assumption) | assumption)
                                    have q28 : x6_2 < (a0.size : Int) := of_decide_eq_true (by first | (with_reducible assumption) | assumption)
                                    have hx28 := bt_at a0 x6_2
                                    replace p28 := eq_true p28
                                    replace q28 := eq_true q28
                                    go_wp2
                                    first | go_ret2 | refine ⟨_, results_tmp2 rfl _ _ _, ?_⟩
                                    exact ⟨_, by first | rfl | (simp [errW_none, errW_some] <;> rfl) | (simp [*, errW_none, errW_some] <;> rfl), by first | exact Kd.R_nil _ _ _ _ _ | exact Kd.N_nil _ _ _ _ _ | exact Kd.V_nil _ _ _ _ _ | exact Kd.Q_nil _ _ _ _ _ | exact Kd.S_nil _ _ _ _ _, by repeat (first | (with_reducible first | exact HB.out | apply below_alloc | apply pw_below_drewN | apply below_drew1) | exact HB.out)⟩
                                  · rw [if_neg c29] at H
                                    have c29b0 : ((bt a0 x6_2) == 10) = false := beq_eq_false_iff_ne.mpr c29
                                    have c29b1 : ((bt a0 x6_2) != 10) = true := bne_iff_ne.mpr c29
                                    obtain ⟨ji30, hji30⟩ : ∃ j_ : Int, (wrap64 (x5_1 + 1)) = j_ := ⟨_, rfl⟩
                                    replace H : (if 0 ≤ (ji30) then (if (ji30) ≤ x6_2 then (if x6_2 ≤ (a0.size : Int) then (if x4_1.length < 5864062014805 then ((dragomanref14_skip.f k2 a0 (wrap64 (x6_2 + 1))).bind fun t225 => (dragomanref14_Tokens.l0 k2 a0 (x4_1 ++ [(⟨113, a0.extract ((ji30) : Int).toNat (x6_2 : Int).toNat⟩ : S39)]) t225)) else (none)) else (none)) else (none)) else (none)) = some (r1, r2) := by first | (rw [hji30] at H; exact H) | (simp only [hji30] at H ⊢; exact H)
                                    have hji30w : (IntKind.i64.wrap (x5_1 + 1)) = ji30 := (i64_w _).trans hji30
                                    by_cases c31 : 0 ≤ (ji30)
                                    · rw [if_pos c31] at H
                                      have c31b0 := eq_true c31
                                      have c31b1 : decide (0 ≤ (ji30)) = true := decide_eq_true c31
                                      clear c31
                                      by_cases c32 : (ji30) ≤ x6_2
                                      · rw [if_pos c32] at H
                                        have c32b0 := eq_true c32
                                        have c32b1 : decide ((ji30) ≤ x6_2) = true := decide_eq_true c32
                                        clear c32
                                        by_cases c33 : x6_2 ≤ (a0.size : Int)
                                        · rw [if_pos c33] at H
                                          have c33b0 := eq_true c33
                                          have c33b1 : decide (x6_2 ≤ (a0.size : Int)) = true := decide_eq_true c33
                                          clear c33
                                          by_cases c34 : x4_1.length < 5864062014805
                                          · rw [if_pos c34] at H
                                            have LMc34 := Aside0.mk c34
                                            clear c34
                                            obtain ⟨y222, hy222⟩ : ∃ y_ : List (S39), y_ = (x4_1 ++ [(⟨113, a0.extract ((ji30) : Int).toNat (x6_2 : Int).toNat⟩ : S39)]) := ⟨_, rfl⟩
                                            replace H : ((dragomanref14_skip.f k2 a0 (wrap64 (x6_2 + 1))).bind fun t225 => (dragomanref14_Tokens.l0 k2 a0 y222 t225)) = some (r1, r2) := by first | (rw [hy222]; with_reducible exact H) | (have H2_ := (Option.bind_some _ _).symm.trans H; rw [hy222]; with_reducible exact H2_) | (have H2_ := (Option.bind_some _ _).symm.trans H; with_reducible exact H2_) | with_reducible exact H | (rw [hy222]; exact H) | exact H
                                            have Ny222 := Aside0.mk hy222
                                            clear hy222
                                            replace H := Option.bind_eq_some_iff.mp H
                                            obtain ⟨t225, A350, H⟩ := H
                                            replace H : (dragomanref14_Tokens.l0 k2 a0 y222 t225) = some (r1, r2) := H
                                            have A35 := Aside0.mk A350
                                            clear A350
                                            have H' := Aside0.mk H
                                            clear H
                                            have p25 : 0 ≤ (x6_2 : Int) := of_decide_eq_true (by first | (with_reducible assumption) | assumption)
                                            have q25 : x6_2 < (a0.size : Int) := of_decide_eq_true (by first | (with_reducible assumption) | assumption)
                                            have hx25 := bt_at a0 x6_2
                                            replace p25 := eq_true p25
                                            replace q25 := eq_true q25
                                            have p28 : 0 ≤ (x6_2 : Int) := of_decide_eq_true (by first | (with_reducible assumption) | assumption)
                                            have q28 : x6_2 < (a0.size : Int) := of_decide_eq_true (by first | (with_reducible assumption) | assumption)
                                            have hx28 := bt_at a0 x6_2
                                            replace p28 := eq_true p28
                                            replace q28 := eq_true q28
                                            go_wp2_with (first | ((with_reducible refine gate_builtin (b := .append) (xs := #[.tmp 101, .tmp 108]) rfl ?_); at_builtin; refine Kd.R_append k39 (w0 := w) w.heap.size rfl (.tmp 101) (.tmp 108) 35 39 (.agg #[(.int .u8 0), (.string ⟨#[]⟩)]) 24 rfl Tryd.underlying35 info39 rfl (by decide) (by omega) u4 x4_1 (⟨113, a0.extract ((ji30) : Int).toNat (x6_2 : Int).toNat⟩ : S39) [.int .u8 113, .string (a0.extract ((ji30) : Int).toNat (x6_2 : Int).toNat)] (fun _ => True) (fun _ => False) rfl rfl ?aP (fun _ hk => hk.elim) ?aF ?aO ?aB ?aS ?aL ?_; (case aP => exact k39_mkM _ _ _ (⟨113, a0.extract ((ji30) : Int).toNat (x6_2 : Int).toNat⟩ : S39)); (case aB => exact (by repeat (first | (with_reducible first | exact HB.out | apply below_alloc | apply pw_below_drewN | apply below_drew1) | exact HB.out))); (case aF => exact (fun _ _ => trivial)); (case aO => exact (by (with_reducible repeat (first | apply Kd.R_alloc | apply Kd.R_drewN | apply Kd.R_drew)); exact HO_4.out)); (case aS => exact (below_size (by repeat (first | (with_reducible first | exact HB.out | apply below_alloc | apply pw_below_drewN | apply below_drew1) | exact HB.out)))); (case aL => have := LMc34.out; omega); intro v223 w36 ho hb hg hat; rw [← Ny222.out] at ho; have n0_ := Aside0.mk (hb); have n1_ := Aside0.mk (ho); clear HB; clear HO_4; have HB := n0_; have HO224 := n1_; clear n0_ n1_; clear ho hb hg hat) | ((with_reducible refine gate_callee (f := 35) rfl ?_); refine goesL_ (some 21) rfl rfl Tryd.func35 (by kernel_rfl) rfl #[.string a0, .int .i64 (wrap64 (x6_2 + 1))] rfl (by (try simp only [List.map_toArray, List.map_cons, List.map_nil]); first | done | rfl | (simp only [List.length_drop, List.length_take]; rfl)) ?_; (with_reducible refine (dragomanref14_skip.calls k2 a0 (wrap64 (x6_2 + 1)) t225 _ A35.out).mono ?_); rintro e w' ⟨rfl, ⟨nd, rfl⟩⟩; refine ⟨_, rfl, ?_⟩))
                                            go_roundg k2
                                            case measure => have := HK1.out; have := HK2.out; omega
                                            case rel => exact ⟨(y222), (t225), (by first | rfl | (simp; done) | (simp [*]; done)), H', ⟨by have := HK1.out; have := HK2.out; omega⟩, ⟨by (with_reducible repeat (first | apply Kd.R_alloc | apply Kd.R_drewN | apply Kd.R_drew)); exact HO224.out⟩, ⟨by repeat (first | (with_reducible first | exact HB.out | apply below_alloc | apply pw_below_drewN | apply below_drew1) | exact HB.out)⟩⟩
                                          · rw [if_neg c34] at H
                                            exact absurd H (by simp)
                                        · rw [if_neg c33] at H
                                          exact absurd H (by simp)
                                      · rw [if_neg c32] at H
                                        exact absurd H (by simp)
                                    · rw [if_neg c31] at H
                                      exact absurd H (by simp)
                              · rw [if_neg c26] at H
                                have c26b0 : ((bt a0 x6_2) == 34) = false := beq_eq_false_iff_ne.mpr c26
                                have c26b1 : ((bt a0 x6_2) != 34) = true := bne_iff_ne.mpr c26
                                by_cases c38 : (bt a0 x6_2) = 10
                                · rw [if_pos c38] at H
                                  have c38b0 : ((bt a0 x6_2) == 10) = true := beq_iff_eq.mpr c38
                                  have c38b1 : ((bt a0 x6_2) != 10) = false := bne_eq_false_iff_eq.mpr c38
                                  clear c38
                                  by_cases c39 : x6_2 = (a0.size : Int)
                                  · rw [if_pos c39] at H
                                    have c39b0 : (x6_2 == (a0.size : Int)) = true := beq_iff_eq.mpr c39
                                    have c39b1 : (x6_2 != (a0.size : Int)) = false := bne_eq_false_iff_eq.mpr c39
                                    clear c39
                                    simp only [Option.some.injEq, Prod.mk.injEq] at H
                                    obtain ⟨rfl, rfl⟩ := H
                                    have p25 : 0 ≤ (x6_2 : Int) := of_decide_eq_true (by first | (with_reducible assumption) | assumption)
                                    have q25 : x6_2 < (a0.size : Int) := of_decide_eq_true (by first | (with_reducible assumption) | assumption)
                                    have hx25 := bt_at a0 x6_2
                                    replace p25 := eq_true p25
                                    replace q25 := eq_true q25
                                    have p37 : 0 ≤ (x6_2 : Int) := of_decide_eq_true (by first | (with_reducible assumption) | assumption)
                                    have q37 : x6_2 < (a0.size : Int) := of_decide_eq_true (by first | (with_reducible assumption) | assumption)
                                    have hx37 := bt_at a0 x6_2
                                    replace p37 := eq_true p37
                                    replace q37 := eq_true q37
                                    go_wp2
                                    first | go_ret2 | refine ⟨_, results_tmp2 rfl _ _ _, ?_⟩
                                    exact ⟨_, by first | rfl | (simp [errW_none, errW_some] <;> rfl) | (simp [*, errW_none, errW_some] <;> rfl), by first | exact Kd.R_nil _ _ _ _ _ | exact Kd.N_nil _ _ _ _ _ | exact Kd.V_nil _ _ _ _ _ | exact Kd.Q_nil _ _ _ _ _ | exact Kd.S_nil _ _ _ _ _, by repeat (first | (with_reducible first | exact HB.out | apply below_alloc | apply pw_below_drewN | apply below_drew1) | exact HB.out)⟩
                                  · rw [if_neg c39] at H
                                    have c39b0 : (x6_2 == (a0.size : Int)) = false := beq_eq_false_iff_ne.mpr c39
                                    have c39b1 : (x6_2 != (a0.size : Int)) = true := bne_iff_ne.mpr c39
                                    simp only [Option.some.injEq, Prod.mk.injEq] at H
                                    obtain ⟨rfl, rfl⟩ := H
                                    have p25 : 0 ≤ (x6_2 : Int) := of_decide_eq_true (by first | (with_reducible assumption) | assumption)
                                    have q25 : x6_2 < (a0.size : Int) := of_decide_eq_true (by first | (with_reducible assumption) | assumption)
                                    have hx25 := bt_at a0 x6_2
                                    replace p25 := eq_true p25
                                    replace q25 := eq_true q25
                                    have p37 : 0 ≤ (x6_2 : Int) := of_decide_eq_true (by first | (with_reducible assumption) | assumption)
                                    have q37 : x6_2 < (a0.size : Int) := of_decide_eq_true (by first | (with_reducible assumption) | assumption)
                                    have hx37 := bt_at a0 x6_2
                                    replace p37 := eq_true p37
                                    replace q37 := eq_true q37
                                    have p40 : 0 ≤ (x6_2 : Int) := of_decide_eq_true (by first | (with_reducible assumption) | assumption)
                                    have q40 : x6_2 < (a0.size : Int) := of_decide_eq_true (by first | (with_reducible assumption) | assumption)
                                    have hx40 := bt_at a0 x6_2
                                    replace p40 := eq_true p40
                                    replace q40 := eq_true q40
                                    go_wp2
                                    first | go_ret2 | refine ⟨_, results_tmp2 rfl _ _ _, ?_⟩
                                    exact ⟨_, by first | rfl | (simp [errW_none, errW_some] <;> rfl) | (simp [*, errW_none, errW_some] <;> rfl), by first | exact Kd.R_nil _ _ _ _ _ | exact Kd.N_nil _ _ _ _ _ | exact Kd.V_nil _ _ _ _ _ | exact Kd.Q_nil _ _ _ _ _ | exact Kd.S_nil _ _ _ _ _, by repeat (first | (with_reducible first | exact HB.out | apply below_alloc | apply pw_below_drewN | apply below_drew1) | exact HB.out)⟩
                                · rw [if_neg c38] at H
                                  have c38b0 : ((bt a0 x6_2) == 10) = false := beq_eq_false_iff_ne.mpr c38
                                  have c38b1 : ((bt a0 x6_2) != 10) = true := bne_iff_ne.mpr c38
                                  have H' := Aside0.mk H
                                  clear H
                                  have p25 : 0 ≤ (x6_2 : Int) := of_decide_eq_true (by first | (with_reducible assumption) | assumption)
                                  have q25 : x6_2 < (a0.size : Int) := of_decide_eq_true (by first | (with_reducible assumption) | assumption)
                                  have hx25 := bt_at a0 x6_2
                                  replace p25 := eq_true p25
                                  replace q25 := eq_true q25
                                  have p37 : 0 ≤ (x6_2 : Int) := of_decide_eq_true (by first | (with_reducible assumption) | assumption)
                                  have q37 : x6_2 < (a0.size : Int) := of_decide_eq_true (by first | (with_reducible assumption) | assumption)
                                  have hx37 := bt_at a0 x6_2
                                  replace p37 := eq_true p37
                                  replace q37 := eq_true q37
                                  go_wp2
                                  go_roundg k2
                                  case measure => have := HK1.out; have := HK2.out; omega
                                  case rel => exact ⟨(wrap64 (x6_2 + 1)), (by first | rfl | (simp; done) | (simp [*]; done)), H', ⟨by have := HK1.out; have := HK2.out; omega⟩, ⟨by (with_reducible repeat (first | apply Kd.R_alloc | apply Kd.R_drewN | apply Kd.R_drew)); exact HO_4.out⟩, ⟨by repeat (first | (with_reducible first | exact HB.out | apply below_alloc | apply pw_below_drewN | apply below_drew1) | exact HB.out)⟩⟩
                            · rw [if_neg c24] at H
                              exact absurd H (by simp)
                          · rw [if_neg c23] at H
                            have c23b0 : decide (x6_2 < (a0.size : Int)) = false := decide_eq_false c23
                            clear c23
                            by_cases c41 : x6_2 = (a0.size : Int)
                            · rw [if_pos c41] at H
                              have c41b0 : (x6_2 == (a0.size : Int)) = true := beq_iff_eq.mpr c41
                              have c41b1 : (x6_2 != (a0.size : Int)) = false := bne_eq_false_iff_eq.mpr c41
                              clear c41
                              simp only [Option.some.injEq, Prod.mk.injEq] at H
                              obtain ⟨rfl, rfl⟩ := H
                              go_wp2
                              first | go_ret2 | refine ⟨_, results_tmp2 rfl _ _ _, ?_⟩
                              exact ⟨_, by first | rfl | (simp [errW_none, errW_some] <;> rfl) | (simp [*, errW_none, errW_some] <;> rfl), by first | exact Kd.R_nil _ _ _ _ _ | exact Kd.N_nil _ _ _ _ _ | exact Kd.V_nil _ _ _ _ _ | exact Kd.Q_nil _ _ _ _ _ | exact Kd.S_nil _ _ _ _ _, by repeat (first | (with_reducible first | exact HB.out | apply below_alloc | apply pw_below_drewN | apply below_drew1) | exact HB.out)⟩
                            · rw [if_neg c41] at H
                              exact absurd H (by simp)
                    · rw [if_neg c22] at H
                      have c22b0 : ((bt a0 x5_1) == 34) = false := beq_eq_false_iff_ne.mpr c22
                      have c22b1 : ((bt a0 x5_1) != 34) = true := bne_iff_ne.mpr c22
                      have H' := Aside0.mk H
                      clear H
                      have p10 : 0 ≤ (x5_1 : Int) := of_decide_eq_true (by first | (with_reducible assumption) | assumption)
                      have q10 : x5_1 < (a0.size : Int) := of_decide_eq_true (by first | (with_reducible assumption) | assumption)
                      have hx10 := bt_at a0 x5_1
                      replace p10 := eq_true p10
                      replace q10 := eq_true q10
                      go_wp2_with (first | ((with_reducible refine gate_callee (f := 36) rfl ?_); refine goesL_ (some 51) rfl rfl Tryd.func36 (by kernel_rfl) rfl #[.string (⟨#[123, 125, 91, 93, 59]⟩ : ByteArray), .int .u8 (bt a0 x5_1)] rfl (by (try simp only [List.map_toArray, List.map_cons, List.map_nil]); first | done | rfl | (simp only [List.length_drop, List.length_take]; rfl)) ?_; (with_reducible refine (dragomanref14_has.calls k1 (⟨#[123, 125, 91, 93, 59]⟩ : ByteArray) (bt a0 x5_1) false _ A11.out).mono ?_); rintro e w' ⟨rfl, ⟨nd, rfl⟩⟩; refine ⟨_, rfl, ?_⟩; have p21 : 0 ≤ (x5_1 : Int) := of_decide_eq_true (by first | (with_reducible assumption) | assumption); have q21 : x5_1 < (a0.size : Int) := of_decide_eq_true (by first | (with_reducible assumption) | assumption); have hx21 := bt_at a0 x5_1; replace p21 := eq_true p21; replace q21 := eq_true q21))
                      go_loopg [6] k1 (fun kq v6 w' => ∃ (x6_2 : Int), v6 = .int .i64 x6_2 ∧ Aside0 (dragomanref14_Tokens.l2 kq a0 x4_1 x5_1 x6_2 = some (r1, r2)) ∧ Aside0 (kq ≤ k1) ∧ Aside0 (Kd.R k39 39 w' w.heap.size (fun _ => True) u4 x4_1) ∧ Aside0 (Below w.heap.size w w'))
                      case atStart => exact ⟨(x5_1), (by first | rfl | (simp; done) | (simp [*]; done)), H', ⟨Nat.le_refl _⟩, ⟨by (with_reducible repeat (first | apply Kd.R_alloc | apply Kd.R_drewN | apply Kd.R_drew)); exact HO_4.out⟩, ⟨by repeat (first | (with_reducible first | exact HB.out | apply below_alloc | apply pw_below_drewN | apply below_drew1) | exact HB.out)⟩⟩
                      case round =>
                        clear H'
                        try clear c1
                        try clear p1
                        try clear q1
                        try clear hx1
                        try clear c2
                        try clear c2b0
                        try clear c2b1
                        try clear p2
                        try clear q2
                        try clear hx2
                        try clear c3
                        try clear p3
                        try clear q3
                        try clear hx3
                        try clear c4
                        try clear p4
                        try clear q4
                        try clear hx4
                        try clear c6
                        try clear c6b0
                        try clear c6b1
                        try clear p6
                        try clear c7
                        try clear c7b0
                        try clear c8
                        try clear c8b0
                        try clear c9
                        try clear c9b0
                        try clear p10
                        try clear q10
                        try clear hx10
                        try clear c12
                        try clear c13
                        try clear p13
                        try clear q13
                        try clear hx13
                        try clear c14
                        try clear c14b0
                        try clear c15
                        try clear c15b0
                        try clear c15b1
                        try clear c16
                        try clear c16b0
                        try clear c16b1
                        try clear c17
                        try clear p21
                        try clear q21
                        try clear hx21
                        try clear c22
                        try clear c22b0
                        try clear c22b1
                        try clear c23
                        try clear c23b0
                        try clear c24
                        try clear c24b0
                        try clear p25
                        try clear q25
                        try clear hx25
                        try clear c26
                        try clear c26b0
                        try clear c26b1
                        try clear c27
                        try clear c27b0
                        try clear c27b1
                        try clear p28
                        try clear q28
                        try clear hx28
                        try clear c29
                        try clear c29b0
                        try clear c29b1
                        try clear c31
                        try clear c31b0
                        try clear c31b1
                        try clear c32
                        try clear c32b0
                        try clear c32b1
                        try clear c33
                        try clear c33b0
                        try clear c33b1
                        try clear c34
                        try clear c35
                        try clear c36
                        try clear p37
                        try clear q37
                        try clear hx37
                        try clear c38
                        try clear c38b0
                        try clear c38b1
                        try clear c39
                        try clear c39b0
                        try clear c39b1
                        try clear p40
                        try clear q40
                        try clear hx40
                        try clear c41
                        try clear c41b0
                        try clear c41b1
                        try clear p1
                        try clear p10
                        try clear p13
                        try clear p2
                        try clear p21
                        try clear p25
                        try clear p28
                        try clear p37
                        try clear p40
                        try clear p6
                        try clear q1
                        try clear q10
                        try clear q13
                        try clear q2
                        try clear q21
                        try clear q25
                        try clear q28
                        try clear q37
                        try clear q40
                        obtain ⟨x6_2, rfl, HA, HK2, HO_4, HB⟩ := hrel
                        cases gk with
                        | zero => exact absurd HA.out (by simp [dragomanref14_Tokens.l2])
                        | succ k2 =>
                          have H := HA.out
                          clear HA
                          simp only [dragomanref14_Tokens.l2] at H
                          by_cases c42 : x6_2 < (a0.size : Int)
                          · rw [if_pos c42] at H
                            have c42b0 : decide (x6_2 < (a0.size : Int)) = true := decide_eq_true c42
                            clear c42
                            by_cases c43 : 0 ≤ x6_2
                            · rw [if_pos c43] at H
                              have c43b0 : decide (0 ≤ x6_2) = true := decide_eq_true c43
                              clear c43
                              replace H := Option.bind_eq_some_iff.mp H
                              obtain ⟨t226, A450, H⟩ := H
                              replace H : (if t226 = true then (if 0 ≤ x5_1 then (if x5_1 ≤ x6_2 then (if x6_2 ≤ (a0.size : Int) then (if x4_1.length < 5864062014805 then ((dragomanref14_skip.f k2 a0 x6_2).bind fun t230 => (dragomanref14_Tokens.l0 k2 a0 (x4_1 ++ [(⟨119, a0.extract (x5_1 : Int).toNat (x6_2 : Int).toNat⟩ : S39)]) t230)) else (none)) else (none)) else (none)) else (none)) else (dragomanref14_Tokens.l2 k2 a0 x4_1 x5_1 (wrap64 (x6_2 + 1)))) = some (r1, r2) := H
                              have A45 := Aside0.mk A450
                              clear A450
                              by_cases c46 : t226 = true
                              · subst c46
                                have H1 : (if 0 ≤ x5_1 then (if x5_1 ≤ x6_2 then (if x6_2 ≤ (a0.size : Int) then (if x4_1.length < 5864062014805 then ((dragomanref14_skip.f k2 a0 x6_2).bind fun t230 => (dragomanref14_Tokens.l0 k2 a0 (x4_1 ++ [(⟨119, a0.extract (x5_1 : Int).toNat (x6_2 : Int).toNat⟩ : S39)]) t230)) else (none)) else (none)) else (none)) else (none)) = some (r1, r2) := by rw [if_pos rfl] at H; exact H
                                clear H
                                have H := H1
                                clear H1
                                by_cases c47 : 0 ≤ x5_1
                                · rw [if_pos c47] at H
                                  have c47b0 := eq_true c47
                                  have c47b1 : decide (0 ≤ x5_1) = true := decide_eq_true c47
                                  clear c47
                                  by_cases c48 : x5_1 ≤ x6_2
                                  · rw [if_pos c48] at H
                                    have c48b0 := eq_true c48
                                    have c48b1 : decide (x5_1 ≤ x6_2) = true := decide_eq_true c48
                                    clear c48
                                    by_cases c49 : x6_2 ≤ (a0.size : Int)
                                    · rw [if_pos c49] at H
                                      have c49b0 := eq_true c49
                                      have c49b1 : decide (x6_2 ≤ (a0.size : Int)) = true := decide_eq_true c49
                                      clear c49
                                      by_cases c50 : x4_1.length < 5864062014805
                                      · rw [if_pos c50] at H
                                        have LMc50 := Aside0.mk c50
                                        clear c50
                                        obtain ⟨y227, hy227⟩ : ∃ y_ : List (S39), y_ = (x4_1 ++ [(⟨119, a0.extract (x5_1 : Int).toNat (x6_2 : Int).toNat⟩ : S39)]) := ⟨_, rfl⟩
                                        replace H : ((dragomanref14_skip.f k2 a0 x6_2).bind fun t230 => (dragomanref14_Tokens.l0 k2 a0 y227 t230)) = some (r1, r2) := by first | (rw [hy227]; with_reducible exact H) | (have H2_ := (Option.bind_some _ _).symm.trans H; rw [hy227]; with_reducible exact H2_) | (have H2_ := (Option.bind_some _ _).symm.trans H; with_reducible exact H2_) | with_reducible exact H | (rw [hy227]; exact H) | exact H
                                        have Ny227 := Aside0.mk hy227
                                        clear hy227
                                        replace H := Option.bind_eq_some_iff.mp H
                                        obtain ⟨t230, A510, H⟩ := H
                                        replace H : (dragomanref14_Tokens.l0 k2 a0 y227 t230) = some (r1, r2) := H
                                        have A51 := Aside0.mk A510
                                        clear A510
                                        have H' := Aside0.mk H
                                        clear H
                                        have p44 : 0 ≤ (x6_2 : Int) := of_decide_eq_true (by first | (with_reducible assumption) | assumption)
                                        have q44 : x6_2 < (a0.size : Int) := of_decide_eq_true (by first | (with_reducible assumption) | assumption)
                                        have hx44 := bt_at a0 x6_2
                                        replace p44 := eq_true p44
                                        replace q44 := eq_true q44
                                        go_wp2_with (first | (go_at_call 36; (with_reducible refine (dragomanref14_has.calls k2 (⟨#[32, 9, 10, 123, 125, 91, 93, 59, 34, 35]⟩ : ByteArray) (bt a0 x6_2) true _ A45.out).mono ?_); rintro e w' ⟨rfl, ⟨nd, rfl⟩⟩) | ((with_reducible refine gate_builtin (b := .append) (xs := #[.tmp 38, .tmp 44]) rfl ?_); at_builtin; refine Kd.R_append k39 (w0 := w) w.heap.size rfl (.tmp 38) (.tmp 44) 35 39 (.agg #[(.int .u8 0), (.string ⟨#[]⟩)]) 24 rfl Tryd.underlying35 info39 rfl (by decide) (by omega) u4 x4_1 (⟨119, a0.extract (x5_1 : Int).toNat (x6_2 : Int).toNat⟩ : S39) [.int .u8 119, .string (a0.extract (x5_1 : Int).toNat (x6_2 : Int).toNat)] (fun _ => True) (fun _ => False) rfl rfl ?aP (fun _ hk => hk.elim) ?aF ?aO ?aB ?aS ?aL ?_; (case aP => exact k39_mkM _ _ _ (⟨119, a0.extract (x5_1 : Int).toNat (x6_2 : Int).toNat⟩ : S39)); (case aB => exact (by repeat (first | (with_reducible first | exact HB.out | apply below_alloc | apply pw_below_drewN | apply below_drew1) | exact HB.out))); (case aF => exact (fun _ _ => trivial)); (case aO => exact (by (with_reducible repeat (first | apply Kd.R_alloc | apply Kd.R_drewN | apply Kd.R_drew)); exact HO_4.out)); (case aS => exact (below_size (by repeat (first | (with_reducible first | exact HB.out | apply below_alloc | apply pw_below_drewN | apply below_drew1) | exact HB.out)))); (case aL => have := LMc50.out; omega); intro v228 w52 ho hb hg hat; rw [← Ny227.out] at ho; have n0_ := Aside0.mk (hb); have n1_ := Aside0.mk (ho); clear HB; clear HO_4; have HB := n0_; have HO229 := n1_; clear n0_ n1_; clear ho hb hg hat) | ((with_reducible refine gate_callee (f := 35) rfl ?_); refine goesL_ (some 21) rfl rfl Tryd.func35 (by kernel_rfl) rfl #[.string a0, .int .i64 x6_2] rfl (by (try simp only [List.map_toArray, List.map_cons, List.map_nil]); first | done | rfl | (simp only [List.length_drop, List.length_take]; rfl)) ?_; (with_reducible refine (dragomanref14_skip.calls k2 a0 x6_2 t230 _ A51.out).mono ?_); rintro e w' ⟨rfl, ⟨nd, rfl⟩⟩; refine ⟨_, rfl, ?_⟩))
                                        go_roundg k2
                                        case measure => have := HK1.out; have := HK2.out; omega
                                        case rel => exact ⟨(y227), (t230), (by first | rfl | (simp; done) | (simp [*]; done)), H', ⟨by have := HK1.out; have := HK2.out; omega⟩, ⟨by (with_reducible repeat (first | apply Kd.R_alloc | apply Kd.R_drewN | apply Kd.R_drew)); exact HO229.out⟩, ⟨by repeat (first | (with_reducible first | exact HB.out | apply below_alloc | apply pw_below_drewN | apply below_drew1) | exact HB.out)⟩⟩
                                      · rw [if_neg c50] at H
                                        exact absurd H (by simp)
                                    · rw [if_neg c49] at H
                                      exact absurd H (by simp)
                                  · rw [if_neg c48] at H
                                    exact absurd H (by simp)
                                · rw [if_neg c47] at H
                                  exact absurd H (by simp)
                              · replace c46 := Bool.eq_false_iff.mpr c46
                                subst c46
                                have H1 : (dragomanref14_Tokens.l2 k2 a0 x4_1 x5_1 (wrap64 (x6_2 + 1))) = some (r1, r2) := by rw [if_neg (show ¬ (false = true) by decide)] at H; exact H
                                clear H
                                have H := H1
                                clear H1
                                have H' := Aside0.mk H
                                clear H
                                have p44 : 0 ≤ (x6_2 : Int) := of_decide_eq_true (by first | (with_reducible assumption) | assumption)
                                have q44 : x6_2 < (a0.size : Int) := of_decide_eq_true (by first | (with_reducible assumption) | assumption)
                                have hx44 := bt_at a0 x6_2
                                replace p44 := eq_true p44
                                replace q44 := eq_true q44
                                go_wp2_with (first | (go_at_call 36; (with_reducible refine (dragomanref14_has.calls k2 (⟨#[32, 9, 10, 123, 125, 91, 93, 59, 34, 35]⟩ : ByteArray) (bt a0 x6_2) false _ A45.out).mono ?_); rintro e w' ⟨rfl, ⟨nd, rfl⟩⟩))
                                go_roundg k2
                                case measure => have := HK1.out; have := HK2.out; omega
                                case rel => exact ⟨(wrap64 (x6_2 + 1)), (by first | rfl | (simp; done) | (simp [*]; done)), H', ⟨by have := HK1.out; have := HK2.out; omega⟩, ⟨by (with_reducible repeat (first | apply Kd.R_alloc | apply Kd.R_drewN | apply Kd.R_drew)); exact HO_4.out⟩, ⟨by repeat (first | (with_reducible first | exact HB.out | apply below_alloc | apply pw_below_drewN | apply below_drew1) | exact HB.out)⟩⟩
                            · rw [if_neg c43] at H
                              exact absurd H (by simp)
                          · rw [if_neg c42] at H
                            have c42b0 : decide (x6_2 < (a0.size : Int)) = false := decide_eq_false c42
                            clear c42
                            by_cases c53 : 0 ≤ x5_1
                            · rw [if_pos c53] at H
                              have c53b0 := eq_true c53
                              have c53b1 : decide (0 ≤ x5_1) = true := decide_eq_true c53
                              clear c53
                              by_cases c54 : x5_1 ≤ x6_2
                              · rw [if_pos c54] at H
                                have c54b0 := eq_true c54
                                have c54b1 : decide (x5_1 ≤ x6_2) = true := decide_eq_true c54
                                clear c54
                                by_cases c55 : x6_2 ≤ (a0.size : Int)
                                · rw [if_pos c55] at H
                                  have c55b0 := eq_true c55
                                  have c55b1 : decide (x6_2 ≤ (a0.size : Int)) = true := decide_eq_true c55
                                  clear c55
                                  by_cases c56 : x4_1.length < 5864062014805
                                  · rw [if_pos c56] at H
                                    have LMc56 := Aside0.mk c56
                                    clear c56
                                    obtain ⟨y231, hy231⟩ : ∃ y_ : List (S39), y_ = (x4_1 ++ [(⟨119, a0.extract (x5_1 : Int).toNat (x6_2 : Int).toNat⟩ : S39)]) := ⟨_, rfl⟩
                                    replace H : ((dragomanref14_skip.f k2 a0 x6_2).bind fun t234 => (dragomanref14_Tokens.l0 k2 a0 y231 t234)) = some (r1, r2) := by first | (rw [hy231]; with_reducible exact H) | (have H2_ := (Option.bind_some _ _).symm.trans H; rw [hy231]; with_reducible exact H2_) | (have H2_ := (Option.bind_some _ _).symm.trans H; with_reducible exact H2_) | with_reducible exact H | (rw [hy231]; exact H) | exact H
                                    have Ny231 := Aside0.mk hy231
                                    clear hy231
                                    replace H := Option.bind_eq_some_iff.mp H
                                    obtain ⟨t234, A570, H⟩ := H
                                    replace H : (dragomanref14_Tokens.l0 k2 a0 y231 t234) = some (r1, r2) := H
                                    have A57 := Aside0.mk A570
                                    clear A570
                                    have H' := Aside0.mk H
                                    clear H
                                    go_wp2_with (first | ((with_reducible refine gate_builtin (b := .append) (xs := #[.tmp 38, .tmp 44]) rfl ?_); at_builtin; refine Kd.R_append k39 (w0 := w) w.heap.size rfl (.tmp 38) (.tmp 44) 35 39 (.agg #[(.int .u8 0), (.string ⟨#[]⟩)]) 24 rfl Tryd.underlying35 info39 rfl (by decide) (by omega) u4 x4_1 (⟨119, a0.extract (x5_1 : Int).toNat (x6_2 : Int).toNat⟩ : S39) [.int .u8 119, .string (a0.extract (x5_1 : Int).toNat (x6_2 : Int).toNat)] (fun _ => True) (fun _ => False) rfl rfl ?aP (fun _ hk => hk.elim) ?aF ?aO ?aB ?aS ?aL ?_; (case aP => exact k39_mkM _ _ _ (⟨119, a0.extract (x5_1 : Int).toNat (x6_2 : Int).toNat⟩ : S39)); (case aB => exact (by repeat (first | (with_reducible first | exact HB.out | apply below_alloc | apply pw_below_drewN | apply below_drew1) | exact HB.out))); (case aF => exact (fun _ _ => trivial)); (case aO => exact (by (with_reducible repeat (first | apply Kd.R_alloc | apply Kd.R_drewN | apply Kd.R_drew)); exact HO_4.out)); (case aS => exact (below_size (by repeat (first | (with_reducible first | exact HB.out | apply below_alloc | apply pw_below_drewN | apply below_drew1) | exact HB.out)))); (case aL => have := LMc56.out; omega); intro v232 w58 ho hb hg hat; rw [← Ny231.out] at ho; have n0_ := Aside0.mk (hb); have n1_ := Aside0.mk (ho); clear HB; clear HO_4; have HB := n0_; have HO233 := n1_; clear n0_ n1_; clear ho hb hg hat) | ((with_reducible refine gate_callee (f := 35) rfl ?_); refine goesL_ (some 21) rfl rfl Tryd.func35 (by kernel_rfl) rfl #[.string a0, .int .i64 x6_2] rfl (by (try simp only [List.map_toArray, List.map_cons, List.map_nil]); first | done | rfl | (simp only [List.length_drop, List.length_take]; rfl)) ?_; (with_reducible refine (dragomanref14_skip.calls k2 a0 x6_2 t234 _ A57.out).mono ?_); rintro e w' ⟨rfl, ⟨nd, rfl⟩⟩; refine ⟨_, rfl, ?_⟩))
                                    go_roundg k2
                                    case measure => have := HK1.out; have := HK2.out; omega
                                    case rel => exact ⟨(y231), (t234), (by first | rfl | (simp; done) | (simp [*]; done)), H', ⟨by have := HK1.out; have := HK2.out; omega⟩, ⟨by (with_reducible repeat (first | apply Kd.R_alloc | apply Kd.R_drewN | apply Kd.R_drew)); exact HO233.out⟩, ⟨by repeat (first | (with_reducible first | exact HB.out | apply below_alloc | apply pw_below_drewN | apply below_drew1) | exact HB.out)⟩⟩
                                  · rw [if_neg c56] at H
                                    exact absurd H (by simp)
                                · rw [if_neg c55] at H
                                  exact absurd H (by simp)
                              · rw [if_neg c54] at H
                                exact absurd H (by simp)
                            · rw [if_neg c53] at H
                              exact absurd H (by simp)
                · rw [if_neg c9] at H
                  exact absurd H (by simp)
              · rw [if_neg c8] at H
                exact absurd H (by simp)
    · replace c4 := Bool.eq_false_iff.mpr c4
      subst c4
      have H1 : (some (([] : List (S39)), 4)) = some (r1, r2) := by rw [if_neg (show ¬ (false = true) by decide)] at H; exact H
      clear H
      have H := H1
      clear H1
      simp only [Option.some.injEq, Prod.mk.injEq] at H
      obtain ⟨rfl, rfl⟩ := H
      go_enter Tryd.func13, Tryd.ntmps13
      go_wp2_with (first | ((with_reducible refine gate_callee (f := 27) rfl ?_); refine goesL_ (some 11) rfl rfl Tryd.func27 (by kernel_rfl) rfl #[.string a0] rfl (by (try simp only [List.map_toArray, List.map_cons, List.map_nil]); first | done | rfl | (simp only [List.length_drop, List.length_take]; rfl)) ?_; (with_reducible refine (dragomanref14_may.calls k a0 false _ A3.out).mono ?_); rintro e w' ⟨rfl, ⟨nd, rfl⟩⟩; refine ⟨_, rfl, ?_⟩))
      first | go_ret2 | refine ⟨_, results_tmp2 rfl _ _ _, ?_⟩
      exact ⟨_, by first | rfl | (simp [errW_none, errW_some] <;> rfl) | (simp [*, errW_none, errW_some] <;> rfl), by first | exact Kd.R_nil _ _ _ _ _ | exact Kd.N_nil _ _ _ _ _ | exact Kd.V_nil _ _ _ _ _ | exact Kd.Q_nil _ _ _ _ _ | exact Kd.S_nil _ _ _ _ _, by repeat (first | (with_reducible first | exact HB.out | apply below_alloc | apply pw_below_drewN | apply below_drew1) | exact HB.out)⟩
end Go.Proofs.YtdnneofebehpaaaDoor.L
