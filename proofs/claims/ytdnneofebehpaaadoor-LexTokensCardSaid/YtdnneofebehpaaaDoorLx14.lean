import Derived.Test.YtdnneofebehpaaaDoorLx0
import Derived.Test.YtdnneofebehpaaaDoorLx13
namespace Go.Proofs.YtdnneofebehpaaaDoor.L
open Go.RowKit Go.Proofs.YtdnneofebehpaaaDoorW.PrintWords Go.Proofs.YtdnneofebehpaaaDoorW.PrintLast Go.Proofs.YtdnneofebehpaaaDoorW.PrintMore
attribute [local go_sem] max2_int min2_int max_two min_two max_three min_three max_four min_four
set_option linter.unusedVariables false
set_option linter.unusedSimpArgs false
mutual
def dragomanref14_skip.l0 : Nat → ByteArray → Int → Option (Int)
  | 0, _, _ => none
  | k + 1, x0, x1 => if x1 < (x0.size : Int) then (if 0 ≤ x1 then ((dragomanref14_has.f k (⟨#[32, 9, 10]⟩ : ByteArray) (bt x0 x1)).bind fun t214 => (if t214 = true then (dragomanref14_skip.l0 k x0 (wrap64 (x1 + 1))) else (if (bt x0 x1) = 35 then (dragomanref14_skip.l1 k x0 x1) else (if (bt x0 x1) = 47 then (if (wrap64 (x1 + 1)) < (x0.size : Int) then (if 0 ≤ (wrap64 (x1 + 1)) then (dragomanref14_skip.j2 k x0 x1 ((bt x0 (wrap64 (x1 + 1))) == 42)) else (none)) else (dragomanref14_skip.j2 k x0 x1 false)) else (dragomanref14_skip.j2 k x0 x1 false))))) else (none)) else (some x1)
def dragomanref14_skip.l1 : Nat → ByteArray → Int → Option (Int)
  | 0, _, _ => none
  | k + 1, x0, x1 => if x1 < (x0.size : Int) then (if 0 ≤ x1 then (if (bt x0 x1) = 10 then (dragomanref14_skip.l0 k x0 x1) else (dragomanref14_skip.l1 k x0 (wrap64 (x1 + 1)))) else (none)) else (dragomanref14_skip.l0 k x0 x1)
def dragomanref14_skip.j2 : Nat → ByteArray → Int → Bool → Option (Int)
  | 0, _, _, _ => none
  | k + 1, x0, x1, x34 => if x34 = true then (dragomanref14_skip.l2 k x0 (wrap64 (x1 + 2))) else (some x1)
def dragomanref14_skip.l2 : Nat → ByteArray → Int → Option (Int)
  | 0, _, _ => none
  | k + 1, x0, x1 => if (wrap64 (x1 + 1)) < (x0.size : Int) then (if 0 ≤ x1 then (if x1 < (x0.size : Int) then (if (bt x0 x1) = 42 then (if 0 ≤ (wrap64 (x1 + 1)) then (if ((bt x0 (wrap64 (x1 + 1))) = 47) then (if (wrap64 (x1 + 1)) ≥ (x0.size : Int) then (some (-1)) else (dragomanref14_skip.l0 k x0 (wrap64 (x1 + 2)))) else (dragomanref14_skip.l2 k x0 (wrap64 (x1 + 1)))) else (none)) else (dragomanref14_skip.l2 k x0 (wrap64 (x1 + 1)))) else (none)) else (none)) else (if (wrap64 (x1 + 1)) ≥ (x0.size : Int) then (some (-1)) else (dragomanref14_skip.l0 k x0 (wrap64 (x1 + 2))))
end
def dragomanref14_skip.f (k : Nat) (a0 : ByteArray) (a1 : Int) : Option (Int) := dragomanref14_skip.l0 k a0 a1
theorem dragomanref14_skip.mono_l : ∀ k, (∀ y0 y1, LeO (dragomanref14_skip.l0 k y0 y1) (dragomanref14_skip.l0 (k + 1) y0 y1)) ∧ (∀ y0 y1, LeO (dragomanref14_skip.l1 k y0 y1) (dragomanref14_skip.l1 (k + 1) y0 y1)) ∧ (∀ y0 y1 y2, LeO (dragomanref14_skip.j2 k y0 y1 y2) (dragomanref14_skip.j2 (k + 1) y0 y1 y2)) ∧ (∀ y0 y1, LeO (dragomanref14_skip.l2 k y0 y1) (dragomanref14_skip.l2 (k + 1) y0 y1))
  | 0 => ⟨fun _ _ r h => by simp [dragomanref14_skip.l0] at h, fun _ _ r h => by simp [dragomanref14_skip.l1] at h, fun _ _ _ r h => by simp [dragomanref14_skip.j2] at h, fun _ _ r h => by simp [dragomanref14_skip.l2] at h⟩
  | k + 1 => by
    obtain ⟨ih0, ih1, ih2, ih3⟩ := dragomanref14_skip.mono_l k
    refine ⟨?_, ?_, ?_, ?_⟩
    · intro y0 y1
      unfold dragomanref14_skip.l0
      repeat' first
      | (with_reducible exact ih0 _ _)
      | (with_reducible exact ih1 _ _)
      | (with_reducible exact ih2 _ _ _)
      | (with_reducible exact ih3 _ _)
      | (with_reducible exact dragomanref14_has.mono _ _ _)
      | (with_reducible exact LeO.refl _)
      | (with_reducible exact LeO.none _)
      | (with_reducible refine LeO.ite ?_ ?_)
      | (with_reducible refine LeO.bind ?_ (fun _ => ?_))
      | exact ih0 _ _
      | exact ih1 _ _
      | exact ih2 _ _ _
      | exact ih3 _ _
      | exact dragomanref14_has.mono _ _ _
      | exact LeO.none _
      | refine LeO.ite ?_ ?_
      | refine LeO.bind ?_ (fun _ => ?_)
    · intro y0 y1
      unfold dragomanref14_skip.l1
      repeat' first
      | (with_reducible exact ih0 _ _)
      | (with_reducible exact ih1 _ _)
      | (with_reducible exact ih2 _ _ _)
      | (with_reducible exact ih3 _ _)
      | (with_reducible exact dragomanref14_has.mono _ _ _)
      | (with_reducible exact LeO.refl _)
      | (with_reducible exact LeO.none _)
      | (with_reducible refine LeO.ite ?_ ?_)
      | (with_reducible refine LeO.bind ?_ (fun _ => ?_))
      | exact ih0 _ _
      | exact ih1 _ _
      | exact ih2 _ _ _
      | exact ih3 _ _
      | exact dragomanref14_has.mono _ _ _
      | exact LeO.none _
      | refine LeO.ite ?_ ?_
      | refine LeO.bind ?_ (fun _ => ?_)
    · intro y0 y1 y2
      unfold dragomanref14_skip.j2
      repeat' first
      | (with_reducible exact ih0 _ _)
      | (with_reducible exact ih1 _ _)
      | (with_reducible exact ih2 _ _ _)
      | (with_reducible exact ih3 _ _)
      | (with_reducible exact dragomanref14_has.mono _ _ _)
      | (with_reducible exact LeO.refl _)
      | (with_reducible exact LeO.none _)
      | (with_reducible refine LeO.ite ?_ ?_)
      | (with_reducible refine LeO.bind ?_ (fun _ => ?_))
      | exact ih0 _ _
      | exact ih1 _ _
      | exact ih2 _ _ _
      | exact ih3 _ _
      | exact dragomanref14_has.mono _ _ _
      | exact LeO.none _
      | refine LeO.ite ?_ ?_
      | refine LeO.bind ?_ (fun _ => ?_)
    · intro y0 y1
      unfold dragomanref14_skip.l2
      repeat' first
      | (with_reducible exact ih0 _ _)
      | (with_reducible exact ih1 _ _)
      | (with_reducible exact ih2 _ _ _)
      | (with_reducible exact ih3 _ _)
      | (with_reducible exact dragomanref14_has.mono _ _ _)
      | (with_reducible exact LeO.refl _)
      | (with_reducible exact LeO.none _)
      | (with_reducible refine LeO.ite ?_ ?_)
      | (with_reducible refine LeO.bind ?_ (fun _ => ?_))
      | exact ih0 _ _
      | exact ih1 _ _
      | exact ih2 _ _ _
      | exact ih3 _ _
      | exact dragomanref14_has.mono _ _ _
      | exact LeO.none _
      | refine LeO.ite ?_ ?_
      | refine LeO.bind ?_ (fun _ => ?_)
theorem dragomanref14_skip.mono : ∀ a0 a1 k, LeO (dragomanref14_skip.f k a0 a1) (dragomanref14_skip.f (k + 1) a0 a1) := by
  intro a0 a1 k
  obtain ⟨ih0, ih1, ih2, ih3⟩ := dragomanref14_skip.mono_l k
  unfold dragomanref14_skip.f
  repeat' first
      | (with_reducible exact ih0 _ _)
      | (with_reducible exact ih1 _ _)
      | (with_reducible exact ih2 _ _ _)
      | (with_reducible exact ih3 _ _)
      | (with_reducible exact dragomanref14_has.mono _ _ _)
      | (with_reducible exact LeO.refl _)
      | (with_reducible exact LeO.none _)
      | (with_reducible refine LeO.ite ?_ ?_)
      | (with_reducible refine LeO.bind ?_ (fun _ => ?_))
      | exact ih0 _ _
      | exact ih1 _ _
      | exact ih2 _ _ _
      | exact ih3 _ _
      | exact dragomanref14_has.mono _ _ _
      | exact LeO.none _
      | refine LeO.ite ?_ ?_
      | refine LeO.bind ?_ (fun _ => ?_)
set_option maxHeartbeats 8000000 in
set_option maxRecDepth 100000 in
theorem dragomanref14_skip.calls (k : Nat) (a0 : ByteArray) (a1 : Int) (r : Int) (w : World) (h : dragomanref14_skip.f k a0 a1 = some r) :
    Calls Tryd.prog 35 #[.string a0, .int .i64 a1] w fun e w' => e = .returned (.int .i64 r) ∧ Drawn0 w w' := by
  have H : (dragomanref14_skip.l0 k a0 a1) = some r := h
  clear h
  have H' := Aside0.mk H
  clear H
  go_enter Tryd.func35, Tryd.ntmps35
  go_wp2
  go_loopg [1] k (fun kq v1 w' => ∃ (x1_1 : Int), v1 = .int .i64 x1_1 ∧ Aside0 (dragomanref14_skip.l0 kq a0 x1_1 = some r) ∧ Aside0 (kq ≤ k) ∧ Drawn0 w w')
  case atStart => exact ⟨(a1), (by first | rfl | (simp; done) | (simp [*]; done)), H', ⟨Nat.le_refl _⟩, by repeat (first | exact Drawn0.refl _ | apply Drawn0.step)⟩
  case round =>
    clear H'
    try clear p2
    obtain ⟨x1_1, rfl, HA, HK1, ⟨m1, rfl⟩⟩ := hrel
    cases gk with
    | zero => exact absurd HA.out (by simp [dragomanref14_skip.l0])
    | succ k1 =>
      have H := HA.out
      clear HA
      simp only [dragomanref14_skip.l0] at H
      by_cases c3 : x1_1 < (a0.size : Int)
      · rw [if_pos c3] at H
        have c3b0 : decide (x1_1 < (a0.size : Int)) = true := decide_eq_true c3
        clear c3
        by_cases c4 : 0 ≤ x1_1
        · rw [if_pos c4] at H
          have c4b0 : decide (0 ≤ x1_1) = true := decide_eq_true c4
          clear c4
          replace H := Option.bind_eq_some_iff.mp H
          obtain ⟨t214, A60, H⟩ := H
          replace H : (if t214 = true then (dragomanref14_skip.l0 k1 a0 (wrap64 (x1_1 + 1))) else (if (bt a0 x1_1) = 35 then (dragomanref14_skip.l1 k1 a0 x1_1) else (if (bt a0 x1_1) = 47 then (if (wrap64 (x1_1 + 1)) < (a0.size : Int) then (if 0 ≤ (wrap64 (x1_1 + 1)) then (dragomanref14_skip.j2 k1 a0 x1_1 ((bt a0 (wrap64 (x1_1 + 1))) == 42)) else (none)) else (dragomanref14_skip.j2 k1 a0 x1_1 false)) else (dragomanref14_skip.j2 k1 a0 x1_1 false)))) = some r := H
          have A6 := Aside0.mk A60
          clear A60
          by_cases c7 : t214 = true
          · subst c7
            have H1 : (dragomanref14_skip.l0 k1 a0 (wrap64 (x1_1 + 1))) = some r := by rw [if_pos rfl] at H; exact H
            clear H
            have H := H1
            clear H1
            have H' := Aside0.mk H
            clear H
            have p5 : 0 ≤ (x1_1 : Int) := of_decide_eq_true (by first | (with_reducible assumption) | assumption)
            have q5 : x1_1 < (a0.size : Int) := of_decide_eq_true (by first | (with_reducible assumption) | assumption)
            have hx5 := bt_at a0 x1_1
            replace p5 := eq_true p5
            replace q5 := eq_true q5
            go_wp2_with (first | ((with_reducible refine gate_callee (f := 36) rfl ?_); refine goesL_ (some 14) rfl rfl Tryd.func36 (by kernel_rfl) rfl #[.string (⟨#[32, 9, 10]⟩ : ByteArray), .int .u8 (bt a0 x1_1)] rfl (by (try simp only [List.map_toArray, List.map_cons, List.map_nil]); first | done | rfl | (simp only [List.length_drop, List.length_take]; rfl)) ?_; (with_reducible refine (dragomanref14_has.calls k1 (⟨#[32, 9, 10]⟩ : ByteArray) (bt a0 x1_1) true _ A6.out).mono ?_); rintro e w' ⟨rfl, ⟨nd, rfl⟩⟩; refine ⟨_, rfl, ?_⟩))
            go_roundg k1
            case measure => have := HK1.out; omega
            case rel => exact ⟨(wrap64 (x1_1 + 1)), (by first | rfl | (simp; done) | (simp [*]; done)), H', ⟨by have := HK1.out; omega⟩, by repeat (first | exact Drawn0.refl _ | apply Drawn0.step)⟩
          · replace c7 := Bool.eq_false_iff.mpr c7
            subst c7
            have H1 : (if (bt a0 x1_1) = 35 then (dragomanref14_skip.l1 k1 a0 x1_1) else (if (bt a0 x1_1) = 47 then (if (wrap64 (x1_1 + 1)) < (a0.size : Int) then (if 0 ≤ (wrap64 (x1_1 + 1)) then (dragomanref14_skip.j2 k1 a0 x1_1 ((bt a0 (wrap64 (x1_1 + 1))) == 42)) else (none)) else (dragomanref14_skip.j2 k1 a0 x1_1 false)) else (dragomanref14_skip.j2 k1 a0 x1_1 false))) = some r := by rw [if_neg (show ¬ (false = true) by decide)] at H; exact H
            clear H
            have H := H1
            clear H1
            by_cases c9 : (bt a0 x1_1) = 35
            · rw [if_pos c9] at H
              have c9b0 : ((bt a0 x1_1) == 35) = true := beq_iff_eq.mpr c9
              have c9b1 : ((bt a0 x1_1) != 35) = false := bne_eq_false_iff_eq.mpr c9
              clear c9
              have H' := Aside0.mk H
              clear H
              have p5 : 0 ≤ (x1_1 : Int) := of_decide_eq_true (by first | (with_reducible assumption) | assumption)
              have q5 : x1_1 < (a0.size : Int) := of_decide_eq_true (by first | (with_reducible assumption) | assumption)
              have hx5 := bt_at a0 x1_1
              replace p5 := eq_true p5
              replace q5 := eq_true q5
              go_wp2_with (first | ((with_reducible refine gate_callee (f := 36) rfl ?_); refine goesL_ (some 14) rfl rfl Tryd.func36 (by kernel_rfl) rfl #[.string (⟨#[32, 9, 10]⟩ : ByteArray), .int .u8 (bt a0 x1_1)] rfl (by (try simp only [List.map_toArray, List.map_cons, List.map_nil]); first | done | rfl | (simp only [List.length_drop, List.length_take]; rfl)) ?_; (with_reducible refine (dragomanref14_has.calls k1 (⟨#[32, 9, 10]⟩ : ByteArray) (bt a0 x1_1) false _ A6.out).mono ?_); rintro e w' ⟨rfl, ⟨nd, rfl⟩⟩; refine ⟨_, rfl, ?_⟩; have p8 : 0 ≤ (x1_1 : Int) := of_decide_eq_true (by first | (with_reducible assumption) | assumption); have q8 : x1_1 < (a0.size : Int) := of_decide_eq_true (by first | (with_reducible assumption) | assumption); have hx8 := bt_at a0 x1_1; replace p8 := eq_true p8; replace q8 := eq_true q8))
              go_loopg [1] k1 (fun kq v1 w' => ∃ (x1_2 : Int), v1 = .int .i64 x1_2 ∧ Aside0 (dragomanref14_skip.l1 kq a0 x1_2 = some r) ∧ Aside0 (kq ≤ k1) ∧ Drawn0 w w')
              case atStart => exact ⟨(x1_1), (by first | rfl | (simp; done) | (simp [*]; done)), H', ⟨Nat.le_refl _⟩, by repeat (first | exact Drawn0.refl _ | apply Drawn0.step)⟩
              case round =>
                clear H'
                try clear p2
                try clear c3
                try clear c3b0
                try clear c4
                try clear c4b0
                try clear p5
                try clear q5
                try clear hx5
                try clear p6
                try clear c7
                try clear p8
                try clear q8
                try clear hx8
                try clear c9
                try clear c9b0
                try clear c9b1
                try clear p2
                try clear p5
                try clear p8
                try clear q5
                try clear q8
                obtain ⟨x1_2, rfl, HA, HK2, ⟨m2, rfl⟩⟩ := hrel
                cases gk with
                | zero => exact absurd HA.out (by simp [dragomanref14_skip.l1])
                | succ k2 =>
                  have H := HA.out
                  clear HA
                  simp only [dragomanref14_skip.l1] at H
                  by_cases c10 : x1_2 < (a0.size : Int)
                  · rw [if_pos c10] at H
                    have c10b0 : decide (x1_2 < (a0.size : Int)) = true := decide_eq_true c10
                    clear c10
                    by_cases c11 : 0 ≤ x1_2
                    · rw [if_pos c11] at H
                      have c11b0 : decide (0 ≤ x1_2) = true := decide_eq_true c11
                      clear c11
                      by_cases c13 : (bt a0 x1_2) = 10
                      · rw [if_pos c13] at H
                        have c13b0 : ((bt a0 x1_2) == 10) = true := beq_iff_eq.mpr c13
                        have c13b1 : ((bt a0 x1_2) != 10) = false := bne_eq_false_iff_eq.mpr c13
                        clear c13
                        have H' := Aside0.mk H
                        clear H
                        have p12 : 0 ≤ (x1_2 : Int) := of_decide_eq_true (by first | (with_reducible assumption) | assumption)
                        have q12 : x1_2 < (a0.size : Int) := of_decide_eq_true (by first | (with_reducible assumption) | assumption)
                        have hx12 := bt_at a0 x1_2
                        replace p12 := eq_true p12
                        replace q12 := eq_true q12
                        go_wp2
                        go_roundg k2
                        case measure => have := HK1.out; have := HK2.out; omega
                        case rel => exact ⟨(x1_2), (by first | rfl | (simp; done) | (simp [*]; done)), H', ⟨by have := HK1.out; have := HK2.out; omega⟩, by repeat (first | exact Drawn0.refl _ | apply Drawn0.step)⟩
                      · rw [if_neg c13] at H
                        have c13b0 : ((bt a0 x1_2) == 10) = false := beq_eq_false_iff_ne.mpr c13
                        have c13b1 : ((bt a0 x1_2) != 10) = true := bne_iff_ne.mpr c13
                        have H' := Aside0.mk H
                        clear H
                        have p12 : 0 ≤ (x1_2 : Int) := of_decide_eq_true (by first | (with_reducible assumption) | assumption)
                        have q12 : x1_2 < (a0.size : Int) := of_decide_eq_true (by first | (with_reducible assumption) | assumption)
                        have hx12 := bt_at a0 x1_2
                        replace p12 := eq_true p12
                        replace q12 := eq_true q12
                        go_wp2
                        go_roundg k2
                        case measure => have := HK1.out; have := HK2.out; omega
                        case rel => exact ⟨(wrap64 (x1_2 + 1)), (by first | rfl | (simp; done) | (simp [*]; done)), H', ⟨by have := HK1.out; have := HK2.out; omega⟩, by repeat (first | exact Drawn0.refl _ | apply Drawn0.step)⟩
                    · rw [if_neg c11] at H
                      exact absurd H (by simp)
                  · rw [if_neg c10] at H
                    have c10b0 : decide (x1_2 < (a0.size : Int)) = false := decide_eq_false c10
                    clear c10
                    have H' := Aside0.mk H
                    clear H
                    go_wp2
                    go_roundg k2
                    case measure => have := HK1.out; have := HK2.out; omega
                    case rel => exact ⟨(x1_2), (by first | rfl | (simp; done) | (simp [*]; done)), H', ⟨by have := HK1.out; have := HK2.out; omega⟩, by repeat (first | exact Drawn0.refl _ | apply Drawn0.step)⟩
            · rw [if_neg c9] at H
              have c9b0 : ((bt a0 x1_1) == 35) = false := beq_eq_false_iff_ne.mpr c9
              have c9b1 : ((bt a0 x1_1) != 35) = true := bne_iff_ne.mpr c9
              have HC14 := Aside0.mk H
              clear H
              have p5 : 0 ≤ (x1_1 : Int) := of_decide_eq_true (by first | (with_reducible assumption) | assumption)
              have q5 : x1_1 < (a0.size : Int) := of_decide_eq_true (by first | (with_reducible assumption) | assumption)
              have hx5 := bt_at a0 x1_1
              replace p5 := eq_true p5
              replace q5 := eq_true q5
              go_upto_region 8 with (first | ((with_reducible refine gate_callee (f := 36) rfl ?_); refine goesL_ (some 14) rfl rfl Tryd.func36 (by kernel_rfl) rfl #[.string (⟨#[32, 9, 10]⟩ : ByteArray), .int .u8 (bt a0 x1_1)] rfl (by (try simp only [List.map_toArray, List.map_cons, List.map_nil]); first | done | rfl | (simp only [List.length_drop, List.length_take]; rfl)) ?_; (with_reducible refine (dragomanref14_has.calls k1 (⟨#[32, 9, 10]⟩ : ByteArray) (bt a0 x1_1) false _ A6.out).mono ?_); rintro e w' ⟨rfl, ⟨nd, rfl⟩⟩; refine ⟨_, rfl, ?_⟩; have p8 : 0 ≤ (x1_1 : Int) := of_decide_eq_true (by first | (with_reducible assumption) | assumption); have q8 : x1_1 < (a0.size : Int) := of_decide_eq_true (by first | (with_reducible assumption) | assumption); have hx8 := bt_at a0 x1_1; replace p8 := eq_true p8; replace q8 := eq_true q8))
              (try simp only [Act.put, List.setIfInBounds_toArray, List.set_cons_zero, List.set_cons_succ])
              go_cut [34] (fun v34 wc => ∃ (kq : Nat) (x34_13 : Bool), v34 = .bool x34_13 ∧ Aside0 (dragomanref14_skip.j2 kq a0 x1_1 x34_13 = some r) ∧ Aside0 (kq ≤ k1) ∧ Drawn0 w wc)
              case first =>
                have H := HC14.out
                clear HC14
                by_cases c16 : (bt a0 x1_1) = 47
                · rw [if_pos c16] at H
                  have c16b0 : ((bt a0 x1_1) == 47) = true := beq_iff_eq.mpr c16
                  have c16b1 : ((bt a0 x1_1) != 47) = false := bne_eq_false_iff_eq.mpr c16
                  clear c16
                  (first | rw [c16b0] | (simp only [i64_w, i32_w]; rw [c16b0]) | rw [c16b1] | skip)
                  by_cases c17 : (wrap64 (x1_1 + 1)) < (a0.size : Int)
                  · rw [if_pos c17] at H
                    have c17b0 : decide ((wrap64 (x1_1 + 1)) < (a0.size : Int)) = true := decide_eq_true c17
                    clear c17
                    obtain ⟨ji18, hji18⟩ : ∃ j_ : Int, (wrap64 (x1_1 + 1)) = j_ := ⟨_, rfl⟩
                    replace H : (if 0 ≤ (ji18) then (dragomanref14_skip.j2 k1 a0 x1_1 ((bt a0 (ji18)) == 42)) else (none)) = some r := by first | (rw [hji18] at H; exact H) | (simp only [hji18] at H ⊢; exact H)
                    (try rw [hji18] at c17b0)
                    have hji18w : (IntKind.i64.wrap (x1_1 + 1)) = ji18 := (i64_w _).trans hji18
                    by_cases c19 : 0 ≤ (ji18)
                    · rw [if_pos c19] at H
                      have c19b0 : decide (0 ≤ (ji18)) = true := decide_eq_true c19
                      clear c19
                      have H' := Aside0.mk H
                      clear H
                      have p15 : 0 ≤ (x1_1 : Int) := of_decide_eq_true (by first | (with_reducible assumption) | assumption)
                      have q15 : x1_1 < (a0.size : Int) := of_decide_eq_true (by first | (with_reducible assumption) | assumption)
                      have hx15 := bt_at a0 x1_1
                      replace p15 := eq_true p15
                      replace q15 := eq_true q15
                      have p20 : 0 ≤ ((ji18) : Int) := of_decide_eq_true (by first | (with_reducible assumption) | assumption)
                      have q20 : (ji18) < (a0.size : Int) := of_decide_eq_true (by first | (with_reducible assumption) | assumption)
                      have hx20 := bt_at a0 (ji18)
                      replace p20 := eq_true p20
                      replace q20 := eq_true q20
                      go_wp2
                      go_meet
                      case rel => exact ⟨_, (((bt a0 (ji18)) == 42)), (by first | rfl | (simp; done) | (simp only [← hji18] <;> (first | rfl | simp)) | (simp [*]; done)), H', ⟨by have := HK1.out; first | omega | exact Nat.le_refl _⟩, by repeat (first | exact Drawn0.refl _ | apply Drawn0.step)⟩
                    · rw [if_neg c19] at H
                      exact absurd H (by simp)
                  · rw [if_neg c17] at H
                    have c17b0 : decide ((wrap64 (x1_1 + 1)) < (a0.size : Int)) = false := decide_eq_false c17
                    clear c17
                    have H' := Aside0.mk H
                    clear H
                    have p15 : 0 ≤ (x1_1 : Int) := of_decide_eq_true (by first | (with_reducible assumption) | assumption)
                    have q15 : x1_1 < (a0.size : Int) := of_decide_eq_true (by first | (with_reducible assumption) | assumption)
                    have hx15 := bt_at a0 x1_1
                    replace p15 := eq_true p15
                    replace q15 := eq_true q15
                    go_wp2
                    go_meet
                    case rel => exact ⟨_, (false), (by first | rfl | (simp; done) | (simp [*]; done)), H', ⟨by have := HK1.out; first | omega | exact Nat.le_refl _⟩, by repeat (first | exact Drawn0.refl _ | apply Drawn0.step)⟩
                · rw [if_neg c16] at H
                  have c16b0 : ((bt a0 x1_1) == 47) = false := beq_eq_false_iff_ne.mpr c16
                  have c16b1 : ((bt a0 x1_1) != 47) = true := bne_iff_ne.mpr c16
                  (first | rw [c16b0] | (simp only [i64_w, i32_w]; rw [c16b0]) | rw [c16b1] | skip)
                  have H' := Aside0.mk H
                  clear H
                  have p15 : 0 ≤ (x1_1 : Int) := of_decide_eq_true (by first | (with_reducible assumption) | assumption)
                  have q15 : x1_1 < (a0.size : Int) := of_decide_eq_true (by first | (with_reducible assumption) | assumption)
                  have hx15 := bt_at a0 x1_1
                  replace p15 := eq_true p15
                  replace q15 := eq_true q15
                  go_wp2
                  go_meet
                  case rel => exact ⟨_, (false), (by first | rfl | (simp; done) | (simp [*]; done)), H', ⟨by have := HK1.out; first | omega | exact Nat.le_refl _⟩, by repeat (first | exact Drawn0.refl _ | apply Drawn0.step)⟩
              case rest =>
                clear HC14
                try clear c1
                try clear p1
                try clear q1
                try clear hx1
                try clear p2
                try clear q2
                try clear hx2
                try clear c3
                try clear c3b0
                try clear c4
                try clear c4b0
                try clear p5
                try clear q5
                try clear hx5
                try clear p6
                try clear c7
                try clear p8
                try clear q8
                try clear hx8
                try clear c9
                try clear c9b0
                try clear c9b1
                try clear c10
                try clear c10b0
                try clear c11
                try clear c11b0
                try clear p12
                try clear q12
                try clear hx12
                try clear c13
                try clear c13b0
                try clear c13b1
                try clear p15
                try clear q15
                try clear hx15
                try clear c16
                try clear c16b0
                try clear c16b1
                try clear c17
                try clear c17b0
                try clear c19
                try clear c19b0
                try clear p20
                try clear q20
                try clear hx20
                try clear p12
                try clear p15
                try clear p2
                try clear p20
                try clear p5
                try clear p6
                try clear p8
                try clear q12
                try clear q15
                try clear q20
                try clear q5
                try clear q8
                obtain ⟨kq, x34_13, rfl, HA, HJ13, ⟨mc13, rfl⟩⟩ := hcut
                cases kq with
                | zero => exact absurd HA.out (by simp [dragomanref14_skip.j2])
                | succ kj13 =>
                  have H := HA.out
                  clear HA
                  simp only [dragomanref14_skip.j2] at H
                  by_cases c21 : x34_13 = true
                  · subst c21
                    have H1 : (dragomanref14_skip.l2 kj13 a0 (wrap64 (x1_1 + 2))) = some r := by rw [if_pos rfl] at H; exact H
                    clear H
                    have H := H1
                    clear H1
                    have H' := Aside0.mk H
                    clear H
                    go_wp2
                    go_loopg [1] kj13 (fun kq v1 w' => ∃ (x1_3 : Int), v1 = .int .i64 x1_3 ∧ Aside0 (dragomanref14_skip.l2 kq a0 x1_3 = some r) ∧ Aside0 (kq ≤ kj13) ∧ Drawn0 w w')
                    case atStart => exact ⟨(wrap64 (x1_1 + 2)), (by first | rfl | (simp; done) | (simp [*]; done)), H', ⟨Nat.le_refl _⟩, by repeat (first | exact Drawn0.refl _ | apply Drawn0.step)⟩
                    case round =>
                      clear H'
                      try clear c1
                      try clear p1
                      try clear q1
                      try clear hx1
                      try clear c2
                      try clear p2
                      try clear q2
                      try clear hx2
                      try clear c3
                      try clear c3b0
                      try clear c4
                      try clear c4b0
                      try clear p5
                      try clear q5
                      try clear hx5
                      try clear p6
                      try clear c7
                      try clear p8
                      try clear q8
                      try clear hx8
                      try clear c9
                      try clear c9b0
                      try clear c9b1
                      try clear c10
                      try clear c10b0
                      try clear c11
                      try clear c11b0
                      try clear p12
                      try clear q12
                      try clear hx12
                      try clear c13
                      try clear c13b0
                      try clear c13b1
                      try clear p15
                      try clear q15
                      try clear hx15
                      try clear c16
                      try clear c16b0
                      try clear c16b1
                      try clear c17
                      try clear c17b0
                      try clear c19
                      try clear c19b0
                      try clear p20
                      try clear q20
                      try clear hx20
                      try clear c21
                      try clear p1
                      try clear p12
                      try clear p15
                      try clear p2
                      try clear p20
                      try clear p5
                      try clear p6
                      try clear p8
                      try clear q1
                      try clear q12
                      try clear q15
                      try clear q2
                      try clear q20
                      try clear q5
                      try clear q8
                      obtain ⟨x1_3, rfl, HA, HK3, ⟨m3, rfl⟩⟩ := hrel
                      cases gk with
                      | zero => exact absurd HA.out (by simp [dragomanref14_skip.l2])
                      | succ k3 =>
                        have H := HA.out
                        clear HA
                        simp only [dragomanref14_skip.l2] at H
                        by_cases c22 : (wrap64 (x1_3 + 1)) < (a0.size : Int)
                        · rw [if_pos c22] at H
                          have c22b0 : decide ((wrap64 (x1_3 + 1)) < (a0.size : Int)) = true := decide_eq_true c22
                          clear c22
                          by_cases c23 : 0 ≤ x1_3
                          · rw [if_pos c23] at H
                            have c23b0 : decide (0 ≤ x1_3) = true := decide_eq_true c23
                            clear c23
                            by_cases c24 : x1_3 < (a0.size : Int)
                            · rw [if_pos c24] at H
                              have c24b0 : decide (x1_3 < (a0.size : Int)) = true := decide_eq_true c24
                              clear c24
                              by_cases c26 : (bt a0 x1_3) = 42
                              · rw [if_pos c26] at H
                                have c26b0 : ((bt a0 x1_3) == 42) = true := beq_iff_eq.mpr c26
                                have c26b1 : ((bt a0 x1_3) != 42) = false := bne_eq_false_iff_eq.mpr c26
                                clear c26
                                obtain ⟨ji27, hji27⟩ : ∃ j_ : Int, (wrap64 (x1_3 + 1)) = j_ := ⟨_, rfl⟩
                                replace H : (if 0 ≤ (ji27) then (if ((bt a0 (ji27)) = 47) then (if (ji27) ≥ (a0.size : Int) then (some (-1)) else (dragomanref14_skip.l0 k3 a0 (wrap64 (x1_3 + 2)))) else (dragomanref14_skip.l2 k3 a0 ji27)) else (none)) = some r := by first | (rw [hji27] at H; exact H) | (simp only [hji27] at H ⊢; exact H)
                                (try rw [hji27] at c22b0)
                                have hji27w : (IntKind.i64.wrap (x1_3 + 1)) = ji27 := (i64_w _).trans hji27
                                by_cases c28 : 0 ≤ (ji27)
                                · rw [if_pos c28] at H
                                  have c28b0 : decide (0 ≤ (ji27)) = true := decide_eq_true c28
                                  clear c28
                                  by_cases c30 : ((bt a0 (ji27)) = 47)
                                  · rw [if_pos c30] at H
                                    have c30b0 : ((bt a0 (ji27)) == 47) = true := beq_iff_eq.mpr c30
                                    have c30b1 : ((bt a0 (ji27)) != 47) = false := bne_eq_false_iff_eq.mpr c30
                                    clear c30
                                    by_cases c31 : (ji27) ≥ (a0.size : Int)
                                    · rw [if_pos c31] at H
                                      have c31b0 : decide ((a0.size : Int) ≤ (ji27)) = true := decide_eq_true c31
                                      clear c31
                                      obtain rfl := Option.some.inj H
                                      have p25 : 0 ≤ (x1_3 : Int) := of_decide_eq_true (by first | (with_reducible assumption) | assumption)
                                      have q25 : x1_3 < (a0.size : Int) := of_decide_eq_true (by first | (with_reducible assumption) | assumption)
                                      have hx25 := bt_at a0 x1_3
                                      replace p25 := eq_true p25
                                      replace q25 := eq_true q25
                                      have p29 : 0 ≤ ((ji27) : Int) := of_decide_eq_true (by first | (with_reducible assumption) | assumption)
                                      have q29 : (ji27) < (a0.size : Int) := of_decide_eq_true (by first | (with_reducible assumption) | assumption)
                                      have hx29 := bt_at a0 (ji27)
                                      replace p29 := eq_true p29
                                      replace q29 := eq_true q29
                                      go_wp2
                                      first | go_ret | refine ⟨_, results_tmp rfl _ _ _, ?_⟩
                                      exact ⟨by first | rfl | (simp; done) | (simp only [← hji27] <;> (first | rfl | simp)) | (simp [*]; done), by repeat (first | exact Drawn0.refl _ | apply Drawn0.step)⟩
                                    · rw [if_neg c31] at H
                                      have c31b0 : decide ((a0.size : Int) ≤ (ji27)) = false := decide_eq_false c31
                                      clear c31
                                      have H' := Aside0.mk H
                                      clear H
                                      have p25 : 0 ≤ (x1_3 : Int) := of_decide_eq_true (by first | (with_reducible assumption) | assumption)
                                      have q25 : x1_3 < (a0.size : Int) := of_decide_eq_true (by first | (with_reducible assumption) | assumption)
                                      have hx25 := bt_at a0 x1_3
                                      replace p25 := eq_true p25
                                      replace q25 := eq_true q25
                                      have p29 : 0 ≤ ((ji27) : Int) := of_decide_eq_true (by first | (with_reducible assumption) | assumption)
                                      have q29 : (ji27) < (a0.size : Int) := of_decide_eq_true (by first | (with_reducible assumption) | assumption)
                                      have hx29 := bt_at a0 (ji27)
                                      replace p29 := eq_true p29
                                      replace q29 := eq_true q29
                                      go_wp2
                                      go_roundg k3
                                      case measure => have := HK1.out; have := HJ13.out; have := HK3.out; omega
                                      case rel => exact ⟨(wrap64 (x1_3 + 2)), (by first | rfl | (simp; done) | (simp [*]; done)), H', ⟨by have := HK1.out; have := HJ13.out; have := HK3.out; omega⟩, by repeat (first | exact Drawn0.refl _ | apply Drawn0.step)⟩
                                  · rw [if_neg c30] at H
                                    have c30b0 : ((bt a0 (ji27)) == 47) = false := beq_eq_false_iff_ne.mpr c30
                                    have c30b1 : ((bt a0 (ji27)) != 47) = true := bne_iff_ne.mpr c30
                                    have H' := Aside0.mk H
                                    clear H
                                    have p25 : 0 ≤ (x1_3 : Int) := of_decide_eq_true (by first | (with_reducible assumption) | assumption)
                                    have q25 : x1_3 < (a0.size : Int) := of_decide_eq_true (by first | (with_reducible assumption) | assumption)
                                    have hx25 := bt_at a0 x1_3
                                    replace p25 := eq_true p25
                                    replace q25 := eq_true q25
                                    have p29 : 0 ≤ ((ji27) : Int) := of_decide_eq_true (by first | (with_reducible assumption) | assumption)
                                    have q29 : (ji27) < (a0.size : Int) := of_decide_eq_true (by first | (with_reducible assumption) | assumption)
                                    have hx29 := bt_at a0 (ji27)
                                    replace p29 := eq_true p29
                                    replace q29 := eq_true q29
                                    go_wp2
                                    go_roundg k3
                                    case measure => have := HK1.out; have := HJ13.out; have := HK3.out; omega
                                    case rel => exact ⟨(ji27), (by first | rfl | (simp; done) | (simp only [← hji27] <;> (first | rfl | simp)) | (simp [*]; done)), H', ⟨by have := HK1.out; have := HJ13.out; have := HK3.out; omega⟩, by repeat (first | exact Drawn0.refl _ | apply Drawn0.step)⟩
                                · rw [if_neg c28] at H
                                  exact absurd H (by simp)
                              · rw [if_neg c26] at H
                                have c26b0 : ((bt a0 x1_3) == 42) = false := beq_eq_false_iff_ne.mpr c26
                                have c26b1 : ((bt a0 x1_3) != 42) = true := bne_iff_ne.mpr c26
                                have H' := Aside0.mk H
                                clear H
                                have p25 : 0 ≤ (x1_3 : Int) := of_decide_eq_true (by first | (with_reducible assumption) | assumption)
                                have q25 : x1_3 < (a0.size : Int) := of_decide_eq_true (by first | (with_reducible assumption) | assumption)
                                have hx25 := bt_at a0 x1_3
                                replace p25 := eq_true p25
                                replace q25 := eq_true q25
                                go_wp2
                                go_roundg k3
                                case measure => have := HK1.out; have := HJ13.out; have := HK3.out; omega
                                case rel => exact ⟨(wrap64 (x1_3 + 1)), (by first | rfl | (simp; done) | (simp [*]; done)), H', ⟨by have := HK1.out; have := HJ13.out; have := HK3.out; omega⟩, by repeat (first | exact Drawn0.refl _ | apply Drawn0.step)⟩
                            · rw [if_neg c24] at H
                              exact absurd H (by simp)
                          · rw [if_neg c23] at H
                            exact absurd H (by simp)
                        · rw [if_neg c22] at H
                          have c22b0 : decide ((wrap64 (x1_3 + 1)) < (a0.size : Int)) = false := decide_eq_false c22
                          clear c22
                          by_cases c32 : (wrap64 (x1_3 + 1)) ≥ (a0.size : Int)
                          · rw [if_pos c32] at H
                            have c32b0 : decide ((a0.size : Int) ≤ (wrap64 (x1_3 + 1))) = true := decide_eq_true c32
                            clear c32
                            obtain rfl := Option.some.inj H
                            go_wp2
                            first | go_ret | refine ⟨_, results_tmp rfl _ _ _, ?_⟩
                            exact ⟨by first | rfl | (simp; done) | (simp [*]; done), by repeat (first | exact Drawn0.refl _ | apply Drawn0.step)⟩
                          · rw [if_neg c32] at H
                            have c32b0 : decide ((a0.size : Int) ≤ (wrap64 (x1_3 + 1))) = false := decide_eq_false c32
                            clear c32
                            have H' := Aside0.mk H
                            clear H
                            go_wp2
                            go_roundg k3
                            case measure => have := HK1.out; have := HJ13.out; have := HK3.out; omega
                            case rel => exact ⟨(wrap64 (x1_3 + 2)), (by first | rfl | (simp; done) | (simp [*]; done)), H', ⟨by have := HK1.out; have := HJ13.out; have := HK3.out; omega⟩, by repeat (first | exact Drawn0.refl _ | apply Drawn0.step)⟩
                  · replace c21 := Bool.eq_false_iff.mpr c21
                    subst c21
                    have H1 : (some x1_1) = some r := by rw [if_neg (show ¬ (false = true) by decide)] at H; exact H
                    clear H
                    have H := H1
                    clear H1
                    obtain rfl := Option.some.inj H
                    go_wp2
                    first | go_ret | refine ⟨_, results_tmp rfl _ _ _, ?_⟩
                    exact ⟨by first | rfl | (simp; done) | (simp [*]; done), by repeat (first | exact Drawn0.refl _ | apply Drawn0.step)⟩
        · rw [if_neg c4] at H
          exact absurd H (by simp)
      · rw [if_neg c3] at H
        have c3b0 : decide (x1_1 < (a0.size : Int)) = false := decide_eq_false c3
        clear c3
        obtain rfl := Option.some.inj H
        go_wp2
        first | go_ret | refine ⟨_, results_tmp rfl _ _ _, ?_⟩
        exact ⟨by first | rfl | (simp; done) | (simp [*]; done), by repeat (first | exact Drawn0.refl _ | apply Drawn0.step)⟩
end Go.Proofs.YtdnneofebehpaaaDoor.L
