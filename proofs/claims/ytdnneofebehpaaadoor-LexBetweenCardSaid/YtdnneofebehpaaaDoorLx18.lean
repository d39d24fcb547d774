import Derived.Test.YtdnneofebehpaaaDoorLx0
import Derived.Test.YtdnneofebehpaaaDoorLx2
import Derived.Test.YtdnneofebehpaaaDoorLx7
import Derived.Test.YtdnneofebehpaaaDoorLx10
namespace Go.Proofs.YtdnneofebehpaaaDoor.L
open Go.RowKit Go.Proofs.YtdnneofebehpaaaDoorW.PrintWords Go.Proofs.YtdnneofebehpaaaDoorW.PrintLast Go.Proofs.YtdnneofebehpaaaDoorW.PrintMore
attribute [local go_sem] max2_int min2_int max_two min_two max_three min_three max_four min_four
set_option linter.unusedVariables false
set_option linter.unusedSimpArgs false
attribute [local go_sem high] eqA40
mutual
def dragomanlaw14_LexBetween.l0 : Nat → List (S40) → ByteArray → ByteArray → List (S40) → Int → Int → Option (Bool)
  | 0, _, _, _, _, _, _ => none
  | k + 1, x5, x7, x8, x34, x35, x36 => if x36 < x35 then (if 0 ≤ x36 then (if x36 < (x34.length : Int) then (if ((rd_T40 x34 x36).f0) = 113 then (if 1 + ((rd_T40 x34 x36).f1).size ≤ 9223372036854775807 then (if ((⟨#[34]⟩ : ByteArray) ++ ((rd_T40 x34 x36).f1)).size + 1 ≤ 9223372036854775807 then (if x8.size + (((⟨#[34]⟩ : ByteArray) ++ ((rd_T40 x34 x36).f1)) ++ (⟨#[34]⟩ : ByteArray)).size ≤ 9223372036854775807 then (if (x8 ++ (((⟨#[34]⟩ : ByteArray) ++ ((rd_T40 x34 x36).f1)) ++ (⟨#[34]⟩ : ByteArray))).size + x7.size ≤ 9223372036854775807 then (dragomanlaw14_LexBetween.l0 k x5 x7 ((x8 ++ (((⟨#[34]⟩ : ByteArray) ++ ((rd_T40 x34 x36).f1)) ++ (⟨#[34]⟩ : ByteArray))) ++ x7) x34 x35 (wrap64 (x36 + 1))) else (none)) else (none)) else (none)) else (none)) else (if ((rd_T40 x34 x36).f0) = 119 then (if ((rd_T40 x34 x36).f1).size + 1 ≤ 9223372036854775807 then (if x8.size + (((rd_T40 x34 x36).f1) ++ (⟨#[32]⟩ : ByteArray)).size ≤ 9223372036854775807 then (if (x8 ++ (((rd_T40 x34 x36).f1) ++ (⟨#[32]⟩ : ByteArray))).size + x7.size ≤ 9223372036854775807 then (dragomanlaw14_LexBetween.l0 k x5 x7 ((x8 ++ (((rd_T40 x34 x36).f1) ++ (⟨#[32]⟩ : ByteArray))) ++ x7) x34 x35 (wrap64 (x36 + 1))) else (none)) else (none)) else (none)) else (if x8.size + ((rd_T40 x34 x36).f1).size ≤ 9223372036854775807 then (if (x8 ++ ((rd_T40 x34 x36).f1)).size + x7.size ≤ 9223372036854775807 then (dragomanlaw14_LexBetween.l0 k x5 x7 ((x8 ++ ((rd_T40 x34 x36).f1)) ++ x7) x34 x35 (wrap64 (x36 + 1))) else (none)) else (none)))) else (none)) else (none)) else ((lex_Tokens.f k x8).bind fun bt264 => (if (x8.size : Int) > 65536 then (some true) else (if bt264.2 = 0 then (dragomanlaw14_LexBetween.j1 k x5 bt264.1 ((bt264.1.length : Int) != (x5.length : Int))) else (dragomanlaw14_LexBetween.j1 k x5 bt264.1 true))))
def dragomanlaw14_LexBetween.j1 : Nat → List (S40) → List (S40) → Bool → Option (Bool)
  | 0, _, _, _ => none
  | k + 1, x5, x11, x81 => if x81 = true then (none) else (dragomanlaw14_LexBetween.l1 k x5 x11 (x5.length : Int) 0)
def dragomanlaw14_LexBetween.l1 : Nat → List (S40) → List (S40) → Int → Int → Option (Bool)
  | 0, _, _, _, _ => none
  | k + 1, x5, x11, x83, x84 => if x84 < x83 then (if 0 ≤ x84 then (if x84 < (x5.length : Int) then (if x84 < (x11.length : Int) then (if (!(((rd_T40 x5 x84).f0) == ((rd_T40 x11 x84).f0)) || (!((((rd_T40 x5 x84).f1).toList) == (((rd_T40 x11 x84).f1).toList)))) = true then (none) else (dragomanlaw14_LexBetween.l1 k x5 x11 x83 (wrap64 (x84 + 1)))) else (none)) else (none)) else (none)) else (some true)
end
def dragomanlaw14_LexBetween.f (k : Nat) (a0 : ByteArray) (a1 : Int) : Option (Bool) := (dragomanlaw14_alive.f k).bind fun t257 => (if t257 = true then (if (a0.size : Int) > 2000 then (some true) else ((lex_Tokens.f k a0).bind fun bt258 => (if bt258.2 = 0 then (if 0 ≤ (Int.tmod a1 4) then (if (Int.tmod a1 4) < 4 then (dragomanlaw14_LexBetween.l0 k bt258.1 (ixS ([(⟨#[32]⟩ : ByteArray), (⟨#[10, 9]⟩ : ByteArray), (⟨#[32, 35, 32, 120, 32, 59, 32, 34, 10]⟩ : ByteArray), (⟨#[47, 42, 32, 123, 32, 34, 32, 42, 47]⟩ : ByteArray)] : List ByteArray) (Int.tmod a1 4)) (ixS ([(⟨#[32]⟩ : ByteArray), (⟨#[10, 9]⟩ : ByteArray), (⟨#[32, 35, 32, 120, 32, 59, 32, 34, 10]⟩ : ByteArray), (⟨#[47, 42, 32, 123, 32, 34, 32, 42, 47]⟩ : ByteArray)] : List ByteArray) (Int.tmod a1 4)) bt258.1 (bt258.1.length : Int) 0) else (none)) else (none)) else (some ((bt258.1.length : Int) == 0))))) else (none))
theorem dragomanlaw14_LexBetween.mono_l : ∀ k, (∀ y0 y1 y2 y3 y4 y5, LeO (dragomanlaw14_LexBetween.l0 k y0 y1 y2 y3 y4 y5) (dragomanlaw14_LexBetween.l0 (k + 1) y0 y1 y2 y3 y4 y5)) ∧ (∀ y0 y1 y2, LeO (dragomanlaw14_LexBetween.j1 k y0 y1 y2) (dragomanlaw14_LexBetween.j1 (k + 1) y0 y1 y2)) ∧ (∀ y0 y1 y2 y3, LeO (dragomanlaw14_LexBetween.l1 k y0 y1 y2 y3) (dragomanlaw14_LexBetween.l1 (k + 1) y0 y1 y2 y3))
  | 0 => ⟨fun _ _ _ _ _ _ r h => by simp [dragomanlaw14_LexBetween.l0] at h, fun _ _ _ r h => by simp [dragomanlaw14_LexBetween.j1] at h, fun _ _ _ _ r h => by simp [dragomanlaw14_LexBetween.l1] at h⟩
  | k + 1 => by
    obtain ⟨ih0, ih1, ih2⟩ := dragomanlaw14_LexBetween.mono_l k
    refine ⟨?_, ?_, ?_⟩
    · intro y0 y1 y2 y3 y4 y5
      unfold dragomanlaw14_LexBetween.l0
      repeat' first
      | (with_reducible exact ih0 _ _ _ _ _ _)
      | (with_reducible exact ih1 _ _ _)
      | (with_reducible exact ih2 _ _ _ _)
      | (with_reducible exact dragomanlaw14_alive.mono _)
      | (with_reducible exact lex_Tokens.mono _ _)
      | (with_reducible exact LeO.refl _)
      | (with_reducible exact LeO.none _)
      | (with_reducible refine LeO.ite ?_ ?_)
      | (with_reducible refine LeO.bind ?_ (fun _ => ?_))
      | exact ih0 _ _ _ _ _ _
      | exact ih1 _ _ _
      | exact ih2 _ _ _ _
      | exact dragomanlaw14_alive.mono _
      | exact lex_Tokens.mono _ _
      | exact LeO.none _
      | refine LeO.ite ?_ ?_
      | refine LeO.bind ?_ (fun _ => ?_)
    · intro y0 y1 y2
      unfold dragomanlaw14_LexBetween.j1
      repeat' first
      | (with_reducible exact ih0 _ _ _ _ _ _)
      | (with_reducible exact ih1 _ _ _)
      | (with_reducible exact ih2 _ _ _ _)
      | (with_reducible exact dragomanlaw14_alive.mono _)
      | (with_reducible exact lex_Tokens.mono _ _)
      | (with_reducible exact LeO.refl _)
      | (with_reducible exact LeO.none _)
      | (with_reducible refine LeO.ite ?_ ?_)
      | (with_reducible refine LeO.bind ?_ (fun _ => ?_))
      | exact ih0 _ _ _ _ _ _
      | exact ih1 _ _ _
      | exact ih2 _ _ _ _
      | exact dragomanlaw14_alive.mono _
      | exact lex_Tokens.mono _ _
      | exact LeO.none _
      | refine LeO.ite ?_ ?_
      | refine LeO.bind ?_ (fun _ => ?_)
    · intro y0 y1 y2 y3
      unfold dragomanlaw14_LexBetween.l1
      repeat' first
      | (with_reducible exact ih0 _ _ _ _ _ _)
      | (with_reducible exact ih1 _ _ _)
      | (with_reducible exact ih2 _ _ _ _)
      | (with_reducible exact dragomanlaw14_alive.mono _)
      | (with_reducible exact lex_Tokens.mono _ _)
      | (with_reducible exact LeO.refl _)
      | (with_reducible exact LeO.none _)
      | (with_reducible refine LeO.ite ?_ ?_)
      | (with_reducible refine LeO.bind ?_ (fun _ => ?_))
      | exact ih0 _ _ _ _ _ _
      | exact ih1 _ _ _
      | exact ih2 _ _ _ _
      | exact dragomanlaw14_alive.mono _
      | exact lex_Tokens.mono _ _
      | exact LeO.none _
      | refine LeO.ite ?_ ?_
      | refine LeO.bind ?_ (fun _ => ?_)
theorem dragomanlaw14_LexBetween.mono : ∀ a0 a1 k, LeO (dragomanlaw14_LexBetween.f k a0 a1) (dragomanlaw14_LexBetween.f (k + 1) a0 a1) := by
  intro a0 a1 k
  obtain ⟨ih0, ih1, ih2⟩ := dragomanlaw14_LexBetween.mono_l k
  unfold dragomanlaw14_LexBetween.f
  repeat' first
      | (with_reducible exact ih0 _ _ _ _ _ _)
      | (with_reducible exact ih1 _ _ _)
      | (with_reducible exact ih2 _ _ _ _)
      | (with_reducible exact dragomanlaw14_alive.mono _)
      | (with_reducible exact lex_Tokens.mono _ _)
      | (with_reducible exact LeO.refl _)
      | (with_reducible exact LeO.none _)
      | (with_reducible refine LeO.ite ?_ ?_)
      | (with_reducible refine LeO.bind ?_ (fun _ => ?_))
      | exact ih0 _ _ _ _ _ _
      | exact ih1 _ _ _
      | exact ih2 _ _ _ _
      | exact dragomanlaw14_alive.mono _
      | exact lex_Tokens.mono _ _
      | exact LeO.none _
      | refine LeO.ite ?_ ?_
      | refine LeO.bind ?_ (fun _ => ?_)
set_option maxHeartbeats 8000000 in
set_option maxRecDepth 100000 in
theorem dragomanlaw14_LexBetween.calls (k : Nat) (a0 : ByteArray) (a1 : Int) (r : Bool) (w : World) (hG : GL w) (h : dragomanlaw14_LexBetween.f k a0 a1 = some r) :
    Calls Tryd.prog 6 #[.string a0, .int .u8 a1] w fun e w' => e = .returned (.bool r) ∧ Below w.heap.size w w' := by
  have hu42 := Tryd.underlying42
  have hu40 := Tryd.underlying40
  have HB := Aside0.mk (Below.refl w.heap.size w)
  have H : ((dragomanlaw14_alive.f k).bind fun t257 => (if t257 = true then (if (a0.size : Int) > 2000 then (some true) else ((lex_Tokens.f k a0).bind fun bt258 => (if bt258.2 = 0 then (if 0 ≤ (Int.tmod a1 4) then (if (Int.tmod a1 4) < 4 then (dragomanlaw14_LexBetween.l0 k bt258.1 (ixS ([(⟨#[32]⟩ : ByteArray), (⟨#[10, 9]⟩ : ByteArray), (⟨#[32, 35, 32, 120, 32, 59, 32, 34, 10]⟩ : ByteArray), (⟨#[47, 42, 32, 123, 32, 34, 32, 42, 47]⟩ : ByteArray)] : List ByteArray) (Int.tmod a1 4)) (ixS ([(⟨#[32]⟩ : ByteArray), (⟨#[10, 9]⟩ : ByteArray), (⟨#[32, 35, 32, 120, 32, 59, 32, 34, 10]⟩ : ByteArray), (⟨#[47, 42, 32, 123, 32, 34, 32, 42, 47]⟩ : ByteArray)] : List ByteArray) (Int.tmod a1 4)) bt258.1 (bt258.1.length : Int) 0) else (none)) else (none)) else (some ((bt258.1.length : Int) == 0))))) else (none))) = some r := h
  clear h
  replace H := Option.bind_eq_some_iff.mp H
  obtain ⟨t257, A30, H⟩ := H
  replace H : (if t257 = true then (if (a0.size : Int) > 2000 then (some true) else ((lex_Tokens.f k a0).bind fun bt258 => (if bt258.2 = 0 then (if 0 ≤ (Int.tmod a1 4) then (if (Int.tmod a1 4) < 4 then (dragomanlaw14_LexBetween.l0 k bt258.1 (ixS ([(⟨#[32]⟩ : ByteArray), (⟨#[10, 9]⟩ : ByteArray), (⟨#[32, 35, 32, 120, 32, 59, 32, 34, 10]⟩ : ByteArray), (⟨#[47, 42, 32, 123, 32, 34, 32, 42, 47]⟩ : ByteArray)] : List ByteArray) (Int.tmod a1 4)) (ixS ([(⟨#[32]⟩ : ByteArray), (⟨#[10, 9]⟩ : ByteArray), (⟨#[32, 35, 32, 120, 32, 59, 32, 34, 10]⟩ : ByteArray), (⟨#[47, 42, 32, 123, 32, 34, 32, 42, 47]⟩ : ByteArray)] : List ByteArray) (Int.tmod a1 4)) bt258.1 (bt258.1.length : Int) 0) else (none)) else (none)) else (some ((bt258.1.length : Int) == 0))))) else (none)) = some r := H
  have A3 := Aside0.mk A30
  clear A30
  by_cases c4 : t257 = true
  · subst c4
    have H1 : (if (a0.size : Int) > 2000 then (some true) else ((lex_Tokens.f k a0).bind fun bt258 => (if bt258.2 = 0 then (if 0 ≤ (Int.tmod a1 4) then (if (Int.tmod a1 4) < 4 then (dragomanlaw14_LexBetween.l0 k bt258.1 (ixS ([(⟨#[32]⟩ : ByteArray), (⟨#[10, 9]⟩ : ByteArray), (⟨#[32, 35, 32, 120, 32, 59, 32, 34, 10]⟩ : ByteArray), (⟨#[47, 42, 32, 123, 32, 34, 32, 42, 47]⟩ : ByteArray)] : List ByteArray) (Int.tmod a1 4)) (ixS ([(⟨#[32]⟩ : ByteArray), (⟨#[10, 9]⟩ : ByteArray), (⟨#[32, 35, 32, 120, 32, 59, 32, 34, 10]⟩ : ByteArray), (⟨#[47, 42, 32, 123, 32, 34, 32, 42, 47]⟩ : ByteArray)] : List ByteArray) (Int.tmod a1 4)) bt258.1 (bt258.1.length : Int) 0) else (none)) else (none)) else (some ((bt258.1.length : Int) == 0))))) = some r := by rw [if_pos rfl] at H; exact H
    clear H
    have H := H1
    clear H1
    by_cases c5 : (a0.size : Int) > 2000
    · rw [if_pos c5] at H
      have c5b0 : decide (2000 < (a0.size : Int)) = true := decide_eq_true c5
      have c5b1 : decide (2000 < a0.size) = true := decide_eq_true (by omega)
      clear c5
      obtain rfl := Option.some.inj H
      go_enter Tryd.func6, Tryd.ntmps6
      go_wp2_with (first | (go_at_call 8; (with_reducible refine (dragomanlaw14_alive.calls k  true _ ?side1 A3.out).mono ?_); (case side1 => exact GL_below hG (by repeat (first | (with_reducible first | exact HB.out | apply below_alloc | apply pw_below_drewN | apply below_drew1) | exact HB.out))); rintro e w6 ⟨rfl, hb⟩; have n0_ := Aside0.mk (below_step (by repeat (first | (with_reducible first | exact HB.out | apply below_alloc | apply pw_below_drewN | apply below_drew1) | exact HB.out)) hb); clear HB; have HB := n0_; clear n0_; (try clear hb); (try clear hb2); (try clear hk); (try clear hi)))
      repeat (go_quiet (first | (go_at_call 8; (with_reducible refine (dragomanlaw14_alive.calls k  true _ ?side1 A3.out).mono ?_); (case side1 => exact GL_below hG (by repeat (first | (with_reducible first | exact HB.out | apply below_alloc | apply pw_below_drewN | apply below_drew1) | exact HB.out))); rintro e w6 ⟨rfl, hb⟩; have n0_ := Aside0.mk (below_step (by repeat (first | (with_reducible first | exact HB.out | apply below_alloc | apply pw_below_drewN | apply below_drew1) | exact HB.out)) hb); clear HB; have HB := n0_; clear n0_; (try clear hb); (try clear hb2); (try clear hk); (try clear hi))); try go_wp2_with (first | (go_at_call 8; (with_reducible refine (dragomanlaw14_alive.calls k  true _ ?side1 A3.out).mono ?_); (case side1 => exact GL_below hG (by repeat (first | (with_reducible first | exact HB.out | apply below_alloc | apply pw_below_drewN | apply below_drew1) | exact HB.out))); rintro e w6 ⟨rfl, hb⟩; have n0_ := Aside0.mk (below_step (by repeat (first | (with_reducible first | exact HB.out | apply below_alloc | apply pw_below_drewN | apply below_drew1) | exact HB.out)) hb); clear HB; have HB := n0_; clear n0_; (try clear hb); (try clear hb2); (try clear hk); (try clear hi))))
      first | go_ret | refine ⟨_, results_tmp rfl _ _ _, ?_⟩
      exact ⟨by first | rfl | (simp [errW_none, errW_some] <;> rfl) | (simp [*, errW_none, errW_some] <;> rfl), by repeat (first | (with_reducible first | exact HB.out | apply below_alloc | apply pw_below_drewN | apply below_drew1) | exact HB.out)⟩
    · rw [if_neg c5] at H
      have c5b0 : decide (2000 < (a0.size : Int)) = false := decide_eq_false c5
      have c5b1 : decide (2000 < a0.size) = false := decide_eq_false (by omega)
      clear c5
      replace H := Option.bind_eq_some_iff.mp H
      obtain ⟨⟨t258, t259⟩, A70, H⟩ := H
      replace H : (if t259 = 0 then (if 0 ≤ (Int.tmod a1 4) then (if (Int.tmod a1 4) < 4 then (dragomanlaw14_LexBetween.l0 k t258 (ixS ([(⟨#[32]⟩ : ByteArray), (⟨#[10, 9]⟩ : ByteArray), (⟨#[32, 35, 32, 120, 32, 59, 32, 34, 10]⟩ : ByteArray), (⟨#[47, 42, 32, 123, 32, 34, 32, 42, 47]⟩ : ByteArray)] : List ByteArray) (Int.tmod a1 4)) (ixS ([(⟨#[32]⟩ : ByteArray), (⟨#[10, 9]⟩ : ByteArray), (⟨#[32, 35, 32, 120, 32, 59, 32, 34, 10]⟩ : ByteArray), (⟨#[47, 42, 32, 123, 32, 34, 32, 42, 47]⟩ : ByteArray)] : List ByteArray) (Int.tmod a1 4)) t258 (t258.length : Int) 0) else (none)) else (none)) else (some ((t258.length : Int) == 0))) = some r := H
      have A7 := Aside0.mk A70
      clear A70
      by_cases c8 : t259 = 0
      · rw [if_pos c8] at H
        have c8b0 : (t259 == 0) = true := beq_iff_eq.mpr c8
        have c8b1 : (t259 != 0) = false := bne_eq_false_iff_eq.mpr c8
        clear c8
        obtain ⟨ji9, hji9⟩ : ∃ j_ : Int, (Int.tmod a1 4) = j_ := ⟨_, rfl⟩
        replace H : (if 0 ≤ (ji9) then (if (ji9) < 4 then (dragomanlaw14_LexBetween.l0 k t258 (ixS ([(⟨#[32]⟩ : ByteArray), (⟨#[10, 9]⟩ : ByteArray), (⟨#[32, 35, 32, 120, 32, 59, 32, 34, 10]⟩ : ByteArray), (⟨#[47, 42, 32, 123, 32, 34, 32, 42, 47]⟩ : ByteArray)] : List ByteArray) (ji9)) (ixS ([(⟨#[32]⟩ : ByteArray), (⟨#[10, 9]⟩ : ByteArray), (⟨#[32, 35, 32, 120, 32, 59, 32, 34, 10]⟩ : ByteArray), (⟨#[47, 42, 32, 123, 32, 34, 32, 42, 47]⟩ : ByteArray)] : List ByteArray) (ji9)) t258 (t258.length : Int) 0) else (none)) else (none)) = some r := by first | (rw [hji9] at H; exact H) | (simp only [hji9] at H ⊢; exact H)
        (try rw [hji9] at A3)
        (try rw [hji9] at A7)
        by_cases c10 : 0 ≤ (ji9)
        · rw [if_pos c10] at H
          have c10b0 : decide (0 ≤ (ji9)) = true := decide_eq_true c10
          clear c10
          by_cases c11 : (ji9) < 4
          · rw [if_pos c11] at H
            have c11b0 : decide ((ji9) < 4) = true := decide_eq_true c11
            clear c11
            have H' := Aside0.mk H
            clear H
            go_enter Tryd.func6, Tryd.ntmps6
            go_wp2_with (first | (go_at_call 8; (with_reducible refine (dragomanlaw14_alive.calls k  true _ ?side1 A3.out).mono ?_); (case side1 => exact GL_below hG (by repeat (first | (with_reducible first | exact HB.out | apply below_alloc | apply pw_below_drewN | apply below_drew1) | exact HB.out))); rintro e w13 ⟨rfl, hb⟩; have n0_ := Aside0.mk (below_step (by repeat (first | (with_reducible first | exact HB.out | apply below_alloc | apply pw_below_drewN | apply below_drew1) | exact HB.out)) hb); clear HB; have HB := n0_; clear n0_; (try clear hb); (try clear hb2); (try clear hk); (try clear hi)) | (go_at_call 12; (with_reducible refine (lex_Tokens.calls k a0 t258 t259 _ ?side1 A7.out).mono ?_); (case side1 => exact GL_below hG (by repeat (first | (with_reducible first | exact HB.out | apply below_alloc | apply pw_below_drewN | apply below_drew1) | exact HB.out))); rintro e w14 ⟨v260, rfl, ho0, hb⟩; have n0_ := Aside0.mk (Kd.R_lower ho0 (below_size (by repeat (first | (with_reducible first | exact HB.out | apply below_alloc | apply pw_below_drewN | apply below_drew1) | exact HB.out)))); have n1_ := Aside0.mk (below_step (by repeat (first | (with_reducible first | exact HB.out | apply below_alloc | apply pw_below_drewN | apply below_drew1) | exact HB.out)) hb); clear HB; have HO261 := n0_; have HB := n1_; clear n0_ n1_; (try clear hb); (try clear hb2); (try clear hk); (try clear hi); (try clear ho0); have p12 : 0 ≤ ((ji9) : Int) := of_decide_eq_true (by first | (with_reducible assumption) | assumption); have q12 : (ji9) < (4 : Int) := of_decide_eq_true (by first | (with_reducible assumption) | assumption); have hx12 : ∀ W, (Instr.index 42 (.agg #[.string (⟨#[32]⟩ : ByteArray), .string (⟨#[10, 9]⟩ : ByteArray), .string (⟨#[32, 35, 32, 120, 32, 59, 32, 34, 10]⟩ : ByteArray), .string (⟨#[47, 42, 32, 123, 32, 34, 32, 42, 47]⟩ : ByteArray)]) (.int .u8 (ji9))).run Tryd.prog W = .ok (.string (ixS ([(⟨#[32]⟩ : ByteArray), (⟨#[10, 9]⟩ : ByteArray), (⟨#[32, 35, 32, 120, 32, 59, 32, 34, 10]⟩ : ByteArray), (⟨#[47, 42, 32, 123, 32, 34, 32, 42, 47]⟩ : ByteArray)] : List ByteArray) (ji9))) W := fun W => ixS_run (cs := ([(⟨#[32]⟩ : ByteArray), (⟨#[10, 9]⟩ : ByteArray), (⟨#[32, 35, 32, 120, 32, 59, 32, 34, 10]⟩ : ByteArray), (⟨#[47, 42, 32, 123, 32, 34, 32, 42, 47]⟩ : ByteArray)] : List ByteArray)) p12 q12 Tryd.underlying42 W; obtain ⟨Ao15, co15, eo15⟩ := Kd.R_slice HO261.out; subst eo15))
            repeat (go_quiet (first | (go_at_call 8; (with_reducible refine (dragomanlaw14_alive.calls k  true _ ?side1 A3.out).mono ?_); (case side1 => exact GL_below hG (by repeat (first | (with_reducible first | exact HB.out | apply below_alloc | apply pw_below_drewN | apply below_drew1) | exact HB.out))); rintro e w13 ⟨rfl, hb⟩; have n0_ := Aside0.mk (below_step (by repeat (first | (with_reducible first | exact HB.out | apply below_alloc | apply pw_below_drewN | apply below_drew1) | exact HB.out)) hb); clear HB; have HB := n0_; clear n0_; (try clear hb); (try clear hb2); (try clear hk); (try clear hi)) | (go_at_call 12; (with_reducible refine (lex_Tokens.calls k a0 t258 t259 _ ?side1 A7.out).mono ?_); (case side1 => exact GL_below hG (by repeat (first | (with_reducible first | exact HB.out | apply below_alloc | apply pw_below_drewN | apply below_drew1) | exact HB.out))); rintro e w14 ⟨v260, rfl, ho0, hb⟩; have n0_ := Aside0.mk (Kd.R_lower ho0 (below_size (by repeat (first | (with_reducible first | exact HB.out | apply below_alloc | apply pw_below_drewN | apply below_drew1) | exact HB.out)))); have n1_ := Aside0.mk (below_step (by repeat (first | (with_reducible first | exact HB.out | apply below_alloc | apply pw_below_drewN | apply below_drew1) | exact HB.out)) hb); clear HB; have HO261 := n0_; have HB := n1_; clear n0_ n1_; (try clear hb); (try clear hb2); (try clear hk); (try clear hi); (try clear ho0); have p12 : 0 ≤ ((ji9) : Int) := of_decide_eq_true (by first | (with_reducible assumption) | assumption); have q12 : (ji9) < (4 : Int) := of_decide_eq_true (by first | (with_reducible assumption) | assumption); have hx12 : ∀ W, (Instr.index 42 (.agg #[.string (⟨#[32]⟩ : ByteArray), .string (⟨#[10, 9]⟩ : ByteArray), .string (⟨#[32, 35, 32, 120, 32, 59, 32, 34, 10]⟩ : ByteArray), .string (⟨#[47, 42, 32, 123, 32, 34, 32, 42, 47]⟩ : ByteArray)]) (.int .u8 (ji9))).run Tryd.prog W = .ok (.string (ixS ([(⟨#[32]⟩ : ByteArray), (⟨#[10, 9]⟩ : ByteArray), (⟨#[32, 35, 32, 120, 32, 59, 32, 34, 10]⟩ : ByteArray), (⟨#[47, 42, 32, 123, 32, 34, 32, 42, 47]⟩ : ByteArray)] : List ByteArray) (ji9))) W := fun W => ixS_run (cs := ([(⟨#[32]⟩ : ByteArray), (⟨#[10, 9]⟩ : ByteArray), (⟨#[32, 35, 32, 120, 32, 59, 32, 34, 10]⟩ : ByteArray), (⟨#[47, 42, 32, 123, 32, 34, 32, 42, 47]⟩ : ByteArray)] : List ByteArray)) p12 q12 Tryd.underlying42 W; obtain ⟨Ao15, co15, eo15⟩ := Kd.R_slice HO261.out; subst eo15)); try go_wp2_with (first | (go_at_call 8; (with_reducible refine (dragomanlaw14_alive.calls k  true _ ?side1 A3.out).mono ?_); (case side1 => exact GL_below hG (by repeat (first | (with_reducible first | exact HB.out | apply below_alloc | apply pw_below_drewN | apply below_drew1) | exact HB.out))); rintro e w13 ⟨rfl, hb⟩; have n0_ := Aside0.mk (below_step (by repeat (first | (with_reducible first | exact HB.out | apply below_alloc | apply pw_below_drewN | apply below_drew1) | exact HB.out)) hb); clear HB; have HB := n0_; clear n0_; (try clear hb); (try clear hb2); (try clear hk); (try clear hi)) | (go_at_call 12; (with_reducible refine (lex_Tokens.calls k a0 t258 t259 _ ?side1 A7.out).mono ?_); (case side1 => exact GL_below hG (by repeat (first | (with_reducible first | exact HB.out | apply below_alloc | apply pw_below_drewN | apply below_drew1) | exact HB.out))); rintro e w14 ⟨v260, rfl, ho0, hb⟩; have n0_ := Aside0.mk (Kd.R_lower ho0 (below_size (by repeat (first | (with_reducible first | exact HB.out | apply below_alloc | apply pw_below_drewN | apply below_drew1) | exact HB.out)))); have n1_ := Aside0.mk (below_step (by repeat (first | (with_reducible first | exact HB.out | apply below_alloc | apply pw_below_drewN | apply below_drew1) | exact HB.out)) hb); clear HB; have HO261 := n0_; have HB := n1_; clear n0_ n1_; (try clear hb); (try clear hb2); (try clear hk); (try clear hi); (try clear ho0); have p12 : 0 ≤ ((ji9) : Int) := of_decide_eq_true (by first | (with_reducible assumption) | assumption); have q12 : (ji9) < (4 : Int) := of_decide_eq_true (by first | (with_reducible assumption) | assumption); have hx12 : ∀ W, (Instr.index 42 (.agg #[.string (⟨#[32]⟩ : ByteArray), .string (⟨#[10, 9]⟩ : ByteArray), .string (⟨#[32, 35, 32, 120, 32, 59, 32, 34, 10]⟩ : ByteArray), .string (⟨#[47, 42, 32, 123, 32, 34, 32, 42, 47]⟩ : ByteArray)]) (.int .u8 (ji9))).run Tryd.prog W = .ok (.string (ixS ([(⟨#[32]⟩ : ByteArray), (⟨#[10, 9]⟩ : ByteArray), (⟨#[32, 35, 32, 120, 32, 59, 32, 34, 10]⟩ : ByteArray), (⟨#[47, 42, 32, 123, 32, 34, 32, 42, 47]⟩ : ByteArray)] : List ByteArray) (ji9))) W := fun W => ixS_run (cs := ([(⟨#[32]⟩ : ByteArray), (⟨#[10, 9]⟩ : ByteArray), (⟨#[32, 35, 32, 120, 32, 59, 32, 34, 10]⟩ : ByteArray), (⟨#[47, 42, 32, 123, 32, 34, 32, 42, 47]⟩ : ByteArray)] : List ByteArray)) p12 q12 Tryd.underlying42 W; obtain ⟨Ao15, co15, eo15⟩ := Kd.R_slice HO261.out; subst eo15)))
            go_loopg [8, 36] k (fun kq v8 v36 w' => ∃ (x8_1 : ByteArray) (x36_1 : Int), v8 = .string x8_1 ∧ v36 = .int .i64 x36_1 ∧ Aside0 (dragomanlaw14_LexBetween.l0 kq t258 (ixS ([(⟨#[32]⟩ : ByteArray), (⟨#[10, 9]⟩ : ByteArray), (⟨#[32, 35, 32, 120, 32, 59, 32, 34, 10]⟩ : ByteArray), (⟨#[47, 42, 32, 123, 32, 34, 32, 42, 47]⟩ : ByteArray)] : List ByteArray) (ji9)) x8_1 t258 (t258.length : Int) x36_1 = some r) ∧ Aside0 (kq ≤ k) ∧ Aside0 (Kd.R k40 40 w' w.heap.size (fun _ => True) (.slice Ao15 t258.length co15) t258) ∧ Aside0 (Kd.R k40 40 w' w.heap.size (fun _ => True) (.slice Ao15 t258.length co15) t258) ∧ Aside0 (Below w.heap.size w w'))
            case atStart => exact ⟨(ixS ([(⟨#[32]⟩ : ByteArray), (⟨#[10, 9]⟩ : ByteArray), (⟨#[32, 35, 32, 120, 32, 59, 32, 34, 10]⟩ : ByteArray), (⟨#[47, 42, 32, 123, 32, 34, 32, 42, 47]⟩ : ByteArray)] : List ByteArray) (ji9)), (0), (by first | rfl | (simp; done) | (simp only [← hji9] <;> (first | rfl | simp)) | (simp [*]; done)), (by first | rfl | (simp; done) | (simp [*]; done)), H', ⟨Nat.le_refl _⟩, ⟨by (with_reducible repeat (first | apply Kd.R_alloc | apply Kd.R_drewN | apply Kd.R_drew)); exact HO261.out⟩, ⟨by (with_reducible repeat (first | apply Kd.R_alloc | apply Kd.R_drewN | apply Kd.R_drew)); exact HO261.out⟩, ⟨by repeat (first | (with_reducible first | exact HB.out | apply below_alloc | apply pw_below_drewN | apply below_drew1) | exact HB.out)⟩⟩
            case round =>
              clear H'
              try clear c1
              try clear p1
              try clear q1
              try clear hx1
              try clear p2
              try clear c4
              try clear c5
              try clear c5b0
              try clear c5b1
              try clear c6
              try clear c8
              try clear c8b0
              try clear c8b1
              try clear c10
              try clear c10b0
              try clear c11
              try clear c11b0
              try clear p12
              try clear q12
              try clear hx12
              try clear p12
              try clear q12
              obtain ⟨x8_1, x36_1, rfl, rfl, HA, HK1, HO_5, HO_34, HB⟩ := hrel
              cases gk with
              | zero => exact absurd HA.out (by simp [dragomanlaw14_LexBetween.l0])
              | succ k1 =>
                have H := HA.out
                clear HA
                simp only [dragomanlaw14_LexBetween.l0] at H
                by_cases c16 : x36_1 < (t258.length : Int)
                · rw [if_pos c16] at H
                  have c16b0 : decide (x36_1 < (t258.length : Int)) = true := decide_eq_true c16
                  clear c16
                  by_cases c17 : 0 ≤ x36_1
                  · rw [if_pos c17] at H
                    have c17b0 : decide (0 ≤ x36_1) = true := decide_eq_true c17
                    clear c17
                    by_cases c18 : x36_1 < (t258.length : Int)
                    · rw [if_pos c18] at H
                      have c18b0 : decide (x36_1 < (t258.length : Int)) = true := decide_eq_true c18
                      clear c18
                      by_cases c19 : ((rd_T40 t258 x36_1).f0) = 113
                      · rw [if_pos c19] at H
                        have c19b0 : (((rd_T40 t258 x36_1).f0) == 113) = true := beq_iff_eq.mpr c19
                        have c19b1 : (((rd_T40 t258 x36_1).f0) != 113) = false := bne_eq_false_iff_eq.mpr c19
                        clear c19
                        by_cases c20 : 1 + ((rd_T40 t258 x36_1).f1).size ≤ 9223372036854775807
                        · rw [if_pos c20] at H
                          have c20b0 := eq_true c20
                          have c20b1 : decide (1 + ((rd_T40 t258 x36_1).f1).size ≤ 9223372036854775807) = true := decide_eq_true c20
                          try have c20b2 : (9223372036854775807 < 1 + ((rd_T40 t258 x36_1).f1).size) = False := eq_false (Nat.not_lt.2 c20)
                          by_cases c21 : ((⟨#[34]⟩ : ByteArray) ++ ((rd_T40 t258 x36_1).f1)).size + 1 ≤ 9223372036854775807
                          · rw [if_pos c21] at H
                            have c21b0 := eq_true c21
                            have c21b1 : decide (((⟨#[34]⟩ : ByteArray) ++ ((rd_T40 t258 x36_1).f1)).size + 1 ≤ 9223372036854775807) = true := decide_eq_true c21
                            try have c21b2 : (9223372036854775807 < ((⟨#[34]⟩ : ByteArray) ++ ((rd_T40 t258 x36_1).f1)).size + 1) = False := eq_false (Nat.not_lt.2 c21)
                            have c21b3 : (9223372036854775807 < 1 + (((rd_T40 t258 x36_1).f1)).size + 1) = False := eq_false (by have h_ := c21; rw [ByteArray.size_append] at h_; exact Nat.not_lt.2 h_)
                            by_cases c22 : x8_1.size + (((⟨#[34]⟩ : ByteArray) ++ ((rd_T40 t258 x36_1).f1)) ++ (⟨#[34]⟩ : ByteArray)).size ≤ 9223372036854775807
                            · rw [if_pos c22] at H
                              have c22b0 := eq_true c22
                              have c22b1 : decide (x8_1.size + (((⟨#[34]⟩ : ByteArray) ++ ((rd_T40 t258 x36_1).f1)) ++ (⟨#[34]⟩ : ByteArray)).size ≤ 9223372036854775807) = true := decide_eq_true c22
                              try have c22b2 : (9223372036854775807 < x8_1.size + (((⟨#[34]⟩ : ByteArray) ++ ((rd_T40 t258 x36_1).f1)) ++ (⟨#[34]⟩ : ByteArray)).size) = False := eq_false (Nat.not_lt.2 c22)
                              by_cases c23 : (x8_1 ++ (((⟨#[34]⟩ : ByteArray) ++ ((rd_T40 t258 x36_1).f1)) ++ (⟨#[34]⟩ : ByteArray))).size + (ixS ([(⟨#[32]⟩ : ByteArray), (⟨#[10, 9]⟩ : ByteArray), (⟨#[32, 35, 32, 120, 32, 59, 32, 34, 10]⟩ : ByteArray), (⟨#[47, 42, 32, 123, 32, 34, 32, 42, 47]⟩ : ByteArray)] : List ByteArray) (ji9)).size ≤ 9223372036854775807
                              · rw [if_pos c23] at H
                                have c23b0 := eq_true c23
                                have c23b1 : decide ((x8_1 ++ (((⟨#[34]⟩ : ByteArray) ++ ((rd_T40 t258 x36_1).f1)) ++ (⟨#[34]⟩ : ByteArray))).size + (ixS ([(⟨#[32]⟩ : ByteArray), (⟨#[10, 9]⟩ : ByteArray), (⟨#[32, 35, 32, 120, 32, 59, 32, 34, 10]⟩ : ByteArray), (⟨#[47, 42, 32, 123, 32, 34, 32, 42, 47]⟩ : ByteArray)] : List ByteArray) (ji9)).size ≤ 9223372036854775807) = true := decide_eq_true c23
                                try have c23b2 : (9223372036854775807 < (x8_1 ++ (((⟨#[34]⟩ : ByteArray) ++ ((rd_T40 t258 x36_1).f1)) ++ (⟨#[34]⟩ : ByteArray))).size + (ixS ([(⟨#[32]⟩ : ByteArray), (⟨#[10, 9]⟩ : ByteArray), (⟨#[32, 35, 32, 120, 32, 59, 32, 34, 10]⟩ : ByteArray), (⟨#[47, 42, 32, 123, 32, 34, 32, 42, 47]⟩ : ByteArray)] : List ByteArray) (ji9)).size) = False := eq_false (Nat.not_lt.2 c23)
                                have H' := Aside0.mk H
                                clear H
                                have p262 : 0 ≤ (x36_1 : Int) := of_decide_eq_true (by first | (with_reducible assumption) | assumption)
                                have q262 : x36_1 < (t258.length : Int) := of_decide_eq_true (by first | (with_reducible assumption) | assumption)
                                obtain ⟨ad262, e262, hx262_0, hx262_1⟩ := at_T40 (Kd.R_reads' HO_34.out).2.2 x36_1 p262 q262
                                cases e262
                                replace p262 := eq_true p262
                                replace q262 := eq_true q262
                                go_wp2_with (first | ((with_reducible refine gate_dst (N := 10) rfl ?_); (try (refine gate_guard (by rfl) ?_; dsimp only)); refine box_event ?hg (N := 10) ?hd (cs := #[.int .u8 0, .string (⟨#[]⟩ : ByteArray)]) (t := 40) ?hr ?_; (case hd => rfl); (case hg => rfl); (case hr => first | (go_simp; done) | (go_simp; rfl)); intro gb263 hg w24 hbox hb; have n0_ := Aside0.mk (Kd.R_below (Kd.R_elderB (by (with_reducible repeat (first | apply Kd.R_alloc | apply Kd.R_drewN | apply Kd.R_drew)); exact HO_5.out) gb263 (Nat.le_of_eq hg.symm)) hb); have n1_ := Aside0.mk (Kd.R_below (Kd.R_elderB (by (with_reducible repeat (first | apply Kd.R_alloc | apply Kd.R_drewN | apply Kd.R_drew)); exact HO_34.out) gb263 (Nat.le_of_eq hg.symm)) hb); have n2_ := Aside0.mk (below_step (by repeat (first | (with_reducible first | exact HB.out | apply below_alloc | apply pw_below_drewN | apply below_drew1) | exact HB.out)) hb); have n3_ := Aside0.mk (hbox); have n4_ := Aside0.mk ((by rw [hg]; exact (below_size (by repeat (first | (with_reducible first | exact HB.out | apply below_alloc | apply pw_below_drewN | apply below_drew1) | exact HB.out))) : w.heap.size ≤ gb263)); have n5_ := Aside0.mk ((by rw [hg]; exact (below_size (by repeat (first | (with_reducible first | exact HB.out | apply below_alloc | apply pw_below_drewN | apply below_drew1) | exact HB.out))) : w.heap.size ≤ gb263)); clear HO_5; clear HO_34; clear HB; have HO_5 := n0_; have HO_34 := n1_; have HB := n2_; have BK263 := n3_; have GW263 := n4_; have GE263 := n5_; clear n0_ n1_ n2_ n3_ n4_ n5_; clear hb hbox hg; have hcz25_0 : w24.cell? ⟨gb263, 0, none⟩ = some (.int .u8 0) := (blk_cell BK263.out 0).trans rfl; have hcz25_1 : w24.cell? ⟨gb263, 1, none⟩ = some (.string (⟨#[]⟩ : ByteArray)) := (blk_cell BK263.out 1).trans rfl; have hfz25_0 := blk_frozen BK263.out 0; have hfz25_1 := blk_frozen BK263.out 1))
                                repeat (go_quiet (first | ((with_reducible refine gate_dst (N := 10) rfl ?_); (try (refine gate_guard (by rfl) ?_; dsimp only)); refine box_event ?hg (N := 10) ?hd (cs := #[.int .u8 0, .string (⟨#[]⟩ : ByteArray)]) (t := 40) ?hr ?_; (case hd => rfl); (case hg => rfl); (case hr => first | (go_simp; done) | (go_simp; rfl)); intro gb263 hg w24 hbox hb; have n0_ := Aside0.mk (Kd.R_below (Kd.R_elderB (by (with_reducible repeat (first | apply Kd.R_alloc | apply Kd.R_drewN | apply Kd.R_drew)); exact HO_5.out) gb263 (Nat.le_of_eq hg.symm)) hb); have n1_ := Aside0.mk (Kd.R_below (Kd.R_elderB (by (with_reducible repeat (first | apply Kd.R_alloc | apply Kd.R_drewN | apply Kd.R_drew)); exact HO_34.out) gb263 (Nat.le_of_eq hg.symm)) hb); have n2_ := Aside0.mk (below_step (by repeat (first | (with_reducible first | exact HB.out | apply below_alloc | apply pw_below_drewN | apply below_drew1) | exact HB.out)) hb); have n3_ := Aside0.mk (hbox); have n4_ := Aside0.mk ((by rw [hg]; exact (below_size (by repeat (first | (with_reducible first | exact HB.out | apply below_alloc | apply pw_below_drewN | apply below_drew1) | exact HB.out))) : w.heap.size ≤ gb263)); have n5_ := Aside0.mk ((by rw [hg]; exact (below_size (by repeat (first | (with_reducible first | exact HB.out | apply below_alloc | apply pw_below_drewN | apply below_drew1) | exact HB.out))) : w.heap.size ≤ gb263)); clear HO_5; clear HO_34; clear HB; have HO_5 := n0_; have HO_34 := n1_; have HB := n2_; have BK263 := n3_; have GW263 := n4_; have GE263 := n5_; clear n0_ n1_ n2_ n3_ n4_ n5_; clear hb hbox hg; have hcz25_0 : w24.cell? ⟨gb263, 0, none⟩ = some (.int .u8 0) := (blk_cell BK263.out 0).trans rfl; have hcz25_1 : w24.cell? ⟨gb263, 1, none⟩ = some (.string (⟨#[]⟩ : ByteArray)) := (blk_cell BK263.out 1).trans rfl; have hfz25_0 := blk_frozen BK263.out 0; have hfz25_1 := blk_frozen BK263.out 1)); try go_wp2_with (first | ((with_reducible refine gate_dst (N := 10) rfl ?_); (try (refine gate_guard (by rfl) ?_; dsimp only)); refine box_event ?hg (N := 10) ?hd (cs := #[.int .u8 0, .string (⟨#[]⟩ : ByteArray)]) (t := 40) ?hr ?_; (case hd => rfl); (case hg => rfl); (case hr => first | (go_simp; done) | (go_simp; rfl)); intro gb263 hg w24 hbox hb; have n0_ := Aside0.mk (Kd.R_below (Kd.R_elderB (by (with_reducible repeat (first | apply Kd.R_alloc | apply Kd.R_drewN | apply Kd.R_drew)); exact HO_5.out) gb263 (Nat.le_of_eq hg.symm)) hb); have n1_ := Aside0.mk (Kd.R_below (Kd.R_elderB (by (with_reducible repeat (first | apply Kd.R_alloc | apply Kd.R_drewN | apply Kd.R_drew)); exact HO_34.out) gb263 (Nat.le_of_eq hg.symm)) hb); have n2_ := Aside0.mk (below_step (by repeat (first | (with_reducible first | exact HB.out | apply below_alloc | apply pw_below_drewN | apply below_drew1) | exact HB.out)) hb); have n3_ := Aside0.mk (hbox); have n4_ := Aside0.mk ((by rw [hg]; exact (below_size (by repeat (first | (with_reducible first | exact HB.out | apply below_alloc | apply pw_below_drewN | apply below_drew1) | exact HB.out))) : w.heap.size ≤ gb263)); have n5_ := Aside0.mk ((by rw [hg]; exact (below_size (by repeat (first | (with_reducible first | exact HB.out | apply below_alloc | apply pw_below_drewN | apply below_drew1) | exact HB.out))) : w.heap.size ≤ gb263)); clear HO_5; clear HO_34; clear HB; have HO_5 := n0_; have HO_34 := n1_; have HB := n2_; have BK263 := n3_; have GW263 := n4_; have GE263 := n5_; clear n0_ n1_ n2_ n3_ n4_ n5_; clear hb hbox hg; have hcz25_0 : w24.cell? ⟨gb263, 0, none⟩ = some (.int .u8 0) := (blk_cell BK263.out 0).trans rfl; have hcz25_1 : w24.cell? ⟨gb263, 1, none⟩ = some (.string (⟨#[]⟩ : ByteArray)) := (blk_cell BK263.out 1).trans rfl; have hfz25_0 := blk_frozen BK263.out 0; have hfz25_1 := blk_frozen BK263.out 1)))
                                go_roundg k1
                                case measure => have := HK1.out; omega
                                case rel => exact ⟨((x8_1 ++ (((⟨#[34]⟩ : ByteArray) ++ ((rd_T40 t258 x36_1).f1)) ++ (⟨#[34]⟩ : ByteArray))) ++ (ixS ([(⟨#[32]⟩ : ByteArray), (⟨#[10, 9]⟩ : ByteArray), (⟨#[32, 35, 32, 120, 32, 59, 32, 34, 10]⟩ : ByteArray), (⟨#[47, 42, 32, 123, 32, 34, 32, 42, 47]⟩ : ByteArray)] : List ByteArray) (ji9))), (wrap64 (x36_1 + 1)), (by first | rfl | (simp; done) | (simp only [← hji9] <;> (first | rfl | simp)) | (simp [*]; done)), (by first | rfl | (simp; done) | (simp [*]; done)), H', ⟨by have := HK1.out; omega⟩, ⟨by (with_reducible repeat (first | apply Kd.R_alloc | apply Kd.R_drewN | apply Kd.R_drew)); exact Kd.R_mono (Kd.R_far (p := ⟨gb263, 1, none⟩) (Kd.R_far (p := ⟨gb263, 0, none⟩) (Kd.R_mono HO_5.out (fun k_ hk => (⟨hk, hk.2⟩ : _ ∧ k_ ≠ gb263))) (fun _ hk => hk.2) (.int .u8 ((rd_T40 t258 x36_1).f0))) (fun _ hk => hk.2) (.string ((rd_T40 t258 x36_1).f1))) (fun _ hk => trivial)⟩, ⟨by (with_reducible repeat (first | apply Kd.R_alloc | apply Kd.R_drewN | apply Kd.R_drew)); exact Kd.R_mono (Kd.R_far (p := ⟨gb263, 1, none⟩) (Kd.R_far (p := ⟨gb263, 0, none⟩) (Kd.R_mono HO_34.out (fun k_ hk => (⟨hk, hk.2⟩ : _ ∧ k_ ≠ gb263))) (fun _ hk => hk.2) (.int .u8 ((rd_T40 t258 x36_1).f0))) (fun _ hk => hk.2) (.string ((rd_T40 t258 x36_1).f1))) (fun _ hk => trivial)⟩, ⟨by repeat (first | (with_reducible first | exact HB.out | apply below_alloc | apply pw_below_drewN | apply below_drew1 | refine below_set ?_ GE263.out) | exact HB.out)⟩⟩
                              · rw [if_neg c23] at H
                                exact absurd H (by simp)
                            · rw [if_neg c22] at H
                              exact absurd H (by simp)
                          · rw [if_neg c21] at H
                            exact absurd H (by simp)
                        · rw [if_neg c20] at H
                          exact absurd H (by simp)
                      · rw [if_neg c19] at H
                        have c19b0 : (((rd_T40 t258 x36_1).f0) == 113) = false := beq_eq_false_iff_ne.mpr c19
                        have c19b1 : (((rd_T40 t258 x36_1).f0) != 113) = true := bne_iff_ne.mpr c19
                        by_cases c26 : ((rd_T40 t258 x36_1).f0) = 119
                        · rw [if_pos c26] at H
                          have c26b0 : (((rd_T40 t258 x36_1).f0) == 119) = true := beq_iff_eq.mpr c26
                          have c26b1 : (((rd_T40 t258 x36_1).f0) != 119) = false := bne_eq_false_iff_eq.mpr c26
                          clear c26
                          by_cases c27 : ((rd_T40 t258 x36_1).f1).size + 1 ≤ 9223372036854775807
                          · rw [if_pos c27] at H
                            have c27b0 := eq_true c27
                            have c27b1 : decide (((rd_T40 t258 x36_1).f1).size + 1 ≤ 9223372036854775807) = true := decide_eq_true c27
                            try have c27b2 : (9223372036854775807 < ((rd_T40 t258 x36_1).f1).size + 1) = False := eq_false (Nat.not_lt.2 c27)
                            by_cases c28 : x8_1.size + (((rd_T40 t258 x36_1).f1) ++ (⟨#[32]⟩ : ByteArray)).size ≤ 9223372036854775807
                            · rw [if_pos c28] at H
                              have c28b0 := eq_true c28
                              have c28b1 : decide (x8_1.size + (((rd_T40 t258 x36_1).f1) ++ (⟨#[32]⟩ : ByteArray)).size ≤ 9223372036854775807) = true := decide_eq_true c28
                              try have c28b2 : (9223372036854775807 < x8_1.size + (((rd_T40 t258 x36_1).f1) ++ (⟨#[32]⟩ : ByteArray)).size) = False := eq_false (Nat.not_lt.2 c28)
                              by_cases c29 : (x8_1 ++ (((rd_T40 t258 x36_1).f1) ++ (⟨#[32]⟩ : ByteArray))).size + (ixS ([(⟨#[32]⟩ : ByteArray), (⟨#[10, 9]⟩ : ByteArray), (⟨#[32, 35, 32, 120, 32, 59, 32, 34, 10]⟩ : ByteArray), (⟨#[47, 42, 32, 123, 32, 34, 32, 42, 47]⟩ : ByteArray)] : List ByteArray) (ji9)).size ≤ 9223372036854775807
                              · rw [if_pos c29] at H
                                have c29b0 := eq_true c29
                                have c29b1 : decide ((x8_1 ++ (((rd_T40 t258 x36_1).f1) ++ (⟨#[32]⟩ : ByteArray))).size + (ixS ([(⟨#[32]⟩ : ByteArray), (⟨#[10, 9]⟩ : ByteArray), (⟨#[32, 35, 32, 120, 32, 59, 32, 34, 10]⟩ : ByteArray), (⟨#[47, 42, 32, 123, 32, 34, 32, 42, 47]⟩ : ByteArray)] : List ByteArray) (ji9)).size ≤ 9223372036854775807) = true := decide_eq_true c29
                                try have c29b2 : (9223372036854775807 < (x8_1 ++ (((rd_T40 t258 x36_1).f1) ++ (⟨#[32]⟩ : ByteArray))).size + (ixS ([(⟨#[32]⟩ : ByteArray), (⟨#[10, 9]⟩ : ByteArray), (⟨#[32, 35, 32, 120, 32, 59, 32, 34, 10]⟩ : ByteArray), (⟨#[47, 42, 32, 123, 32, 34, 32, 42, 47]⟩ : ByteArray)] : List ByteArray) (ji9)).size) = False := eq_false (Nat.not_lt.2 c29)
                                have H' := Aside0.mk H
                                clear H
                                have p262 : 0 ≤ (x36_1 : Int) := of_decide_eq_true (by first | (with_reducible assumption) | assumption)
                                have q262 : x36_1 < (t258.length : Int) := of_decide_eq_true (by first | (with_reducible assumption) | assumption)
                                obtain ⟨ad262, e262, hx262_0, hx262_1⟩ := at_T40 (Kd.R_reads' HO_34.out).2.2 x36_1 p262 q262
                                cases e262
                                replace p262 := eq_true p262
                                replace q262 := eq_true q262
                                go_wp2_with (first | ((with_reducible refine gate_dst (N := 10) rfl ?_); (try (refine gate_guard (by rfl) ?_; dsimp only)); refine box_event ?hg (N := 10) ?hd (cs := #[.int .u8 0, .string (⟨#[]⟩ : ByteArray)]) (t := 40) ?hr ?_; (case hd => rfl); (case hg => rfl); (case hr => first | (go_simp; done) | (go_simp; rfl)); intro gb263 hg w30 hbox hb; have n0_ := Aside0.mk (Kd.R_below (Kd.R_elderB (by (with_reducible repeat (first | apply Kd.R_alloc | apply Kd.R_drewN | apply Kd.R_drew)); exact HO_5.out) gb263 (Nat.le_of_eq hg.symm)) hb); have n1_ := Aside0.mk (Kd.R_below (Kd.R_elderB (by (with_reducible repeat (first | apply Kd.R_alloc | apply Kd.R_drewN | apply Kd.R_drew)); exact HO_34.out) gb263 (Nat.le_of_eq hg.symm)) hb); have n2_ := Aside0.mk (below_step (by repeat (first | (with_reducible first | exact HB.out | apply below_alloc | apply pw_below_drewN | apply below_drew1) | exact HB.out)) hb); have n3_ := Aside0.mk (hbox); have n4_ := Aside0.mk ((by rw [hg]; exact (below_size (by repeat (first | (with_reducible first | exact HB.out | apply below_alloc | apply pw_below_drewN | apply below_drew1) | exact HB.out))) : w.heap.size ≤ gb263)); have n5_ := Aside0.mk ((by rw [hg]; exact (below_size (by repeat (first | (with_reducible first | exact HB.out | apply below_alloc | apply pw_below_drewN | apply below_drew1) | exact HB.out))) : w.heap.size ≤ gb263)); clear HO_5; clear HO_34; clear HB; have HO_5 := n0_; have HO_34 := n1_; have HB := n2_; have BK263 := n3_; have GW263 := n4_; have GE263 := n5_; clear n0_ n1_ n2_ n3_ n4_ n5_; clear hb hbox hg; have hcz31_0 : w30.cell? ⟨gb263, 0, none⟩ = some (.int .u8 0) := (blk_cell BK263.out 0).trans rfl; have hcz31_1 : w30.cell? ⟨gb263, 1, none⟩ = some (.string (⟨#[]⟩ : ByteArray)) := (blk_cell BK263.out 1).trans rfl; have hfz31_0 := blk_frozen BK263.out 0; have hfz31_1 := blk_frozen BK263.out 1))
                                repeat (go_quiet (first | ((with_reducible refine gate_dst (N := 10) rfl ?_); (try (refine gate_guard (by rfl) ?_; dsimp only)); refine box_event ?hg (N := 10) ?hd (cs := #[.int .u8 0, .string (⟨#[]⟩ : ByteArray)]) (t := 40) ?hr ?_; (case hd => rfl); (case hg => rfl); (case hr => first | (go_simp; done) | (go_simp; rfl)); intro gb263 hg w30 hbox hb; have n0_ := Aside0.mk (Kd.R_below (Kd.R_elderB (by (with_reducible repeat (first | apply Kd.R_alloc | apply Kd.R_drewN | apply Kd.R_drew)); exact HO_5.out) gb263 (Nat.le_of_eq hg.symm)) hb); have n1_ := Aside0.mk (Kd.R_below (Kd.R_elderB (by (with_reducible repeat (first | apply Kd.R_alloc | apply Kd.R_drewN | apply Kd.R_drew)); exact HO_34.out) gb263 (Nat.le_of_eq hg.symm)) hb); have n2_ := Aside0.mk (below_step (by repeat (first | (with_reducible first | exact HB.out | apply below_alloc | apply pw_below_drewN | apply below_drew1) | exact HB.out)) hb); have n3_ := Aside0.mk (hbox); have n4_ := Aside0.mk ((by rw [hg]; exact (below_size (by repeat (first | (with_reducible first | exact HB.out | apply below_alloc | apply pw_below_drewN | apply below_drew1) | exact HB.out))) : w.heap.size ≤ gb263)); have n5_ := Aside0.mk ((by rw [hg]; exact (below_size (by repeat (first | (with_reducible first | exact HB.out | apply below_alloc | apply pw_below_drewN | apply below_drew1) | exact HB.out))) : w.heap.size ≤ gb263)); clear HO_5; clear HO_34; clear HB; have HO_5 := n0_; have HO_34 := n1_; have HB := n2_; have BK263 := n3_; have GW263 := n4_; have GE263 := n5_; clear n0_ n1_ n2_ n3_ n4_ n5_; clear hb hbox hg; have hcz31_0 : w30.cell? ⟨gb263, 0, none⟩ = some (.int .u8 0) := (blk_cell BK263.out 0).trans rfl; have hcz31_1 : w30.cell? ⟨gb263, 1, none⟩ = some (.string (⟨#[]⟩ : ByteArray)) := (blk_cell BK263.out 1).trans rfl; have hfz31_0 := blk_frozen BK263.out 0; have hfz31_1 := blk_frozen BK263.out 1)); try go_wp2_with (first | ((with_reducible refine gate_dst (N := 10) rfl ?_); (try (refine gate_guard (by rfl) ?_; dsimp only)); refine box_event ?hg (N := 10) ?hd (cs := #[.int .u8 0, .string (⟨#[]⟩ : ByteArray)]) (t := 40) ?hr ?_; (case hd => rfl); (case hg => rfl); (case hr => first | (go_simp; done) | (go_simp; rfl)); intro gb263 hg w30 hbox hb; have n0_ := Aside0.mk (Kd.R_below (Kd.R_elderB (by (with_reducible repeat (first | apply Kd.R_alloc | apply Kd.R_drewN | apply Kd.R_drew)); exact HO_5.out) gb263 (Nat.le_of_eq hg.symm)) hb); have n1_ := Aside0.mk (Kd.R_below (Kd.R_elderB (by (with_reducible repeat (first | apply Kd.R_alloc | apply Kd.R_drewN | apply Kd.R_drew)); exact HO_34.out) gb263 (Nat.le_of_eq hg.symm)) hb); have n2_ := Aside0.mk (below_step (by repeat (first | (with_reducible first | exact HB.out | apply below_alloc | apply pw_below_drewN | apply below_drew1) | exact HB.out)) hb); have n3_ := Aside0.mk (hbox); have n4_ := Aside0.mk ((by rw [hg]; exact (below_size (by repeat (first | (with_reducible first | exact HB.out | apply below_alloc | apply pw_below_drewN | apply below_drew1) | exact HB.out))) : w.heap.size ≤ gb263)); have n5_ := Aside0.mk ((by rw [hg]; exact (below_size (by repeat (first | (with_reducible first | exact HB.out | apply below_alloc | apply pw_below_drewN | apply below_drew1) | exact HB.out))) : w.heap.size ≤ gb263)); clear HO_5; clear HO_34; clear HB; have HO_5 := n0_; have HO_34 := n1_; have HB := n2_; have BK263 := n3_; have GW263 := n4_; have GE263 := n5_; clear n0_ n1_ n2_ n3_ n4_ n5_; clear hb hbox hg; have hcz31_0 : w30.cell? ⟨gb263, 0, none⟩ = some (.int .u8 0) := (blk_cell BK263.out 0).trans rfl; have hcz31_1 : w30.cell? ⟨gb263, 1, none⟩ = some (.string (⟨#[]⟩ : ByteArray)) := (blk_cell BK263.out 1).trans rfl; have hfz31_0 := blk_frozen BK263.out 0; have hfz31_1 := blk_frozen BK263.out 1)))
                                go_roundg k1
                                case measure => have := HK1.out; omega
                                case rel => exact ⟨((x8_1 ++ (((rd_T40 t258 x36_1).f1) ++ (⟨#[32]⟩ : ByteArray))) ++ (ixS ([(⟨#[32]⟩ : ByteArray), (⟨#[10, 9]⟩ : ByteArray), (⟨#[32, 35, 32, 120, 32, 59, 32, 34, 10]⟩ : ByteArray), (⟨#[47, 42, 32, 123, 32, 34, 32, 42, 47]⟩ : ByteArray)] : List ByteArray) (ji9))), (wrap64 (x36_1 + 1)), (by first | rfl | (simp; done) | (simp only [← hji9] <;> (first | rfl | simp)) | (simp [*]; done)), (by first | rfl | (simp; done) | (simp [*]; done)), H', ⟨by have := HK1.out; omega⟩, ⟨by (with_reducible repeat (first | apply Kd.R_alloc | apply Kd.R_drewN | apply Kd.R_drew)); exact Kd.R_mono (Kd.R_far (p := ⟨gb263, 1, none⟩) (Kd.R_far (p := ⟨gb263, 0, none⟩) (Kd.R_mono HO_5.out (fun k_ hk => (⟨hk, hk.2⟩ : _ ∧ k_ ≠ gb263))) (fun _ hk => hk.2) (.int .u8 ((rd_T40 t258 x36_1).f0))) (fun _ hk => hk.2) (.string ((rd_T40 t258 x36_1).f1))) (fun _ hk => trivial)⟩, ⟨by (with_reducible repeat (first | apply Kd.R_alloc | apply Kd.R_drewN | apply Kd.R_drew)); exact Kd.R_mono (Kd.R_far (p := ⟨gb263, 1, none⟩) (Kd.R_far (p := ⟨gb263, 0, none⟩) (Kd.R_mono HO_34.out (fun k_ hk => (⟨hk, hk.2⟩ : _ ∧ k_ ≠ gb263))) (fun _ hk => hk.2) (.int .u8 ((rd_T40 t258 x36_1).f0))) (fun _ hk => hk.2) (.string ((rd_T40 t258 x36_1).f1))) (fun _ hk => trivial)⟩, ⟨by repeat (first | (with_reducible first | exact HB.out | apply below_alloc | apply pw_below_drewN | apply below_drew1 | refine below_set ?_ GE263.out) | exact HB.out)⟩⟩
                              · rw [if_neg c29] at H
                                exact absurd H (by simp)
                            · rw [if_neg c28] at H
                              exact absurd H (by simp)
                          · rw [if_neg c27] at H
                            exact absurd H (by simp)
                        · rw [if_neg c26] at H
                          have c26b0 : (((rd_T40 t258 x36_1).f0) == 119) = false := beq_eq_false_iff_ne.mpr c26
                          have c26b1 : (((rd_T40 t258 x36_1).f0) != 119) = true := bne_iff_ne.mpr c26
                          by_cases c32 : x8_1.size + ((rd_T40 t258 x36_1).f1).size ≤ 9223372036854775807
                          · rw [if_pos c32] at H
                            have c32b0 := eq_true c32
                            have c32b1 : decide (x8_1.size + ((rd_T40 t258 x36_1).f1).size ≤ 9223372036854775807) = true := decide_eq_true c32
                            try have c32b2 : (9223372036854775807 < x8_1.size + ((rd_T40 t258 x36_1).f1).size) = False := eq_false (Nat.not_lt.2 c32)
                            by_cases c33 : (x8_1 ++ ((rd_T40 t258 x36_1).f1)).size + (ixS ([(⟨#[32]⟩ : ByteArray), (⟨#[10, 9]⟩ : ByteArray), (⟨#[32, 35, 32, 120, 32, 59, 32, 34, 10]⟩ : ByteArray), (⟨#[47, 42, 32, 123, 32, 34, 32, 42, 47]⟩ : ByteArray)] : List ByteArray) (ji9)).size ≤ 9223372036854775807
                            · rw [if_pos c33] at H
                              have c33b0 := eq_true c33
                              have c33b1 : decide ((x8_1 ++ ((rd_T40 t258 x36_1).f1)).size + (ixS ([(⟨#[32]⟩ : ByteArray), (⟨#[10, 9]⟩ : ByteArray), (⟨#[32, 35, 32, 120, 32, 59, 32, 34, 10]⟩ : ByteArray), (⟨#[47, 42, 32, 123, 32, 34, 32, 42, 47]⟩ : ByteArray)] : List ByteArray) (ji9)).size ≤ 9223372036854775807) = true := decide_eq_true c33
                              try have c33b2 : (9223372036854775807 < (x8_1 ++ ((rd_T40 t258 x36_1).f1)).size + (ixS ([(⟨#[32]⟩ : ByteArray), (⟨#[10, 9]⟩ : ByteArray), (⟨#[32, 35, 32, 120, 32, 59, 32, 34, 10]⟩ : ByteArray), (⟨#[47, 42, 32, 123, 32, 34, 32, 42, 47]⟩ : ByteArray)] : List ByteArray) (ji9)).size) = False := eq_false (Nat.not_lt.2 c33)
                              have H' := Aside0.mk H
                              clear H
                              have p262 : 0 ≤ (x36_1 : Int) := of_decide_eq_true (by first | (with_reducible assumption) | assumption)
                              have q262 : x36_1 < (t258.length : Int) := of_decide_eq_true (by first | (with_reducible assumption) | assumption)
                              obtain ⟨ad262, e262, hx262_0, hx262_1⟩ := at_T40 (Kd.R_reads' HO_34.out).2.2 x36_1 p262 q262
                              cases e262
                              replace p262 := eq_true p262
                              replace q262 := eq_true q262
                              go_wp2_with (first | ((with_reducible refine gate_dst (N := 10) rfl ?_); (try (refine gate_guard (by rfl) ?_; dsimp only)); refine box_event ?hg (N := 10) ?hd (cs := #[.int .u8 0, .string (⟨#[]⟩ : ByteArray)]) (t := 40) ?hr ?_; (case hd => rfl); (case hg => rfl); (case hr => first | (go_simp; done) | (go_simp; rfl)); intro gb263 hg w34 hbox hb; have n0_ := Aside0.mk (Kd.R_below (Kd.R_elderB (by (with_reducible repeat (first | apply Kd.R_alloc | apply Kd.R_drewN | apply Kd.R_drew)); exact HO_5.out) gb263 (Nat.le_of_eq hg.symm)) hb); have n1_ := Aside0.mk (Kd.R_below (Kd.R_elderB (by (with_reducible repeat (first | apply Kd.R_alloc | apply Kd.R_drewN | apply Kd.R_drew)); exact HO_34.out) gb263 (Nat.le_of_eq hg.symm)) hb); have n2_ := Aside0.mk (below_step (by repeat (first | (with_reducible first | exact HB.out | apply below_alloc | apply pw_below_drewN | apply below_drew1) | exact HB.out)) hb); have n3_ := Aside0.mk (hbox); have n4_ := Aside0.mk ((by rw [hg]; exact (below_size (by repeat (first | (with_reducible first | exact HB.out | apply below_alloc | apply pw_below_drewN | apply below_drew1) | exact HB.out))) : w.heap.size ≤ gb263)); have n5_ := Aside0.mk ((by rw [hg]; exact (below_size (by repeat (first | (with_reducible first | exact HB.out | apply below_alloc | apply pw_below_drewN | apply below_drew1) | exact HB.out))) : w.heap.size ≤ gb263)); clear HO_5; clear HO_34; clear HB; have HO_5 := n0_; have HO_34 := n1_; have HB := n2_; have BK263 := n3_; have GW263 := n4_; have GE263 := n5_; clear n0_ n1_ n2_ n3_ n4_ n5_; clear hb hbox hg; have hcz35_0 : w34.cell? ⟨gb263, 0, none⟩ = some (.int .u8 0) := (blk_cell BK263.out 0).trans rfl; have hcz35_1 : w34.cell? ⟨gb263, 1, none⟩ = some (.string (⟨#[]⟩ : ByteArray)) := (blk_cell BK263.out 1).trans rfl; have hfz35_0 := blk_frozen BK263.out 0; have hfz35_1 := blk_frozen BK263.out 1))
                              repeat (go_quiet (first | ((with_reducible refine gate_dst (N := 10) rfl ?_); (try (refine gate_guard (by rfl) ?_; dsimp only)); refine box_event ?hg (N := 10) ?hd (cs := #[.int .u8 0, .string (⟨#[]⟩ : ByteArray)]) (t := 40) ?hr ?_; (case hd => rfl); (case hg => rfl); (case hr => first | (go_simp; done) | (go_simp; rfl)); intro gb263 hg w34 hbox hb; have n0_ := Aside0.mk (Kd.R_below (Kd.R_elderB (by (with_reducible repeat (first | apply Kd.R_alloc | apply Kd.R_drewN | apply Kd.R_drew)); exact HO_5.out) gb263 (Nat.le_of_eq hg.symm)) hb); have n1_ := Aside0.mk (Kd.R_below (Kd.R_elderB (by (with_reducible repeat (first | apply Kd.R_alloc | apply Kd.R_drewN | apply Kd.R_drew)); exact HO_34.out) gb263 (Nat.le_of_eq hg.symm)) hb); have n2_ := Aside0.mk (below_step (by repeat (first | (with_reducible first | exact HB.out | apply below_alloc | apply pw_below_drewN | apply below_drew1) | exact HB.out)) hb); have n3_ := Aside0.mk (hbox); have n4_ := Aside0.mk ((by rw [hg]; exact (below_size (by repeat (first | (with_reducible first | exact HB.out | apply below_alloc | apply pw_below_drewN | apply below_drew1) | exact HB.out))) : w.heap.size ≤ gb263)); have n5_ := Aside0.mk ((by rw [hg]; exact (below_size (by repeat (first | (with_reducible first | exact HB.out | apply below_alloc | apply pw_below_drewN | apply below_drew1) | exact HB.out))) : w.heap.size ≤ gb263)); clear HO_5; clear HO_34; clear HB; have HO_5 := n0_; have HO_34 := n1_; have HB := n2_; have BK263 := n3_; have GW263 := n4_; have GE263 := n5_; clear n0_ n1_ n2_ n3_ n4_ n5_; clear hb hbox hg; have hcz35_0 : w34.cell? ⟨gb263, 0, none⟩ = some (.int .u8 0) := (blk_cell BK263.out 0).trans rfl; have hcz35_1 : w34.cell? ⟨gb263, 1, none⟩ = some (.string (⟨#[]⟩ : ByteArray)) := (blk_cell BK263.out 1).trans rfl; have hfz35_0 := blk_frozen BK263.out 0; have hfz35_1 := blk_frozen BK263.out 1)); try go_wp2_with (first | ((with_reducible refine gate_dst (N := 10) rfl ?_); (try (refine gate_guard (by rfl) ?_; dsimp only)); refine box_event ?hg (N := 10) ?hd (cs := #[.int .u8 0, .string (⟨#[]⟩ : ByteArray)]) (t := 40) ?hr ?_; (case hd => rfl); (case hg => rfl); (case hr => first | (go_simp; done) | (go_simp; rfl)); intro gb263 hg w34 hbox hb; have n0_ := Aside0.mk (Kd.R_below (Kd.R_elderB (by (with_reducible repeat (first | apply Kd.R_alloc | apply Kd.R_drewN | apply Kd.R_drew)); exact HO_5.out) gb263 (Nat.le_of_eq hg.symm)) hb); have n1_ := Aside0.mk (Kd.R_below (Kd.R_elderB (by (with_reducible repeat (first | apply Kd.R_alloc | apply Kd.R_drewN | apply Kd.R_drew)); exact HO_34.out) gb263 (Nat.le_of_eq hg.symm)) hb); have n2_ := Aside0.mk (below_step (by repeat (first | (with_reducible first | exact HB.out | apply below_alloc | apply pw_below_drewN | apply below_drew1) | exact HB.out)) hb); have n3_ := Aside0.mk (hbox); have n4_ := Aside0.mk ((by rw [hg]; exact (below_size (by repeat (first | (with_reducible first | exact HB.out | apply below_alloc | apply pw_below_drewN | apply below_drew1) | exact HB.out))) : w.heap.size ≤ gb263)); have n5_ := Aside0.mk ((by rw [hg]; exact (below_size (by repeat (first | (with_reducible first | exact HB.out | apply below_alloc | apply pw_below_drewN | apply below_drew1) | exact HB.out))) : w.heap.size ≤ gb263)); clear HO_5; clear HO_34; clear HB; have HO_5 := n0_; have HO_34 := n1_; have HB := n2_; have BK263 := n3_; have GW263 := n4_; have GE263 := n5_; clear n0_ n1_ n2_ n3_ n4_ n5_; clear hb hbox hg; have hcz35_0 : w34.cell? ⟨gb263, 0, none⟩ = some (.int .u8 0) := (blk_cell BK263.out 0).trans rfl; have hcz35_1 : w34.cell? ⟨gb263, 1, none⟩ = some (.string (⟨#[]⟩ : ByteArray)) := (blk_cell BK263.out 1).trans rfl; have hfz35_0 := blk_frozen BK263.out 0; have hfz35_1 := blk_frozen BK263.out 1)))
                              go_roundg k1
                              case measure => have := HK1.out; omega
                              case rel => exact ⟨((x8_1 ++ ((rd_T40 t258 x36_1).f1)) ++ (ixS ([(⟨#[32]⟩ : ByteArray), (⟨#[10, 9]⟩ : ByteArray), (⟨#[32, 35, 32, 120, 32, 59, 32, 34, 10]⟩ : ByteArray), (⟨#[47, 42, 32, 123, 32, 34, 32, 42, 47]⟩ : ByteArray)] : List ByteArray) (ji9))), (wrap64 (x36_1 + 1)), (by first | rfl | (simp; done) | (simp only [← hji9] <;> (first | rfl | simp)) | (simp [*]; done)), (by first | rfl | (simp; done) | (simp [*]; done)), H', ⟨by have := HK1.out; omega⟩, ⟨by (with_reducible repeat (first | apply Kd.R_alloc | apply Kd.R_drewN | apply Kd.R_drew)); exact Kd.R_mono (Kd.R_far (p := ⟨gb263, 1, none⟩) (Kd.R_far (p := ⟨gb263, 0, none⟩) (Kd.R_mono HO_5.out (fun k_ hk => (⟨hk, hk.2⟩ : _ ∧ k_ ≠ gb263))) (fun _ hk => hk.2) (.int .u8 ((rd_T40 t258 x36_1).f0))) (fun _ hk => hk.2) (.string ((rd_T40 t258 x36_1).f1))) (fun _ hk => trivial)⟩, ⟨by (with_reducible repeat (first | apply Kd.R_alloc | apply Kd.R_drewN | apply Kd.R_drew)); exact Kd.R_mono (Kd.R_far (p := ⟨gb263, 1, none⟩) (Kd.R_far (p := ⟨gb263, 0, none⟩) (Kd.R_mono HO_34.out (fun k_ hk => (⟨hk, hk.2⟩ : _ ∧ k_ ≠ gb263))) (fun _ hk => hk.2) (.int .u8 ((rd_T40 t258 x36_1).f0))) (fun _ hk => hk.2) (.string ((rd_T40 t258 x36_1).f1))) (fun _ hk => trivial)⟩, ⟨by repeat (first | (with_reducible first | exact HB.out | apply below_alloc | apply pw_below_drewN | apply below_drew1 | refine below_set ?_ GE263.out) | exact HB.out)⟩⟩
                            · rw [if_neg c33] at H
                              exact absurd H (by simp)
                          · rw [if_neg c32] at H
                            exact absurd H (by simp)
                    · rw [if_neg c18] at H
                      exact absurd H (by simp)
                  · rw [if_neg c17] at H
                    exact absurd H (by simp)
                · rw [if_neg c16] at H
                  have c16b0 : decide (x36_1 < (t258.length : Int)) = false := decide_eq_false c16
                  clear c16
                  replace H := Option.bind_eq_some_iff.mp H
                  obtain ⟨⟨t264, t265⟩, A360, H⟩ := H
                  replace H : (if (x8_1.size : Int) > 65536 then (some true) else (if t265 = 0 then (dragomanlaw14_LexBetween.j1 k1 t258 t264 ((t264.length : Int) != (t258.length : Int))) else (dragomanlaw14_LexBetween.j1 k1 t258 t264 true))) = some r := H
                  have A36 := Aside0.mk A360
                  clear A360
                  by_cases c37 : (x8_1.size : Int) > 65536
                  · rw [if_pos c37] at H
                    have c37b0 : decide (65536 < (x8_1.size : Int)) = true := decide_eq_true c37
                    have c37b1 : decide (65536 < x8_1.size) = true := decide_eq_true (by omega)
                    clear c37
                    obtain rfl := Option.some.inj H
                    go_wp2_with (first | (go_at_call 12; (with_reducible refine (lex_Tokens.calls k1 x8_1 t264 t265 _ ?side1 A36.out).mono ?_); (case side1 => exact GL_below hG (by repeat (first | (with_reducible first | exact HB.out | apply below_alloc | apply pw_below_drewN | apply below_drew1) | exact HB.out))); rintro e w38 ⟨v266, rfl, ho0, hb⟩; have n0_ := Aside0.mk (Kd.R_elder' (by (with_reducible repeat (first | apply Kd.R_alloc | apply Kd.R_drewN | apply Kd.R_drew)); exact HO_5.out) (Kd.R_base ho0) hb); have n1_ := Aside0.mk (Kd.R_elder' (by (with_reducible repeat (first | apply Kd.R_alloc | apply Kd.R_drewN | apply Kd.R_drew)); exact HO_34.out) (Kd.R_base ho0) hb); have n2_ := Aside0.mk (Kd.R_lower (Kd.R_new' (Kd.R_new' ho0 (Kd.R_lt (by (with_reducible repeat (first | apply Kd.R_alloc | apply Kd.R_drewN | apply Kd.R_drew)); exact HO_5.out))) (Kd.R_lt (by (with_reducible repeat (first | apply Kd.R_alloc | apply Kd.R_drewN | apply Kd.R_drew)); exact HO_34.out))) (below_size (by repeat (first | (with_reducible first | exact HB.out | apply below_alloc | apply pw_below_drewN | apply below_drew1) | exact HB.out)))); have n3_ := Aside0.mk (below_step (by repeat (first | (with_reducible first | exact HB.out | apply below_alloc | apply pw_below_drewN | apply below_drew1) | exact HB.out)) hb); clear HO_5; clear HO_34; clear HB; have HO_5 := n0_; have HO_34 := n1_; have HO267 := n2_; have HB := n3_; clear n0_ n1_ n2_ n3_; (try clear hb); (try clear hb2); (try clear hk); (try clear hi); (try clear ho0)))
                    repeat (go_quiet (first | (go_at_call 12; (with_reducible refine (lex_Tokens.calls k1 x8_1 t264 t265 _ ?side1 A36.out).mono ?_); (case side1 => exact GL_below hG (by repeat (first | (with_reducible first | exact HB.out | apply below_alloc | apply pw_below_drewN | apply below_drew1) | exact HB.out))); rintro e w38 ⟨v266, rfl, ho0, hb⟩; have n0_ := Aside0.mk (Kd.R_elder' (by (with_reducible repeat (first | apply Kd.R_alloc | apply Kd.R_drewN | apply Kd.R_drew)); exact HO_5.out) (Kd.R_base ho0) hb); have n1_ := Aside0.mk (Kd.R_elder' (by (with_reducible repeat (first | apply Kd.R_alloc | apply Kd.R_drewN | apply Kd.R_drew)); exact HO_34.out) (Kd.R_base ho0) hb); have n2_ := Aside0.mk (Kd.R_lower (Kd.R_new' (Kd.R_new' ho0 (Kd.R_lt (by (with_reducible repeat (first | apply Kd.R_alloc | apply Kd.R_drewN | apply Kd.R_drew)); exact HO_5.out))) (Kd.R_lt (by (with_reducible repeat (first | apply Kd.R_alloc | apply Kd.R_drewN | apply Kd.R_drew)); exact HO_34.out))) (below_size (by repeat (first | (with_reducible first | exact HB.out | apply below_alloc | apply pw_below_drewN | apply below_drew1) | exact HB.out)))); have n3_ := Aside0.mk (below_step (by repeat (first | (with_reducible first | exact HB.out | apply below_alloc | apply pw_below_drewN | apply below_drew1) | exact HB.out)) hb); clear HO_5; clear HO_34; clear HB; have HO_5 := n0_; have HO_34 := n1_; have HO267 := n2_; have HB := n3_; clear n0_ n1_ n2_ n3_; (try clear hb); (try clear hb2); (try clear hk); (try clear hi); (try clear ho0))); try go_wp2_with (first | (go_at_call 12; (with_reducible refine (lex_Tokens.calls k1 x8_1 t264 t265 _ ?side1 A36.out).mono ?_); (case side1 => exact GL_below hG (by repeat (first | (with_reducible first | exact HB.out | apply below_alloc | apply pw_below_drewN | apply below_drew1) | exact HB.out))); rintro e w38 ⟨v266, rfl, ho0, hb⟩; have n0_ := Aside0.mk (Kd.R_elder' (by (with_reducible repeat (first | apply Kd.R_alloc | apply Kd.R_drewN | apply Kd.R_drew)); exact HO_5.out) (Kd.R_base ho0) hb); have n1_ := Aside0.mk (Kd.R_elder' (by (with_reducible repeat (first | apply Kd.R_alloc | apply Kd.R_drewN | apply Kd.R_drew)); exact HO_34.out) (Kd.R_base ho0) hb); have n2_ := Aside0.mk (Kd.R_lower (Kd.R_new' (Kd.R_new' ho0 (Kd.R_lt (by (with_reducible repeat (first | apply Kd.R_alloc | apply Kd.R_drewN | apply Kd.R_drew)); exact HO_5.out))) (Kd.R_lt (by (with_reducible repeat (first | apply Kd.R_alloc | apply Kd.R_drewN | apply Kd.R_drew)); exact HO_34.out))) (below_size (by repeat (first | (with_reducible first | exact HB.out | apply below_alloc | apply pw_below_drewN | apply below_drew1) | exact HB.out)))); have n3_ := Aside0.mk (below_step (by repeat (first | (with_reducible first | exact HB.out | apply below_alloc | apply pw_below_drewN | apply below_drew1) | exact HB.out)) hb); clear HO_5; clear HO_34; clear HB; have HO_5 := n0_; have HO_34 := n1_; have HO267 := n2_; have HB := n3_; clear n0_ n1_ n2_ n3_; (try clear hb); (try clear hb2); (try clear hk); (try clear hi); (try clear ho0))))
                    first | go_ret | refine ⟨_, results_tmp rfl _ _ _, ?_⟩
                    exact ⟨by first | rfl | (simp [errW_none, errW_some] <;> rfl) | (simp only [← hji9]; first | rfl | (simp [errW_none, errW_some] <;> rfl)) | (simp [*, errW_none, errW_some] <;> rfl), by repeat (first | (with_reducible first | exact HB.out | apply below_alloc | apply pw_below_drewN | apply below_drew1) | exact HB.out)⟩
                  · rw [if_neg c37] at H
                    have c37b0 : decide (65536 < (x8_1.size : Int)) = false := decide_eq_false c37
                    have c37b1 : decide (65536 < x8_1.size) = false := decide_eq_false (by omega)
                    clear c37
                    have HC39 := Aside0.mk H
                    clear H
                    go_upto_region 24 with (first | (go_at_call 12; (with_reducible refine (lex_Tokens.calls k1 x8_1 t264 t265 _ ?side1 A36.out).mono ?_); (case side1 => exact GL_below hG (by repeat (first | (with_reducible first | exact HB.out | apply below_alloc | apply pw_below_drewN | apply below_drew1) | exact HB.out))); rintro e w40 ⟨v266, rfl, ho0, hb⟩; have n0_ := Aside0.mk (Kd.R_elder' (by (with_reducible repeat (first | apply Kd.R_alloc | apply Kd.R_drewN | apply Kd.R_drew)); exact HO_5.out) (Kd.R_base ho0) hb); have n1_ := Aside0.mk (Kd.R_elder' (by (with_reducible repeat (first | apply Kd.R_alloc | apply Kd.R_drewN | apply Kd.R_drew)); exact HO_34.out) (Kd.R_base ho0) hb); have n2_ := Aside0.mk (Kd.R_lower (Kd.R_new' (Kd.R_new' ho0 (Kd.R_lt (by (with_reducible repeat (first | apply Kd.R_alloc | apply Kd.R_drewN | apply Kd.R_drew)); exact HO_5.out))) (Kd.R_lt (by (with_reducible repeat (first | apply Kd.R_alloc | apply Kd.R_drewN | apply Kd.R_drew)); exact HO_34.out))) (below_size (by repeat (first | (with_reducible first | exact HB.out | apply below_alloc | apply pw_below_drewN | apply below_drew1) | exact HB.out)))); have n3_ := Aside0.mk (below_step (by repeat (first | (with_reducible first | exact HB.out | apply below_alloc | apply pw_below_drewN | apply below_drew1) | exact HB.out)) hb); clear HO_5; clear HO_34; clear HB; have HO_5 := n0_; have HO_34 := n1_; have HO267 := n2_; have HB := n3_; clear n0_ n1_ n2_ n3_; (try clear hb); (try clear hb2); (try clear hk); (try clear hi); (try clear ho0)))
                    repeat (go_quiet (first | (go_at_call 12; (with_reducible refine (lex_Tokens.calls k1 x8_1 t264 t265 _ ?side1 A36.out).mono ?_); (case side1 => exact GL_below hG (by repeat (first | (with_reducible first | exact HB.out | apply below_alloc | apply pw_below_drewN | apply below_drew1) | exact HB.out))); rintro e w40 ⟨v266, rfl, ho0, hb⟩; have n0_ := Aside0.mk (Kd.R_elder' (by (with_reducible repeat (first | apply Kd.R_alloc | apply Kd.R_drewN | apply Kd.R_drew)); exact HO_5.out) (Kd.R_base ho0) hb); have n1_ := Aside0.mk (Kd.R_elder' (by (with_reducible repeat (first | apply Kd.R_alloc | apply Kd.R_drewN | apply Kd.R_drew)); exact HO_34.out) (Kd.R_base ho0) hb); have n2_ := Aside0.mk (Kd.R_lower (Kd.R_new' (Kd.R_new' ho0 (Kd.R_lt (by (with_reducible repeat (first | apply Kd.R_alloc | apply Kd.R_drewN | apply Kd.R_drew)); exact HO_5.out))) (Kd.R_lt (by (with_reducible repeat (first | apply Kd.R_alloc | apply Kd.R_drewN | apply Kd.R_drew)); exact HO_34.out))) (below_size (by repeat (first | (with_reducible first | exact HB.out | apply below_alloc | apply pw_below_drewN | apply below_drew1) | exact HB.out)))); have n3_ := Aside0.mk (below_step (by repeat (first | (with_reducible first | exact HB.out | apply below_alloc | apply pw_below_drewN | apply below_drew1) | exact HB.out)) hb); clear HO_5; clear HO_34; clear HB; have HO_5 := n0_; have HO_34 := n1_; have HO267 := n2_; have HB := n3_; clear n0_ n1_ n2_ n3_; (try clear hb); (try clear hb2); (try clear hk); (try clear hi); (try clear ho0))); go_upto_region 24 with (first | (go_at_call 12; (with_reducible refine (lex_Tokens.calls k1 x8_1 t264 t265 _ ?side1 A36.out).mono ?_); (case side1 => exact GL_below hG (by repeat (first | (with_reducible first | exact HB.out | apply below_alloc | apply pw_below_drewN | apply below_drew1) | exact HB.out))); rintro e w40 ⟨v266, rfl, ho0, hb⟩; have n0_ := Aside0.mk (Kd.R_elder' (by (with_reducible repeat (first | apply Kd.R_alloc | apply Kd.R_drewN | apply Kd.R_drew)); exact HO_5.out) (Kd.R_base ho0) hb); have n1_ := Aside0.mk (Kd.R_elder' (by (with_reducible repeat (first | apply Kd.R_alloc | apply Kd.R_drewN | apply Kd.R_drew)); exact HO_34.out) (Kd.R_base ho0) hb); have n2_ := Aside0.mk (Kd.R_lower (Kd.R_new' (Kd.R_new' ho0 (Kd.R_lt (by (with_reducible repeat (first | apply Kd.R_alloc | apply Kd.R_drewN | apply Kd.R_drew)); exact HO_5.out))) (Kd.R_lt (by (with_reducible repeat (first | apply Kd.R_alloc | apply Kd.R_drewN | apply Kd.R_drew)); exact HO_34.out))) (below_size (by repeat (first | (with_reducible first | exact HB.out | apply below_alloc | apply pw_below_drewN | apply below_drew1) | exact HB.out)))); have n3_ := Aside0.mk (below_step (by repeat (first | (with_reducible first | exact HB.out | apply below_alloc | apply pw_below_drewN | apply below_drew1) | exact HB.out)) hb); clear HO_5; clear HO_34; clear HB; have HO_5 := n0_; have HO_34 := n1_; have HO267 := n2_; have HB := n3_; clear n0_ n1_ n2_ n3_; (try clear hb); (try clear hb2); (try clear hk); (try clear hi); (try clear ho0))))
                    (try simp only [Act.put, List.setIfInBounds_toArray, List.set_cons_zero, List.set_cons_succ])
                    go_cut [81] (fun v81 wc => ∃ (kq : Nat) (x81_38 : Bool), v81 = .bool x81_38 ∧ Aside0 (dragomanlaw14_LexBetween.j1 kq t258 t264 x81_38 = some r) ∧ Aside0 (kq ≤ k1) ∧ Aside0 (Kd.R k40 40 wc w.heap.size (fun k_ => some k_ ≠ (v266 : Value).ownBlock) (.slice Ao15 t258.length co15) t258) ∧ Aside0 (Kd.R k40 40 wc w.heap.size (fun k_ => some k_ ≠ ((.slice Ao15 t258.length co15) : Value).ownBlock) v266 t264) ∧ Aside0 (Below w.heap.size w wc))
                    case first =>
                      have H := HC39.out
                      clear HC39
                      by_cases c41 : t265 = 0
                      · rw [if_pos c41] at H
                        have c41b0 : (t265 == 0) = true := beq_iff_eq.mpr c41
                        have c41b1 : (t265 != 0) = false := bne_eq_false_iff_eq.mpr c41
                        clear c41
                        (first | rw [c41b0] | (simp only [i64_w, i32_w]; rw [c41b0]) | rw [c41b1] | skip)
                        have H' := Aside0.mk H
                        clear H
                        obtain ⟨Ao42, co42, eo42⟩ := Kd.R_slice HO267.out
                        subst eo42
                        go_wp2
                        repeat (go_quiet (fail); try go_wp2)
                        go_meet
                        case rel => exact ⟨_, (((t264.length : Int) != (t258.length : Int))), (by first | rfl | (simp; done) | (simp [*]; done)), H', ⟨by have := HK1.out; first | omega | exact Nat.le_refl _⟩, ⟨by (with_reducible repeat (first | apply Kd.R_alloc | apply Kd.R_drewN | apply Kd.R_drew)); exact Kd.R_mono HO_5.out (fun _ hk => hk.2)⟩, ⟨by (with_reducible repeat (first | apply Kd.R_alloc | apply Kd.R_drewN | apply Kd.R_drew)); exact Kd.R_mono HO267.out (fun _ hk => hk.1.2)⟩, ⟨by repeat (first | (with_reducible first | exact HB.out | apply below_alloc | apply pw_below_drewN | apply below_drew1) | exact HB.out)⟩⟩
                      · rw [if_neg c41] at H
                        have c41b0 : (t265 == 0) = false := beq_eq_false_iff_ne.mpr c41
                        have c41b1 : (t265 != 0) = true := bne_iff_ne.mpr c41
                        (first | rw [c41b0] | (simp only [i64_w, i32_w]; rw [c41b0]) | rw [c41b1] | skip)
                        have H' := Aside0.mk H
                        clear H
                        go_wp2
                        repeat (go_quiet (fail); try go_wp2)
                        go_meet
                        case rel => exact ⟨_, (true), (by first | rfl | (simp; done) | (simp [*]; done)), H', ⟨by have := HK1.out; first | omega | exact Nat.le_refl _⟩, ⟨by (with_reducible repeat (first | apply Kd.R_alloc | apply Kd.R_drewN | apply Kd.R_drew)); exact Kd.R_mono HO_5.out (fun _ hk => hk.2)⟩, ⟨by (with_reducible repeat (first | apply Kd.R_alloc | apply Kd.R_drewN | apply Kd.R_drew)); exact Kd.R_mono HO267.out (fun _ hk => hk.1.2)⟩, ⟨by repeat (first | (with_reducible first | exact HB.out | apply below_alloc | apply pw_below_drewN | apply below_drew1) | exact HB.out)⟩⟩
                    case rest =>
                      clear HC39
                      try clear c1
                      try clear p1
                      try clear q1
                      try clear hx1
                      try clear c2
                      try clear p2
                      try clear q2
                      try clear hx2
                      try clear c3
                      try clear c4
                      try clear c5
                      try clear c5b0
                      try clear c5b1
                      try clear c6
                      try clear p6
                      try clear c8
                      try clear c8b0
                      try clear c8b1
                      try clear c10
                      try clear c10b0
                      try clear c11
                      try clear c11b0
                      try clear p12
                      try clear q12
                      try clear hx12
                      try clear c16
                      try clear c16b0
                      try clear c17
                      try clear c17b0
                      try clear c18
                      try clear c18b0
                      try clear c19
                      try clear c19b0
                      try clear c19b1
                      try clear c20
                      try clear c20b0
                      try clear c20b1
                      try clear c20b2
                      try clear c21
                      try clear c21b0
                      try clear c21b1
                      try clear c21b2
                      try clear c22
                      try clear c22b0
                      try clear c22b1
                      try clear c22b2
                      try clear c23
                      try clear c23b0
                      try clear c23b1
                      try clear c23b2
                      try clear c26
                      try clear c26b0
                      try clear c26b1
                      try clear p26
                      try clear q26
                      try clear hx26
                      try clear c27
                      try clear c27b0
                      try clear c27b1
                      try clear c27b2
                      try clear c28
                      try clear c28b0
                      try clear c28b1
                      try clear c28b2
                      try clear c29
                      try clear c29b0
                      try clear c29b1
                      try clear c29b2
                      try clear c32
                      try clear c32b0
                      try clear c32b1
                      try clear c32b2
                      try clear c33
                      try clear c33b0
                      try clear c33b1
                      try clear c33b2
                      try clear c37
                      try clear c37b0
                      try clear c37b1
                      try clear c41
                      try clear c41b0
                      try clear c41b1
                      try clear hcz25_0
                      try clear hcz25_1
                      try clear hcz31_0
                      try clear hcz31_1
                      try clear hcz35_0
                      try clear hcz35_1
                      try clear hfz25_0
                      try clear hfz25_1
                      try clear hfz31_0
                      try clear hfz31_1
                      try clear hfz35_0
                      try clear hfz35_1
                      try clear hx262_0
                      try clear hx262_1
                      try clear p1
                      try clear p12
                      try clear p2
                      try clear p262
                      try clear q1
                      try clear q12
                      try clear q262
                      obtain ⟨kq, x81_38, rfl, HA, HJ38, HO_5, HO_11, HB⟩ := hcut
                      cases kq with
                      | zero => exact absurd HA.out (by simp [dragomanlaw14_LexBetween.j1])
                      | succ kj38 =>
                        have H := HA.out
                        clear HA
                        simp only [dragomanlaw14_LexBetween.j1] at H
                        by_cases c43 : x81_38 = true
                        · subst c43
                          have H1 : (none) = some r := by rw [if_pos rfl] at H; exact H
                          clear H
                          have H := H1
                          clear H1
                          exact absurd H (by simp)
                        · replace c43 := Bool.eq_false_iff.mpr c43
                          subst c43
                          have H1 : (dragomanlaw14_LexBetween.l1 kj38 t258 t264 (t258.length : Int) 0) = some r := by rw [if_neg (show ¬ (false = true) by decide)] at H; exact H
                          clear H
                          have H := H1
                          clear H1
                          have H' := Aside0.mk H
                          clear H
                          go_wp2
                          repeat (go_quiet (fail); try go_wp2)
                          go_loopg [84] kj38 (fun kq v84 w' => ∃ (x84_3 : Int), v84 = .int .i64 x84_3 ∧ Aside0 (dragomanlaw14_LexBetween.l1 kq t258 t264 (t258.length : Int) x84_3 = some r) ∧ Aside0 (kq ≤ kj38) ∧ Aside0 (Kd.R k40 40 w' w.heap.size (fun k_ => some k_ ≠ (v266 : Value).ownBlock) (.slice Ao15 t258.length co15) t258) ∧ Aside0 (Kd.R k40 40 w' w.heap.size (fun k_ => some k_ ≠ ((.slice Ao15 t258.length co15) : Value).ownBlock) v266 t264) ∧ Aside0 (Below w.heap.size w w'))
                          case atStart => exact ⟨(0), (by first | rfl | (simp; done) | (simp [*]; done)), H', ⟨Nat.le_refl _⟩, ⟨by (with_reducible repeat (first | apply Kd.R_alloc | apply Kd.R_drewN | apply Kd.R_drew)); exact HO_5.out⟩, ⟨by (with_reducible repeat (first | apply Kd.R_alloc | apply Kd.R_drewN | apply Kd.R_drew)); exact HO_11.out⟩, ⟨by repeat (first | (with_reducible first | exact HB.out | apply below_alloc | apply pw_below_drewN | apply below_drew1) | exact HB.out)⟩⟩
                          case round =>
                            clear H'
                            try clear c1
                            try clear p1
                            try clear q1
                            try clear hx1
                            try clear c2
                            try clear p2
                            try clear q2
                            try clear hx2
                            try clear c3
                            try clear c4
                            try clear c5
                            try clear c5b0
                            try clear c5b1
                            try clear c6
                            try clear p6
                            try clear c8
                            try clear c8b0
                            try clear c8b1
                            try clear c10
                            try clear c10b0
                            try clear c11
                            try clear c11b0
                            try clear p12
                            try clear q12
                            try clear hx12
                            try clear c16
                            try clear c16b0
                            try clear c17
                            try clear c17b0
                            try clear c18
                            try clear c18b0
                            try clear c19
                            try clear c19b0
                            try clear c19b1
                            try clear c20
                            try clear c20b0
                            try clear c20b1
                            try clear c20b2
                            try clear c21
                            try clear c21b0
                            try clear c21b1
                            try clear c21b2
                            try clear c22
                            try clear c22b0
                            try clear c22b1
                            try clear c22b2
                            try clear c23
                            try clear c23b0
                            try clear c23b1
                            try clear c23b2
                            try clear c26
                            try clear c26b0
                            try clear c26b1
                            try clear p26
                            try clear q26
                            try clear hx26
                            try clear c27
                            try clear c27b0
                            try clear c27b1
                            try clear c27b2
                            try clear c28
                            try clear c28b0
                            try clear c28b1
                            try clear c28b2
                            try clear c29
                            try clear c29b0
                            try clear c29b1
                            try clear c29b2
                            try clear c32
                            try clear c32b0
                            try clear c32b1
                            try clear c32b2
                            try clear c33
                            try clear c33b0
                            try clear c33b1
                            try clear c33b2
                            try clear c37
                            try clear c37b0
                            try clear c37b1
                            try clear c41
                            try clear c41b0
                            try clear c41b1
                            try clear c43
                            try clear hcz25_0
                            try clear hcz25_1
                            try clear hcz31_0
                            try clear hcz31_1
                            try clear hcz35_0
                            try clear hcz35_1
                            try clear hfz25_0
                            try clear hfz25_1
                            try clear hfz31_0
                            try clear hfz31_1
                            try clear hfz35_0
                            try clear hfz35_1
                            try clear hx262_0
                            try clear hx262_1
                            try clear p1
                            try clear p12
                            try clear p2
                            try clear p26
                            try clear p262
                            try clear p6
                            try clear q1
                            try clear q12
                            try clear q2
                            try clear q26
                            try clear q262
                            obtain ⟨x84_3, rfl, HA, HK3, HO_5, HO_11, HB⟩ := hrel
                            cases gk with
                            | zero => exact absurd HA.out (by simp [dragomanlaw14_LexBetween.l1])
                            | succ k3 =>
                              have H := HA.out
                              clear HA
                              simp only [dragomanlaw14_LexBetween.l1] at H
                              by_cases c44 : x84_3 < (t258.length : Int)
                              · rw [if_pos c44] at H
                                have c44b0 : decide (x84_3 < (t258.length : Int)) = true := decide_eq_true c44
                                clear c44
                                by_cases c45 : 0 ≤ x84_3
                                · rw [if_pos c45] at H
                                  have c45b0 : decide (0 ≤ x84_3) = true := decide_eq_true c45
                                  clear c45
                                  by_cases c46 : x84_3 < (t258.length : Int)
                                  · rw [if_pos c46] at H
                                    have c46b0 : decide (x84_3 < (t258.length : Int)) = true := decide_eq_true c46
                                    clear c46
                                    by_cases c47 : x84_3 < (t264.length : Int)
                                    · rw [if_pos c47] at H
                                      have c47b0 : decide (x84_3 < (t264.length : Int)) = true := decide_eq_true c47
                                      clear c47
                                      by_cases c48 : (!(((rd_T40 t258 x84_3).f0) == ((rd_T40 t264 x84_3).f0)) || (!((((rd_T40 t258 x84_3).f1).toList) == (((rd_T40 t264 x84_3).f1).toList)))) = true
                                      · rw [if_pos c48] at H
                                        exact absurd H (by simp)
                                      · rw [if_neg c48] at H
                                        have c48b0 : (!(((rd_T40 t258 x84_3).f0) == ((rd_T40 t264 x84_3).f0)) || (!((((rd_T40 t258 x84_3).f1).toList) == (((rd_T40 t264 x84_3).f1).toList)))) = false := by simpa using c48
                                        clear c48
                                        have H' := Aside0.mk H
                                        clear H
                                        have p268 : 0 ≤ (x84_3 : Int) := of_decide_eq_true (by first | (with_reducible assumption) | assumption)
                                        have q268 : x84_3 < (t258.length : Int) := of_decide_eq_true (by first | (with_reducible assumption) | assumption)
                                        obtain ⟨ad268, e268, hx268_0, hx268_1⟩ := at_T40 (Kd.R_reads' HO_5.out).2.2 x84_3 p268 q268
                                        cases e268
                                        replace p268 := eq_true p268
                                        replace q268 := eq_true q268
                                        obtain ⟨Ao49, co49, eo49⟩ := Kd.R_slice HO_11.out
                                        subst eo49
                                        have p269 : 0 ≤ (x84_3 : Int) := of_decide_eq_true (by first | (with_reducible assumption) | assumption)
                                        have q269 : x84_3 < (t264.length : Int) := of_decide_eq_true (by first | (with_reducible assumption) | assumption)
                                        obtain ⟨ad269, e269, hx269_0, hx269_1⟩ := at_T40 (Kd.R_reads' HO_11.out).2.2 x84_3 p269 q269
                                        cases e269
                                        replace p269 := eq_true p269
                                        replace q269 := eq_true q269
                                        go_wp2
                                        repeat (go_quiet (fail); try go_wp2)
                                        go_roundg k3
                                        case measure => have := HK1.out; have := HJ38.out; have := HK3.out; omega
                                        case rel => exact ⟨(wrap64 (x84_3 + 1)), (by first | rfl | (simp; done) | (simp [*]; done)), H', ⟨by have := HK1.out; have := HJ38.out; have := HK3.out; omega⟩, ⟨by (with_reducible repeat (first | apply Kd.R_alloc | apply Kd.R_drewN | apply Kd.R_drew)); exact HO_5.out⟩, ⟨by (with_reducible repeat (first | apply Kd.R_alloc | apply Kd.R_drewN | apply Kd.R_drew)); exact HO_11.out⟩, ⟨by repeat (first | (with_reducible first | exact HB.out | apply below_alloc | apply pw_below_drewN | apply below_drew1) | exact HB.out)⟩⟩
                                    · rw [if_neg c47] at H
                                      exact absurd H (by simp)
                                  · rw [if_neg c46] at H
                                    exact absurd H (by simp)
                                · rw [if_neg c45] at H
                                  exact absurd H (by simp)
                              · rw [if_neg c44] at H
                                have c44b0 : decide (x84_3 < (t258.length : Int)) = false := decide_eq_false c44
                                clear c44
                                obtain rfl := Option.some.inj H
                                go_wp2
                                repeat (go_quiet (fail); try go_wp2)
                                first | go_ret | refine ⟨_, results_tmp rfl _ _ _, ?_⟩
                                exact ⟨by first | rfl | (simp [errW_none, errW_some] <;> rfl) | (simp only [← hji9]; first | rfl | (simp [errW_none, errW_some] <;> rfl)) | (simp [*, errW_none, errW_some] <;> rfl), by repeat (first | (with_reducible first | exact HB.out | apply below_alloc | apply pw_below_drewN | apply below_drew1) | exact HB.out)⟩
          · rw [if_neg c11] at H
            exact absurd H (by simp)
        · rw [if_neg c10] at H
          exact absurd H (by simp)
      · rw [if_neg c8] at H
        have c8b0 : (t259 == 0) = false := beq_eq_false_iff_ne.mpr c8
        have c8b1 : (t259 != 0) = true := bne_iff_ne.mpr c8
        obtain rfl := Option.some.inj H
        go_enter Tryd.func6, Tryd.ntmps6
        go_wp2_with (first | (go_at_call 8; (with_reducible refine (dragomanlaw14_alive.calls k  true _ ?side1 A3.out).mono ?_); (case side1 => exact GL_below hG (by repeat (first | (with_reducible first | exact HB.out | apply below_alloc | apply pw_below_drewN | apply below_drew1) | exact HB.out))); rintro e w50 ⟨rfl, hb⟩; have n0_ := Aside0.mk (below_step (by repeat (first | (with_reducible first | exact HB.out | apply below_alloc | apply pw_below_drewN | apply below_drew1) | exact HB.out)) hb); clear HB; have HB := n0_; clear n0_; (try clear hb); (try clear hb2); (try clear hk); (try clear hi)) | (go_at_call 12; (with_reducible refine (lex_Tokens.calls k a0 t258 t259 _ ?side1 A7.out).mono ?_); (case side1 => exact GL_below hG (by repeat (first | (with_reducible first | exact HB.out | apply below_alloc | apply pw_below_drewN | apply below_drew1) | exact HB.out))); rintro e w51 ⟨v260, rfl, ho0, hb⟩; have n0_ := Aside0.mk (Kd.R_lower ho0 (below_size (by repeat (first | (with_reducible first | exact HB.out | apply below_alloc | apply pw_below_drewN | apply below_drew1) | exact HB.out)))); have n1_ := Aside0.mk (below_step (by repeat (first | (with_reducible first | exact HB.out | apply below_alloc | apply pw_below_drewN | apply below_drew1) | exact HB.out)) hb); clear HB; have HO261 := n0_; have HB := n1_; clear n0_ n1_; (try clear hb); (try clear hb2); (try clear hk); (try clear hi); (try clear ho0); obtain ⟨Ao52, co52, eo52⟩ := Kd.R_slice HO261.out; subst eo52))
        repeat (go_quiet (first | (go_at_call 8; (with_reducible refine (dragomanlaw14_alive.calls k  true _ ?side1 A3.out).mono ?_); (case side1 => exact GL_below hG (by repeat (first | (with_reducible first | exact HB.out | apply below_alloc | apply pw_below_drewN | apply below_drew1) | exact HB.out))); rintro e w50 ⟨rfl, hb⟩; have n0_ := Aside0.mk (below_step (by repeat (first | (with_reducible first | exact HB.out | apply below_alloc | apply pw_below_drewN | apply below_drew1) | exact HB.out)) hb); clear HB; have HB := n0_; clear n0_; (try clear hb); (try clear hb2); (try clear hk); (try clear hi)) | (go_at_call 12; (with_reducible refine (lex_Tokens.calls k a0 t258 t259 _ ?side1 A7.out).mono ?_); (case side1 => exact GL_below hG (by repeat (first | (with_reducible first | exact HB.out | apply below_alloc | apply pw_below_drewN | apply below_drew1) | exact HB.out))); rintro e w51 ⟨v260, rfl, ho0, hb⟩; have n0_ := Aside0.mk (Kd.R_lower ho0 (below_size (by repeat (first | (with_reducible first | exact HB.out | apply below_alloc | apply pw_below_drewN | apply below_drew1) | exact HB.out)))); have n1_ := Aside0.mk (below_step (by repeat (first | (with_reducible first | exact HB.out | apply below_alloc | apply pw_below_drewN | apply below_drew1) | exact HB.out)) hb); clear HB; have HO261 := n0_; have HB := n1_; clear n0_ n1_; (try clear hb); (try clear hb2); (try clear hk); (try clear hi); (try clear ho0); obtain ⟨Ao52, co52, eo52⟩ := Kd.R_slice HO261.out; subst eo52)); try go_wp2_with (first | (go_at_call 8; (with_reducible refine (dragomanlaw14_alive.calls k  true _ ?side1 A3.out).mono ?_); (case side1 => exact GL_below hG (by repeat (first | (with_reducible first | exact HB.out | apply below_alloc | apply pw_below_drewN | apply below_drew1) | exact HB.out))); rintro e w50 ⟨rfl, hb⟩; have n0_ := Aside0.mk (below_step (by repeat (first | (with_reducible first | exact HB.out | apply below_alloc | apply pw_below_drewN | apply below_drew1) | exact HB.out)) hb); clear HB; have HB := n0_; clear n0_; (try clear hb); (try clear hb2); (try clear hk); (try clear hi)) | (go_at_call 12; (with_reducible refine (lex_Tokens.calls k a0 t258 t259 _ ?side1 A7.out).mono ?_); (case side1 => exact GL_below hG (by repeat (first | (with_reducible first | exact HB.out | apply below_alloc | apply pw_below_drewN | apply below_drew1) | exact HB.out))); rintro e w51 ⟨v260, rfl, ho0, hb⟩; have n0_ := Aside0.mk (Kd.R_lower ho0 (below_size (by repeat (first | (with_reducible first | exact HB.out | apply below_alloc | apply pw_below_drewN | apply below_drew1) | exact HB.out)))); have n1_ := Aside0.mk (below_step (by repeat (first | (with_reducible first | exact HB.out | apply below_alloc | apply pw_below_drewN | apply below_drew1) | exact HB.out)) hb); clear HB; have HO261 := n0_; have HB := n1_; clear n0_ n1_; (try clear hb); (try clear hb2); (try clear hk); (try clear hi); (try clear ho0); obtain ⟨Ao52, co52, eo52⟩ := Kd.R_slice HO261.out; subst eo52)))
        first | go_ret | refine ⟨_, results_tmp rfl _ _ _, ?_⟩
        exact ⟨by first | rfl | (simp [errW_none, errW_some] <;> rfl) | (simp [*, errW_none, errW_some] <;> rfl), by repeat (first | (with_reducible first | exact HB.out | apply below_alloc | apply pw_below_drewN | apply below_drew1) | exact HB.out)⟩
  · replace c4 := Bool.eq_false_iff.mpr c4
    subst c4
    have H1 : (none) = some r := by rw [if_neg (show ¬ (false = true) by decide)] at H; exact H
    clear H
    have H := H1
    clear H1
    exact absurd H (by simp)
end Go.Proofs.YtdnneofebehpaaaDoor.L
