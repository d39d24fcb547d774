import Derived.Test.YtdnneofebehpaaaDoorLx0
import Derived.Test.YtdnneofebehpaaaDoorLx5
import Derived.Test.YtdnneofebehpaaaDoorLx6
import Derived.Test.YtdnneofebehpaaaDoorLx10
import Derived.Test.YtdnneofebehpaaaDoorLx12
namespace Go.Proofs.YtdnneofebehpaaaDoor.L
open Go.RowKit Go.Proofs.YtdnneofebehpaaaDoorW.PrintWords Go.Proofs.YtdnneofebehpaaaDoorW.PrintLast Go.Proofs.YtdnneofebehpaaaDoorW.PrintMore
attribute [local go_sem] max2_int min2_int max_two min_two max_three min_three max_four min_four
set_option linter.unusedVariables false
set_option linter.unusedSimpArgs false
mutual
def dragomanlaw14_LexLines.j0 : Nat → ByteArray → Bool → Option (Bool)
  | 0, _, _ => none
  | k + 1, x0, x17 => if x17 = true then (some true) else ((lex_Lines.f k x0).bind fun bt203 => ((dragomanref14_Lines.f k x0).bind fun bt207 => (if bt203.2 = bt207.2 then (dragomanlaw14_LexLines.j1 k bt203.1 bt207.1 ((bt203.1.length : Int) != (bt207.1.length : Int))) else (dragomanlaw14_LexLines.j1 k bt203.1 bt207.1 true))))
def dragomanlaw14_LexLines.j1 : Nat → List (List ByteArray) → List (List ByteArray) → Bool → Option (Bool)
  | 0, _, _, _ => none
  | k + 1, x3, x5, x37 => if x37 = true then (none) else (dragomanlaw14_LexLines.l0 k x3 x5 (x3.length : Int) 0)
def dragomanlaw14_LexLines.l0 : Nat → List (List ByteArray) → List (List ByteArray) → Int → Int → Option (Bool)
  | 0, _, _, _, _ => none
  | k + 1, x3, x5, x39, x40 => if x40 < x39 then (if 0 ≤ x40 then (if x40 < (x3.length : Int) then (if x40 < (x5.length : Int) then ((dragomanref14_Strings.f k (rd_L1 x3 x40) (rd_L1 x5 x40)).bind fun t213 => (if t213 = true then (dragomanlaw14_LexLines.l0 k x3 x5 x39 (wrap64 (x40 + 1))) else (none))) else (none)) else (none)) else (none)) else (some true)
end
def dragomanlaw14_LexLines.f (k : Nat) (a0 : ByteArray) : Option (Bool) := (dragomanlaw14_alive.f k).bind fun t202 => (if t202 = true then (if (a0.size : Int) > 3000 then (dragomanlaw14_LexLines.j0 k a0 (decide ((a0.size : Int) ≤ 65536))) else (dragomanlaw14_LexLines.j0 k a0 false)) else (none))
theorem dragomanlaw14_LexLines.mono_l : ∀ k, (∀ y0 y1, LeO (dragomanlaw14_LexLines.j0 k y0 y1) (dragomanlaw14_LexLines.j0 (k + 1) y0 y1)) ∧ (∀ y0 y1 y2, LeO (dragomanlaw14_LexLines.j1 k y0 y1 y2) (dragomanlaw14_LexLines.j1 (k + 1) y0 y1 y2)) ∧ (∀ y0 y1 y2 y3, LeO (dragomanlaw14_LexLines.l0 k y0 y1 y2 y3) (dragomanlaw14_LexLines.l0 (k + 1) y0 y1 y2 y3))
  | 0 => ⟨fun _ _ r h => by simp [dragomanlaw14_LexLines.j0] at h, fun _ _ _ r h => by simp [dragomanlaw14_LexLines.j1] at h, fun _ _ _ _ r h => by simp [dragomanlaw14_LexLines.l0] at h⟩
  | k + 1 => by
    obtain ⟨ih0, ih1, ih2⟩ := dragomanlaw14_LexLines.mono_l k
    refine ⟨?_, ?_, ?_⟩
    · intro y0 y1
      unfold dragomanlaw14_LexLines.j0
      repeat' first
      | (with_reducible exact ih0 _ _)
      | (with_reducible exact ih1 _ _ _)
      | (with_reducible exact ih2 _ _ _ _)
      | (with_reducible exact dragomanlaw14_alive.mono _)
      | (with_reducible exact dragomanref14_Lines.mono _ _)
      | (with_reducible exact dragomanref14_Strings.mono _ _ _)
      | (with_reducible exact lex_Lines.mono _ _)
      | (with_reducible exact LeO.refl _)
      | (with_reducible exact LeO.none _)
      | (with_reducible refine LeO.ite ?_ ?_)
      | (with_reducible refine LeO.bind ?_ (fun _ => ?_))
      | exact ih0 _ _
      | exact ih1 _ _ _
      | exact ih2 _ _ _ _
      | exact dragomanlaw14_alive.mono _
      | exact dragomanref14_Lines.mono _ _
      | exact dragomanref14_Strings.mono _ _ _
      | exact lex_Lines.mono _ _
      | exact LeO.none _
      | refine LeO.ite ?_ ?_
      | refine LeO.bind ?_ (fun _ => ?_)
    · intro y0 y1 y2
      unfold dragomanlaw14_LexLines.j1
      repeat' first
      | (with_reducible exact ih0 _ _)
      | (with_reducible exact ih1 _ _ _)
      | (with_reducible exact ih2 _ _ _ _)
      | (with_reducible exact dragomanlaw14_alive.mono _)
      | (with_reducible exact dragomanref14_Lines.mono _ _)
      | (with_reducible exact dragomanref14_Strings.mono _ _ _)
      | (with_reducible exact lex_Lines.mono _ _)
      | (with_reducible exact LeO.refl _)
      | (with_reducible exact LeO.none _)
      | (with_reducible refine LeO.ite ?_ ?_)
      | (with_reducible refine LeO.bind ?_ (fun _ => ?_))
      | exact ih0 _ _
      | exact ih1 _ _ _
      | exact ih2 _ _ _ _
      | exact dragomanlaw14_alive.mono _
      | exact dragomanref14_Lines.mono _ _
      | exact dragomanref14_Strings.mono _ _ _
      | exact lex_Lines.mono _ _
      | exact LeO.none _
      | refine LeO.ite ?_ ?_
      | refine LeO.bind ?_ (fun _ => ?_)
    · intro y0 y1 y2 y3
      unfold dragomanlaw14_LexLines.l0
      repeat' first
      | (with_reducible exact ih0 _ _)
      | (with_reducible exact ih1 _ _ _)
      | (with_reducible exact ih2 _ _ _ _)
      | (with_reducible exact dragomanlaw14_alive.mono _)
      | (with_reducible exact dragomanref14_Lines.mono _ _)
      | (with_reducible exact dragomanref14_Strings.mono _ _ _)
      | (with_reducible exact lex_Lines.mono _ _)
      | (with_reducible exact LeO.refl _)
      | (with_reducible exact LeO.none _)
      | (with_reducible refine LeO.ite ?_ ?_)
      | (with_reducible refine LeO.bind ?_ (fun _ => ?_))
      | exact ih0 _ _
      | exact ih1 _ _ _
      | exact ih2 _ _ _ _
      | exact dragomanlaw14_alive.mono _
      | exact dragomanref14_Lines.mono _ _
      | exact dragomanref14_Strings.mono _ _ _
      | exact lex_Lines.mono _ _
      | exact LeO.none _
      | refine LeO.ite ?_ ?_
      | refine LeO.bind ?_ (fun _ => ?_)
theorem dragomanlaw14_LexLines.mono : ∀ a0 k, LeO (dragomanlaw14_LexLines.f k a0) (dragomanlaw14_LexLines.f (k + 1) a0) := by
  intro a0 k
  obtain ⟨ih0, ih1, ih2⟩ := dragomanlaw14_LexLines.mono_l k
  unfold dragomanlaw14_LexLines.f
  repeat' first
      | (with_reducible exact ih0 _ _)
      | (with_reducible exact ih1 _ _ _)
      | (with_reducible exact ih2 _ _ _ _)
      | (with_reducible exact dragomanlaw14_alive.mono _)
      | (with_reducible exact dragomanref14_Lines.mono _ _)
      | (with_reducible exact dragomanref14_Strings.mono _ _ _)
      | (with_reducible exact lex_Lines.mono _ _)
      | (with_reducible exact LeO.refl _)
      | (with_reducible exact LeO.none _)
      | (with_reducible refine LeO.ite ?_ ?_)
      | (with_reducible refine LeO.bind ?_ (fun _ => ?_))
      | exact ih0 _ _
      | exact ih1 _ _ _
      | exact ih2 _ _ _ _
      | exact dragomanlaw14_alive.mono _
      | exact dragomanref14_Lines.mono _ _
      | exact dragomanref14_Strings.mono _ _ _
      | exact lex_Lines.mono _ _
      | exact LeO.none _
      | refine LeO.ite ?_ ?_
      | refine LeO.bind ?_ (fun _ => ?_)
set_option maxHeartbeats 8000000 in
set_option maxRecDepth 100000 in
theorem dragomanlaw14_LexLines.calls (k : Nat) (a0 : ByteArray) (r : Bool) (w : World) (hG : GL w) (h : dragomanlaw14_LexLines.f k a0 = some r) :
    Calls Tryd.prog 3 #[.string a0] w fun e w' => e = .returned (.bool r) ∧ Below w.heap.size w w' := by
  have HB := Aside0.mk (Below.refl w.heap.size w)
  have H : ((dragomanlaw14_alive.f k).bind fun t202 => (if t202 = true then (if (a0.size : Int) > 3000 then (dragomanlaw14_LexLines.j0 k a0 (decide ((a0.size : Int) ≤ 65536))) else (dragomanlaw14_LexLines.j0 k a0 false)) else (none))) = some r := h
  clear h
  replace H := Option.bind_eq_some_iff.mp H
  obtain ⟨t202, A20, H⟩ := H
  replace H : (if t202 = true then (if (a0.size : Int) > 3000 then (dragomanlaw14_LexLines.j0 k a0 (decide ((a0.size : Int) ≤ 65536))) else (dragomanlaw14_LexLines.j0 k a0 false)) else (none)) = some r := H
  have A2 := Aside0.mk A20
  clear A20
  by_cases c3 : t202 = true
  · subst c3
    have H1 : (if (a0.size : Int) > 3000 then (dragomanlaw14_LexLines.j0 k a0 (decide ((a0.size : Int) ≤ 65536))) else (dragomanlaw14_LexLines.j0 k a0 false)) = some r := by rw [if_pos rfl] at H; exact H
    clear H
    have H := H1
    clear H1
    have HC4 := Aside0.mk H
    clear H
    go_enter Tryd.func3, Tryd.ntmps3
    go_upto_region 3 with (first | (go_at_call 8; (with_reducible refine (dragomanlaw14_alive.calls k  true _ ?side1 A2.out).mono ?_); (case side1 => exact GL_below hG (by repeat (first | (with_reducible first | exact HB.out | apply below_alloc | apply pw_below_drewN | apply below_drew1) | exact HB.out))); rintro e w5 ⟨rfl, hb⟩; have n0_ := Aside0.mk (below_step (by repeat (first | (with_reducible first | exact HB.out | apply below_alloc | apply pw_below_drewN | apply below_drew1) | exact HB.out)) hb); clear HB; have HB := n0_; clear n0_; (try clear hb); (try clear hb2); (try clear hk); (try clear hi)))
    repeat (go_quiet (first | (go_at_call 8; (with_reducible refine (dragomanlaw14_alive.calls k  true _ ?side1 A2.out).mono ?_); (case side1 => exact GL_below hG (by repeat (first | (with_reducible first | exact HB.out | apply below_alloc | apply pw_below_drewN | apply below_drew1) | exact HB.out))); rintro e w5 ⟨rfl, hb⟩; have n0_ := Aside0.mk (below_step (by repeat (first | (with_reducible first | exact HB.out | apply below_alloc | apply pw_below_drewN | apply below_drew1) | exact HB.out)) hb); clear HB; have HB := n0_; clear n0_; (try clear hb); (try clear hb2); (try clear hk); (try clear hi))); go_upto_region 3 with (first | (go_at_call 8; (with_reducible refine (dragomanlaw14_alive.calls k  true _ ?side1 A2.out).mono ?_); (case side1 => exact GL_below hG (by repeat (first | (with_reducible first | exact HB.out | apply below_alloc | apply pw_below_drewN | apply below_drew1) | exact HB.out))); rintro e w5 ⟨rfl, hb⟩; have n0_ := Aside0.mk (below_step (by repeat (first | (with_reducible first | exact HB.out | apply below_alloc | apply pw_below_drewN | apply below_drew1) | exact HB.out)) hb); clear HB; have HB := n0_; clear n0_; (try clear hb); (try clear hb2); (try clear hk); (try clear hi))))
    (try simp only [Act.put, List.setIfInBounds_toArray, List.set_cons_zero, List.set_cons_succ])
    go_cut [17] (fun v17 wc => ∃ (kq : Nat) (x17_3 : Bool), v17 = .bool x17_3 ∧ Aside0 (dragomanlaw14_LexLines.j0 kq a0 x17_3 = some r) ∧ Aside0 (kq ≤ k) ∧ Aside0 (Below w.heap.size w wc))
    case first =>
      have H := HC4.out
      clear HC4
      by_cases c6 : (a0.size : Int) > 3000
      · rw [if_pos c6] at H
        have c6b0 : decide (3000 < (a0.size : Int)) = true := decide_eq_true c6
        have c6b1 : decide (3000 < a0.size) = true := decide_eq_true (by omega)
        clear c6
        (first | rw [c6b0] | (simp only [i64_w, i32_w]; rw [c6b0]) | rw [c6b1] | skip)
        have H' := Aside0.mk H
        clear H
        go_wp2
        repeat (go_quiet (fail); try go_wp2)
        go_meet
        case rel => exact ⟨_, (decide ((a0.size : Int) ≤ 65536)), (by first | rfl | (simp; done) | (simp [*]; done)), H', ⟨by first | omega | exact Nat.le_refl _⟩, ⟨by repeat (first | (with_reducible first | exact HB.out | apply below_alloc | apply pw_below_drewN | apply below_drew1) | exact HB.out)⟩⟩
      · rw [if_neg c6] at H
        have c6b0 : decide (3000 < (a0.size : Int)) = false := decide_eq_false c6
        have c6b1 : decide (3000 < a0.size) = false := decide_eq_false (by omega)
        clear c6
        (first | rw [c6b0] | (simp only [i64_w, i32_w]; rw [c6b0]) | rw [c6b1] | skip)
        have H' := Aside0.mk H
        clear H
        go_wp2
        repeat (go_quiet (fail); try go_wp2)
        go_meet
        case rel => exact ⟨_, (false), (by first | rfl | (simp; done) | (simp [*]; done)), H', ⟨by first | omega | exact Nat.le_refl _⟩, ⟨by repeat (first | (with_reducible first | exact HB.out | apply below_alloc | apply pw_below_drewN | apply below_drew1) | exact HB.out)⟩⟩
    case rest =>
      clear HC4
      try clear p2
      try clear c3
      try clear c6
      try clear c6b0
      try clear c6b1
      obtain ⟨kq, x17_3, rfl, HA, HJ3, HB⟩ := hcut
      cases kq with
      | zero => exact absurd HA.out (by simp [dragomanlaw14_LexLines.j0])
      | succ kj3 =>
        have H := HA.out
        clear HA
        simp only [dragomanlaw14_LexLines.j0] at H
        by_cases c7 : x17_3 = true
        · subst c7
          have H1 : (some true) = some r := by rw [if_pos rfl] at H; exact H
          clear H
          have H := H1
          clear H1
          obtain rfl := Option.some.inj H
          go_wp2
          repeat (go_quiet (fail); try go_wp2)
          first | go_ret | refine ⟨_, results_tmp rfl _ _ _, ?_⟩
          exact ⟨by first | rfl | (simp [errW_none, errW_some] <;> rfl) | (simp [*, errW_none, errW_some] <;> rfl), by repeat (first | (with_reducible first | exact HB.out | apply below_alloc | apply pw_below_drewN | apply below_drew1) | exact HB.out)⟩
        · replace c7 := Bool.eq_false_iff.mpr c7
          subst c7
          have H1 : ((lex_Lines.f kj3 a0).bind fun bt203 => ((dragomanref14_Lines.f kj3 a0).bind fun bt207 => (if bt203.2 = bt207.2 then (dragomanlaw14_LexLines.j1 kj3 bt203.1 bt207.1 ((bt203.1.length : Int) != (bt207.1.length : Int))) else (dragomanlaw14_LexLines.j1 kj3 bt203.1 bt207.1 true)))) = some r := by rw [if_neg (show ¬ (false = true) by decide)] at H; exact H
          clear H
          have H := H1
          clear H1
          replace H := Option.bind_eq_some_iff.mp H
          obtain ⟨⟨t203, t204⟩, A80, H⟩ := H
          replace H : ((dragomanref14_Lines.f kj3 a0).bind fun bt207 => (if t204 = bt207.2 then (dragomanlaw14_LexLines.j1 kj3 t203 bt207.1 ((t203.length : Int) != (bt207.1.length : Int))) else (dragomanlaw14_LexLines.j1 kj3 t203 bt207.1 true))) = some r := H
          have A8 := Aside0.mk A80
          clear A80
          replace H := Option.bind_eq_some_iff.mp H
          obtain ⟨⟨t207, t208⟩, A90, H⟩ := H
          replace H : (if t204 = t208 then (dragomanlaw14_LexLines.j1 kj3 t203 t207 ((t203.length : Int) != (t207.length : Int))) else (dragomanlaw14_LexLines.j1 kj3 t203 t207 true)) = some r := H
          have A9 := Aside0.mk A90
          clear A90
          have HC10 := Aside0.mk H
          clear H
          go_upto_region 7 with (first | (go_at_call 9; (with_reducible refine (lex_Lines.calls kj3 a0 t203 t204 _ ?side1 A8.out).mono ?_); (case side1 => exact GL_below hG (by repeat (first | (with_reducible first | exact HB.out | apply below_alloc | apply pw_below_drewN | apply below_drew1) | exact HB.out))); rintro e w11 ⟨v205, rfl, ho0, hb⟩; have n0_ := Aside0.mk (Kd.S_lower ho0 (below_size (by repeat (first | (with_reducible first | exact HB.out | apply below_alloc | apply pw_below_drewN | apply below_drew1) | exact HB.out)))); have n1_ := Aside0.mk (below_step (by repeat (first | (with_reducible first | exact HB.out | apply below_alloc | apply pw_below_drewN | apply below_drew1) | exact HB.out)) hb); clear HB; have HO206 := n0_; have HB := n1_; clear n0_ n1_; (try clear hb); (try clear hb2); (try clear hk); (try clear hi); (try clear ho0)) | (go_at_call 10; (with_reducible refine (dragomanref14_Lines.calls kj3 a0 t207 t208 _ A9.out).mono ?_); rintro e w12 ⟨v209, rfl, ho0, hb⟩; have n0_ := Aside0.mk (Kd.S_elder' (by (with_reducible repeat (first | apply Kd.S_alloc | apply Kd.S_drewN | apply Kd.S_drew)); exact HO206.out) (Kd.S_base ho0) hb); have n1_ := Aside0.mk (Kd.S_lower (Kd.S_new' ho0 (Kd.S_lt (by (with_reducible repeat (first | apply Kd.S_alloc | apply Kd.S_drewN | apply Kd.S_drew)); exact HO206.out))) (below_size (by repeat (first | (with_reducible first | exact HB.out | apply below_alloc | apply pw_below_drewN | apply below_drew1) | exact HB.out)))); have n2_ := Aside0.mk (below_step (by repeat (first | (with_reducible first | exact HB.out | apply below_alloc | apply pw_below_drewN | apply below_drew1) | exact HB.out)) hb); clear HO206; clear HB; have HO206 := n0_; have HO210 := n1_; have HB := n2_; clear n0_ n1_ n2_; (try clear hb); (try clear hb2); (try clear hk); (try clear hi); (try clear ho0)))
          repeat (go_quiet (first | (go_at_call 9; (with_reducible refine (lex_Lines.calls kj3 a0 t203 t204 _ ?side1 A8.out).mono ?_); (case side1 => exact GL_below hG (by repeat (first | (with_reducible first | exact HB.out | apply below_alloc | apply pw_below_drewN | apply below_drew1) | exact HB.out))); rintro e w11 ⟨v205, rfl, ho0, hb⟩; have n0_ := Aside0.mk (Kd.S_lower ho0 (below_size (by repeat (first | (with_reducible first | exact HB.out | apply below_alloc | apply pw_below_drewN | apply below_drew1) | exact HB.out)))); have n1_ := Aside0.mk (below_step (by repeat (first | (with_reducible first | exact HB.out | apply below_alloc | apply pw_below_drewN | apply below_drew1) | exact HB.out)) hb); clear HB; have HO206 := n0_; have HB := n1_; clear n0_ n1_; (try clear hb); (try clear hb2); (try clear hk); (try clear hi); (try clear ho0)) | (go_at_call 10; (with_reducible refine (dragomanref14_Lines.calls kj3 a0 t207 t208 _ A9.out).mono ?_); rintro e w12 ⟨v209, rfl, ho0, hb⟩; have n0_ := Aside0.mk (Kd.S_elder' (by (with_reducible repeat (first | apply Kd.S_alloc | apply Kd.S_drewN | apply Kd.S_drew)); exact HO206.out) (Kd.S_base ho0) hb); have n1_ := Aside0.mk (Kd.S_lower (Kd.S_new' ho0 (Kd.S_lt (by (with_reducible repeat (first | apply Kd.S_alloc | apply Kd.S_drewN | apply Kd.S_drew)); exact HO206.out))) (below_size (by repeat (first | (with_reducible first | exact HB.out | apply below_alloc | apply pw_below_drewN | apply below_drew1) | exact HB.out)))); have n2_ := Aside0.mk (below_step (by repeat (first | (with_reducible first | exact HB.out | apply below_alloc | apply pw_below_drewN | apply below_drew1) | exact HB.out)) hb); clear HO206; clear HB; have HO206 := n0_; have HO210 := n1_; have HB := n2_; clear n0_ n1_ n2_; (try clear hb); (try clear hb2); (try clear hk); (try clear hi); (try clear ho0))); go_upto_region 7 with (first | (go_at_call 9; (with_reducible refine (lex_Lines.calls kj3 a0 t203 t204 _ ?side1 A8.out).mono ?_); (case side1 => exact GL_below hG (by repeat (first | (with_reducible first | exact HB.out | apply below_alloc | apply pw_below_drewN | apply below_drew1) | exact HB.out))); rintro e w11 ⟨v205, rfl, ho0, hb⟩; have n0_ := Aside0.mk (Kd.S_lower ho0 (below_size (by repeat (first | (with_reducible first | exact HB.out | apply below_alloc | apply pw_below_drewN | apply below_drew1) | exact HB.out)))); have n1_ := Aside0.mk (below_step (by repeat (first | (with_reducible first | exact HB.out | apply below_alloc | apply pw_below_drewN | apply below_drew1) | exact HB.out)) hb); clear HB; have HO206 := n0_; have HB := n1_; clear n0_ n1_; (try clear hb); (try clear hb2); (try clear hk); (try clear hi); (try clear ho0)) | (go_at_call 10; (with_reducible refine (dragomanref14_Lines.calls kj3 a0 t207 t208 _ A9.out).mono ?_); rintro e w12 ⟨v209, rfl, ho0, hb⟩; have n0_ := Aside0.mk (Kd.S_elder' (by (with_reducible repeat (first | apply Kd.S_alloc | apply Kd.S_drewN | apply Kd.S_drew)); exact HO206.out) (Kd.S_base ho0) hb); have n1_ := Aside0.mk (Kd.S_lower (Kd.S_new' ho0 (Kd.S_lt (by (with_reducible repeat (first | apply Kd.S_alloc | apply Kd.S_drewN | apply Kd.S_drew)); exact HO206.out))) (below_size (by repeat (first | (with_reducible first | exact HB.out | apply below_alloc | apply pw_below_drewN | apply below_drew1) | exact HB.out)))); have n2_ := Aside0.mk (below_step (by repeat (first | (with_reducible first | exact HB.out | apply below_alloc | apply pw_below_drewN | apply below_drew1) | exact HB.out)) hb); clear HO206; clear HB; have HO206 := n0_; have HO210 := n1_; have HB := n2_; clear n0_ n1_ n2_; (try clear hb); (try clear hb2); (try clear hk); (try clear hi); (try clear ho0))))
          (try simp only [Act.put, List.setIfInBounds_toArray, List.set_cons_zero, List.set_cons_succ])
          go_cut [37] (fun v37 wc => ∃ (kq : Nat) (x37_9 : Bool), v37 = .bool x37_9 ∧ Aside0 (dragomanlaw14_LexLines.j1 kq t203 t207 x37_9 = some r) ∧ Aside0 (kq ≤ kj3) ∧ Aside0 (Kd.S (Kd.slice 9 Kd.string) 30 wc w.heap.size (fun k_ => some k_ ≠ (v209 : Value).ownBlock) v205 t203) ∧ Aside0 (Kd.S (Kd.slice 9 Kd.string) 30 wc w.heap.size (fun k_ => some k_ ≠ (v205 : Value).ownBlock) v209 t207) ∧ Aside0 (Below w.heap.size w wc))
          case first =>
            have H := HC10.out
            clear HC10
            by_cases c13 : t204 = t208
            · rw [if_pos c13] at H
              have c13b0 : (t204 == t208) = true := beq_iff_eq.mpr c13
              have c13b1 : (t204 != t208) = false := bne_eq_false_iff_eq.mpr c13
              clear c13
              (first | rw [c13b0] | (simp only [i64_w, i32_w]; rw [c13b0]) | rw [c13b1] | skip)
              have H' := Aside0.mk H
              clear H
              obtain ⟨Ao14, co14, eo14⟩ := Kd.S_slice HO206.out
              subst eo14
              obtain ⟨Ao15, co15, eo15⟩ := Kd.S_slice HO210.out
              subst eo15
              go_wp2
              repeat (go_quiet (fail); try go_wp2)
              go_meet
              case rel => exact ⟨_, (((t203.length : Int) != (t207.length : Int))), (by first | rfl | (simp; done) | (simp [*]; done)), H', ⟨by have := HJ3.out; first | omega | exact Nat.le_refl _⟩, ⟨by (with_reducible repeat (first | apply Kd.S_alloc | apply Kd.S_drewN | apply Kd.S_drew)); exact Kd.S_mono HO206.out (fun _ hk => hk.2)⟩, ⟨by (with_reducible repeat (first | apply Kd.S_alloc | apply Kd.S_drewN | apply Kd.S_drew)); exact Kd.S_mono HO210.out (fun _ hk => hk.2)⟩, ⟨by repeat (first | (with_reducible first | exact HB.out | apply below_alloc | apply pw_below_drewN | apply below_drew1) | exact HB.out)⟩⟩
            · rw [if_neg c13] at H
              have c13b0 : (t204 == t208) = false := beq_eq_false_iff_ne.mpr c13
              have c13b1 : (t204 != t208) = true := bne_iff_ne.mpr c13
              (first | rw [c13b0] | (simp only [i64_w, i32_w]; rw [c13b0]) | rw [c13b1] | skip)
              have H' := Aside0.mk H
              clear H
              go_wp2
              repeat (go_quiet (fail); try go_wp2)
              go_meet
              case rel => exact ⟨_, (true), (by first | rfl | (simp; done) | (simp [*]; done)), H', ⟨by have := HJ3.out; first | omega | exact Nat.le_refl _⟩, ⟨by (with_reducible repeat (first | apply Kd.S_alloc | apply Kd.S_drewN | apply Kd.S_drew)); exact Kd.S_mono HO206.out (fun _ hk => hk.2)⟩, ⟨by (with_reducible repeat (first | apply Kd.S_alloc | apply Kd.S_drewN | apply Kd.S_drew)); exact Kd.S_mono HO210.out (fun _ hk => hk.2)⟩, ⟨by repeat (first | (with_reducible first | exact HB.out | apply below_alloc | apply pw_below_drewN | apply below_drew1) | exact HB.out)⟩⟩
          case rest =>
            clear HC10
            try clear c1
            try clear p2
            try clear c3
            try clear c6
            try clear c6b0
            try clear c6b1
            try clear c7
            try clear c13
            try clear c13b0
            try clear c13b1
            try clear p2
            obtain ⟨kq, x37_9, rfl, HA, HJ9, HO_3, HO_5, HB⟩ := hcut
            cases kq with
            | zero => exact absurd HA.out (by simp [dragomanlaw14_LexLines.j1])
            | succ kj9 =>
              have H := HA.out
              clear HA
              simp only [dragomanlaw14_LexLines.j1] at H
              by_cases c16 : x37_9 = true
              · subst c16
                have H1 : (none) = some r := by rw [if_pos rfl] at H; exact H
                clear H
                have H := H1
                clear H1
                exact absurd H (by simp)
              · replace c16 := Bool.eq_false_iff.mpr c16
                subst c16
                have H1 : (dragomanlaw14_LexLines.l0 kj9 t203 t207 (t203.length : Int) 0) = some r := by rw [if_neg (show ¬ (false = true) by decide)] at H; exact H
                clear H
                have H := H1
                clear H1
                have H' := Aside0.mk H
                clear H
                obtain ⟨Ao17, co17, eo17⟩ := Kd.S_slice HO_3.out
                subst eo17
                go_wp2
                repeat (go_quiet (fail); try go_wp2)
                go_loopg [40] kj9 (fun kq v40 w' => ∃ (x40_3 : Int), v40 = .int .i64 x40_3 ∧ Aside0 (dragomanlaw14_LexLines.l0 kq t203 t207 (t203.length : Int) x40_3 = some r) ∧ Aside0 (kq ≤ kj9) ∧ Aside0 (Kd.S (Kd.slice 9 Kd.string) 30 w' w.heap.size (fun k_ => some k_ ≠ (v209 : Value).ownBlock) (.slice Ao17 t203.length co17) t203) ∧ Aside0 (Kd.S (Kd.slice 9 Kd.string) 30 w' w.heap.size (fun k_ => some k_ ≠ ((.slice Ao17 t203.length co17) : Value).ownBlock) v209 t207) ∧ Aside0 (Below w.heap.size w w'))
                case atStart => exact ⟨(0), (by first | rfl | (simp; done) | (simp [*]; done)), H', ⟨Nat.le_refl _⟩, ⟨by (with_reducible repeat (first | apply Kd.S_alloc | apply Kd.S_drewN | apply Kd.S_drew)); exact HO_3.out⟩, ⟨by (with_reducible repeat (first | apply Kd.S_alloc | apply Kd.S_drewN | apply Kd.S_drew)); exact HO_5.out⟩, ⟨by repeat (first | (with_reducible first | exact HB.out | apply below_alloc | apply pw_below_drewN | apply below_drew1) | exact HB.out)⟩⟩
                case round =>
                  clear H'
                  try clear c1
                  try clear p2
                  try clear c3
                  try clear c6
                  try clear c6b0
                  try clear c6b1
                  try clear c7
                  try clear c13
                  try clear c13b0
                  try clear c13b1
                  try clear c16
                  try clear p2
                  obtain ⟨x40_3, rfl, HA, HK3, HO_3, HO_5, HB⟩ := hrel
                  cases gk with
                  | zero => exact absurd HA.out (by simp [dragomanlaw14_LexLines.l0])
                  | succ k3 =>
                    have H := HA.out
                    clear HA
                    simp only [dragomanlaw14_LexLines.l0] at H
                    by_cases c18 : x40_3 < (t203.length : Int)
                    · rw [if_pos c18] at H
                      have c18b0 : decide (x40_3 < (t203.length : Int)) = true := decide_eq_true c18
                      clear c18
                      by_cases c19 : 0 ≤ x40_3
                      · rw [if_pos c19] at H
                        have c19b0 : decide (0 ≤ x40_3) = true := decide_eq_true c19
                        clear c19
                        by_cases c20 : x40_3 < (t203.length : Int)
                        · rw [if_pos c20] at H
                          have c20b0 : decide (x40_3 < (t203.length : Int)) = true := decide_eq_true c20
                          clear c20
                          by_cases c21 : x40_3 < (t207.length : Int)
                          · rw [if_pos c21] at H
                            have c21b0 : decide (x40_3 < (t207.length : Int)) = true := decide_eq_true c21
                            clear c21
                            replace H := Option.bind_eq_some_iff.mp H
                            obtain ⟨t213, A220, H⟩ := H
                            replace H : (if t213 = true then (dragomanlaw14_LexLines.l0 k3 t203 t207 (t203.length : Int) (wrap64 (x40_3 + 1))) else (none)) = some r := H
                            have A22 := Aside0.mk A220
                            clear A220
                            by_cases c23 : t213 = true
                            · subst c23
                              have H1 : (dragomanlaw14_LexLines.l0 k3 t203 t207 (t203.length : Int) (wrap64 (x40_3 + 1))) = some r := by rw [if_pos rfl] at H; exact H
                              clear H
                              have H := H1
                              clear H1
                              have H' := Aside0.mk H
                              clear H
                              have p211 : 0 ≤ (x40_3 : Int) := of_decide_eq_true (by first | (with_reducible assumption) | assumption)
                              have q211 : x40_3 < (t203.length : Int) := of_decide_eq_true (by first | (with_reducible assumption) | assumption)
                              obtain ⟨ad211, A211_0, c211_0, e211, hx211_0, hl211_0, hi211_0⟩ := at_L1 (Kd.S_reads' HO_3.out).2.2 x40_3 p211 q211
                              cases e211
                              obtain ⟨ce211, hce211, hMe211, hcc211⟩ := Kd.S_get HO_3.out [] x40_3 p211 (by first | exact q211 | exact of_decide_eq_true (by first | (with_reducible assumption) | assumption) | (have e_ := (Kd.S_reads' HO_3.out).1; omega))
                              obtain ⟨ve211_0, rfl, ge211_0⟩ := hMe211
                              have hv211_0 := hcc211 0 _ rfl
                              rw [Nat.add_zero, show ((Kd.slice 9 Kd.string)).sz = 1 from rfl, Nat.mul_one] at hv211_0
                              replace hv211_0 := Option.some.inj (hv211_0.symm.trans hx211_0)
                              rw [hv211_0] at ge211_0
                              have HL211_0 := Aside0.mk (show Kd.R Kd.string 9 _ _ _ _ (rd_L1 t203 x40_3) from ge211_0)
                              clear hv211_0 ge211_0
                              clear hcc211 hce211
                              have HR211_0 := Aside0.mk hi211_0
                              have HC211_0 := Aside0.mk hl211_0
                              clear hi211_0 hl211_0
                              replace p211 := eq_true p211
                              replace q211 := eq_true q211
                              obtain ⟨Ao24, co24, eo24⟩ := Kd.S_slice HO_5.out
                              subst eo24
                              have p212 : 0 ≤ (x40_3 : Int) := of_decide_eq_true (by first | (with_reducible assumption) | assumption)
                              have q212 : x40_3 < (t207.length : Int) := of_decide_eq_true (by first | (with_reducible assumption) | assumption)
                              obtain ⟨ad212, A212_0, c212_0, e212, hx212_0, hl212_0, hi212_0⟩ := at_L1 (Kd.S_reads' HO_5.out).2.2 x40_3 p212 q212
                              cases e212
                              obtain ⟨ce212, hce212, hMe212, hcc212⟩ := Kd.S_get HO_5.out [] x40_3 p212 (by first | exact q212 | exact of_decide_eq_true (by first | (with_reducible assumption) | assumption) | (have e_ := (Kd.S_reads' HO_5.out).1; omega))
                              obtain ⟨ve212_0, rfl, ge212_0⟩ := hMe212
                              have hv212_0 := hcc212 0 _ rfl
                              rw [Nat.add_zero, show ((Kd.slice 9 Kd.string)).sz = 1 from rfl, Nat.mul_one] at hv212_0
                              replace hv212_0 := Option.some.inj (hv212_0.symm.trans hx212_0)
                              rw [hv212_0] at ge212_0
                              have HL212_0 := Aside0.mk (show Kd.R Kd.string 9 _ _ _ _ (rd_L1 t207 x40_3) from ge212_0)
                              clear hv212_0 ge212_0
                              clear hcc212 hce212
                              have HR212_0 := Aside0.mk hi212_0
                              have HC212_0 := Aside0.mk hl212_0
                              clear hi212_0 hl212_0
                              replace p212 := eq_true p212
                              replace q212 := eq_true q212
                              go_wp2_with (first | (go_at_call 11; (with_reducible refine (dragomanref14_Strings.calls k3 _ _ (rd_L1 t203 x40_3) _ _ (rd_L1 t207 x40_3) true _ ?side1 ?side2 ?side3 ?side4 A22.out).mono ?_); (case side1 => repeat (first | exact (by repeat (first | (with_reducible exact HR211_0.out) | (with_reducible refine Kd.C_alloc ?_ _) | (with_reducible refine Kd.C_drewN ?_ _) | (with_reducible refine Kd.C_drew ?_) | exact HR211_0.out)) | (with_reducible refine Kd.C_alloc ?_ _) | (with_reducible refine Kd.C_drewN ?_ _) | (with_reducible refine Kd.C_drew ?_))); (case side2 => exact HC211_0.out); (case side3 => repeat (first | exact (by repeat (first | (with_reducible exact HR212_0.out) | (with_reducible refine Kd.C_alloc ?_ _) | (with_reducible refine Kd.C_drewN ?_ _) | (with_reducible refine Kd.C_drew ?_) | exact HR212_0.out)) | (with_reducible refine Kd.C_alloc ?_ _) | (with_reducible refine Kd.C_drewN ?_ _) | (with_reducible refine Kd.C_drew ?_))); (case side4 => exact HC212_0.out); rintro e w' ⟨rfl, ⟨nd, rfl⟩⟩; (try first | exact ⟨rfl, _, World.drewN_drewN _ _ _⟩ | exact ⟨rfl, _, Eq.trans (World.drewN_drewN _ _ _) (congrArg (World.drewN _) (Nat.add_assoc _ _ _))⟩)))
                              repeat (go_quiet (first | (go_at_call 11; (with_reducible refine (dragomanref14_Strings.calls k3 _ _ (rd_L1 t203 x40_3) _ _ (rd_L1 t207 x40_3) true _ ?side1 ?side2 ?side3 ?side4 A22.out).mono ?_); (case side1 => repeat (first | exact (by repeat (first | (with_reducible exact HR211_0.out) | (with_reducible refine Kd.C_alloc ?_ _) | (with_reducible refine Kd.C_drewN ?_ _) | (with_reducible refine Kd.C_drew ?_) | exact HR211_0.out)) | (with_reducible refine Kd.C_alloc ?_ _) | (with_reducible refine Kd.C_drewN ?_ _) | (with_reducible refine Kd.C_drew ?_))); (case side2 => exact HC211_0.out); (case side3 => repeat (first | exact (by repeat (first | (with_reducible exact HR212_0.out) | (with_reducible refine Kd.C_alloc ?_ _) | (with_reducible refine Kd.C_drewN ?_ _) | (with_reducible refine Kd.C_drew ?_) | exact HR212_0.out)) | (with_reducible refine Kd.C_alloc ?_ _) | (with_reducible refine Kd.C_drewN ?_ _) | (with_reducible refine Kd.C_drew ?_))); (case side4 => exact HC212_0.out); rintro e w' ⟨rfl, ⟨nd, rfl⟩⟩; (try first | exact ⟨rfl, _, World.drewN_drewN _ _ _⟩ | exact ⟨rfl, _, Eq.trans (World.drewN_drewN _ _ _) (congrArg (World.drewN _) (Nat.add_assoc _ _ _))⟩))); try go_wp2_with (first | (go_at_call 11; (with_reducible refine (dragomanref14_Strings.calls k3 _ _ (rd_L1 t203 x40_3) _ _ (rd_L1 t207 x40_3) true _ ?side1 ?side2 ?side3 ?side4 A22.out).mono ?_); (case side1 => repeat (first | exact (by repeat (first | (with_reducible exact HR211_0.out) | (with_reducible refine Kd.C_alloc ?_ _) | (with_reducible refine Kd.C_drewN ?_ _) | (with_reducible refine Kd.C_drew ?_) | exact HR211_0.out)) | (with_reducible refine Kd.C_alloc ?_ _) | (with_reducible refine Kd.C_drewN ?_ _) | (with_reducible refine Kd.C_drew ?_))); (case side2 => exact HC211_0.out); (case side3 => repeat (first | exact (by repeat (first | (with_reducible exact HR212_0.out) | (with_reducible refine Kd.C_alloc ?_ _) | (with_reducible refine Kd.C_drewN ?_ _) | (with_reducible refine Kd.C_drew ?_) | exact HR212_0.out)) | (with_reducible refine Kd.C_alloc ?_ _) | (with_reducible refine Kd.C_drewN ?_ _) | (with_reducible refine Kd.C_drew ?_))); (case side4 => exact HC212_0.out); rintro e w' ⟨rfl, ⟨nd, rfl⟩⟩; (try first | exact ⟨rfl, _, World.drewN_drewN _ _ _⟩ | exact ⟨rfl, _, Eq.trans (World.drewN_drewN _ _ _) (congrArg (World.drewN _) (Nat.add_assoc _ _ _))⟩))))
                              go_roundg k3
                              case measure => have := HJ3.out; have := HJ9.out; have := HK3.out; omega
                              case rel => exact ⟨(wrap64 (x40_3 + 1)), (by first | rfl | (simp; done) | (simp [*]; done)), H', ⟨by have := HJ3.out; have := HJ9.out; have := HK3.out; omega⟩, ⟨by (with_reducible repeat (first | apply Kd.S_alloc | apply Kd.S_drewN | apply Kd.S_drew)); exact HO_3.out⟩, ⟨by (with_reducible repeat (first | apply Kd.S_alloc | apply Kd.S_drewN | apply Kd.S_drew)); exact HO_5.out⟩, ⟨by repeat (first | (with_reducible first | exact HB.out | apply below_alloc | apply pw_below_drewN | apply below_drew1) | exact HB.out)⟩⟩
                            · replace c23 := Bool.eq_false_iff.mpr c23
                              subst c23
                              have H1 : (none) = some r := by rw [if_neg (show ¬ (false = true) by decide)] at H; exact H
                              clear H
                              have H := H1
                              clear H1
                              exact absurd H (by simp)
                          · rw [if_neg c21] at H
                            exact absurd H (by simp)
                        · rw [if_neg c20] at H
                          exact absurd H (by simp)
                      · rw [if_neg c19] at H
                        exact absurd H (by simp)
                    · rw [if_neg c18] at H
                      have c18b0 : decide (x40_3 < (t203.length : Int)) = false := decide_eq_false c18
                      clear c18
                      obtain rfl := Option.some.inj H
                      go_wp2
                      repeat (go_quiet (fail); try go_wp2)
                      first | go_ret | refine ⟨_, results_tmp rfl _ _ _, ?_⟩
                      exact ⟨by first | rfl | (simp [errW_none, errW_some] <;> rfl) | (simp [*, errW_none, errW_some] <;> rfl), by repeat (first | (with_reducible first | exact HB.out | apply below_alloc | apply pw_below_drewN | apply below_drew1) | exact HB.out)⟩
  · replace c3 := Bool.eq_false_iff.mpr c3
    subst c3
    have H1 : (none) = some r := by rw [if_neg (show ¬ (false = true) by decide)] at H; exact H
    clear H
    have H := H1
    clear H1
    exact absurd H (by simp)
end Go.Proofs.YtdnneofebehpaaaDoor.L
