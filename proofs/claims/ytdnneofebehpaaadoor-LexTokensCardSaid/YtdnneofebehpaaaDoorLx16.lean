import Derived.Test.YtdnneofebehpaaaDoorLx0
import Derived.Test.YtdnneofebehpaaaDoorLx1
import Derived.Test.YtdnneofebehpaaaDoorLx2
import Derived.Test.YtdnneofebehpaaaDoorLx7
import Derived.Test.YtdnneofebehpaaaDoorLx10
import Derived.Test.YtdnneofebehpaaaDoorLx15
namespace Go.Proofs.YtdnneofebehpaaaDoor.L
open Go.RowKit Go.Proofs.YtdnneofebehpaaaDoorW.PrintWords Go.Proofs.YtdnneofebehpaaaDoorW.PrintLast Go.Proofs.YtdnneofebehpaaaDoorW.PrintMore
attribute [local go_sem] max2_int min2_int max_two min_two max_three min_three max_four min_four
set_option linter.unusedVariables false
set_option linter.unusedSimpArgs false
attribute [local go_sem high] eqA39 eqA40
mutual
def dragomanlaw14_LexTokens.j0 : Nat → ByteArray → Bool → Option (Bool)
  | 0, _, _ => none
  | k + 1, x0, x17 => if x17 = true then (some true) else ((lex_Tokens.f k x0).bind fun bt236 => ((dragomanref14_Tokens.f k x0).bind fun bt240 => (if bt236.2 = bt240.2 then (dragomanlaw14_LexTokens.j1 k bt236.1 bt240.1 ((bt236.1.length : Int) != (bt240.1.length : Int))) else (dragomanlaw14_LexTokens.j1 k bt236.1 bt240.1 true))))
def dragomanlaw14_LexTokens.j1 : Nat → List (S40) → List (S39) → Bool → Option (Bool)
  | 0, _, _, _ => none
  | k + 1, x3, x5, x37 => if x37 = true then (none) else (dragomanlaw14_LexTokens.l0 k x3 x5 (x3.length : Int) 0)
def dragomanlaw14_LexTokens.l0 : Nat → List (S40) → List (S39) → Int → Int → Option (Bool)
  | 0, _, _, _, _ => none
  | k + 1, x3, x5, x39, x40 => if x40 < x39 then (if 0 ≤ x40 then (if x40 < (x3.length : Int) then (if x40 < (x5.length : Int) then (if (!(((rd_T40 x3 x40).f0) == ((rd_T39 x5 x40).f0)) || (!((((rd_T40 x3 x40).f1).toList) == (((rd_T39 x5 x40).f1).toList)))) = true then (none) else (dragomanlaw14_LexTokens.l0 k x3 x5 x39 (wrap64 (x40 + 1)))) else (none)) else (none)) else (none)) else (some true)
end
def dragomanlaw14_LexTokens.f (k : Nat) (a0 : ByteArray) : Option (Bool) := (dragomanlaw14_alive.f k).bind fun t235 => (if t235 = true then (if (a0.size : Int) > 3000 then (dragomanlaw14_LexTokens.j0 k a0 (decide ((a0.size : Int) ≤ 65536))) else (dragomanlaw14_LexTokens.j0 k a0 false)) else (none))
theorem dragomanlaw14_LexTokens.mono_l : ∀ k, (∀ y0 y1, LeO (dragomanlaw14_LexTokens.j0 k y0 y1) (dragomanlaw14_LexTokens.j0 (k + 1) y0 y1)) ∧ (∀ y0 y1 y2, LeO (dragomanlaw14_LexTokens.j1 k y0 y1 y2) (dragomanlaw14_LexTokens.j1 (k + 1) y0 y1 y2)) ∧ (∀ y0 y1 y2 y3, LeO (dragomanlaw14_LexTokens.l0 k y0 y1 y2 y3) (dragomanlaw14_LexTokens.l0 (k + 1) y0 y1 y2 y3))
  | 0 => ⟨fun _ _ r h => by simp [dragomanlaw14_LexTokens.j0] at h, fun _ _ _ r h => by simp [dragomanlaw14_LexTokens.j1] at h, fun _ _ _ _ r h => by simp [dragomanlaw14_LexTokens.l0] at h⟩
  | k + 1 => by
    obtain ⟨ih0, ih1, ih2⟩ := dragomanlaw14_LexTokens.mono_l k
    refine ⟨?_, ?_, ?_⟩
    · intro y0 y1
      unfold dragomanlaw14_LexTokens.j0
      repeat' first
      | (with_reducible exact ih0 _ _)
      | (with_reducible exact ih1 _ _ _)
      | (with_reducible exact ih2 _ _ _ _)
      | (with_reducible exact dragomanlaw14_alive.mono _)
      | (with_reducible exact dragomanref14_Tokens.mono _ _)
      | (with_reducible exact lex_Tokens.mono _ _)
      | (with_reducible exact LeO.refl _)
      | (with_reducible exact LeO.none _)
      | (with_reducible refine LeO.ite ?_ ?_)
      | (with_reducible refine LeO.bind ?_ (fun _ => ?_))
      | exact ih0 _ _
      | exact ih1 _ _ _
      | exact ih2 _ _ _ _
      | exact dragomanlaw14_alive.mono _
      | exact dragomanref14_Tokens.mono _ _
      | exact lex_Tokens.mono _ _
      | exact LeO.none _
      | refine LeO.ite ?_ ?_
      | refine LeO.bind ?_ (fun _ => ?_)
    · intro y0 y1 y2
      unfold dragomanlaw14_LexTokens.j1
      repeat' first
      | (with_reducible exact ih0 _ _)
      | (with_reducible exact ih1 _ _ _)
      | (with_reducible exact ih2 _ _ _ _)
      | (with_reducible exact dragomanlaw14_alive.mono _)
      | (with_reducible exact dragomanref14_Tokens.mono _ _)
      | (with_reducible exact lex_Tokens.mono _ _)
      | (with_reducible exact LeO.refl _)
      | (with_reducible exact LeO.none _)
      | (with_reducible refine LeO.ite ?_ ?_)
      | (with_reducible refine LeO.bind ?_ (fun _ => ?_))
      | exact ih0 _ _
      | exact ih1 _ _ _
      | exact ih2 _ _ _ _
      | exact dragomanlaw14_alive.mono _
      | exact dragomanref14_Tokens.mono _ _
      | exact lex_Tokens.mono _ _
      | exact LeO.none _
      | refine LeO.ite ?_ ?_
      | refine LeO.bind ?_ (fun _ => ?_)
    · intro y0 y1 y2 y3
      unfold dragomanlaw14_LexTokens.l0
      repeat' first
      | (with_reducible exact ih0 _ _)
      | (with_reducible exact ih1 _ _ _)
      | (with_reducible exact ih2 _ _ _ _)
      | (with_reducible exact dragomanlaw14_alive.mono _)
      | (with_reducible exact dragomanref14_Tokens.mono _ _)
      | (with_reducible exact lex_Tokens.mono _ _)
      | (with_reducible exact LeO.refl _)
      | (with_reducible exact LeO.none _)
      | (with_reducible refine LeO.ite ?_ ?_)
      | (with_reducible refine LeO.bind ?_ (fun _ => ?_))
      | exact ih0 _ _
      | exact ih1 _ _ _
      | exact ih2 _ _ _ _
      | exact dragomanlaw14_alive.mono _
      | exact dragomanref14_Tokens.mono _ _
      | exact lex_Tokens.mono _ _
      | exact LeO.none _
      | refine LeO.ite ?_ ?_
      | refine LeO.bind ?_ (fun _ => ?_)
theorem dragomanlaw14_LexTokens.mono : ∀ a0 k, LeO (dragomanlaw14_LexTokens.f k a0) (dragomanlaw14_LexTokens.f (k + 1) a0) := by
  intro a0 k
  obtain ⟨ih0, ih1, ih2⟩ := dragomanlaw14_LexTokens.mono_l k
  unfold dragomanlaw14_LexTokens.f
  repeat' first
      | (with_reducible exact ih0 _ _)
      | (with_reducible exact ih1 _ _ _)
      | (with_reducible exact ih2 _ _ _ _)
      | (with_reducible exact dragomanlaw14_alive.mono _)
      | (with_reducible exact dragomanref14_Tokens.mono _ _)
      | (with_reducible exact lex_Tokens.mono _ _)
      | (with_reducible exact LeO.refl _)
      | (with_reducible exact LeO.none _)
      | (with_reducible refine LeO.ite ?_ ?_)
      | (with_reducible refine LeO.bind ?_ (fun _ => ?_))
      | exact ih0 _ _
      | exact ih1 _ _ _
      | exact ih2 _ _ _ _
      | exact dragomanlaw14_alive.mono _
      | exact dragomanref14_Tokens.mono _ _
      | exact lex_Tokens.mono _ _
      | exact LeO.none _
      | refine LeO.ite ?_ ?_
      | refine LeO.bind ?_ (fun _ => ?_)
set_option maxHeartbeats 8000000 in
set_option maxRecDepth 100000 in
theorem dragomanlaw14_LexTokens.calls (k : Nat) (a0 : ByteArray) (r : Bool) (w : World) (hG : GL w) (h : dragomanlaw14_LexTokens.f k a0 = some r) :
    Calls Tryd.prog 4 #[.string a0] w fun e w' => e = .returned (.bool r) ∧ Below w.heap.size w w' := by
  have hu40 := Tryd.underlying40
  have hu39 := Tryd.underlying39
  have HB := Aside0.mk (Below.refl w.heap.size w)
  have H : ((dragomanlaw14_alive.f k).bind fun t235 => (if t235 = true then (if (a0.size : Int) > 3000 then (dragomanlaw14_LexTokens.j0 k a0 (decide ((a0.size : Int) ≤ 65536))) else (dragomanlaw14_LexTokens.j0 k a0 false)) else (none))) = some r := h
  clear h
  replace H := Option.bind_eq_some_iff.mp H
  obtain ⟨t235, A20, H⟩ := H
  replace H : (if t235 = true then (if (a0.size : Int) > 3000 then (dragomanlaw14_LexTokens.j0 k a0 (decide ((a0.size : Int) ≤ 65536))) else (dragomanlaw14_LexTokens.j0 k a0 false)) else (none)) = some r := H
  have A2 := Aside0.mk A20
  clear A20
  by_cases c3 : t235 = true
  · subst c3
    have H1 : (if (a0.size : Int) > 3000 then (dragomanlaw14_LexTokens.j0 k a0 (decide ((a0.size : Int) ≤ 65536))) else (dragomanlaw14_LexTokens.j0 k a0 false)) = some r := by rw [if_pos rfl] at H; exact H
    clear H
    have H := H1
    clear H1
    have HC4 := Aside0.mk H
    clear H
    go_enter Tryd.func4, Tryd.ntmps4
    go_upto_region 3 with (first | (go_at_call 8; (with_reducible refine (dragomanlaw14_alive.calls k  true _ ?side1 A2.out).mono ?_); (case side1 => exact GL_below hG (by repeat (first | (with_reducible first | exact HB.out | apply below_alloc | apply pw_below_drewN | apply below_drew1) | exact HB.out))); rintro e w5 ⟨rfl, hb⟩; have n0_ := Aside0.mk (below_step (by repeat (first | (with_reducible first | exact HB.out | apply below_alloc | apply pw_below_drewN | apply below_drew1) | exact HB.out)) hb); clear HB; have HB := n0_; clear n0_; (try clear hb); (try clear hb2); (try clear hk); (try clear hi)))
    repeat (go_quiet (first | (go_at_call 8; (with_reducible refine (dragomanlaw14_alive.calls k  true _ ?side1 A2.out).mono ?_); (case side1 => exact GL_below hG (by repeat (first | (with_reducible first | exact HB.out | apply below_alloc | apply pw_below_drewN | apply below_drew1) | exact HB.out))); rintro e w5 ⟨rfl, hb⟩; have n0_ := Aside0.mk (below_step (by repeat (first | (with_reducible first | exact HB.out | apply below_alloc | apply pw_below_drewN | apply below_drew1) | exact HB.out)) hb); clear HB; have HB := n0_; clear n0_; (try clear hb); (try clear hb2); (try clear hk); (try clear hi))); go_upto_region 3 with (first | (go_at_call 8; (with_reducible refine (dragomanlaw14_alive.calls k  true _ ?side1 A2.out).mono ?_); (case side1 => exact GL_below hG (by repeat (first | (with_reducible first | exact HB.out | apply below_alloc | apply pw_below_drewN | apply below_drew1) | exact HB.out))); rintro e w5 ⟨rfl, hb⟩; have n0_ := Aside0.mk (below_step (by repeat (first | (with_reducible first | exact HB.out | apply below_alloc | apply pw_below_drewN | apply below_drew1) | exact HB.out)) hb); clear HB; have HB := n0_; clear n0_; (try clear hb); (try clear hb2); (try clear hk); (try clear hi))))
    (try simp only [Act.put, List.setIfInBounds_toArray, List.set_cons_zero, List.set_cons_succ])
    go_cut [17] (fun v17 wc => ∃ (kq : Nat) (x17_3 : Bool), v17 = .bool x17_3 ∧ Aside0 (dragomanlaw14_LexTokens.j0 kq a0 x17_3 = some r) ∧ Aside0 (kq ≤ k) ∧ Aside0 (Below w.heap.size w wc))
    case first =>
      have H := HC4.out
      clear HC4
      by_cases c6 : (a0.size : Int) > 3000
      · rw [if_pos c6] at H
        have c6b0 : decide (3000 < (a0.size : Int)) = true := decide_eq_true c6
        have c6b1 : decide (3000 < a0.size) = true := decide_eq_true (by omega)
        clear c6
        (first | rw [c6b0] | (simp only [i64_w, i32_w]; rw [c6b0]) | rw [c6b1] | skip)
        have H' := Aside0.mk H
        clear H
        go_wp2
        repeat (go_quiet (fail); try go_wp2)
        go_meet
        case rel => exact ⟨_, (decide ((a0.size : Int) ≤ 65536)), (by first | rfl | (simp; done) | (simp [*]; done)), H', ⟨by first | omega | exact Nat.le_refl _⟩, ⟨by repeat (first | (with_reducible first | exact HB.out | apply below_alloc | apply pw_below_drewN | apply below_drew1) | exact HB.out)⟩⟩
      · rw [if_neg c6] at H
        have c6b0 : decide (3000 < (a0.size : Int)) = false := decide_eq_false c6
        have c6b1 : decide (3000 < a0.size) = false := decide_eq_false (by omega)
        clear c6
        (first | rw [c6b0] | (simp only [i64_w, i32_w]; rw [c6b0]) | rw [c6b1] | skip)
        have H' := Aside0.mk H
        clear H
        go_wp2
        repeat (go_quiet (fail); try go_wp2)
        go_meet
        case rel => exact ⟨_, (false), (by first | rfl | (simp; done) | (simp [*]; done)), H', ⟨by first | omega | exact Nat.le_refl _⟩, ⟨by repeat (first | (with_reducible first | exact HB.out | apply below_alloc | apply pw_below_drewN | apply below_drew1) | exact HB.out)⟩⟩
    case rest =>
      clear HC4
      try clear p2
      try clear c3
      try clear c4
      try clear c6
      try clear c6b0
      try clear c6b1
      obtain ⟨kq, x17_3, rfl, HA, HJ3, HB⟩ := hcut
      cases kq with
      | zero => exact absurd HA.out (by simp [dragomanlaw14_LexTokens.j0])
      | succ kj3 =>
        have H := HA.out
        clear HA
        simp only [dragomanlaw14_LexTokens.j0] at H
        by_cases c7 : x17_3 = true
        · subst c7
          have H1 : (some true) = some r := by rw [if_pos rfl] at H; exact H
          clear H
          have H := H1
          clear H1
          obtain rfl := Option.some.inj H
          go_wp2
          repeat (go_quiet (fail); try go_wp2)
          first | go_ret | refine ⟨_, results_tmp rfl _ _ _, ?_⟩
          exact ⟨by first | rfl | (simp [errW_none, errW_some] <;> rfl) | (simp [*, errW_none, errW_some] <;> rfl), by repeat (first | (with_reducible first | exact HB.out | apply below_alloc | apply pw_below_drewN | apply below_drew1) | exact HB.out)⟩
        · replace c7 := Bool.eq_false_iff.mpr c7
          subst c7
          have H1 : ((lex_Tokens.f kj3 a0).bind fun bt236 => ((dragomanref14_Tokens.f kj3 a0).bind fun bt240 => (if bt236.2 = bt240.2 then (dragomanlaw14_LexTokens.j1 kj3 bt236.1 bt240.1 ((bt236.1.length : Int) != (bt240.1.length : Int))) else (dragomanlaw14_LexTokens.j1 kj3 bt236.1 bt240.1 true)))) = some r := by rw [if_neg (show ¬ (false = true) by decide)] at H; exact H
          clear H
          have H := H1
          clear H1
          replace H := Option.bind_eq_some_iff.mp H
          obtain ⟨⟨t236, t237⟩, A80, H⟩ := H
          replace H : ((dragomanref14_Tokens.f kj3 a0).bind fun bt240 => (if t237 = bt240.2 then (dragomanlaw14_LexTokens.j1 kj3 t236 bt240.1 ((t236.length : Int) != (bt240.1.length : Int))) else (dragomanlaw14_LexTokens.j1 kj3 t236 bt240.1 true))) = some r := H
          have A8 := Aside0.mk A80
          clear A80
          replace H := Option.bind_eq_some_iff.mp H
          obtain ⟨⟨t240, t241⟩, A90, H⟩ := H
          replace H : (if t237 = t241 then (dragomanlaw14_LexTokens.j1 kj3 t236 t240 ((t236.length : Int) != (t240.length : Int))) else (dragomanlaw14_LexTokens.j1 kj3 t236 t240 true)) = some r := H
          have A9 := Aside0.mk A90
          clear A90
          have HC10 := Aside0.mk H
          clear H
          go_upto_region 7 with (first | (go_at_call 12; (with_reducible refine (lex_Tokens.calls kj3 a0 t236 t237 _ ?side1 A8.out).mono ?_); (case side1 => exact GL_below hG (by repeat (first | (with_reducible first | exact HB.out | apply below_alloc | apply pw_below_drewN | apply below_drew1) | exact HB.out))); rintro e w11 ⟨v238, rfl, ho0, hb⟩; have n0_ := Aside0.mk (Kd.R_lower ho0 (below_size (by repeat (first | (with_reducible first | exact HB.out | apply below_alloc | apply pw_below_drewN | apply below_drew1) | exact HB.out)))); have n1_ := Aside0.mk (below_step (by repeat (first | (with_reducible first | exact HB.out | apply below_alloc | apply pw_below_drewN | apply below_drew1) | exact HB.out)) hb); clear HB; have HO239 := n0_; have HB := n1_; clear n0_ n1_; (try clear hb); (try clear hb2); (try clear hk); (try clear hi); (try clear ho0)) | (go_at_call 13; (with_reducible refine (dragomanref14_Tokens.calls kj3 a0 t240 t241 _ A9.out).mono ?_); rintro e w12 ⟨v242, rfl, ho0, hb⟩; have n0_ := Aside0.mk (Kd.R_below (by (with_reducible repeat (first | apply Kd.R_alloc | apply Kd.R_drewN | apply Kd.R_drew)); exact HO239.out) hb); have n1_ := Aside0.mk (Kd.R_lower ho0 (below_size (by repeat (first | (with_reducible first | exact HB.out | apply below_alloc | apply pw_below_drewN | apply below_drew1) | exact HB.out)))); have n2_ := Aside0.mk (below_step (by repeat (first | (with_reducible first | exact HB.out | apply below_alloc | apply pw_below_drewN | apply below_drew1) | exact HB.out)) hb); clear HO239; clear HB; have HO239 := n0_; have HO243 := n1_; have HB := n2_; clear n0_ n1_ n2_; (try clear hb); (try clear hb2); (try clear hk); (try clear hi); (try clear ho0)))
          repeat (go_quiet (first | (go_at_call 12; (with_reducible refine (lex_Tokens.calls kj3 a0 t236 t237 _ ?side1 A8.out).mono ?_); (case side1 => exact GL_below hG (by repeat (first | (with_reducible first | exact HB.out | apply below_alloc | apply pw_below_drewN | apply below_drew1) | exact HB.out))); rintro e w11 ⟨v238, rfl, ho0, hb⟩; have n0_ := Aside0.mk (Kd.R_lower ho0 (below_size (by repeat (first | (with_reducible first | exact HB.out | apply below_alloc | apply pw_below_drewN | apply below_drew1) | exact HB.out)))); have n1_ := Aside0.mk (below_step (by repeat (first | (with_reducible first | exact HB.out | apply below_alloc | apply pw_below_drewN | apply below_drew1) | exact HB.out)) hb); clear HB; have HO239 := n0_; have HB := n1_; clear n0_ n1_; (try clear hb); (try clear hb2); (try clear hk); (try clear hi); (try clear ho0)) | (go_at_call 13; (with_reducible refine (dragomanref14_Tokens.calls kj3 a0 t240 t241 _ A9.out).mono ?_); rintro e w12 ⟨v242, rfl, ho0, hb⟩; have n0_ := Aside0.mk (Kd.R_below (by (with_reducible repeat (first | apply Kd.R_alloc | apply Kd.R_drewN | apply Kd.R_drew)); exact HO239.out) hb); have n1_ := Aside0.mk (Kd.R_lower ho0 (below_size (by repeat (first | (with_reducible first | exact HB.out | apply below_alloc | apply pw_below_drewN | apply below_drew1) | exact HB.out)))); have n2_ := Aside0.mk (below_step (by repeat (first | (with_reducible first | exact HB.out | apply below_alloc | apply pw_below_drewN | apply below_drew1) | exact HB.out)) hb); clear HO239; clear HB; have HO239 := n0_; have HO243 := n1_; have HB := n2_; clear n0_ n1_ n2_; (try clear hb); (try clear hb2); (try clear hk); (try clear hi); (try clear ho0))); go_upto_region 7 with (first | (go_at_call 12; (with_reducible refine (lex_Tokens.calls kj3 a0 t236 t237 _ ?side1 A8.out).mono ?_); (case side1 => exact GL_below hG (by repeat (first | (with_reducible first | exact HB.out | apply below_alloc | apply pw_below_drewN | apply below_drew1) | exact HB.out))); rintro e w11 ⟨v238, rfl, ho0, hb⟩; have n0_ := Aside0.mk (Kd.R_lower ho0 (below_size (by repeat (first | (with_reducible first | exact HB.out | apply below_alloc | apply pw_below_drewN | apply below_drew1) | exact HB.out)))); have n1_ := Aside0.mk (below_step (by repeat (first | (with_reducible first | exact HB.out | apply below_alloc | apply pw_below_drewN | apply below_drew1) | exact HB.out)) hb); clear HB; have HO239 := n0_; have HB := n1_; clear n0_ n1_; (try clear hb); (try clear hb2); (try clear hk); (try clear hi); (try clear ho0)) | (go_at_call 13; (with_reducible refine (dragomanref14_Tokens.calls kj3 a0 t240 t241 _ A9.out).mono ?_); rintro e w12 ⟨v242, rfl, ho0, hb⟩; have n0_ := Aside0.mk (Kd.R_below (by (with_reducible repeat (first | apply Kd.R_alloc | apply Kd.R_drewN | apply Kd.R_drew)); exact HO239.out) hb); have n1_ := Aside0.mk (Kd.R_lower ho0 (below_size (by repeat (first | (with_reducible first | exact HB.out | apply below_alloc | apply pw_below_drewN | apply below_drew1) | exact HB.out)))); have n2_ := Aside0.mk (below_step (by repeat (first | (with_reducible first | exact HB.out | apply below_alloc | apply pw_below_drewN | apply below_drew1) | exact HB.out)) hb); clear HO239; clear HB; have HO239 := n0_; have HO243 := n1_; have HB := n2_; clear n0_ n1_ n2_; (try clear hb); (try clear hb2); (try clear hk); (try clear hi); (try clear ho0))))
          (try simp only [Act.put, List.setIfInBounds_toArray, List.set_cons_zero, List.set_cons_succ])
          go_cut [37] (fun v37 wc => ∃ (kq : Nat) (x37_9 : Bool), v37 = .bool x37_9 ∧ Aside0 (dragomanlaw14_LexTokens.j1 kq t236 t240 x37_9 = some r) ∧ Aside0 (kq ≤ kj3) ∧ Aside0 (Kd.R k40 40 wc w.heap.size (fun _ => True) v238 t236) ∧ Aside0 (Kd.R k39 39 wc w.heap.size (fun _ => True) v242 t240) ∧ Aside0 (Below w.heap.size w wc))
          case first =>
            have H := HC10.out
            clear HC10
            by_cases c13 : t237 = t241
            · rw [if_pos c13] at H
              have c13b0 : (t237 == t241) = true := beq_iff_eq.mpr c13
              have c13b1 : (t237 != t241) = false := bne_eq_false_iff_eq.mpr c13
              clear c13
              (first | rw [c13b0] | (simp only [i64_w, i32_w]; rw [c13b0]) | rw [c13b1] | skip)
              have H' := Aside0.mk H
              clear H
              obtain ⟨Ao14, co14, eo14⟩ := Kd.R_slice HO239.out
              subst eo14
              obtain ⟨Ao15, co15, eo15⟩ := Kd.R_slice HO243.out
              subst eo15
              go_wp2
              repeat (go_quiet (fail); try go_wp2)
              go_meet
              case rel => exact ⟨_, (((t236.length : Int) != (t240.length : Int))), (by first | rfl | (simp; done) | (simp [*]; done)), H', ⟨by have := HJ3.out; first | omega | exact Nat.le_refl _⟩, ⟨by (with_reducible repeat (first | apply Kd.R_alloc | apply Kd.R_drewN | apply Kd.R_drew)); exact HO239.out⟩, ⟨by (with_reducible repeat (first | apply Kd.R_alloc | apply Kd.R_drewN | apply Kd.R_drew)); exact HO243.out⟩, ⟨by repeat (first | (with_reducible first | exact HB.out | apply below_alloc | apply pw_below_drewN | apply below_drew1) | exact HB.out)⟩⟩
            · rw [if_neg c13] at H
              have c13b0 : (t237 == t241) = false := beq_eq_false_iff_ne.mpr c13
              have c13b1 : (t237 != t241) = true := bne_iff_ne.mpr c13
              (first | rw [c13b0] | (simp only [i64_w, i32_w]; rw [c13b0]) | rw [c13b1] | skip)
              have H' := Aside0.mk H
              clear H
              go_wp2
              repeat (go_quiet (fail); try go_wp2)
              go_meet
              case rel => exact ⟨_, (true), (by first | rfl | (simp; done) | (simp [*]; done)), H', ⟨by have := HJ3.out; first | omega | exact Nat.le_refl _⟩, ⟨by (with_reducible repeat (first | apply Kd.R_alloc | apply Kd.R_drewN | apply Kd.R_drew)); exact HO239.out⟩, ⟨by (with_reducible repeat (first | apply Kd.R_alloc | apply Kd.R_drewN | apply Kd.R_drew)); exact HO243.out⟩, ⟨by repeat (first | (with_reducible first | exact HB.out | apply below_alloc | apply pw_below_drewN | apply below_drew1) | exact HB.out)⟩⟩
          case rest =>
            clear HC10
            try clear c1
            try clear p2
            try clear c3
            try clear c4
            try clear c6
            try clear c6b0
            try clear c6b1
            try clear c7
            try clear c13
            try clear c13b0
            try clear c13b1
            try clear p2
            obtain ⟨kq, x37_9, rfl, HA, HJ9, HO_3, HO_5, HB⟩ := hcut
            cases kq with
            | zero => exact absurd HA.out (by simp [dragomanlaw14_LexTokens.j1])
            | succ kj9 =>
              have H := HA.out
              clear HA
              simp only [dragomanlaw14_LexTokens.j1] at H
              by_cases c16 : x37_9 = true
              · subst c16
                have H1 : (none) = some r := by rw [if_pos rfl] at H; exact H
                clear H
                have H := H1
                clear H1
                exact absurd H (by simp)
              · replace c16 := Bool.eq_false_iff.mpr c16
                subst c16
                have H1 : (dragomanlaw14_LexTokens.l0 kj9 t236 t240 (t236.length : Int) 0) = some r := by rw [if_neg (show ¬ (false = true) by decide)] at H; exact H
                clear H
                have H := H1
                clear H1
                have H' := Aside0.mk H
                clear H
                obtain ⟨Ao17, co17, eo17⟩ := Kd.R_slice HO_3.out
                subst eo17
                go_wp2
                repeat (go_quiet (fail); try go_wp2)
                go_loopg [40] kj9 (fun kq v40 w' => ∃ (x40_3 : Int), v40 = .int .i64 x40_3 ∧ Aside0 (dragomanlaw14_LexTokens.l0 kq t236 t240 (t236.length : Int) x40_3 = some r) ∧ Aside0 (kq ≤ kj9) ∧ Aside0 (Kd.R k40 40 w' w.heap.size (fun _ => True) (.slice Ao17 t236.length co17) t236) ∧ Aside0 (Kd.R k39 39 w' w.heap.size (fun _ => True) v242 t240) ∧ Aside0 (Below w.heap.size w w'))
                case atStart => exact ⟨(0), (by first | rfl | (simp; done) | (simp [*]; done)), H', ⟨Nat.le_refl _⟩, ⟨by (with_reducible repeat (first | apply Kd.R_alloc | apply Kd.R_drewN | apply Kd.R_drew)); exact HO_3.out⟩, ⟨by (with_reducible repeat (first | apply Kd.R_alloc | apply Kd.R_drewN | apply Kd.R_drew)); exact HO_5.out⟩, ⟨by repeat (first | (with_reducible first | exact HB.out | apply below_alloc | apply pw_below_drewN | apply below_drew1) | exact HB.out)⟩⟩
                case round =>
                  clear H'
                  try clear c1
                  try clear p2
                  try clear c3
                  try clear c4
                  try clear c6
                  try clear c6b0
                  try clear c6b1
                  try clear c7
                  try clear c13
                  try clear c13b0
                  try clear c13b1
                  try clear c16
                  try clear p2
                  obtain ⟨x40_3, rfl, HA, HK3, HO_3, HO_5, HB⟩ := hrel
                  cases gk with
                  | zero => exact absurd HA.out (by simp [dragomanlaw14_LexTokens.l0])
                  | succ k3 =>
                    have H := HA.out
                    clear HA
                    simp only [dragomanlaw14_LexTokens.l0] at H
                    by_cases c18 : x40_3 < (t236.length : Int)
                    · rw [if_pos c18] at H
                      have c18b0 : decide (x40_3 < (t236.length : Int)) = true := decide_eq_true c18
                      clear c18
                      by_cases c19 : 0 ≤ x40_3
                      · rw [if_pos c19] at H
                        have c19b0 : decide (0 ≤ x40_3) = true := decide_eq_true c19
                        clear c19
                        by_cases c20 : x40_3 < (t236.length : Int)
                        · rw [if_pos c20] at H
                          have c20b0 : decide (x40_3 < (t236.length : Int)) = true := decide_eq_true c20
                          clear c20
                          by_cases c21 : x40_3 < (t240.length : Int)
                          · rw [if_pos c21] at H
                            have c21b0 : decide (x40_3 < (t240.length : Int)) = true := decide_eq_true c21
                            clear c21
                            by_cases c22 : (!(((rd_T40 t236 x40_3).f0) == ((rd_T39 t240 x40_3).f0)) || (!((((rd_T40 t236 x40_3).f1).toList) == (((rd_T39 t240 x40_3).f1).toList)))) = true
                            · rw [if_pos c22] at H
                              exact absurd H (by simp)
                            · rw [if_neg c22] at H
                              have c22b0 : (!(((rd_T40 t236 x40_3).f0) == ((rd_T39 t240 x40_3).f0)) || (!((((rd_T40 t236 x40_3).f1).toList) == (((rd_T39 t240 x40_3).f1).toList)))) = false := by simpa using c22
                              clear c22
                              have H' := Aside0.mk H
                              clear H
                              have p244 : 0 ≤ (x40_3 : Int) := of_decide_eq_true (by first | (with_reducible assumption) | assumption)
                              have q244 : x40_3 < (t236.length : Int) := of_decide_eq_true (by first | (with_reducible assumption) | assumption)
                              obtain ⟨ad244, e244, hx244_0, hx244_1⟩ := at_T40 (Kd.R_reads' HO_3.out).2.2 x40_3 p244 q244
                              cases e244
                              replace p244 := eq_true p244
                              replace q244 := eq_true q244
                              obtain ⟨Ao23, co23, eo23⟩ := Kd.R_slice HO_5.out
                              subst eo23
                              have p245 : 0 ≤ (x40_3 : Int) := of_decide_eq_true (by first | (with_reducible assumption) | assumption)
                              have q245 : x40_3 < (t240.length : Int) := of_decide_eq_true (by first | (with_reducible assumption) | assumption)
                              obtain ⟨ad245, e245, hx245_0, hx245_1⟩ := at_T39 (Kd.R_reads' HO_5.out).2.2 x40_3 p245 q245
                              cases e245
                              replace p245 := eq_true p245
                              replace q245 := eq_true q245
                              go_wp2
                              repeat (go_quiet (fail); try go_wp2)
                              go_roundg k3
                              case measure => have := HJ3.out; have := HJ9.out; have := HK3.out; omega
                              case rel => exact ⟨(wrap64 (x40_3 + 1)), (by first | rfl | (simp; done) | (simp [*]; done)), H', ⟨by have := HJ3.out; have := HJ9.out; have := HK3.out; omega⟩, ⟨by (with_reducible repeat (first | apply Kd.R_alloc | apply Kd.R_drewN | apply Kd.R_drew)); exact HO_3.out⟩, ⟨by (with_reducible repeat (first | apply Kd.R_alloc | apply Kd.R_drewN | apply Kd.R_drew)); exact HO_5.out⟩, ⟨by repeat (first | (with_reducible first | exact HB.out | apply below_alloc | apply pw_below_drewN | apply below_drew1) | exact HB.out)⟩⟩
                          · rw [if_neg c21] at H
                            exact absurd H (by simp)
                        · rw [if_neg c20] at H
                          exact absurd H (by simp)
                      · rw [if_neg c19] at H
                        exact absurd H (by simp)
                    · rw [if_neg c18] at H
                      have c18b0 : decide (x40_3 < (t236.length : Int)) = false := decide_eq_false c18
                      clear c18
                      obtain rfl := Option.some.inj H
                      go_wp2
                      repeat (go_quiet (fail); try go_wp2)
                      first | go_ret | refine ⟨_, results_tmp rfl _ _ _, ?_⟩
                      exact ⟨by first | rfl | (simp [errW_none, errW_some] <;> rfl) | (simp [*, errW_none, errW_some] <;> rfl), by repeat (first | (with_reducible first | exact HB.out | apply below_alloc | apply pw_below_drewN | apply below_drew1) | exact HB.out)⟩
  · replace c3 := Bool.eq_false_iff.mpr c3
    subst c3
    have H1 : (none) = some r := by rw [if_neg (show ¬ (false = true) by decide)] at H; exact H
    clear H
    have H := H1
    clear H1
    exact absurd H (by simp)
end Go.Proofs.YtdnneofebehpaaaDoor.L
