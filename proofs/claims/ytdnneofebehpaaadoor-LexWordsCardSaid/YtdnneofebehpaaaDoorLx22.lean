import Derived.Test.YtdnneofebehpaaaDoorLx0
import Derived.Test.YtdnneofebehpaaaDoorLx3
import Derived.Test.YtdnneofebehpaaaDoorLx4
import Derived.Test.YtdnneofebehpaaaDoorLx8
import Derived.Test.YtdnneofebehpaaaDoorLx9
import Derived.Test.YtdnneofebehpaaaDoorLx10
import Derived.Test.YtdnneofebehpaaaDoorLx19
import Derived.Test.YtdnneofebehpaaaDoorLx20
import Derived.Test.YtdnneofebehpaaaDoorLx21
namespace Go.Proofs.YtdnneofebehpaaaDoor.L
open Go.RowKit Go.Proofs.YtdnneofebehpaaaDoorW.PrintWords Go.Proofs.YtdnneofebehpaaaDoorW.PrintLast Go.Proofs.YtdnneofebehpaaaDoorW.PrintMore
attribute [local go_sem] max2_int min2_int max_two min_two max_three min_three max_four min_four
set_option linter.unusedVariables false
set_option linter.unusedSimpArgs false
attribute [local go_sem high] eqA48 eqA52
mutual
def dragomanlaw14_LexWords.j0 : Nat → ByteArray → Bool → Option (Bool)
  | 0, _, _ => none
  | k + 1, x0, x35 => if x35 = true then (none) else ((lex_Addr.f k x0).bind fun bt306 => ((dragomanref14_Addr.f k x0).bind fun bt308 => (if bt306.1 = bt308.1 then (dragomanlaw14_LexWords.j1 k x0 (bt306.2 != bt308.2)) else (dragomanlaw14_LexWords.j1 k x0 true))))
def dragomanlaw14_LexWords.j1 : Nat → ByteArray → Bool → Option (Bool)
  | 0, _, _ => none
  | k + 1, x0, x53 => if x53 = true then (none) else ((lex_Prefix.f k x0).bind fun bt310 => ((dragomanref14_Prefix.f k x0).bind fun bt314 => (if (!(bt310.1 == bt314.1) || (!(bt310.2.1 == bt314.2.1))) = true then (dragomanlaw14_LexWords.j2 k x0 true) else (dragomanlaw14_LexWords.j2 k x0 (bt310.2.2 != bt314.2.2)))))
def dragomanlaw14_LexWords.j2 : Nat → ByteArray → Bool → Option (Bool)
  | 0, _, _ => none
  | k + 1, x0, x71 => if x71 = true then (none) else ((lex_Comm.f x0).bind fun bt318 => ((dragomanref14_Comm.f k x0).bind fun bt322 => (if (!(bt318.1 == bt322.1) || (!(bt318.2.1 == bt322.2.1))) = true then (dragomanlaw14_LexWords.j3 k x0 true) else (dragomanlaw14_LexWords.j3 k x0 (bt318.2.2 != bt322.2.2)))))
def dragomanlaw14_LexWords.j3 : Nat → ByteArray → Bool → Option (Bool)
  | 0, _, _ => none
  | k + 1, x0, x89 => if x89 = true then (none) else ((lex_Origin.f x0).bind fun bt326 => ((dragomanref14_Origin.f x0).bind fun bt328 => (if bt326.1 = bt328.1 then (some (bt326.2 == bt328.2)) else (none))))
end
def dragomanlaw14_LexWords.f (k : Nat) (a0 : ByteArray) : Option (Bool) := (dragomanlaw14_alive.f k).bind fun t301 => (if t301 = true then (if (a0.size : Int) > 1000 then (some true) else ((lex_Num.f a0).bind fun bt302 => ((dragomanref14_Num.f k a0).bind fun bt304 => (if bt302.1 = bt304.1 then (dragomanlaw14_LexWords.j0 k a0 (bt302.2 != bt304.2)) else (dragomanlaw14_LexWords.j0 k a0 true))))) else (none))
theorem dragomanlaw14_LexWords.mono_l : ∀ k, (∀ y0 y1, LeO (dragomanlaw14_LexWords.j0 k y0 y1) (dragomanlaw14_LexWords.j0 (k + 1) y0 y1)) ∧ (∀ y0 y1, LeO (dragomanlaw14_LexWords.j1 k y0 y1) (dragomanlaw14_LexWords.j1 (k + 1) y0 y1)) ∧ (∀ y0 y1, LeO (dragomanlaw14_LexWords.j2 k y0 y1) (dragomanlaw14_LexWords.j2 (k + 1) y0 y1)) ∧ (∀ y0 y1, LeO (dragomanlaw14_LexWords.j3 k y0 y1) (dragomanlaw14_LexWords.j3 (k + 1) y0 y1))
  | 0 => ⟨fun _ _ r h => by simp [dragomanlaw14_LexWords.j0] at h, fun _ _ r h => by simp [dragomanlaw14_LexWords.j1] at h, fun _ _ r h => by simp [dragomanlaw14_LexWords.j2] at h, fun _ _ r h => by simp [dragomanlaw14_LexWords.j3] at h⟩
  | k + 1 => by
    obtain ⟨ih0, ih1, ih2, ih3⟩ := dragomanlaw14_LexWords.mono_l k
    refine ⟨?_, ?_, ?_, ?_⟩
    · intro y0 y1
      unfold dragomanlaw14_LexWords.j0
      repeat' first
      | (with_reducible exact ih0 _ _)
      | (with_reducible exact ih1 _ _)
      | (with_reducible exact ih2 _ _)
      | (with_reducible exact ih3 _ _)
      | (with_reducible exact dragomanlaw14_alive.mono _)
      | (with_reducible exact dragomanref14_Addr.mono _ _)
      | (with_reducible exact dragomanref14_Comm.mono _ _)
      | (with_reducible exact dragomanref14_Num.mono _ _)
      | (with_reducible exact dragomanref14_Prefix.mono _ _)
      | (with_reducible exact lex_Addr.mono _ _)
      | (with_reducible exact lex_Prefix.mono _ _)
      | (with_reducible exact LeO.refl _)
      | (with_reducible exact LeO.none _)
      | (with_reducible refine LeO.ite ?_ ?_)
      | (with_reducible refine LeO.bind ?_ (fun _ => ?_))
      | exact ih0 _ _
      | exact ih1 _ _
      | exact ih2 _ _
      | exact ih3 _ _
      | exact dragomanlaw14_alive.mono _
      | exact dragomanref14_Addr.mono _ _
      | exact dragomanref14_Comm.mono _ _
      | exact dragomanref14_Num.mono _ _
      | exact dragomanref14_Prefix.mono _ _
      | exact lex_Addr.mono _ _
      | exact lex_Prefix.mono _ _
      | exact LeO.none _
      | refine LeO.ite ?_ ?_
      | refine LeO.bind ?_ (fun _ => ?_)
    · intro y0 y1
      unfold dragomanlaw14_LexWords.j1
      repeat' first
      | (with_reducible exact ih0 _ _)
      | (with_reducible exact ih1 _ _)
      | (with_reducible exact ih2 _ _)
      | (with_reducible exact ih3 _ _)
      | (with_reducible exact dragomanlaw14_alive.mono _)
      | (with_reducible exact dragomanref14_Addr.mono _ _)
      | (with_reducible exact dragomanref14_Comm.mono _ _)
      | (with_reducible exact dragomanref14_Num.mono _ _)
      | (with_reducible exact dragomanref14_Prefix.mono _ _)
      | (with_reducible exact lex_Addr.mono _ _)
      | (with_reducible exact lex_Prefix.mono _ _)
      | (with_reducible exact LeO.refl _)
      | (with_reducible exact LeO.none _)
      | (with_reducible refine LeO.ite ?_ ?_)
      | (with_reducible refine LeO.bind ?_ (fun _ => ?_))
      | exact ih0 _ _
      | exact ih1 _ _
      | exact ih2 _ _
      | exact ih3 _ _
      | exact dragomanlaw14_alive.mono _
      | exact dragomanref14_Addr.mono _ _
      | exact dragomanref14_Comm.mono _ _
      | exact dragomanref14_Num.mono _ _
      | exact dragomanref14_Prefix.mono _ _
      | exact lex_Addr.mono _ _
      | exact lex_Prefix.mono _ _
      | exact LeO.none _
      | refine LeO.ite ?_ ?_
      | refine LeO.bind ?_ (fun _ => ?_)
    · intro y0 y1
      unfold dragomanlaw14_LexWords.j2
      repeat' first
      | (with_reducible exact ih0 _ _)
      | (with_reducible exact ih1 _ _)
      | (with_reducible exact ih2 _ _)
      | (with_reducible exact ih3 _ _)
      | (with_reducible exact dragomanlaw14_alive.mono _)
      | (with_reducible exact dragomanref14_Addr.mono _ _)
      | (with_reducible exact dragomanref14_Comm.mono _ _)
      | (with_reducible exact dragomanref14_Num.mono _ _)
      | (with_reducible exact dragomanref14_Prefix.mono _ _)
      | (with_reducible exact lex_Addr.mono _ _)
      | (with_reducible exact lex_Prefix.mono _ _)
      | (with_reducible exact LeO.refl _)
      | (with_reducible exact LeO.none _)
      | (with_reducible refine LeO.ite ?_ ?_)
      | (with_reducible refine LeO.bind ?_ (fun _ => ?_))
      | exact ih0 _ _
      | exact ih1 _ _
      | exact ih2 _ _
      | exact ih3 _ _
      | exact dragomanlaw14_alive.mono _
      | exact dragomanref14_Addr.mono _ _
      | exact dragomanref14_Comm.mono _ _
      | exact dragomanref14_Num.mono _ _
      | exact dragomanref14_Prefix.mono _ _
      | exact lex_Addr.mono _ _
      | exact lex_Prefix.mono _ _
      | exact LeO.none _
      | refine LeO.ite ?_ ?_
      | refine LeO.bind ?_ (fun _ => ?_)
    · intro y0 y1
      unfold dragomanlaw14_LexWords.j3
      repeat' first
      | (with_reducible exact ih0 _ _)
      | (with_reducible exact ih1 _ _)
      | (with_reducible exact ih2 _ _)
      | (with_reducible exact ih3 _ _)
      | (with_reducible exact dragomanlaw14_alive.mono _)
      | (with_reducible exact dragomanref14_Addr.mono _ _)
      | (with_reducible exact dragomanref14_Comm.mono _ _)
      | (with_reducible exact dragomanref14_Num.mono _ _)
      | (with_reducible exact dragomanref14_Prefix.mono _ _)
      | (with_reducible exact lex_Addr.mono _ _)
      | (with_reducible exact lex_Prefix.mono _ _)
      | (with_reducible exact LeO.refl _)
      | (with_reducible exact LeO.none _)
      | (with_reducible refine LeO.ite ?_ ?_)
      | (with_reducible refine LeO.bind ?_ (fun _ => ?_))
      | exact ih0 _ _
      | exact ih1 _ _
      | exact ih2 _ _
      | exact ih3 _ _
      | exact dragomanlaw14_alive.mono _
      | exact dragomanref14_Addr.mono _ _
      | exact dragomanref14_Comm.mono _ _
      | exact dragomanref14_Num.mono _ _
      | exact dragomanref14_Prefix.mono _ _
      | exact lex_Addr.mono _ _
      | exact lex_Prefix.mono _ _
      | exact LeO.none _
      | refine LeO.ite ?_ ?_
      | refine LeO.bind ?_ (fun _ => ?_)
theorem dragomanlaw14_LexWords.mono : ∀ a0 k, LeO (dragomanlaw14_LexWords.f k a0) (dragomanlaw14_LexWords.f (k + 1) a0) := by
  intro a0 k
  obtain ⟨ih0, ih1, ih2, ih3⟩ := dragomanlaw14_LexWords.mono_l k
  unfold dragomanlaw14_LexWords.f
  repeat' first
      | (with_reducible exact ih0 _ _)
      | (with_reducible exact ih1 _ _)
      | (with_reducible exact ih2 _ _)
      | (with_reducible exact ih3 _ _)
      | (with_reducible exact dragomanlaw14_alive.mono _)
      | (with_reducible exact dragomanref14_Addr.mono _ _)
      | (with_reducible exact dragomanref14_Comm.mono _ _)
      | (with_reducible exact dragomanref14_Num.mono _ _)
      | (with_reducible exact dragomanref14_Prefix.mono _ _)
      | (with_reducible exact lex_Addr.mono _ _)
      | (with_reducible exact lex_Prefix.mono _ _)
      | (with_reducible exact LeO.refl _)
      | (with_reducible exact LeO.none _)
      | (with_reducible refine LeO.ite ?_ ?_)
      | (with_reducible refine LeO.bind ?_ (fun _ => ?_))
      | exact ih0 _ _
      | exact ih1 _ _
      | exact ih2 _ _
      | exact ih3 _ _
      | exact dragomanlaw14_alive.mono _
      | exact dragomanref14_Addr.mono _ _
      | exact dragomanref14_Comm.mono _ _
      | exact dragomanref14_Num.mono _ _
      | exact dragomanref14_Prefix.mono _ _
      | exact lex_Addr.mono _ _
      | exact lex_Prefix.mono _ _
      | exact LeO.none _
      | refine LeO.ite ?_ ?_
      | refine LeO.bind ?_ (fun _ => ?_)
set_option maxHeartbeats 8000000 in
set_option maxRecDepth 100000 in
theorem dragomanlaw14_LexWords.calls (k : Nat) (a0 : ByteArray) (r : Bool) (w : World) (hG : GL w) (h : dragomanlaw14_LexWords.f k a0 = some r) :
    Calls Tryd.prog 7 #[.string a0] w fun e w' => e = .returned (.bool r) ∧ Below w.heap.size w w' := by
  have hu48 := Tryd.underlying48
  have hu52 := Tryd.underlying52
  have HB := Aside0.mk (Below.refl w.heap.size w)
  have H : ((dragomanlaw14_alive.f k).bind fun t301 => (if t301 = true then (if (a0.size : Int) > 1000 then (some true) else ((lex_Num.f a0).bind fun bt302 => ((dragomanref14_Num.f k a0).bind fun bt304 => (if bt302.1 = bt304.1 then (dragomanlaw14_LexWords.j0 k a0 (bt302.2 != bt304.2)) else (dragomanlaw14_LexWords.j0 k a0 true))))) else (none))) = some r := h
  clear h
  replace H := Option.bind_eq_some_iff.mp H
  obtain ⟨t301, A20, H⟩ := H
  replace H : (if t301 = true then (if (a0.size : Int) > 1000 then (some true) else ((lex_Num.f a0).bind fun bt302 => ((dragomanref14_Num.f k a0).bind fun bt304 => (if bt302.1 = bt304.1 then (dragomanlaw14_LexWords.j0 k a0 (bt302.2 != bt304.2)) else (dragomanlaw14_LexWords.j0 k a0 true))))) else (none)) = some r := H
  have A2 := Aside0.mk A20
  clear A20
  by_cases c3 : t301 = true
  · subst c3
    have H1 : (if (a0.size : Int) > 1000 then (some true) else ((lex_Num.f a0).bind fun bt302 => ((dragomanref14_Num.f k a0).bind fun bt304 => (if bt302.1 = bt304.1 then (dragomanlaw14_LexWords.j0 k a0 (bt302.2 != bt304.2)) else (dragomanlaw14_LexWords.j0 k a0 true))))) = some r := by rw [if_pos rfl] at H; exact H
    clear H
    have H := H1
    clear H1
    by_cases c4 : (a0.size : Int) > 1000
    · rw [if_pos c4] at H
      have c4b0 : decide (1000 < (a0.size : Int)) = true := decide_eq_true c4
      have c4b1 : decide (1000 < a0.size) = true := decide_eq_true (by omega)
      clear c4
      obtain rfl := Option.some.inj H
      go_enter Tryd.func7, Tryd.ntmps7
      go_wp2_with (first | ((with_reducible refine gate_callee (f := 8) rfl ?_); refine goesL_ (some 13) rfl rfl Tryd.func8 (by kernel_rfl) rfl #[] rfl (by (try simp only [List.map_toArray, List.map_cons, List.map_nil]); first | done | rfl | (simp only [List.length_drop, List.length_take]; rfl)) ?_; (with_reducible refine (dragomanlaw14_alive.calls k  true _ ?side1 A2.out).mono ?_); (case side1 => exact GL_below hG (by repeat (first | (with_reducible first | exact HB.out | apply below_alloc | apply pw_below_drewN | apply below_drew1) | exact HB.out))); rintro e w5 ⟨rfl, hb⟩; refine ⟨_, rfl, ?_⟩; have n0_ := Aside0.mk (below_step (by repeat (first | (with_reducible first | exact HB.out | apply below_alloc | apply pw_below_drewN | apply below_drew1) | exact HB.out)) hb); clear HB; have HB := n0_; clear n0_; (try clear hb); (try clear hb2); (try clear hk); (try clear hi)))
      first | go_ret | refine ⟨_, results_tmp rfl _ _ _, ?_⟩
      exact ⟨by first | rfl | (simp [errW_none, errW_some] <;> rfl) | (simp [*, errW_none, errW_some] <;> rfl), by repeat (first | (with_reducible first | exact HB.out | apply below_alloc | apply pw_below_drewN | apply below_drew1) | exact HB.out)⟩
    · rw [if_neg c4] at H
      have c4b0 : decide (1000 < (a0.size : Int)) = false := decide_eq_false c4
      have c4b1 : decide (1000 < a0.size) = false := decide_eq_false (by omega)
      clear c4
      replace H := Option.bind_eq_some_iff.mp H
      obtain ⟨⟨t302, t303⟩, A60, H⟩ := H
      replace H : ((dragomanref14_Num.f k a0).bind fun bt304 => (if t302 = bt304.1 then (dragomanlaw14_LexWords.j0 k a0 (t303 != bt304.2)) else (dragomanlaw14_LexWords.j0 k a0 true))) = some r := H
      have A6 := Aside0.mk A60
      clear A60
      replace H := Option.bind_eq_some_iff.mp H
      obtain ⟨⟨t304, t305⟩, A70, H⟩ := H
      replace H : (if t302 = t304 then (dragomanlaw14_LexWords.j0 k a0 (t303 != t305)) else (dragomanlaw14_LexWords.j0 k a0 true)) = some r := H
      have A7 := Aside0.mk A70
      clear A70
      have HC8 := Aside0.mk H
      clear H
      go_enter Tryd.func7, Tryd.ntmps7
      go_upto_region 7 with (first | ((with_reducible refine gate_callee (f := 8) rfl ?_); refine goesL_ (some 13) rfl rfl Tryd.func8 (by kernel_rfl) rfl #[] rfl (by (try simp only [List.map_toArray, List.map_cons, List.map_nil]); first | done | rfl | (simp only [List.length_drop, List.length_take]; rfl)) ?_; (with_reducible refine (dragomanlaw14_alive.calls k  true _ ?side1 A2.out).mono ?_); (case side1 => exact GL_below hG (by repeat (first | (with_reducible first | exact HB.out | apply below_alloc | apply pw_below_drewN | apply below_drew1) | exact HB.out))); rintro e w9 ⟨rfl, hb⟩; refine ⟨_, rfl, ?_⟩; have n0_ := Aside0.mk (below_step (by repeat (first | (with_reducible first | exact HB.out | apply below_alloc | apply pw_below_drewN | apply below_drew1) | exact HB.out)) hb); clear HB; have HB := n0_; clear n0_; (try clear hb); (try clear hb2); (try clear hk); (try clear hi)) | ((with_reducible refine gate_callee (f := 14) rfl ?_); refine goesL_ (some 20) rfl rfl Tryd.func14 (by kernel_rfl) rfl #[.string a0] rfl (by (try simp only [List.map_toArray, List.map_cons, List.map_nil]); first | done | rfl | (simp only [List.length_drop, List.length_take]; rfl)) ?_; (with_reducible refine (lex_Num.calls a0 t302 t303 _ ?side1 A6.out).mono ?_); (case side1 => exact GL_below hG (by repeat (first | (with_reducible first | exact HB.out | apply below_alloc | apply pw_below_drewN | apply below_drew1) | exact HB.out))); rintro e w10 ⟨rfl, hb⟩; refine ⟨_, rfl, ?_⟩; have n0_ := Aside0.mk (below_step (by repeat (first | (with_reducible first | exact HB.out | apply below_alloc | apply pw_below_drewN | apply below_drew1) | exact HB.out)) hb); clear HB; have HB := n0_; clear n0_; (try clear hb); (try clear hb2); (try clear hk); (try clear hi)) | ((with_reducible refine gate_callee (f := 15) rfl ?_); refine goesL_ (some 25) rfl rfl Tryd.func15 (by kernel_rfl) rfl #[.string a0] rfl (by (try simp only [List.map_toArray, List.map_cons, List.map_nil]); first | done | rfl | (simp only [List.length_drop, List.length_take]; rfl)) ?_; (with_reducible refine (dragomanref14_Num.calls k a0 t304 t305 _ A7.out).mono ?_); rintro e w' ⟨rfl, ⟨nd, rfl⟩⟩; refine ⟨_, rfl, ?_⟩))
      (try simp only [Act.put, List.setIfInBounds_toArray, List.set_cons_zero, List.set_cons_succ])
      go_cut [35] (fun v35 wc => ∃ (kq : Nat) (x35_7 : Bool), v35 = .bool x35_7 ∧ Aside0 (dragomanlaw14_LexWords.j0 kq a0 x35_7 = some r) ∧ Aside0 (kq ≤ k) ∧ Aside0 (Below w.heap.size w wc))
      case first =>
        have H := HC8.out
        clear HC8
        by_cases c11 : t302 = t304
        · rw [if_pos c11] at H
          have c11b0 : (t302 == t304) = true := beq_iff_eq.mpr c11
          have c11b1 : (t302 != t304) = false := bne_eq_false_iff_eq.mpr c11
          clear c11
          (first | rw [c11b0] | (simp only [i64_w, i32_w]; rw [c11b0]) | rw [c11b1] | skip)
          have H' := Aside0.mk H
          clear H
          go_wp2
          go_meet
          case rel => exact ⟨_, ((t303 != t305)), (by first | rfl | (simp; done) | (simp [*]; done)), H', ⟨by first | omega | exact Nat.le_refl _⟩, ⟨by repeat (first | (with_reducible first | exact HB.out | apply below_alloc | apply pw_below_drewN | apply below_drew1) | exact HB.out)⟩⟩
        · rw [if_neg c11] at H
          have c11b0 : (t302 == t304) = false := beq_eq_false_iff_ne.mpr c11
          have c11b1 : (t302 != t304) = true := bne_iff_ne.mpr c11
          (first | rw [c11b0] | (simp only [i64_w, i32_w]; rw [c11b0]) | rw [c11b1] | skip)
          have H' := Aside0.mk H
          clear H
          go_wp2
          go_meet
          case rel => exact ⟨_, (true), (by first | rfl | (simp; done) | (simp [*]; done)), H', ⟨by first | omega | exact Nat.le_refl _⟩, ⟨by repeat (first | (with_reducible first | exact HB.out | apply below_alloc | apply pw_below_drewN | apply below_drew1) | exact HB.out)⟩⟩
      case rest =>
        clear HC8
        try clear c1
        try clear p2
        try clear c3
        try clear c4
        try clear c4b0
        try clear c4b1
        try clear c7
        try clear c8
        try clear c11
        try clear c11b0
        try clear c11b1
        obtain ⟨kq, x35_7, rfl, HA, HJ7, HB⟩ := hcut
        cases kq with
        | zero => exact absurd HA.out (by simp [dragomanlaw14_LexWords.j0])
        | succ kj7 =>
          have H := HA.out
          clear HA
          simp only [dragomanlaw14_LexWords.j0] at H
          by_cases c12 : x35_7 = true
          · subst c12
            have H1 : (none) = some r := by rw [if_pos rfl] at H; exact H
            clear H
            have H := H1
            clear H1
            exact absurd H (by simp)
          · replace c12 := Bool.eq_false_iff.mpr c12
            subst c12
            have H1 : ((lex_Addr.f kj7 a0).bind fun bt306 => ((dragomanref14_Addr.f kj7 a0).bind fun bt308 => (if bt306.1 = bt308.1 then (dragomanlaw14_LexWords.j1 kj7 a0 (bt306.2 != bt308.2)) else (dragomanlaw14_LexWords.j1 kj7 a0 true)))) = some r := by rw [if_neg (show ¬ (false = true) by decide)] at H; exact H
            clear H
            have H := H1
            clear H1
            replace H := Option.bind_eq_some_iff.mp H
            obtain ⟨⟨t306, t307⟩, A130, H⟩ := H
            replace H : ((dragomanref14_Addr.f kj7 a0).bind fun bt308 => (if t306 = bt308.1 then (dragomanlaw14_LexWords.j1 kj7 a0 (t307 != bt308.2)) else (dragomanlaw14_LexWords.j1 kj7 a0 true))) = some r := H
            have A13 := Aside0.mk A130
            clear A130
            replace H := Option.bind_eq_some_iff.mp H
            obtain ⟨⟨t308, t309⟩, A140, H⟩ := H
            replace H : (if t306 = t308 then (dragomanlaw14_LexWords.j1 kj7 a0 (t307 != t309)) else (dragomanlaw14_LexWords.j1 kj7 a0 true)) = some r := H
            have A14 := Aside0.mk A140
            clear A140
            have HC15 := Aside0.mk H
            clear H
            go_upto_region 11 with (first | ((with_reducible refine gate_callee (f := 16) rfl ?_); refine goesL_ (some 38) rfl rfl Tryd.func16 (by kernel_rfl) rfl #[.string a0] rfl (by (try simp only [List.map_toArray, List.map_cons, List.map_nil]); first | done | rfl | (simp only [List.length_drop, List.length_take]; rfl)) ?_; (with_reducible refine (lex_Addr.calls kj7 a0 t306 t307 _ ?side1 A13.out).mono ?_); (case side1 => exact GL_below hG (by repeat (first | (with_reducible first | exact HB.out | apply below_alloc | apply pw_below_drewN | apply below_drew1) | exact HB.out))); rintro e w16 ⟨rfl, hb⟩; refine ⟨_, rfl, ?_⟩; have n0_ := Aside0.mk (below_step (by repeat (first | (with_reducible first | exact HB.out | apply below_alloc | apply pw_below_drewN | apply below_drew1) | exact HB.out)) hb); clear HB; have HB := n0_; clear n0_; (try clear hb); (try clear hb2); (try clear hk); (try clear hi)) | ((with_reducible refine gate_callee (f := 17) rfl ?_); refine goesL_ (some 43) rfl rfl Tryd.func17 (by kernel_rfl) rfl #[.string a0] rfl (by (try simp only [List.map_toArray, List.map_cons, List.map_nil]); first | done | rfl | (simp only [List.length_drop, List.length_take]; rfl)) ?_; (with_reducible refine (dragomanref14_Addr.calls kj7 a0 t308 t309 _ A14.out).mono ?_); rintro e w17 ⟨rfl, hb⟩; refine ⟨_, rfl, ?_⟩; have n0_ := Aside0.mk (below_step (by repeat (first | (with_reducible first | exact HB.out | apply below_alloc | apply pw_below_drewN | apply below_drew1) | exact HB.out)) hb); clear HB; have HB := n0_; clear n0_; (try clear hb); (try clear hb2); (try clear hk); (try clear hi)))
            (try simp only [Act.put, List.setIfInBounds_toArray, List.set_cons_zero, List.set_cons_succ])
            go_cut [53] (fun v53 wc => ∃ (kq : Nat) (x53_14 : Bool), v53 = .bool x53_14 ∧ Aside0 (dragomanlaw14_LexWords.j1 kq a0 x53_14 = some r) ∧ Aside0 (kq ≤ kj7) ∧ Aside0 (Below w.heap.size w wc))
            case first =>
              have H := HC15.out
              clear HC15
              by_cases c18 : t306 = t308
              · rw [if_pos c18] at H
                have c18b0 : (t306 == t308) = true := beq_iff_eq.mpr c18
                have c18b1 : (t306 != t308) = false := bne_eq_false_iff_eq.mpr c18
                clear c18
                (first | rw [c18b0] | (simp only [i64_w, i32_w]; rw [c18b0]) | rw [c18b1] | skip)
                have H' := Aside0.mk H
                clear H
                go_wp2
                go_meet
                case rel => exact ⟨_, ((t307 != t309)), (by first | rfl | (simp; done) | (simp [*]; done)), H', ⟨by have := HJ7.out; first | omega | exact Nat.le_refl _⟩, ⟨by repeat (first | (with_reducible first | exact HB.out | apply below_alloc | apply pw_below_drewN | apply below_drew1) | exact HB.out)⟩⟩
              · rw [if_neg c18] at H
                have c18b0 : (t306 == t308) = false := beq_eq_false_iff_ne.mpr c18
                have c18b1 : (t306 != t308) = true := bne_iff_ne.mpr c18
                (first | rw [c18b0] | (simp only [i64_w, i32_w]; rw [c18b0]) | rw [c18b1] | skip)
                have H' := Aside0.mk H
                clear H
                go_wp2
                go_meet
                case rel => exact ⟨_, (true), (by first | rfl | (simp; done) | (simp [*]; done)), H', ⟨by have := HJ7.out; first | omega | exact Nat.le_refl _⟩, ⟨by repeat (first | (with_reducible first | exact HB.out | apply below_alloc | apply pw_below_drewN | apply below_drew1) | exact HB.out)⟩⟩
            case rest =>
              clear HC15
              try clear c1
              try clear p2
              try clear c3
              try clear c4
              try clear c4b0
              try clear c4b1
              try clear c7
              try clear c8
              try clear c11
              try clear c11b0
              try clear c11b1
              try clear c12
              try clear c14
              try clear c15
              try clear c16
              try clear c17
              try clear c18
              try clear c18b0
              try clear c18b1
              try clear p2
              obtain ⟨kq, x53_14, rfl, HA, HJ14, HB⟩ := hcut
              cases kq with
              | zero => exact absurd HA.out (by simp [dragomanlaw14_LexWords.j1])
              | succ kj14 =>
                have H := HA.out
                clear HA
                simp only [dragomanlaw14_LexWords.j1] at H
                by_cases c19 : x53_14 = true
                · subst c19
                  have H1 : (none) = some r := by rw [if_pos rfl] at H; exact H
                  clear H
                  have H := H1
                  clear H1
                  exact absurd H (by simp)
                · replace c19 := Bool.eq_false_iff.mpr c19
                  subst c19
                  have H1 : ((lex_Prefix.f kj14 a0).bind fun bt310 => ((dragomanref14_Prefix.f kj14 a0).bind fun bt314 => (if (!(bt310.1 == bt314.1) || (!(bt310.2.1 == bt314.2.1))) = true then (dragomanlaw14_LexWords.j2 kj14 a0 true) else (dragomanlaw14_LexWords.j2 kj14 a0 (bt310.2.2 != bt314.2.2))))) = some r := by rw [if_neg (show ¬ (false = true) by decide)] at H; exact H
                  clear H
                  have H := H1
                  clear H1
                  replace H := Option.bind_eq_some_iff.mp H
                  obtain ⟨⟨t310, t311, t312⟩, A200, H⟩ := H
                  replace H : ((dragomanref14_Prefix.f kj14 a0).bind fun bt314 => (if (!(t310 == bt314.1) || (!(t311 == bt314.2.1))) = true then (dragomanlaw14_LexWords.j2 kj14 a0 true) else (dragomanlaw14_LexWords.j2 kj14 a0 (t312 != bt314.2.2)))) = some r := H
                  have A20 := Aside0.mk A200
                  clear A200
                  replace H := Option.bind_eq_some_iff.mp H
                  obtain ⟨⟨t314, t315, t316⟩, A210, H⟩ := H
                  replace H : (if (!(t310 == t314) || (!(t311 == t315))) = true then (dragomanlaw14_LexWords.j2 kj14 a0 true) else (dragomanlaw14_LexWords.j2 kj14 a0 (t312 != t316))) = some r := H
                  have A21 := Aside0.mk A210
                  clear A210
                  have HC22 := Aside0.mk H
                  clear H
                  go_upto_region 15 with (first | ((with_reducible refine gate_callee (f := 18) rfl ?_); refine goesL_ (some 56) rfl rfl Tryd.func18 (by kernel_rfl) rfl #[.string a0] rfl (by (try simp only [List.map_toArray, List.map_cons, List.map_nil]); first | done | rfl | (simp only [List.length_drop, List.length_take]; rfl)) ?_; (with_reducible refine (lex_Prefix.calls kj14 a0 t310 t311 t312 _ ?side1 A20.out).mono ?_); (case side1 => exact GL_below hG (by repeat (first | (with_reducible first | exact HB.out | apply below_alloc | apply pw_below_drewN | apply below_drew1) | exact HB.out))); rintro e w23 ⟨rfl, hb⟩; refine ⟨_, rfl, ?_⟩; have n0_ := Aside0.mk (below_step (by repeat (first | (with_reducible first | exact HB.out | apply below_alloc | apply pw_below_drewN | apply below_drew1) | exact HB.out)) hb); clear HB; have HB := n0_; clear n0_; (try clear hb); (try clear hb2); (try clear hk); (try clear hi)) | ((with_reducible refine gate_dst (N := 7) rfl ?_); refine box_event ?hg (N := 7) ?hd (cs := #[.int .u32 0, .int .i64 0]) (t := 48) ?hr ?_; (case hd => rfl); (case hg => rfl); (case hr => first | (go_simp; done) | (go_simp; rfl)); intro gb313 hg w24 hbox hb; have n0_ := Aside0.mk (below_step (by repeat (first | (with_reducible first | exact HB.out | apply below_alloc | apply pw_below_drewN | apply below_drew1) | exact HB.out)) hb); have n1_ := Aside0.mk (hbox); have n2_ := Aside0.mk ((by rw [hg]; exact (below_size (by repeat (first | (with_reducible first | exact HB.out | apply below_alloc | apply pw_below_drewN | apply below_drew1) | exact HB.out))) : w.heap.size ≤ gb313)); have n3_ := Aside0.mk ((by rw [hg]; exact (below_size (by repeat (first | (with_reducible first | exact HB.out | apply below_alloc | apply pw_below_drewN | apply below_drew1) | exact HB.out))) : w.heap.size ≤ gb313)); clear HB; have HB := n0_; have BK313 := n1_; have GW313 := n2_; have GE313 := n3_; clear n0_ n1_ n2_ n3_; clear hb hbox hg; have hcz25_0 : w24.cell? ⟨gb313, 0, none⟩ = some (.int .u32 0) := (blk_cell BK313.out 0).trans rfl; have hcz25_1 : w24.cell? ⟨gb313, 1, none⟩ = some (.int .i64 0) := (blk_cell BK313.out 1).trans rfl; have hfz25_0 := blk_frozen BK313.out 0; have hfz25_1 := blk_frozen BK313.out 1) | ((with_reducible refine gate_callee (f := 19) rfl ?_); refine goesL_ (some 61) rfl rfl Tryd.func19 (by kernel_rfl) rfl #[.string a0] rfl (by (try simp only [List.map_toArray, List.map_cons, List.map_nil]); first | done | rfl | (simp only [List.length_drop, List.length_take]; rfl)) ?_; (with_reducible refine (dragomanref14_Prefix.calls kj14 a0 t314 t315 t316 _ A21.out).mono ?_); rintro e w26 ⟨rfl, hb⟩; refine ⟨_, rfl, ?_⟩; have n0_ := Aside0.mk (blk_below (g := gb313) (o := .cells #[.int .u32 t310, .int .i64 t311] 48 (0, 0)) (by (with_reducible repeat (first | refine blk_drewN ?_ _ | refine blk_drew ?_ | refine blk_alloc ?_ _)); refine blk_put (cs := #[.int .u32 t310, .int .i64 0]) ?_ 1 _ rfl; (with_reducible repeat (first | refine blk_drewN ?_ _ | refine blk_drew ?_ | refine blk_alloc ?_ _)); refine blk_put (cs := #[.int .u32 0, .int .i64 0]) ?_ 0 _ rfl; (with_reducible repeat (first | refine blk_drewN ?_ _ | refine blk_drew ?_ | refine blk_alloc ?_ _)); exact BK313.out) hb); have n1_ := Aside0.mk (below_step (by repeat (first | (with_reducible first | exact HB.out | apply below_alloc | apply pw_below_drewN | apply below_drew1 | refine below_set ?_ GE313.out) | exact HB.out)) hb); clear BK313; clear HB; have BK313 := n0_; have HB := n1_; clear n0_ n1_; (try clear hb); (try clear hb2); (try clear hk); (try clear hi)) | ((with_reducible refine gate_dst (N := 8) rfl ?_); refine box_event ?hg (N := 8) ?hd (cs := #[.int .u32 0, .int .i64 0]) (t := 48) ?hr ?_; (case hd => rfl); (case hg => rfl); (case hr => first | (go_simp; done) | (go_simp; rfl)); intro gb317 hg w27 hbox hb; have n0_ := Aside0.mk (blk_below (g := gb313) (o := .cells #[.int .u32 t310, .int .i64 t311] 48 (0, 0)) (by (with_reducible repeat (first | refine blk_drewN ?_ _ | refine blk_drew ?_ | refine blk_alloc ?_ _)); exact BK313.out) hb); have n1_ := Aside0.mk (below_step (by repeat (first | (with_reducible first | exact HB.out | apply below_alloc | apply pw_below_drewN | apply below_drew1 | refine below_set ?_ GE313.out) | exact HB.out)) hb); have n2_ := Aside0.mk (hbox); have n3_ := Aside0.mk ((by rw [hg]; exact (below_size (by repeat (first | (with_reducible first | exact HB.out | apply below_alloc | apply pw_below_drewN | apply below_drew1 | refine below_set ?_ GE313.out) | exact HB.out))) : w.heap.size ≤ gb317)); have n4_ := Aside0.mk ((by rw [hg]; exact (below_size (by repeat (first | (with_reducible first | exact HB.out | apply below_alloc | apply pw_below_drewN | apply below_drew1 | refine below_set ?_ GE313.out) | exact HB.out))) : w.heap.size ≤ gb317)); have n5_ := Aside0.mk ((by rw [hg]; exact Nat.ne_of_lt (blk_lt (g := gb313) (o := .cells #[.int .u32 t310, .int .i64 t311] 48 (0, 0)) (by (with_reducible repeat (first | refine blk_drewN ?_ _ | refine blk_drew ?_ | refine blk_alloc ?_ _)); exact BK313.out)) : gb313 ≠ gb317)); have n6_ := Aside0.mk ((by rw [hg]; exact Nat.ne_of_gt (blk_lt (g := gb313) (o := .cells #[.int .u32 t310, .int .i64 t311] 48 (0, 0)) (by (with_reducible repeat (first | refine blk_drewN ?_ _ | refine blk_drew ?_ | refine blk_alloc ?_ _)); exact BK313.out)) : gb317 ≠ gb313)); clear BK313; clear HB; have BK313 := n0_; have HB := n1_; have BK317 := n2_; have GW317 := n3_; have GE317 := n4_; have NB313_317 := n5_; have NB317_313 := n6_; clear n0_ n1_ n2_ n3_ n4_ n5_ n6_; clear hb hbox hg; have hnb28 := NB317_313.out; have hnc28 := NB313_317.out; have hcz29_0 : w27.cell? ⟨gb317, 0, none⟩ = some (.int .u32 0) := (blk_cell BK317.out 0).trans rfl; have hcz29_1 : w27.cell? ⟨gb317, 1, none⟩ = some (.int .i64 0) := (blk_cell BK317.out 1).trans rfl; have hfz29_0 := blk_frozen BK317.out 0; have hfz29_1 := blk_frozen BK317.out 1))
                  (try simp only [Act.put, List.setIfInBounds_toArray, List.set_cons_zero, List.set_cons_succ])
                  go_cut [71] (fun v71 wc => ∃ (kq : Nat) (x71_21 : Bool), v71 = .bool x71_21 ∧ Aside0 (dragomanlaw14_LexWords.j2 kq a0 x71_21 = some r) ∧ Aside0 (kq ≤ kj14) ∧ Aside0 (wc.heap[gb313]? = some (.cells #[.int .u32 t310, .int .i64 t311] 48 (0, 0))) ∧ Aside0 (wc.heap[gb317]? = some (.cells #[.int .u32 t314, .int .i64 t315] 48 (0, 0))) ∧ Aside0 (Below w.heap.size w wc))
                  case first =>
                    have H := HC22.out
                    clear HC22
                    by_cases c30 : (!(t310 == t314) || (!(t311 == t315))) = true
                    · rw [if_pos c30] at H
                      have c30b0 : (!(t310 == t314) || (!(t311 == t315))) = true := c30
                      clear c30
                      (first | rw [c30b0] | (simp only [i64_w, i32_w]; rw [c30b0]) | rw [c30b1] | skip)
                      have H' := Aside0.mk H
                      clear H
                      have hnb31 := NB313_317.out
                      have hnc31 := NB317_313.out
                      have hcz32_0 : w27.cell? ⟨gb313, 0, none⟩ = some (.int .u32 t310) := (blk_cell BK313.out 0).trans rfl
                      have hcz32_1 : w27.cell? ⟨gb313, 1, none⟩ = some (.int .i64 t311) := (blk_cell BK313.out 1).trans rfl
                      have hfz32_0 := blk_frozen BK313.out 0
                      have hfz32_1 := blk_frozen BK313.out 1
                      have hcz33_0 : w27.cell? ⟨gb317, 0, none⟩ = some (.int .u32 0) := (blk_cell BK317.out 0).trans rfl
                      have hcz33_1 : w27.cell? ⟨gb317, 1, none⟩ = some (.int .i64 0) := (blk_cell BK317.out 1).trans rfl
                      have hfz33_0 := blk_frozen BK317.out 0
                      have hfz33_1 := blk_frozen BK317.out 1
                      go_wp2
                      go_meet
                      case rel => exact ⟨_, (true), (by first | rfl | (simp; done) | (simp [*]; done)), H', ⟨by have := HJ7.out; have := HJ14.out; first | omega | exact Nat.le_refl _⟩, ⟨by (with_reducible repeat (first | refine blk_drewN ?_ _ | refine blk_drew ?_ | refine blk_alloc ?_ _)); refine blk_far ?_ NB313_317.out _; (with_reducible repeat (first | refine blk_drewN ?_ _ | refine blk_drew ?_ | refine blk_alloc ?_ _)); refine blk_far ?_ NB313_317.out _; (with_reducible repeat (first | refine blk_drewN ?_ _ | refine blk_drew ?_ | refine blk_alloc ?_ _)); exact BK313.out⟩, ⟨by (with_reducible repeat (first | refine blk_drewN ?_ _ | refine blk_drew ?_ | refine blk_alloc ?_ _)); refine blk_put (cs := #[.int .u32 t314, .int .i64 0]) ?_ 1 _ rfl; (with_reducible repeat (first | refine blk_drewN ?_ _ | refine blk_drew ?_ | refine blk_alloc ?_ _)); refine blk_put (cs := #[.int .u32 0, .int .i64 0]) ?_ 0 _ rfl; (with_reducible repeat (first | refine blk_drewN ?_ _ | refine blk_drew ?_ | refine blk_alloc ?_ _)); exact BK317.out⟩, ⟨by repeat (first | (with_reducible first | exact HB.out | apply below_alloc | apply pw_below_drewN | apply below_drew1 | refine below_set ?_ GE313.out | refine below_set ?_ GE317.out) | exact HB.out)⟩⟩
                    · rw [if_neg c30] at H
                      have c30b0 : (!(t310 == t314) || (!(t311 == t315))) = false := by simpa using c30
                      clear c30
                      (first | rw [c30b0] | (simp only [i64_w, i32_w]; rw [c30b0]) | rw [c30b1] | skip)
                      have H' := Aside0.mk H
                      clear H
                      have hnb34 := NB313_317.out
                      have hnc34 := NB317_313.out
                      have hcz35_0 : w27.cell? ⟨gb313, 0, none⟩ = some (.int .u32 t310) := (blk_cell BK313.out 0).trans rfl
                      have hcz35_1 : w27.cell? ⟨gb313, 1, none⟩ = some (.int .i64 t311) := (blk_cell BK313.out 1).trans rfl
                      have hfz35_0 := blk_frozen BK313.out 0
                      have hfz35_1 := blk_frozen BK313.out 1
                      have hcz36_0 : w27.cell? ⟨gb317, 0, none⟩ = some (.int .u32 0) := (blk_cell BK317.out 0).trans rfl
                      have hcz36_1 : w27.cell? ⟨gb317, 1, none⟩ = some (.int .i64 0) := (blk_cell BK317.out 1).trans rfl
                      have hfz36_0 := blk_frozen BK317.out 0
                      have hfz36_1 := blk_frozen BK317.out 1
                      go_wp2
                      go_meet
                      case rel => exact ⟨_, ((t312 != t316)), (by first | rfl | (simp; done) | (simp [*]; done)), H', ⟨by have := HJ7.out; have := HJ14.out; first | omega | exact Nat.le_refl _⟩, ⟨by (with_reducible repeat (first | refine blk_drewN ?_ _ | refine blk_drew ?_ | refine blk_alloc ?_ _)); refine blk_far ?_ NB313_317.out _; (with_reducible repeat (first | refine blk_drewN ?_ _ | refine blk_drew ?_ | refine blk_alloc ?_ _)); refine blk_far ?_ NB313_317.out _; (with_reducible repeat (first | refine blk_drewN ?_ _ | refine blk_drew ?_ | refine blk_alloc ?_ _)); exact BK313.out⟩, ⟨by (with_reducible repeat (first | refine blk_drewN ?_ _ | refine blk_drew ?_ | refine blk_alloc ?_ _)); refine blk_put (cs := #[.int .u32 t314, .int .i64 0]) ?_ 1 _ rfl; (with_reducible repeat (first | refine blk_drewN ?_ _ | refine blk_drew ?_ | refine blk_alloc ?_ _)); refine blk_put (cs := #[.int .u32 0, .int .i64 0]) ?_ 0 _ rfl; (with_reducible repeat (first | refine blk_drewN ?_ _ | refine blk_drew ?_ | refine blk_alloc ?_ _)); exact BK317.out⟩, ⟨by repeat (first | (with_reducible first | exact HB.out | apply below_alloc | apply pw_below_drewN | apply below_drew1 | refine below_set ?_ GE313.out | refine below_set ?_ GE317.out) | exact HB.out)⟩⟩
                  case rest =>
                    clear HC22
                    try clear c1
                    try clear c2
                    try clear p2
                    try clear c3
                    try clear c4
                    try clear c4b0
                    try clear c4b1
                    try clear c7
                    try clear c8
                    try clear c11
                    try clear c11b0
                    try clear c11b1
                    try clear c12
                    try clear c14
                    try clear c15
                    try clear c16
                    try clear c17
                    try clear c18
                    try clear c18b0
                    try clear c18b1
                    try clear c19
                    try clear c28
                    try clear c30
                    try clear c30b0
                    try clear c30b1
                    try clear c31
                    try clear c34
                    try clear hcz25_0
                    try clear hcz25_1
                    try clear hcz29_0
                    try clear hcz29_1
                    try clear hcz32_0
                    try clear hcz32_1
                    try clear hcz33_0
                    try clear hcz33_1
                    try clear hcz35_0
                    try clear hcz35_1
                    try clear hcz36_0
                    try clear hcz36_1
                    try clear hfz25_0
                    try clear hfz25_1
                    try clear hfz29_0
                    try clear hfz29_1
                    try clear hfz32_0
                    try clear hfz32_1
                    try clear hfz33_0
                    try clear hfz33_1
                    try clear hfz35_0
                    try clear hfz35_1
                    try clear hfz36_0
                    try clear hfz36_1
                    try clear p2
                    obtain ⟨kq, x71_21, rfl, HA, HJ21, BK313, BK317, HB⟩ := hcut
                    cases kq with
                    | zero => exact absurd HA.out (by simp [dragomanlaw14_LexWords.j2])
                    | succ kj21 =>
                      have H := HA.out
                      clear HA
                      simp only [dragomanlaw14_LexWords.j2] at H
                      by_cases c37 : x71_21 = true
                      · subst c37
                        have H1 : (none) = some r := by rw [if_pos rfl] at H; exact H
                        clear H
                        have H := H1
                        clear H1
                        exact absurd H (by simp)
                      · replace c37 := Bool.eq_false_iff.mpr c37
                        subst c37
                        have H1 : ((lex_Comm.f a0).bind fun bt318 => ((dragomanref14_Comm.f kj21 a0).bind fun bt322 => (if (!(bt318.1 == bt322.1) || (!(bt318.2.1 == bt322.2.1))) = true then (dragomanlaw14_LexWords.j3 kj21 a0 true) else (dragomanlaw14_LexWords.j3 kj21 a0 (bt318.2.2 != bt322.2.2))))) = some r := by rw [if_neg (show ¬ (false = true) by decide)] at H; exact H
                        clear H
                        have H := H1
                        clear H1
                        replace H := Option.bind_eq_some_iff.mp H
                        obtain ⟨⟨t318, t319, t320⟩, A380, H⟩ := H
                        replace H : ((dragomanref14_Comm.f kj21 a0).bind fun bt322 => (if (!(t318 == bt322.1) || (!(t319 == bt322.2.1))) = true then (dragomanlaw14_LexWords.j3 kj21 a0 true) else (dragomanlaw14_LexWords.j3 kj21 a0 (t320 != bt322.2.2)))) = some r := H
                        have A38 := Aside0.mk A380
                        clear A380
                        replace H := Option.bind_eq_some_iff.mp H
                        obtain ⟨⟨t322, t323, t324⟩, A390, H⟩ := H
                        replace H : (if (!(t318 == t322) || (!(t319 == t323))) = true then (dragomanlaw14_LexWords.j3 kj21 a0 true) else (dragomanlaw14_LexWords.j3 kj21 a0 (t320 != t324))) = some r := H
                        have A39 := Aside0.mk A390
                        clear A390
                        have HC40 := Aside0.mk H
                        clear H
                        go_upto_region 19 with (first | ((with_reducible refine gate_callee (f := 20) rfl ?_); refine goesL_ (some 74) rfl rfl Tryd.func20 (by kernel_rfl) rfl #[.string a0] rfl (by (try simp only [List.map_toArray, List.map_cons, List.map_nil]); first | done | rfl | (simp only [List.length_drop, List.length_take]; rfl)) ?_; (with_reducible refine (lex_Comm.calls a0 t318 t319 t320 _ ?side1 A38.out).mono ?_); (case side1 => exact GL_below hG (by repeat (first | (with_reducible first | exact HB.out | apply below_alloc | apply pw_below_drewN | apply below_drew1 | refine below_set ?_ GE313.out | refine below_set ?_ GE317.out) | exact HB.out))); rintro e w41 ⟨rfl, hb⟩; refine ⟨_, rfl, ?_⟩; have n0_ := Aside0.mk (blk_below (g := gb313) (o := .cells #[.int .u32 t310, .int .i64 t311] 48 (0, 0)) (by (with_reducible repeat (first | refine blk_drewN ?_ _ | refine blk_drew ?_ | refine blk_alloc ?_ _)); exact BK313.out) hb); have n1_ := Aside0.mk (blk_below (g := gb317) (o := .cells #[.int .u32 t314, .int .i64 t315] 48 (0, 0)) (by (with_reducible repeat (first | refine blk_drewN ?_ _ | refine blk_drew ?_ | refine blk_alloc ?_ _)); exact BK317.out) hb); have n2_ := Aside0.mk (below_step (by repeat (first | (with_reducible first | exact HB.out | apply below_alloc | apply pw_below_drewN | apply below_drew1 | refine below_set ?_ GE313.out | refine below_set ?_ GE317.out) | exact HB.out)) hb); clear BK313; clear BK317; clear HB; have BK313 := n0_; have BK317 := n1_; have HB := n2_; clear n0_ n1_ n2_; (try clear hb); (try clear hb2); (try clear hk); (try clear hi)) | ((with_reducible refine gate_dst (N := 9) rfl ?_); refine box_event ?hg (N := 9) ?hd (cs := #[.int .u32 0, .int .u32 0]) (t := 52) ?hr ?_; (case hd => rfl); (case hg => rfl); (case hr => first | (go_simp; done) | (go_simp; rfl)); intro gb321 hg w42 hbox hb; have n0_ := Aside0.mk (blk_below (g := gb313) (o := .cells #[.int .u32 t310, .int .i64 t311] 48 (0, 0)) (by (with_reducible repeat (first | refine blk_drewN ?_ _ | refine blk_drew ?_ | refine blk_alloc ?_ _)); exact BK313.out) hb); have n1_ := Aside0.mk (blk_below (g := gb317) (o := .cells #[.int .u32 t314, .int .i64 t315] 48 (0, 0)) (by (with_reducible repeat (first | refine blk_drewN ?_ _ | refine blk_drew ?_ | refine blk_alloc ?_ _)); exact BK317.out) hb); have n2_ := Aside0.mk (below_step (by repeat (first | (with_reducible first | exact HB.out | apply below_alloc | apply pw_below_drewN | apply below_drew1 | refine below_set ?_ GE313.out | refine below_set ?_ GE317.out) | exact HB.out)) hb); have n3_ := Aside0.mk (hbox); have n4_ := Aside0.mk ((by rw [hg]; exact (below_size (by repeat (first | (with_reducible first | exact HB.out | apply below_alloc | apply pw_below_drewN | apply below_drew1 | refine below_set ?_ GE313.out | refine below_set ?_ GE317.out) | exact HB.out))) : w.heap.size ≤ gb321)); have n5_ := Aside0.mk ((by rw [hg]; exact (below_size (by repeat (first | (with_reducible first | exact HB.out | apply below_alloc | apply pw_below_drewN | apply below_drew1 | refine below_set ?_ GE313.out | refine below_set ?_ GE317.out) | exact HB.out))) : w.heap.size ≤ gb321)); have n6_ := Aside0.mk ((by rw [hg]; exact Nat.ne_of_lt (blk_lt (g := gb313) (o := .cells #[.int .u32 t310, .int .i64 t311] 48 (0, 0)) (by (with_reducible repeat (first | refine blk_drewN ?_ _ | refine blk_drew ?_ | refine blk_alloc ?_ _)); exact BK313.out)) : gb313 ≠ gb321)); have n7_ := Aside0.mk ((by rw [hg]; exact Nat.ne_of_gt (blk_lt (g := gb313) (o := .cells #[.int .u32 t310, .int .i64 t311] 48 (0, 0)) (by (with_reducible repeat (first | refine blk_drewN ?_ _ | refine blk_drew ?_ | refine blk_alloc ?_ _)); exact BK313.out)) : gb321 ≠ gb313)); have n8_ := Aside0.mk ((by rw [hg]; exact Nat.ne_of_lt (blk_lt (g := gb317) (o := .cells #[.int .u32 t314, .int .i64 t315] 48 (0, 0)) (by (with_reducible repeat (first | refine blk_drewN ?_ _ | refine blk_drew ?_ | refine blk_alloc ?_ _)); exact BK317.out)) : gb317 ≠ gb321)); have n9_ := Aside0.mk ((by rw [hg]; exact Nat.ne_of_gt (blk_lt (g := gb317) (o := .cells #[.int .u32 t314, .int .i64 t315] 48 (0, 0)) (by (with_reducible repeat (first | refine blk_drewN ?_ _ | refine blk_drew ?_ | refine blk_alloc ?_ _)); exact BK317.out)) : gb321 ≠ gb317)); clear BK313; clear BK317; clear HB; have BK313 := n0_; have BK317 := n1_; have HB := n2_; have BK321 := n3_; have GW321 := n4_; have GE321 := n5_; have NB313_321 := n6_; have NB321_313 := n7_; have NB317_321 := n8_; have NB321_317 := n9_; clear n0_ n1_ n2_ n3_ n4_ n5_ n6_ n7_ n8_ n9_; clear hb hbox hg; have hnb43 := NB321_313.out; have hnc43 := NB313_321.out; have hnb44 := NB321_317.out; have hnc44 := NB317_321.out; have hcz45_0 : w42.cell? ⟨gb321, 0, none⟩ = some (.int .u32 0) := (blk_cell BK321.out 0).trans rfl; have hcz45_1 : w42.cell? ⟨gb321, 1, none⟩ = some (.int .u32 0) := (blk_cell BK321.out 1).trans rfl; have hfz45_0 := blk_frozen BK321.out 0; have hfz45_1 := blk_frozen BK321.out 1) | ((with_reducible refine gate_callee (f := 21) rfl ?_); refine goesL_ (some 79) rfl rfl Tryd.func21 (by kernel_rfl) rfl #[.string a0] rfl (by (try simp only [List.map_toArray, List.map_cons, List.map_nil]); first | done | rfl | (simp only [List.length_drop, List.length_take]; rfl)) ?_; (with_reducible refine (dragomanref14_Comm.calls kj21 a0 t322 t323 t324 _ A39.out).mono ?_); rintro e w46 ⟨rfl, hb⟩; refine ⟨_, rfl, ?_⟩; have n0_ := Aside0.mk (blk_below (g := gb313) (o := .cells #[.int .u32 t310, .int .i64 t311] 48 (0, 0)) (by (with_reducible repeat (first | refine blk_drewN ?_ _ | refine blk_drew ?_ | refine blk_alloc ?_ _)); refine blk_far ?_ NB313_321.out _; (with_reducible repeat (first | refine blk_drewN ?_ _ | refine blk_drew ?_ | refine blk_alloc ?_ _)); refine blk_far ?_ NB313_321.out _; (with_reducible repeat (first | refine blk_drewN ?_ _ | refine blk_drew ?_ | refine blk_alloc ?_ _)); exact BK313.out) hb); have n1_ := Aside0.mk (blk_below (g := gb317) (o := .cells #[.int .u32 t314, .int .i64 t315] 48 (0, 0)) (by (with_reducible repeat (first | refine blk_drewN ?_ _ | refine blk_drew ?_ | refine blk_alloc ?_ _)); refine blk_far ?_ NB317_321.out _; (with_reducible repeat (first | refine blk_drewN ?_ _ | refine blk_drew ?_ | refine blk_alloc ?_ _)); refine blk_far ?_ NB317_321.out _; (with_reducible repeat (first | refine blk_drewN ?_ _ | refine blk_drew ?_ | refine blk_alloc ?_ _)); exact BK317.out) hb); have n2_ := Aside0.mk (blk_below (g := gb321) (o := .cells #[.int .u32 t318, .int .u32 t319] 52 (0, 0)) (by (with_reducible repeat (first | refine blk_drewN ?_ _ | refine blk_drew ?_ | refine blk_alloc ?_ _)); refine blk_put (cs := #[.int .u32 t318, .int .u32 0]) ?_ 1 _ rfl; (with_reducible repeat (first | refine blk_drewN ?_ _ | refine blk_drew ?_ | refine blk_alloc ?_ _)); refine blk_put (cs := #[.int .u32 0, .int .u32 0]) ?_ 0 _ rfl; (with_reducible repeat (first | refine blk_drewN ?_ _ | refine blk_drew ?_ | refine blk_alloc ?_ _)); exact BK321.out) hb); have n3_ := Aside0.mk (below_step (by repeat (first | (with_reducible first | exact HB.out | apply below_alloc | apply pw_below_drewN | apply below_drew1 | refine below_set ?_ GE313.out | refine below_set ?_ GE317.out | refine below_set ?_ GE321.out) | exact HB.out)) hb); clear BK313; clear BK317; clear BK321; clear HB; have BK313 := n0_; have BK317 := n1_; have BK321 := n2_; have HB := n3_; clear n0_ n1_ n2_ n3_; (try clear hb); (try clear hb2); (try clear hk); (try clear hi)) | ((with_reducible refine gate_dst (N := 10) rfl ?_); refine box_event ?hg (N := 10) ?hd (cs := #[.int .u32 0, .int .u32 0]) (t := 52) ?hr ?_; (case hd => rfl); (case hg => rfl); (case hr => first | (go_simp; done) | (go_simp; rfl)); intro gb325 hg w47 hbox hb; have n0_ := Aside0.mk (blk_below (g := gb313) (o := .cells #[.int .u32 t310, .int .i64 t311] 48 (0, 0)) (by (with_reducible repeat (first | refine blk_drewN ?_ _ | refine blk_drew ?_ | refine blk_alloc ?_ _)); exact BK313.out) hb); have n1_ := Aside0.mk (blk_below (g := gb317) (o := .cells #[.int .u32 t314, .int .i64 t315] 48 (0, 0)) (by (with_reducible repeat (first | refine blk_drewN ?_ _ | refine blk_drew ?_ | refine blk_alloc ?_ _)); exact BK317.out) hb); have n2_ := Aside0.mk (blk_below (g := gb321) (o := .cells #[.int .u32 t318, .int .u32 t319] 52 (0, 0)) (by (with_reducible repeat (first | refine blk_drewN ?_ _ | refine blk_drew ?_ | refine blk_alloc ?_ _)); exact BK321.out) hb); have n3_ := Aside0.mk (below_step (by repeat (first | (with_reducible first | exact HB.out | apply below_alloc | apply pw_below_drewN | apply below_drew1 | refine below_set ?_ GE313.out | refine below_set ?_ GE317.out | refine below_set ?_ GE321.out) | exact HB.out)) hb); have n4_ := Aside0.mk (hbox); have n5_ := Aside0.mk ((by rw [hg]; exact (below_size (by repeat (first | (with_reducible first | exact HB.out | apply below_alloc | apply pw_below_drewN | apply below_drew1 | refine below_set ?_ GE313.out | refine below_set ?_ GE317.out | refine below_set ?_ GE321.out) | exact HB.out))) : w.heap.size ≤ gb325)); have n6_ := Aside0.mk ((by rw [hg]; exact (below_size (by repeat (first | (with_reducible first | exact HB.out | apply below_alloc | apply pw_below_drewN | apply below_drew1 | refine below_set ?_ GE313.out | refine below_set ?_ GE317.out | refine below_set ?_ GE321.out) | exact HB.out))) : w.heap.size ≤ gb325)); have n7_ := Aside0.mk ((by rw [hg]; exact Nat.ne_of_lt (blk_lt (g := gb313) (o := .cells #[.int .u32 t310, .int .i64 t311] 48 (0, 0)) (by (with_reducible repeat (first | refine blk_drewN ?_ _ | refine blk_drew ?_ | refine blk_alloc ?_ _)); exact BK313.out)) : gb313 ≠ gb325)); have n8_ := Aside0.mk ((by rw [hg]; exact Nat.ne_of_gt (blk_lt (g := gb313) (o := .cells #[.int .u32 t310, .int .i64 t311] 48 (0, 0)) (by (with_reducible repeat (first | refine blk_drewN ?_ _ | refine blk_drew ?_ | refine blk_alloc ?_ _)); exact BK313.out)) : gb325 ≠ gb313)); have n9_ := Aside0.mk ((by rw [hg]; exact Nat.ne_of_lt (blk_lt (g := gb317) (o := .cells #[.int .u32 t314, .int .i64 t315] 48 (0, 0)) (by (with_reducible repeat (first | refine blk_drewN ?_ _ | refine blk_drew ?_ | refine blk_alloc ?_ _)); exact BK317.out)) : gb317 ≠ gb325)); have n10_ := Aside0.mk ((by rw [hg]; exact Nat.ne_of_gt (blk_lt (g := gb317) (o := .cells #[.int .u32 t314, .int .i64 t315] 48 (0, 0)) (by (with_reducible repeat (first | refine blk_drewN ?_ _ | refine blk_drew ?_ | refine blk_alloc ?_ _)); exact BK317.out)) : gb325 ≠ gb317)); have n11_ := Aside0.mk ((by rw [hg]; exact Nat.ne_of_lt (blk_lt (g := gb321) (o := .cells #[.int .u32 t318, .int .u32 t319] 52 (0, 0)) (by (with_reducible repeat (first | refine blk_drewN ?_ _ | refine blk_drew ?_ | refine blk_alloc ?_ _)); exact BK321.out)) : gb321 ≠ gb325)); have n12_ := Aside0.mk ((by rw [hg]; exact Nat.ne_of_gt (blk_lt (g := gb321) (o := .cells #[.int .u32 t318, .int .u32 t319] 52 (0, 0)) (by (with_reducible repeat (first | refine blk_drewN ?_ _ | refine blk_drew ?_ | refine blk_alloc ?_ _)); exact BK321.out)) : gb325 ≠ gb321)); clear BK313; clear BK317; clear BK321; clear HB; have BK313 := n0_; have BK317 := n1_; have BK321 := n2_; have HB := n3_; have BK325 := n4_; have GW325 := n5_; have GE325 := n6_; have NB313_325 := n7_; have NB325_313 := n8_; have NB317_325 := n9_; have NB325_317 := n10_; have NB321_325 := n11_; have NB325_321 := n12_; clear n0_ n1_ n2_ n3_ n4_ n5_ n6_ n7_ n8_ n9_ n10_ n11_ n12_; clear hb hbox hg; have hnb48 := NB325_313.out; have hnc48 := NB313_325.out; have hnb49 := NB325_317.out; have hnc49 := NB317_325.out; have hnb50 := NB325_321.out; have hnc50 := NB321_325.out; have hcz51_0 : w47.cell? ⟨gb325, 0, none⟩ = some (.int .u32 0) := (blk_cell BK325.out 0).trans rfl; have hcz51_1 : w47.cell? ⟨gb325, 1, none⟩ = some (.int .u32 0) := (blk_cell BK325.out 1).trans rfl; have hfz51_0 := blk_frozen BK325.out 0; have hfz51_1 := blk_frozen BK325.out 1))
                        (try simp only [Act.put, List.setIfInBounds_toArray, List.set_cons_zero, List.set_cons_succ])
                        go_cut [89] (fun v89 wc => ∃ (kq : Nat) (x89_39 : Bool), v89 = .bool x89_39 ∧ Aside0 (dragomanlaw14_LexWords.j3 kq a0 x89_39 = some r) ∧ Aside0 (kq ≤ kj21) ∧ Aside0 (wc.heap[gb313]? = some (.cells #[.int .u32 t310, .int .i64 t311] 48 (0, 0))) ∧ Aside0 (wc.heap[gb317]? = some (.cells #[.int .u32 t314, .int .i64 t315] 48 (0, 0))) ∧ Aside0 (wc.heap[gb321]? = some (.cells #[.int .u32 t318, .int .u32 t319] 52 (0, 0))) ∧ Aside0 (wc.heap[gb325]? = some (.cells #[.int .u32 t322, .int .u32 t323] 52 (0, 0))) ∧ Aside0 (Below w.heap.size w wc))
                        case first =>
                          have H := HC40.out
                          clear HC40
                          by_cases c52 : (!(t318 == t322) || (!(t319 == t323))) = true
                          · rw [if_pos c52] at H
                            have c52b0 : (!(t318 == t322) || (!(t319 == t323))) = true := c52
                            clear c52
                            (first | rw [c52b0] | (simp only [i64_w, i32_w]; rw [c52b0]) | rw [c52b1] | skip)
                            have H' := Aside0.mk H
                            clear H
                            have hnb53 := NB321_313.out
                            have hnc53 := NB313_321.out
                            have hnb54 := NB321_317.out
                            have hnc54 := NB317_321.out
                            have hnb55 := NB321_325.out
                            have hnc55 := NB325_321.out
                            have hcz56_0 : w47.cell? ⟨gb321, 0, none⟩ = some (.int .u32 t318) := (blk_cell BK321.out 0).trans rfl
                            have hcz56_1 : w47.cell? ⟨gb321, 1, none⟩ = some (.int .u32 t319) := (blk_cell BK321.out 1).trans rfl
                            have hfz56_0 := blk_frozen BK321.out 0
                            have hfz56_1 := blk_frozen BK321.out 1
                            have hnb57 := NB325_313.out
                            have hnc57 := NB313_325.out
                            have hnb58 := NB325_317.out
                            have hnc58 := NB317_325.out
                            have hcz59_0 : w47.cell? ⟨gb325, 0, none⟩ = some (.int .u32 0) := (blk_cell BK325.out 0).trans rfl
                            have hcz59_1 : w47.cell? ⟨gb325, 1, none⟩ = some (.int .u32 0) := (blk_cell BK325.out 1).trans rfl
                            have hfz59_0 := blk_frozen BK325.out 0
                            have hfz59_1 := blk_frozen BK325.out 1
                            go_wp2
                            go_meet
                            case rel => exact ⟨_, (true), (by first | rfl | (simp; done) | (simp [*]; done)), H', ⟨by have := HJ7.out; have := HJ14.out; have := HJ21.out; first | omega | exact Nat.le_refl _⟩, ⟨by (with_reducible repeat (first | refine blk_drewN ?_ _ | refine blk_drew ?_ | refine blk_alloc ?_ _)); refine blk_far ?_ NB313_325.out _; (with_reducible repeat (first | refine blk_drewN ?_ _ | refine blk_drew ?_ | refine blk_alloc ?_ _)); refine blk_far ?_ NB313_325.out _; (with_reducible repeat (first | refine blk_drewN ?_ _ | refine blk_drew ?_ | refine blk_alloc ?_ _)); exact BK313.out⟩, ⟨by (with_reducible repeat (first | refine blk_drewN ?_ _ | refine blk_drew ?_ | refine blk_alloc ?_ _)); refine blk_far ?_ NB317_325.out _; (with_reducible repeat (first | refine blk_drewN ?_ _ | refine blk_drew ?_ | refine blk_alloc ?_ _)); refine blk_far ?_ NB317_325.out _; (with_reducible repeat (first | refine blk_drewN ?_ _ | refine blk_drew ?_ | refine blk_alloc ?_ _)); exact BK317.out⟩, ⟨by (with_reducible repeat (first | refine blk_drewN ?_ _ | refine blk_drew ?_ | refine blk_alloc ?_ _)); refine blk_far ?_ NB321_325.out _; (with_reducible repeat (first | refine blk_drewN ?_ _ | refine blk_drew ?_ | refine blk_alloc ?_ _)); refine blk_far ?_ NB321_325.out _; (with_reducible repeat (first | refine blk_drewN ?_ _ | refine blk_drew ?_ | refine blk_alloc ?_ _)); exact BK321.out⟩, ⟨by (with_reducible repeat (first | refine blk_drewN ?_ _ | refine blk_drew ?_ | refine blk_alloc ?_ _)); refine blk_put (cs := #[.int .u32 t322, .int .u32 0]) ?_ 1 _ rfl; (with_reducible repeat (first | refine blk_drewN ?_ _ | refine blk_drew ?_ | refine blk_alloc ?_ _)); refine blk_put (cs := #[.int .u32 0, .int .u32 0]) ?_ 0 _ rfl; (with_reducible repeat (first | refine blk_drewN ?_ _ | refine blk_drew ?_ | refine blk_alloc ?_ _)); exact BK325.out⟩, ⟨by repeat (first | (with_reducible first | exact HB.out | apply below_alloc | apply pw_below_drewN | apply below_drew1 | refine below_set ?_ GE313.out | refine below_set ?_ GE317.out | refine below_set ?_ GE321.out | refine below_set ?_ GE325.out) | exact HB.out)⟩⟩
                          · rw [if_neg c52] at H
                            have c52b0 : (!(t318 == t322) || (!(t319 == t323))) = false := by simpa using c52
                            clear c52
                            (first | rw [c52b0] | (simp only [i64_w, i32_w]; rw [c52b0]) | rw [c52b1] | skip)
                            have H' := Aside0.mk H
                            clear H
                            have hnb60 := NB321_313.out
                            have hnc60 := NB313_321.out
                            have hnb61 := NB321_317.out
                            have hnc61 := NB317_321.out
                            have hnb62 := NB321_325.out
                            have hnc62 := NB325_321.out
                            have hcz63_0 : w47.cell? ⟨gb321, 0, none⟩ = some (.int .u32 t318) := (blk_cell BK321.out 0).trans rfl
                            have hcz63_1 : w47.cell? ⟨gb321, 1, none⟩ = some (.int .u32 t319) := (blk_cell BK321.out 1).trans rfl
                            have hfz63_0 := blk_frozen BK321.out 0
                            have hfz63_1 := blk_frozen BK321.out 1
                            have hnb64 := NB325_313.out
                            have hnc64 := NB313_325.out
                            have hnb65 := NB325_317.out
                            have hnc65 := NB317_325.out
                            have hcz66_0 : w47.cell? ⟨gb325, 0, none⟩ = some (.int .u32 0) := (blk_cell BK325.out 0).trans rfl
                            have hcz66_1 : w47.cell? ⟨gb325, 1, none⟩ = some (.int .u32 0) := (blk_cell BK325.out 1).trans rfl
                            have hfz66_0 := blk_frozen BK325.out 0
                            have hfz66_1 := blk_frozen BK325.out 1
                            go_wp2
                            go_meet
                            case rel => exact ⟨_, ((t320 != t324)), (by first | rfl | (simp; done) | (simp [*]; done)), H', ⟨by have := HJ7.out; have := HJ14.out; have := HJ21.out; first | omega | exact Nat.le_refl _⟩, ⟨by (with_reducible repeat (first | refine blk_drewN ?_ _ | refine blk_drew ?_ | refine blk_alloc ?_ _)); refine blk_far ?_ NB313_325.out _; (with_reducible repeat (first | refine blk_drewN ?_ _ | refine blk_drew ?_ | refine blk_alloc ?_ _)); refine blk_far ?_ NB313_325.out _; (with_reducible repeat (first | refine blk_drewN ?_ _ | refine blk_drew ?_ | refine blk_alloc ?_ _)); exact BK313.out⟩, ⟨by (with_reducible repeat (first | refine blk_drewN ?_ _ | refine blk_drew ?_ | refine blk_alloc ?_ _)); refine blk_far ?_ NB317_325.out _; (with_reducible repeat (first | refine blk_drewN ?_ _ | refine blk_drew ?_ | refine blk_alloc ?_ _)); refine blk_far ?_ NB317_325.out _; (with_reducible repeat (first | refine blk_drewN ?_ _ | refine blk_drew ?_ | refine blk_alloc ?_ _)); exact BK317.out⟩, ⟨by (with_reducible repeat (first | refine blk_drewN ?_ _ | refine blk_drew ?_ | refine blk_alloc ?_ _)); refine blk_far ?_ NB321_325.out _; (with_reducible repeat (first | refine blk_drewN ?_ _ | refine blk_drew ?_ | refine blk_alloc ?_ _)); refine blk_far ?_ NB321_325.out _; (with_reducible repeat (first | refine blk_drewN ?_ _ | refine blk_drew ?_ | refine blk_alloc ?_ _)); exact BK321.out⟩, ⟨by (with_reducible repeat (first | refine blk_drewN ?_ _ | refine blk_drew ?_ | refine blk_alloc ?_ _)); refine blk_put (cs := #[.int .u32 t322, .int .u32 0]) ?_ 1 _ rfl; (with_reducible repeat (first | refine blk_drewN ?_ _ | refine blk_drew ?_ | refine blk_alloc ?_ _)); refine blk_put (cs := #[.int .u32 0, .int .u32 0]) ?_ 0 _ rfl; (with_reducible repeat (first | refine blk_drewN ?_ _ | refine blk_drew ?_ | refine blk_alloc ?_ _)); exact BK325.out⟩, ⟨by repeat (first | (with_reducible first | exact HB.out | apply below_alloc | apply pw_below_drewN | apply below_drew1 | refine below_set ?_ GE313.out | refine below_set ?_ GE317.out | refine below_set ?_ GE321.out | refine below_set ?_ GE325.out) | exact HB.out)⟩⟩
                        case rest =>
                          clear HC40
                          try clear c1
                          try clear c2
                          try clear p2
                          try clear c3
                          try clear c4
                          try clear c4b0
                          try clear c4b1
                          try clear c5
                          try clear c6
                          try clear c7
                          try clear c8
                          try clear c11
                          try clear c11b0
                          try clear c11b1
                          try clear c12
                          try clear c14
                          try clear c15
                          try clear c16
                          try clear c17
                          try clear c18
                          try clear c18b0
                          try clear c18b1
                          try clear c19
                          try clear c20
                          try clear c21
                          try clear c28
                          try clear c30
                          try clear c30b0
                          try clear c30b1
                          try clear c31
                          try clear c34
                          try clear c37
                          try clear c43
                          try clear c44
                          try clear c48
                          try clear c49
                          try clear c50
                          try clear c52
                          try clear c52b0
                          try clear c52b1
                          try clear c53
                          try clear c54
                          try clear c55
                          try clear c57
                          try clear c58
                          try clear c60
                          try clear c61
                          try clear c62
                          try clear c64
                          try clear c65
                          try clear hcz25_0
                          try clear hcz25_1
                          try clear hcz29_0
                          try clear hcz29_1
                          try clear hcz32_0
                          try clear hcz32_1
                          try clear hcz33_0
                          try clear hcz33_1
                          try clear hcz35_0
                          try clear hcz35_1
                          try clear hcz36_0
                          try clear hcz36_1
                          try clear hcz45_0
                          try clear hcz45_1
                          try clear hcz51_0
                          try clear hcz51_1
                          try clear hcz56_0
                          try clear hcz56_1
                          try clear hcz59_0
                          try clear hcz59_1
                          try clear hcz63_0
                          try clear hcz63_1
                          try clear hcz66_0
                          try clear hcz66_1
                          try clear hfz25_0
                          try clear hfz25_1
                          try clear hfz29_0
                          try clear hfz29_1
                          try clear hfz32_0
                          try clear hfz32_1
                          try clear hfz33_0
                          try clear hfz33_1
                          try clear hfz35_0
                          try clear hfz35_1
                          try clear hfz36_0
                          try clear hfz36_1
                          try clear hfz45_0
                          try clear hfz45_1
                          try clear hfz51_0
                          try clear hfz51_1
                          try clear hfz56_0
                          try clear hfz56_1
                          try clear hfz59_0
                          try clear hfz59_1
                          try clear hfz63_0
                          try clear hfz63_1
                          try clear hfz66_0
                          try clear hfz66_1
                          try clear p2
                          obtain ⟨kq, x89_39, rfl, HA, HJ39, BK313, BK317, BK321, BK325, HB⟩ := hcut
                          cases kq with
                          | zero => exact absurd HA.out (by simp [dragomanlaw14_LexWords.j3])
                          | succ kj39 =>
                            have H := HA.out
                            clear HA
                            simp only [dragomanlaw14_LexWords.j3] at H
                            by_cases c67 : x89_39 = true
                            · subst c67
                              have H1 : (none) = some r := by rw [if_pos rfl] at H; exact H
                              clear H
                              have H := H1
                              clear H1
                              exact absurd H (by simp)
                            · replace c67 := Bool.eq_false_iff.mpr c67
                              subst c67
                              have H1 : ((lex_Origin.f a0).bind fun bt326 => ((dragomanref14_Origin.f a0).bind fun bt328 => (if bt326.1 = bt328.1 then (some (bt326.2 == bt328.2)) else (none)))) = some r := by rw [if_neg (show ¬ (false = true) by decide)] at H; exact H
                              clear H
                              have H := H1
                              clear H1
                              replace H := Option.bind_eq_some_iff.mp H
                              obtain ⟨⟨t326, t327⟩, A680, H⟩ := H
                              replace H : ((dragomanref14_Origin.f a0).bind fun bt328 => (if t326 = bt328.1 then (some (t327 == bt328.2)) else (none))) = some r := H
                              have A68 := Aside0.mk A680
                              clear A680
                              replace H := Option.bind_eq_some_iff.mp H
                              obtain ⟨⟨t328, t329⟩, A690, H⟩ := H
                              replace H : (if t326 = t328 then (some (t327 == t329)) else (none)) = some r := H
                              have A69 := Aside0.mk A690
                              clear A690
                              by_cases c70 : t326 = t328
                              · rw [if_pos c70] at H
                                have c70b0 : (t326 == t328) = true := beq_iff_eq.mpr c70
                                have c70b1 : (t326 != t328) = false := bne_eq_false_iff_eq.mpr c70
                                clear c70
                                obtain rfl := Option.some.inj H
                                go_wp2_with (first | ((with_reducible refine gate_callee (f := 22) rfl ?_); refine goesL_ (some 92) rfl rfl Tryd.func22 (by kernel_rfl) rfl #[.string a0] rfl (by (try simp only [List.map_toArray, List.map_cons, List.map_nil]); first | done | rfl | (simp only [List.length_drop, List.length_take]; rfl)) ?_; (with_reducible refine (lex_Origin.calls a0 t326 t327 _ A68.out).mono ?_); rintro e w' ⟨rfl, ⟨nd, rfl⟩⟩; refine ⟨_, rfl, ?_⟩) | ((with_reducible refine gate_callee (f := 23) rfl ?_); refine goesL_ (some 97) rfl rfl Tryd.func23 (by kernel_rfl) rfl #[.string a0] rfl (by (try simp only [List.map_toArray, List.map_cons, List.map_nil]); first | done | rfl | (simp only [List.length_drop, List.length_take]; rfl)) ?_; (with_reducible refine (dragomanref14_Origin.calls a0 t328 t329 _ A69.out).mono ?_); rintro e w71 ⟨rfl, hb⟩; refine ⟨_, rfl, ?_⟩; have n0_ := Aside0.mk (blk_below (g := gb313) (o := .cells #[.int .u32 t310, .int .i64 t311] 48 (0, 0)) (by (with_reducible repeat (first | refine blk_drewN ?_ _ | refine blk_drew ?_ | refine blk_alloc ?_ _)); exact BK313.out) hb); have n1_ := Aside0.mk (blk_below (g := gb317) (o := .cells #[.int .u32 t314, .int .i64 t315] 48 (0, 0)) (by (with_reducible repeat (first | refine blk_drewN ?_ _ | refine blk_drew ?_ | refine blk_alloc ?_ _)); exact BK317.out) hb); have n2_ := Aside0.mk (blk_below (g := gb321) (o := .cells #[.int .u32 t318, .int .u32 t319] 52 (0, 0)) (by (with_reducible repeat (first | refine blk_drewN ?_ _ | refine blk_drew ?_ | refine blk_alloc ?_ _)); exact BK321.out) hb); have n3_ := Aside0.mk (blk_below (g := gb325) (o := .cells #[.int .u32 t322, .int .u32 t323] 52 (0, 0)) (by (with_reducible repeat (first | refine blk_drewN ?_ _ | refine blk_drew ?_ | refine blk_alloc ?_ _)); exact BK325.out) hb); have n4_ := Aside0.mk (below_step (by repeat (first | (with_reducible first | exact HB.out | apply below_alloc | apply pw_below_drewN | apply below_drew1 | refine below_set ?_ GE313.out | refine below_set ?_ GE317.out | refine below_set ?_ GE321.out | refine below_set ?_ GE325.out) | exact HB.out)) hb); clear BK313; clear BK317; clear BK321; clear BK325; clear HB; have BK313 := n0_; have BK317 := n1_; have BK321 := n2_; have BK325 := n3_; have HB := n4_; clear n0_ n1_ n2_ n3_ n4_; (try clear hb); (try clear hb2); (try clear hk); (try clear hi)))
                                first | go_ret | refine ⟨_, results_tmp rfl _ _ _, ?_⟩
                                exact ⟨by first | rfl | (simp [errW_none, errW_some] <;> rfl) | (simp [*, errW_none, errW_some] <;> rfl), by repeat (first | (with_reducible first | exact HB.out | apply below_alloc | apply pw_below_drewN | apply below_drew1 | refine below_set ?_ GE313.out | refine below_set ?_ GE317.out | refine below_set ?_ GE321.out | refine below_set ?_ GE325.out) | exact HB.out)⟩
                              · rw [if_neg c70] at H
                                exact absurd H (by simp)
  · replace c3 := Bool.eq_false_iff.mpr c3
    subst c3
    have H1 : (none) = some r := by rw [if_neg (show ¬ (false = true) by decide)] at H; exact H
    clear H
    have H := H1
    clear H1
    exact absurd H (by simp)
end Go.Proofs.YtdnneofebehpaaaDoor.L
