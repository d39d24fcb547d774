import Derived.Test.YtdnneofebehpaaaDoorLx0
import Derived.Test.YtdnneofebehpaaaDoorLx3
import Derived.Test.YtdnneofebehpaaaDoorLx11
import Derived.Test.YtdnneofebehpaaaDoorLx19
namespace Go.Proofs.YtdnneofebehpaaaDoor.L
open Go.RowKit Go.Proofs.YtdnneofebehpaaaDoorW.PrintWords Go.Proofs.YtdnneofebehpaaaDoorW.PrintLast Go.Proofs.YtdnneofebehpaaaDoorW.PrintMore
attribute [local go_sem] max2_int min2_int max_two min_two max_three min_three max_four min_four
set_option linter.unusedVariables false
set_option linter.unusedSimpArgs false
attribute [local go_sem high] eqA48
def dragomanref03_Right.f (k : Nat) (a0_0 : Int) (a0_1 : Int) : Option (Bool) := (dragomanref03_Mask.f k a0_0 a0_1).bind fun bt279 => (some (a0_0 == bt279.1 && (a0_1 == bt279.2)))
theorem dragomanref03_Right.mono : ∀ a0 a1 k, LeO (dragomanref03_Right.f k a0 a1) (dragomanref03_Right.f (k + 1) a0 a1) := by
  intro a0 a1 k
  unfold dragomanref03_Right.f
  repeat' first
      | (with_reducible exact dragomanref03_Mask.mono _ _ _)
      | (with_reducible exact LeO.refl _)
      | (with_reducible exact LeO.none _)
      | (with_reducible refine LeO.ite ?_ ?_)
      | (with_reducible refine LeO.bind ?_ (fun _ => ?_))
      | exact dragomanref03_Mask.mono _ _ _
      | exact LeO.none _
      | refine LeO.ite ?_ ?_
      | refine LeO.bind ?_ (fun _ => ?_)
set_option maxHeartbeats 8000000 in
set_option maxRecDepth 100000 in
theorem dragomanref03_Right.calls (k : Nat) (a0_0 : Int) (a0_1 : Int) (r : Bool) (w : World) (h : dragomanref03_Right.f k a0_0 a0_1 = some r) :
    Calls Tryd.prog 42 #[.agg #[.int .u32 a0_0, .int .i64 a0_1]] w fun e w' => e = .returned (.bool r) ∧ Below w.heap.size w w' := by
  have hu48 := Tryd.underlying48
  have HB := Aside0.mk (Below.refl w.heap.size w)
  have H : ((dragomanref03_Mask.f k a0_0 a0_1).bind fun bt279 => (some (a0_0 == bt279.1 && (a0_1 == bt279.2)))) = some r := h
  clear h
  replace H := Option.bind_eq_some_iff.mp H
  obtain ⟨⟨t279, t280⟩, A20, H⟩ := H
  replace H : (some (a0_0 == t279 && (a0_1 == t280))) = some r := H
  have A2 := Aside0.mk A20
  clear A20
  obtain rfl := Option.some.inj H
  go_enter Tryd.func42, Tryd.ntmps42
  try go_wp2_with (first | ((with_reducible refine gate_dst (N := 1) rfl ?_); refine box_event ?hg (N := 1) ?hd (cs := #[.int .u32 a0_0, .int .i64 a0_1]) (t := 48) ?hr ?_; (case hd => rfl); (case hg => rfl); (case hr => first | (go_simp; done) | (go_simp; rfl)); intro gb278 hg w3 hbox hb; have n0_ := Aside0.mk (below_step (by repeat (first | (with_reducible first | exact HB.out | apply below_alloc | apply pw_below_drewN | apply below_drew1) | exact HB.out)) hb); have n1_ := Aside0.mk (hbox); have n2_ := Aside0.mk ((by rw [hg]; exact (below_size (by repeat (first | (with_reducible first | exact HB.out | apply below_alloc | apply pw_below_drewN | apply below_drew1) | exact HB.out))) : w.heap.size ≤ gb278)); have n3_ := Aside0.mk ((by rw [hg]; exact (below_size (by repeat (first | (with_reducible first | exact HB.out | apply below_alloc | apply pw_below_drewN | apply below_drew1) | exact HB.out))) : w.heap.size ≤ gb278)); clear HB; have HB := n0_; have BK278 := n1_; have GW278 := n2_; have GE278 := n3_; clear n0_ n1_ n2_ n3_; clear hb hbox hg))
  have n0_ := Aside0.mk (blk_drew BK278.out)
  have n1_ := Aside0.mk (below_drew1 HB.out)
  clear BK278
  clear HB
  have BK278 := n0_
  have HB := n1_
  clear n0_ n1_
  refine start_ (n := 5) (S := fun w' => w'.cell? ⟨gb278, 0, none⟩ = some (.int .u32 a0_0) ∧ w'.cell? ⟨gb278, 1, none⟩ = some (.int .i64 a0_1)) (ds := []) #[false, false, false, false, false] (by kernel_rfl) rfl rfl ⟨(blk_cell BK278.out 0).trans rfl, (blk_cell BK278.out 1).trans rfl⟩ (fun hHeld => ?_)
  generalize w3.drew = w4 at BK278 HB hHeld ⊢
  refine take_ (i := 0) (N := some 3) (v := ?_) (a' := ?_) #[true, false, false, false, false] rfl rfl (by kernel_rfl) (fun _ _ _ h => h) (Or.inl ⟨by rfl, ?_⟩) hHeld ?_ ?_
  rotate_left
  · rintro w' ⟨s0, s1⟩
    go_simp
    with_reducible rfl
  rotate_left
  · simp only [Act.put, List.setIfInBounds_toArray, List.set_cons_zero, List.set_cons_succ, i64_w, i32_w]
    rfl
  refine take_ (i := 1) (N := some 4) (v := ?_) (a' := ?_) #[true, true, false, false, false] rfl rfl (by kernel_rfl) (fun _ _ _ h => h) (Or.inl ⟨by rfl, ?_⟩) hHeld ?_ ?_
  rotate_left
  · rintro w' ⟨s0, s1⟩
    go_simp
    with_reducible rfl
  rotate_left
  · simp only [Act.put, List.setIfInBounds_toArray, List.set_cons_zero, List.set_cons_succ, i64_w, i32_w]
    rfl
  refine one_ (i := 2) (N := some 5) #[true, true, true, false, false] rfl rfl (by kernel_rfl) (by decide) (fun K hK => ?_)
  refine goes_ Tryd.func61 (by kernel_rfl) rfl #[.agg #[.int .u32 a0_0, .int .i64 a0_1]] (by rfl) rfl rfl (by (try simp only [List.map_toArray, List.map_cons, List.map_nil]); first | done | rfl | (simp only [List.length_drop, List.length_take]; rfl)) ?_
  with_reducible refine (dragomanref03_Mask.calls k a0_0 a0_1 t279 t280 _ A2.out).mono ?_
  rintro e w5 ⟨rfl, hb⟩
  refine ⟨_, rfl, ?_⟩
  have n0_ := Aside0.mk (blk_below (g := gb278) (o := .cells #[.int .u32 a0_0, .int .i64 a0_1] 48 (0, 0)) (by (with_reducible repeat (first | refine blk_drewN ?_ _ | refine blk_drew ?_ | refine blk_alloc ?_ _)); exact BK278.out) hb)
  have n1_ := Aside0.mk (below_step (by repeat (first | (with_reducible first | exact HB.out | apply below_alloc | apply pw_below_drewN | apply below_drew1 | refine below_set ?_ GE278.out) | exact HB.out)) hb)
  clear BK278
  clear HB
  have BK278 := n0_
  have HB := n1_
  clear n0_ n1_
  (try clear hb)
  (try clear hb2)
  (try clear hk)
  (try clear hi)
  refine hK.out _ _ ⟨(blk_cell BK278.out 0).trans rfl, (blk_cell BK278.out 1).trans rfl⟩ (fun hHeld => ?_)
  clear hK K
  refine norm_ (a' := ?_) ?_ ?_
  rotate_left
  · show Act.put _ (some 5) _ = _
    simp only [Act.put, List.setIfInBounds_toArray, List.set_cons_zero, List.set_cons_succ, i64_w, i32_w]
    rfl
  refine pure_ (i := 3) (N := some 6) (v := ?_) (a' := ?_) #[true, true, true, true, false] rfl rfl (by kernel_rfl) (fun _ _ _ h => h) (Or.inl ⟨by rfl, ?_⟩) ?_ ?_
  rotate_left
  · intro w'
    go_simp
    with_reducible rfl
  rotate_left
  · simp only [Act.put, List.setIfInBounds_toArray, List.set_cons_zero, List.set_cons_succ, i64_w, i32_w]
    rfl
  refine pure_ (i := 4) (N := some 2) (v := ?_) (a' := ?_) #[true, true, true, true, true] rfl rfl (by kernel_rfl) (fun _ _ _ h => h) (Or.inl ⟨by rfl, ?_⟩) ?_ ?_
  rotate_left
  · intro w'
    go_simp
    with_reducible rfl
  rotate_left
  · simp only [Act.put, List.setIfInBounds_toArray, List.set_cons_zero, List.set_cons_succ, i64_w, i32_w]
    rfl
  refine done_ (by kernel_rfl) ?_
  try go_wp2
  first | go_ret | refine ⟨_, results_tmp rfl _ _ _, ?_⟩
  exact ⟨by first | rfl | (simp [errW_none, errW_some] <;> rfl) | (simp [*, errW_none, errW_some] <;> rfl), by repeat (first | (with_reducible first | exact HB.out | apply below_alloc | apply pw_below_drewN | apply below_drew1 | refine below_set ?_ GE278.out) | exact HB.out)⟩
def dragomanref14_Prefix.f (k : Nat) (a0 : ByteArray) : Option (Int × Int × Bool) := (dragomanref14_pieces.f k a0 (⟨#[47]⟩ : ByteArray)).bind fun t282 => (if (t282.length : Int) = 2 then (if 0 < (t282.length : Int) then ((dragomanref14_Addr.f k (rdOf ByteArray.empty t282 0)).bind fun bt286 => (if 1 < (t282.length : Int) then ((dragomanref14_Num.f k (rdOf ByteArray.empty t282 1)).bind fun bt289 => (if bt286.2 = true then (if bt289.2 = true then ((dragomanref03_Right.f k bt286.1 (wrap64 (bt289.1))).bind fun t292 => (if t292 = true then (some (bt286.1, wrap64 (bt289.1), true)) else (some (0, 0, false)))) else (some (0, 0, false))) else (some (0, 0, false)))) else (none))) else (none)) else (some (0, 0, false)))
theorem dragomanref14_Prefix.mono : ∀ a0 k, LeO (dragomanref14_Prefix.f k a0) (dragomanref14_Prefix.f (k + 1) a0) := by
  intro a0 k
  unfold dragomanref14_Prefix.f
  repeat' first
      | (with_reducible exact dragomanref03_Right.mono _ _ _)
      | (with_reducible exact dragomanref14_Addr.mono _ _)
      | (with_reducible exact dragomanref14_Num.mono _ _)
      | (with_reducible exact dragomanref14_pieces.mono _ _ _)
      | (with_reducible exact LeO.refl _)
      | (with_reducible exact LeO.none _)
      | (with_reducible refine LeO.ite ?_ ?_)
      | (with_reducible refine LeO.bind ?_ (fun _ => ?_))
      | exact dragomanref03_Right.mono _ _ _
      | exact dragomanref14_Addr.mono _ _
      | exact dragomanref14_Num.mono _ _
      | exact dragomanref14_pieces.mono _ _ _
      | exact LeO.none _
      | refine LeO.ite ?_ ?_
      | refine LeO.bind ?_ (fun _ => ?_)
set_option maxHeartbeats 8000000 in
set_option maxRecDepth 100000 in
theorem dragomanref14_Prefix.calls (k : Nat) (a0 : ByteArray) (r1 : Int) (r2 : Int) (r3 : Bool) (w : World) (h : dragomanref14_Prefix.f k a0 = some (r1, r2, r3)) :
    Calls Tryd.prog 19 #[.string a0] w fun e w' => e = .returned (.tuple #[.agg #[.int .u32 r1, .int .i64 r2], .bool r3]) ∧ Below w.heap.size w w' := by
  have hu48 := Tryd.underlying48
  have HB := Aside0.mk (Below.refl w.heap.size w)
  have H : ((dragomanref14_pieces.f k a0 (⟨#[47]⟩ : ByteArray)).bind fun t282 => (if (t282.length : Int) = 2 then (if 0 < (t282.length : Int) then ((dragomanref14_Addr.f k (rdOf ByteArray.empty t282 0)).bind fun bt286 => (if 1 < (t282.length : Int) then ((dragomanref14_Num.f k (rdOf ByteArray.empty t282 1)).bind fun bt289 => (if bt286.2 = true then (if bt289.2 = true then ((dragomanref03_Right.f k bt286.1 (wrap64 (bt289.1))).bind fun t292 => (if t292 = true then (some (bt286.1, wrap64 (bt289.1), true)) else (some (0, 0, false)))) else (some (0, 0, false))) else (some (0, 0, false)))) else (none))) else (none)) else (some (0, 0, false)))) = some (r1, r2, r3) := h
  clear h
  replace H := Option.bind_eq_some_iff.mp H
  obtain ⟨t282, A20, H⟩ := H
  replace H : (if (t282.length : Int) = 2 then (if 0 < (t282.length : Int) then ((dragomanref14_Addr.f k (rdOf ByteArray.empty t282 0)).bind fun bt286 => (if 1 < (t282.length : Int) then ((dragomanref14_Num.f k (rdOf ByteArray.empty t282 1)).bind fun bt289 => (if bt286.2 = true then (if bt289.2 = true then ((dragomanref03_Right.f k bt286.1 (wrap64 (bt289.1))).bind fun t292 => (if t292 = true then (some (bt286.1, wrap64 (bt289.1), true)) else (some (0, 0, false)))) else (some (0, 0, false))) else (some (0, 0, false)))) else (none))) else (none)) else (some (0, 0, false))) = some (r1, r2, r3) := H
  have A2 := Aside0.mk A20
  clear A20
  by_cases c3 : (t282.length : Int) = 2
  · rw [if_pos c3] at H
    have c3b0 : ((t282.length : Int) == 2) = true := beq_iff_eq.mpr c3
    have c3b1 : ((t282.length : Int) != 2) = false := bne_eq_false_iff_eq.mpr c3
    clear c3
    by_cases c4 : 0 < (t282.length : Int)
    · rw [if_pos c4] at H
      have c4b0 : decide (0 < (t282.length : Int)) = true := decide_eq_true c4
      have c4b1 : decide (0 < t282.length) = true := decide_eq_true (by omega)
      clear c4
      replace H := Option.bind_eq_some_iff.mp H
      obtain ⟨⟨t286, t287⟩, A50, H⟩ := H
      replace H : (if 1 < (t282.length : Int) then ((dragomanref14_Num.f k (rdOf ByteArray.empty t282 1)).bind fun bt289 => (if t287 = true then (if bt289.2 = true then ((dragomanref03_Right.f k t286 (wrap64 (bt289.1))).bind fun t292 => (if t292 = true then (some (t286, wrap64 (bt289.1), true)) else (some (0, 0, false)))) else (some (0, 0, false))) else (some (0, 0, false)))) else (none)) = some (r1, r2, r3) := H
      have A5 := Aside0.mk A50
      clear A50
      by_cases c6 : 1 < (t282.length : Int)
      · rw [if_pos c6] at H
        have c6b0 : decide (1 < (t282.length : Int)) = true := decide_eq_true c6
        have c6b1 : decide (1 < t282.length) = true := decide_eq_true (by omega)
        clear c6
        replace H := Option.bind_eq_some_iff.mp H
        obtain ⟨⟨t289, t290⟩, A70, H⟩ := H
        replace H : (if t287 = true then (if t290 = true then ((dragomanref03_Right.f k t286 (wrap64 (t289))).bind fun t292 => (if t292 = true then (some (t286, wrap64 (t289), true)) else (some (0, 0, false)))) else (some (0, 0, false))) else (some (0, 0, false))) = some (r1, r2, r3) := H
        have A7 := Aside0.mk A70
        clear A70
        by_cases c8 : t287 = true
        · subst c8
          have H1 : (if t290 = true then ((dragomanref03_Right.f k t286 (wrap64 (t289))).bind fun t292 => (if t292 = true then (some (t286, wrap64 (t289), true)) else (some (0, 0, false)))) else (some (0, 0, false))) = some (r1, r2, r3) := by rw [if_pos rfl] at H; exact H
          clear H
          have H := H1
          clear H1
          by_cases c9 : t290 = true
          · subst c9
            have H1 : ((dragomanref03_Right.f k t286 (wrap64 (t289))).bind fun t292 => (if t292 = true then (some (t286, wrap64 (t289), true)) else (some (0, 0, false)))) = some (r1, r2, r3) := by rw [if_pos rfl] at H; exact H
            clear H
            have H := H1
            clear H1
            replace H := Option.bind_eq_some_iff.mp H
            obtain ⟨t292, A100, H⟩ := H
            replace H : (if t292 = true then (some (t286, wrap64 (t289), true)) else (some (0, 0, false))) = some (r1, r2, r3) := H
            have A10 := Aside0.mk A100
            clear A100
            by_cases c11 : t292 = true
            · subst c11
              have H1 : (some (t286, wrap64 (t289), true)) = some (r1, r2, r3) := by rw [if_pos rfl] at H; exact H
              clear H
              have H := H1
              clear H1
              simp only [Option.some.injEq, Prod.mk.injEq] at H
              obtain ⟨rfl, rfl, rfl⟩ := H
              go_enter Tryd.func19, Tryd.ntmps19
              go_wp2_with (first | ((with_reducible refine gate_dst (N := 2) rfl ?_); refine box_event ?hg (N := 2) ?hd (cs := #[.int .u32 0, .int .i64 0]) (t := 48) ?hr ?_; (case hd => rfl); (case hg => rfl); (case hr => first | (go_simp; done) | (go_simp; rfl)); intro gb281 hg w12 hbox hb; have n0_ := Aside0.mk (below_step (by repeat (first | (with_reducible first | exact HB.out | apply below_alloc | apply pw_below_drewN | apply below_drew1) | exact HB.out)) hb); have n1_ := Aside0.mk (hbox); have n2_ := Aside0.mk ((by rw [hg]; exact (below_size (by repeat (first | (with_reducible first | exact HB.out | apply below_alloc | apply pw_below_drewN | apply below_drew1) | exact HB.out))) : w.heap.size ≤ gb281)); have n3_ := Aside0.mk ((by rw [hg]; exact (below_size (by repeat (first | (with_reducible first | exact HB.out | apply below_alloc | apply pw_below_drewN | apply below_drew1) | exact HB.out))) : w.heap.size ≤ gb281)); clear HB; have HB := n0_; have BK281 := n1_; have GW281 := n2_; have GE281 := n3_; clear n0_ n1_ n2_ n3_; clear hb hbox hg) | ((with_reducible refine gate_callee (f := 28) rfl ?_); refine goesL_ (some 11) rfl rfl Tryd.func28 (by kernel_rfl) rfl #[.string a0, .string (⟨#[47]⟩ : ByteArray)] rfl (by (try simp only [List.map_toArray, List.map_cons, List.map_nil]); first | done | rfl | (simp only [List.length_drop, List.length_take]; rfl)) ?_; (with_reducible refine (dragomanref14_pieces.calls k a0 (⟨#[47]⟩ : ByteArray) t282 _ A2.out).mono ?_); rintro e w13 ⟨v283, rfl, ho0, hb⟩; refine ⟨_, rfl, ?_⟩; have n0_ := Aside0.mk (Kd.R_lower ho0 (below_size (by repeat (first | (with_reducible first | exact HB.out | apply below_alloc | apply pw_below_drewN | apply below_drew1 | refine below_set ?_ GE281.out) | exact HB.out)))); have n1_ := Aside0.mk (blk_below (g := gb281) (o := .cells #[.int .u32 0, .int .i64 0] 48 (0, 0)) (by (with_reducible repeat (first | refine blk_drewN ?_ _ | refine blk_drew ?_ | refine blk_alloc ?_ _)); exact BK281.out) hb); have n2_ := Aside0.mk (below_step (by repeat (first | (with_reducible first | exact HB.out | apply below_alloc | apply pw_below_drewN | apply below_drew1 | refine below_set ?_ GE281.out) | exact HB.out)) hb); clear BK281; clear HB; have HO284 := n0_; have BK281 := n1_; have HB := n2_; clear n0_ n1_ n2_; (try clear hb); (try clear hb2); (try clear hk); (try clear hi); (try clear ho0); obtain ⟨Ao14, co14, eo14⟩ := Kd.R_slice HO284.out; subst eo14; have p285 : 0 ≤ (0 : Int) := (by omega); have q285 : 0 < (t282.length : Int) := of_decide_eq_true (by first | (with_reducible assumption) | assumption); obtain ⟨ad285, e285, hx285_0⟩ := Kd.at_string (Kd.R_reads' HO284.out).2.2 0 p285 q285; cases e285; have qi285 : (0 < t282.length) = True := eq_true (by omega); (try rw [show ((0 : Int)).toNat = 0 from rfl] at hx285_0); (try rw [Addr.add_zero'] at hx285_0); replace p285 := eq_true p285; replace q285 := eq_true q285) | ((with_reducible refine gate_callee (f := 17) rfl ?_); refine goesL_ (some 20) rfl rfl Tryd.func17 (by kernel_rfl) rfl #[.string (rdOf ByteArray.empty t282 0)] rfl (by (try simp only [List.map_toArray, List.map_cons, List.map_nil]); first | done | rfl | (simp only [List.length_drop, List.length_take]; rfl)) ?_; (with_reducible refine (dragomanref14_Addr.calls k (rdOf ByteArray.empty t282 0) t286 true _ A5.out).mono ?_); rintro e w15 ⟨rfl, hb⟩; refine ⟨_, rfl, ?_⟩; have n0_ := Aside0.mk (Kd.R_below (by (with_reducible repeat (first | apply Kd.R_alloc | apply Kd.R_drewN | apply Kd.R_drew)); exact HO284.out) hb); have n1_ := Aside0.mk (blk_below (g := gb281) (o := .cells #[.int .u32 0, .int .i64 0] 48 (0, 0)) (by (with_reducible repeat (first | refine blk_drewN ?_ _ | refine blk_drew ?_ | refine blk_alloc ?_ _)); exact BK281.out) hb); have n2_ := Aside0.mk (below_step (by repeat (first | (with_reducible first | exact HB.out | apply below_alloc | apply pw_below_drewN | apply below_drew1 | refine below_set ?_ GE281.out) | exact HB.out)) hb); clear HO284; clear BK281; clear HB; have HO284 := n0_; have BK281 := n1_; have HB := n2_; clear n0_ n1_ n2_; (try clear hb); (try clear hb2); (try clear hk); (try clear hi); have p288 : 0 ≤ (1 : Int) := (by omega); have q288 : 1 < (t282.length : Int) := of_decide_eq_true (by first | (with_reducible assumption) | assumption); obtain ⟨ad288, e288, hx288_0⟩ := Kd.at_string (Kd.R_reads' HO284.out).2.2 1 p288 q288; obtain rfl : ad285 = ad288 := (by injection e288); (try simp only [show (1 : Int).toNat = 1 from rfl, Nat.reduceMul, Nat.reduceEqDiff, Go.Addr.add, ↓reduceIte] at hx288_0); have qi288 : (1 < t282.length) = True := eq_true (by omega); (try rw [show ((1 : Int)).toNat = 1 from rfl] at hx288_0); replace p288 := eq_true p288; replace q288 := eq_true q288) | ((with_reducible refine gate_callee (f := 15) rfl ?_); refine goesL_ (some 27) rfl rfl Tryd.func15 (by kernel_rfl) rfl #[.string (rdOf ByteArray.empty t282 1)] rfl (by (try simp only [List.map_toArray, List.map_cons, List.map_nil]); first | done | rfl | (simp only [List.length_drop, List.length_take]; rfl)) ?_; (with_reducible refine (dragomanref14_Num.calls k (rdOf ByteArray.empty t282 1) t289 true _ A7.out).mono ?_); rintro e w' ⟨rfl, ⟨nd, rfl⟩⟩; refine ⟨_, rfl, ?_⟩; (try (rw [drewN_self w15]; generalize hq_ : World.drewN w15 _ = w15; have n0_ : Aside0 (Kd.R Kd.string 9 w15 w.heap.size (fun _ => True) (.slice (some ad285) t282.length co14) t282) := ⟨by rw [← hq_]; exact (by (with_reducible repeat (first | apply Kd.R_alloc | apply Kd.R_drewN | apply Kd.R_drew)); exact HO284.out)⟩; have n1_ : Aside0 (w15.heap[gb281]? = some (.cells #[.int .u32 0, .int .i64 0] 48 (0, 0))) := ⟨by rw [← hq_]; exact (by (with_reducible repeat (first | refine blk_drewN ?_ _ | refine blk_drew ?_ | refine blk_alloc ?_ _)); exact BK281.out)⟩; have n2_ : Aside0 (Below w.heap.size w w15) := ⟨by rw [← hq_]; exact (by repeat (first | (with_reducible first | exact HB.out | apply below_alloc | apply pw_below_drewN | apply below_drew1 | refine below_set ?_ GE281.out) | exact HB.out))⟩; clear HO284 BK281 HB hq_; have HO284 := n0_; have BK281 := n1_; have HB := n2_; clear n0_ n1_ n2_))) | ((with_reducible refine gate_dst (N := 9) rfl ?_); refine box_event ?hg (N := 9) ?hd (cs := #[.int .u32 0, .int .i64 0]) (t := 48) ?hr ?_; (case hd => rfl); (case hg => rfl); (case hr => first | (go_simp; done) | (go_simp; rfl)); intro gb291 hg w16 hbox hb; have n0_ := Aside0.mk (Kd.R_below (by (with_reducible repeat (first | apply Kd.R_alloc | apply Kd.R_drewN | apply Kd.R_drew)); exact HO284.out) hb); have n1_ := Aside0.mk (blk_below (g := gb281) (o := .cells #[.int .u32 0, .int .i64 0] 48 (0, 0)) (by (with_reducible repeat (first | refine blk_drewN ?_ _ | refine blk_drew ?_ | refine blk_alloc ?_ _)); exact BK281.out) hb); have n2_ := Aside0.mk (below_step (by repeat (first | (with_reducible first | exact HB.out | apply below_alloc | apply pw_below_drewN | apply below_drew1 | refine below_set ?_ GE281.out) | exact HB.out)) hb); have n3_ := Aside0.mk (hbox); have n4_ := Aside0.mk ((by rw [hg]; exact (below_size (by repeat (first | (with_reducible first | exact HB.out | apply below_alloc | apply pw_below_drewN | apply below_drew1 | refine below_set ?_ GE281.out) | exact HB.out))) : w.heap.size ≤ gb291)); have n5_ := Aside0.mk ((by rw [hg]; exact (below_size (by repeat (first | (with_reducible first | exact HB.out | apply below_alloc | apply pw_below_drewN | apply below_drew1 | refine below_set ?_ GE281.out) | exact HB.out))) : w.heap.size ≤ gb291)); have n6_ := Aside0.mk ((by rw [hg]; exact Nat.ne_of_lt (blk_lt (g := gb281) (o := .cells #[.int .u32 0, .int .i64 0] 48 (0, 0)) (by (with_reducible repeat (first | refine blk_drewN ?_ _ | refine blk_drew ?_ | refine blk_alloc ?_ _)); exact BK281.out)) : gb281 ≠ gb291)); have n7_ := Aside0.mk ((by rw [hg]; exact Nat.ne_of_gt (blk_lt (g := gb281) (o := .cells #[.int .u32 0, .int .i64 0] 48 (0, 0)) (by (with_reducible repeat (first | refine blk_drewN ?_ _ | refine blk_drew ?_ | refine blk_alloc ?_ _)); exact BK281.out)) : gb291 ≠ gb281)); clear HO284; clear BK281; clear HB; have HO284 := n0_; have BK281 := n1_; have HB := n2_; have BK291 := n3_; have GW291 := n4_; have GE291 := n5_; have NB281_291 := n6_; have NB291_281 := n7_; clear n0_ n1_ n2_ n3_ n4_ n5_ n6_ n7_; clear hb hbox hg; have hnb17 := NB291_281.out; have hnc17 := NB281_291.out; have hcz18_0 : w16.cell? ⟨gb291, 0, none⟩ = some (.int .u32 0) := (blk_cell BK291.out 0).trans rfl; have hcz18_1 : w16.cell? ⟨gb291, 1, none⟩ = some (.int .i64 0) := (blk_cell BK291.out 1).trans rfl; have hfz18_0 := blk_frozen BK291.out 0; have hfz18_1 := blk_frozen BK291.out 1) | (go_at_call 42; (with_reducible refine (dragomanref03_Right.calls k t286 (wrap64 (t289)) true _ A10.out).mono ?_); rintro e w19 ⟨rfl, hb⟩; have n0_ := Aside0.mk (Kd.R_below (by (with_reducible repeat (first | apply Kd.R_alloc | apply Kd.R_drewN | apply Kd.R_drew)); exact (Kd.R_mono (Kd.R_far (p := ⟨gb291, 1, none⟩) (Kd.R_far (p := ⟨gb291, 0, none⟩) (Kd.R_types HO284.out BK291.out (by decide)) (fun _ hk => hk.2) (.int .u32 t286)) (fun _ hk => hk.2) (.int .i64 (wrap64 (t289)))) (fun _ h_ => h_.1))) hb); have n1_ := Aside0.mk (blk_below (g := gb281) (o := .cells #[.int .u32 0, .int .i64 0] 48 (0, 0)) (by (with_reducible repeat (first | refine blk_drewN ?_ _ | refine blk_drew ?_ | refine blk_alloc ?_ _)); refine blk_far ?_ NB281_291.out _; (with_reducible repeat (first | refine blk_drewN ?_ _ | refine blk_drew ?_ | refine blk_alloc ?_ _)); refine blk_far ?_ NB281_291.out _; (with_reducible repeat (first | refine blk_drewN ?_ _ | refine blk_drew ?_ | refine blk_alloc ?_ _)); exact BK281.out) hb); have n2_ := Aside0.mk (blk_below (g := gb291) (o := .cells #[.int .u32 t286, .int .i64 (wrap64 (t289))] 48 (0, 0)) (by (with_reducible repeat (first | refine blk_drewN ?_ _ | refine blk_drew ?_ | refine blk_alloc ?_ _)); refine blk_put (cs := #[.int .u32 t286, .int .i64 0]) ?_ 1 _ rfl; (with_reducible repeat (first | refine blk_drewN ?_ _ | refine blk_drew ?_ | refine blk_alloc ?_ _)); refine blk_put (cs := #[.int .u32 0, .int .i64 0]) ?_ 0 _ rfl; (with_reducible repeat (first | refine blk_drewN ?_ _ | refine blk_drew ?_ | refine blk_alloc ?_ _)); exact BK291.out) hb); have n3_ := Aside0.mk (below_step (by repeat (first | (with_reducible first | exact HB.out | apply below_alloc | apply pw_below_drewN | apply below_drew1 | refine below_set ?_ GE281.out | refine below_set ?_ GE291.out) | exact HB.out)) hb); clear HO284; clear BK281; clear BK291; clear HB; have HO284 := n0_; have BK281 := n1_; have BK291 := n2_; have HB := n3_; clear n0_ n1_ n2_ n3_; (try clear hb); (try clear hb2); (try clear hk); (try clear hi); have hcz20_0 : w19.cell? ⟨gb291, 0, none⟩ = some (.int .u32 t286) := (blk_cell BK291.out 0).trans rfl; have hcz20_1 : w19.cell? ⟨gb291, 1, none⟩ = some (.int .i64 (wrap64 (t289))) := (blk_cell BK291.out 1).trans rfl; have hfz20_0 := blk_frozen BK291.out 0; have hfz20_1 := blk_frozen BK291.out 1; have hcz21_0 : w19.cell? ⟨gb281, 0, none⟩ = some (.int .u32 0) := (blk_cell BK281.out 0).trans rfl; have hcz21_1 : w19.cell? ⟨gb281, 1, none⟩ = some (.int .i64 0) := (blk_cell BK281.out 1).trans rfl; have hfz21_0 := blk_frozen BK281.out 0; have hfz21_1 := blk_frozen BK281.out 1))
              refine bodyPost_ret (results_ct rfl _ _ gb281 48 #[.int .u32 t286, .int .i64 (wrap64 (t289))] (0, 0) _ rfl (by (with_reducible repeat (first | refine blk_drewN ?_ _ | refine blk_drew ?_ | refine blk_alloc ?_ _)); refine blk_put (cs := #[.int .u32 t286, .int .i64 0]) ?_ 1 _ rfl; (with_reducible repeat (first | refine blk_drewN ?_ _ | refine blk_drew ?_ | refine blk_alloc ?_ _)); refine blk_put (cs := #[.int .u32 0, .int .i64 0]) ?_ 0 _ rfl; (with_reducible repeat (first | refine blk_drewN ?_ _ | refine blk_drew ?_ | refine blk_alloc ?_ _)); exact BK281.out) Tryd.underlying48 rfl (by kernel_rfl)) rfl ?_
              exact ⟨by first | rfl | (simp [errW_none, errW_some] <;> rfl) | (simp [*, errW_none, errW_some] <;> rfl), by repeat (first | (with_reducible first | exact HB.out | apply below_alloc | apply pw_below_drewN | apply below_drew1 | refine below_set ?_ GE281.out | refine below_set ?_ GE291.out) | exact HB.out)⟩
            · replace c11 := Bool.eq_false_iff.mpr c11
              subst c11
              have H1 : (some (0, 0, false)) = some (r1, r2, r3) := by rw [if_neg (show ¬ (false = true) by decide)] at H; exact H
              clear H
              have H := H1
              clear H1
              simp only [Option.some.injEq, Prod.mk.injEq] at H
              obtain ⟨rfl, rfl, rfl⟩ := H
              go_enter Tryd.func19, Tryd.ntmps19
              go_wp2_with (first | ((with_reducible refine gate_dst (N := 2) rfl ?_); refine box_event ?hg (N := 2) ?hd (cs := #[.int .u32 0, .int .i64 0]) (t := 48) ?hr ?_; (case hd => rfl); (case hg => rfl); (case hr => first | (go_simp; done) | (go_simp; rfl)); intro gb281 hg w22 hbox hb; have n0_ := Aside0.mk (below_step (by repeat (first | (with_reducible first | exact HB.out | apply below_alloc | apply pw_below_drewN | apply below_drew1) | exact HB.out)) hb); have n1_ := Aside0.mk (hbox); have n2_ := Aside0.mk ((by rw [hg]; exact (below_size (by repeat (first | (with_reducible first | exact HB.out | apply below_alloc | apply pw_below_drewN | apply below_drew1) | exact HB.out))) : w.heap.size ≤ gb281)); have n3_ := Aside0.mk ((by rw [hg]; exact (below_size (by repeat (first | (with_reducible first | exact HB.out | apply below_alloc | apply pw_below_drewN | apply below_drew1) | exact HB.out))) : w.heap.size ≤ gb281)); clear HB; have HB := n0_; have BK281 := n1_; have GW281 := n2_; have GE281 := n3_; clear n0_ n1_ n2_ n3_; clear hb hbox hg) | ((with_reducible refine gate_callee (f := 28) rfl ?_); refine goesL_ (some 11) rfl rfl Tryd.func28 (by kernel_rfl) rfl #[.string a0, .string (⟨#[47]⟩ : ByteArray)] rfl (by (try simp only [List.map_toArray, List.map_cons, List.map_nil]); first | done | rfl | (simp only [List.length_drop, List.length_take]; rfl)) ?_; (with_reducible refine (dragomanref14_pieces.calls k a0 (⟨#[47]⟩ : ByteArray) t282 _ A2.out).mono ?_); rintro e w23 ⟨v283, rfl, ho0, hb⟩; refine ⟨_, rfl, ?_⟩; have n0_ := Aside0.mk (Kd.R_lower ho0 (below_size (by repeat (first | (with_reducible first | exact HB.out | apply below_alloc | apply pw_below_drewN | apply below_drew1 | refine below_set ?_ GE281.out) | exact HB.out)))); have n1_ := Aside0.mk (blk_below (g := gb281) (o := .cells #[.int .u32 0, .int .i64 0] 48 (0, 0)) (by (with_reducible repeat (first | refine blk_drewN ?_ _ | refine blk_drew ?_ | refine blk_alloc ?_ _)); exact BK281.out) hb); have n2_ := Aside0.mk (below_step (by repeat (first | (with_reducible first | exact HB.out | apply below_alloc | apply pw_below_drewN | apply below_drew1 | refine below_set ?_ GE281.out) | exact HB.out)) hb); clear BK281; clear HB; have HO284 := n0_; have BK281 := n1_; have HB := n2_; clear n0_ n1_ n2_; (try clear hb); (try clear hb2); (try clear hk); (try clear hi); (try clear ho0); obtain ⟨Ao24, co24, eo24⟩ := Kd.R_slice HO284.out; subst eo24; have p285 : 0 ≤ (0 : Int) := (by omega); have q285 : 0 < (t282.length : Int) := of_decide_eq_true (by first | (with_reducible assumption) | assumption); obtain ⟨ad285, e285, hx285_0⟩ := Kd.at_string (Kd.R_reads' HO284.out).2.2 0 p285 q285; cases e285; have qi285 : (0 < t282.length) = True := eq_true (by omega); (try rw [show ((0 : Int)).toNat = 0 from rfl] at hx285_0); (try rw [Addr.add_zero'] at hx285_0); replace p285 := eq_true p285; replace q285 := eq_true q285) | ((with_reducible refine gate_callee (f := 17) rfl ?_); refine goesL_ (some 20) rfl rfl Tryd.func17 (by kernel_rfl) rfl #[.string (rdOf ByteArray.empty t282 0)] rfl (by (try simp only [List.map_toArray, List.map_cons, List.map_nil]); first | done | rfl | (simp only [List.length_drop, List.length_take]; rfl)) ?_; (with_reducible refine (dragomanref14_Addr.calls k (rdOf ByteArray.empty t282 0) t286 true _ A5.out).mono ?_); rintro e w25 ⟨rfl, hb⟩; refine ⟨_, rfl, ?_⟩; have n0_ := Aside0.mk (Kd.R_below (by (with_reducible repeat (first | apply Kd.R_alloc | apply Kd.R_drewN | apply Kd.R_drew)); exact HO284.out) hb); have n1_ := Aside0.mk (blk_below (g := gb281) (o := .cells #[.int .u32 0, .int .i64 0] 48 (0, 0)) (by (with_reducible repeat (first | refine blk_drewN ?_ _ | refine blk_drew ?_ | refine blk_alloc ?_ _)); exact BK281.out) hb); have n2_ := Aside0.mk (below_step (by repeat (first | (with_reducible first | exact HB.out | apply below_alloc | apply pw_below_drewN | apply below_drew1 | refine below_set ?_ GE281.out) | exact HB.out)) hb); clear HO284; clear BK281; clear HB; have HO284 := n0_; have BK281 := n1_; have HB := n2_; clear n0_ n1_ n2_; (try clear hb); (try clear hb2); (try clear hk); (try clear hi); have p288 : 0 ≤ (1 : Int) := (by omega); have q288 : 1 < (t282.length : Int) := of_decide_eq_true (by first | (with_reducible assumption) | assumption); obtain ⟨ad288, e288, hx288_0⟩ := Kd.at_string (Kd.R_reads' HO284.out).2.2 1 p288 q288; obtain rfl : ad285 = ad288 := (by injection e288); (try simp only [show (1 : Int).toNat = 1 from rfl, Nat.reduceMul, Nat.reduceEqDiff, Go.Addr.add, ↓reduceIte] at hx288_0); have qi288 : (1 < t282.length) = True := eq_true (by omega); (try rw [show ((1 : Int)).toNat = 1 from rfl] at hx288_0); replace p288 := eq_true p288; replace q288 := eq_true q288) | ((with_reducible refine gate_callee (f := 15) rfl ?_); refine goesL_ (some 27) rfl rfl Tryd.func15 (by kernel_rfl) rfl #[.string (rdOf ByteArray.empty t282 1)] rfl (by (try simp only [List.map_toArray, List.map_cons, List.map_nil]); first | done | rfl | (simp only [List.length_drop, List.length_take]; rfl)) ?_; (with_reducible refine (dragomanref14_Num.calls k (rdOf ByteArray.empty t282 1) t289 true _ A7.out).mono ?_); rintro e w' ⟨rfl, ⟨nd, rfl⟩⟩; refine ⟨_, rfl, ?_⟩; (try (rw [drewN_self w25]; generalize hq_ : World.drewN w25 _ = w25; have n0_ : Aside0 (Kd.R Kd.string 9 w25 w.heap.size (fun _ => True) (.slice (some ad285) t282.length co24) t282) := ⟨by rw [← hq_]; exact (by (with_reducible repeat (first | apply Kd.R_alloc | apply Kd.R_drewN | apply Kd.R_drew)); exact HO284.out)⟩; have n1_ : Aside0 (w25.heap[gb281]? = some (.cells #[.int .u32 0, .int .i64 0] 48 (0, 0))) := ⟨by rw [← hq_]; exact (by (with_reducible repeat (first | refine blk_drewN ?_ _ | refine blk_drew ?_ | refine blk_alloc ?_ _)); exact BK281.out)⟩; have n2_ : Aside0 (Below w.heap.size w w25) := ⟨by rw [← hq_]; exact (by repeat (first | (with_reducible first | exact HB.out | apply below_alloc | apply pw_below_drewN | apply below_drew1 | refine below_set ?_ GE281.out) | exact HB.out))⟩; clear HO284 BK281 HB hq_; have HO284 := n0_; have BK281 := n1_; have HB := n2_; clear n0_ n1_ n2_))) | ((with_reducible refine gate_dst (N := 9) rfl ?_); refine box_event ?hg (N := 9) ?hd (cs := #[.int .u32 0, .int .i64 0]) (t := 48) ?hr ?_; (case hd => rfl); (case hg => rfl); (case hr => first | (go_simp; done) | (go_simp; rfl)); intro gb291 hg w26 hbox hb; have n0_ := Aside0.mk (Kd.R_below (by (with_reducible repeat (first | apply Kd.R_alloc | apply Kd.R_drewN | apply Kd.R_drew)); exact HO284.out) hb); have n1_ := Aside0.mk (blk_below (g := gb281) (o := .cells #[.int .u32 0, .int .i64 0] 48 (0, 0)) (by (with_reducible repeat (first | refine blk_drewN ?_ _ | refine blk_drew ?_ | refine blk_alloc ?_ _)); exact BK281.out) hb); have n2_ := Aside0.mk (below_step (by repeat (first | (with_reducible first | exact HB.out | apply below_alloc | apply pw_below_drewN | apply below_drew1 | refine below_set ?_ GE281.out) | exact HB.out)) hb); have n3_ := Aside0.mk (hbox); have n4_ := Aside0.mk ((by rw [hg]; exact (below_size (by repeat (first | (with_reducible first | exact HB.out | apply below_alloc | apply pw_below_drewN | apply below_drew1 | refine below_set ?_ GE281.out) | exact HB.out))) : w.heap.size ≤ gb291)); have n5_ := Aside0.mk ((by rw [hg]; exact (below_size (by repeat (first | (with_reducible first | exact HB.out | apply below_alloc | apply pw_below_drewN | apply below_drew1 | refine below_set ?_ GE281.out) | exact HB.out))) : w.heap.size ≤ gb291)); have n6_ := Aside0.mk ((by rw [hg]; exact Nat.ne_of_lt (blk_lt (g := gb281) (o := .cells #[.int .u32 0, .int .i64 0] 48 (0, 0)) (by (with_reducible repeat (first | refine blk_drewN ?_ _ | refine blk_drew ?_ | refine blk_alloc ?_ _)); exact BK281.out)) : gb281 ≠ gb291)); have n7_ := Aside0.mk ((by rw [hg]; exact Nat.ne_of_gt (blk_lt (g := gb281) (o := .cells #[.int .u32 0, .int .i64 0] 48 (0, 0)) (by (with_reducible repeat (first | refine blk_drewN ?_ _ | refine blk_drew ?_ | refine blk_alloc ?_ _)); exact BK281.out)) : gb291 ≠ gb281)); clear HO284; clear BK281; clear HB; have HO284 := n0_; have BK281 := n1_; have HB := n2_; have BK291 := n3_; have GW291 := n4_; have GE291 := n5_; have NB281_291 := n6_; have NB291_281 := n7_; clear n0_ n1_ n2_ n3_ n4_ n5_ n6_ n7_; clear hb hbox hg; have hnb27 := NB291_281.out; have hnc27 := NB281_291.out; have hcz28_0 : w26.cell? ⟨gb291, 0, none⟩ = some (.int .u32 0) := (blk_cell BK291.out 0).trans rfl; have hcz28_1 : w26.cell? ⟨gb291, 1, none⟩ = some (.int .i64 0) := (blk_cell BK291.out 1).trans rfl; have hfz28_0 := blk_frozen BK291.out 0; have hfz28_1 := blk_frozen BK291.out 1) | (go_at_call 42; (with_reducible refine (dragomanref03_Right.calls k t286 (wrap64 (t289)) false _ A10.out).mono ?_); rintro e w29 ⟨rfl, hb⟩; have n0_ := Aside0.mk (Kd.R_below (by (with_reducible repeat (first | apply Kd.R_alloc | apply Kd.R_drewN | apply Kd.R_drew)); exact (Kd.R_mono (Kd.R_far (p := ⟨gb291, 1, none⟩) (Kd.R_far (p := ⟨gb291, 0, none⟩) (Kd.R_types HO284.out BK291.out (by decide)) (fun _ hk => hk.2) (.int .u32 t286)) (fun _ hk => hk.2) (.int .i64 (wrap64 (t289)))) (fun _ h_ => h_.1))) hb); have n1_ := Aside0.mk (blk_below (g := gb281) (o := .cells #[.int .u32 0, .int .i64 0] 48 (0, 0)) (by (with_reducible repeat (first | refine blk_drewN ?_ _ | refine blk_drew ?_ | refine blk_alloc ?_ _)); refine blk_far ?_ NB281_291.out _; (with_reducible repeat (first | refine blk_drewN ?_ _ | refine blk_drew ?_ | refine blk_alloc ?_ _)); refine blk_far ?_ NB281_291.out _; (with_reducible repeat (first | refine blk_drewN ?_ _ | refine blk_drew ?_ | refine blk_alloc ?_ _)); exact BK281.out) hb); have n2_ := Aside0.mk (blk_below (g := gb291) (o := .cells #[.int .u32 t286, .int .i64 (wrap64 (t289))] 48 (0, 0)) (by (with_reducible repeat (first | refine blk_drewN ?_ _ | refine blk_drew ?_ | refine blk_alloc ?_ _)); refine blk_put (cs := #[.int .u32 t286, .int .i64 0]) ?_ 1 _ rfl; (with_reducible repeat (first | refine blk_drewN ?_ _ | refine blk_drew ?_ | refine blk_alloc ?_ _)); refine blk_put (cs := #[.int .u32 0, .int .i64 0]) ?_ 0 _ rfl; (with_reducible repeat (first | refine blk_drewN ?_ _ | refine blk_drew ?_ | refine blk_alloc ?_ _)); exact BK291.out) hb); have n3_ := Aside0.mk (below_step (by repeat (first | (with_reducible first | exact HB.out | apply below_alloc | apply pw_below_drewN | apply below_drew1 | refine below_set ?_ GE281.out | refine below_set ?_ GE291.out) | exact HB.out)) hb); clear HO284; clear BK281; clear BK291; clear HB; have HO284 := n0_; have BK281 := n1_; have BK291 := n2_; have HB := n3_; clear n0_ n1_ n2_ n3_; (try clear hb); (try clear hb2); (try clear hk); (try clear hi); have hcz30_0 : w29.cell? ⟨gb281, 0, none⟩ = some (.int .u32 0) := (blk_cell BK281.out 0).trans rfl; have hcz30_1 : w29.cell? ⟨gb281, 1, none⟩ = some (.int .i64 0) := (blk_cell BK281.out 1).trans rfl; have hfz30_0 := blk_frozen BK281.out 0; have hfz30_1 := blk_frozen BK281.out 1))
              refine bodyPost_ret (results_ct rfl _ _ gb281 48 #[.int .u32 0, .int .i64 0] (0, 0) _ rfl (by (with_reducible repeat (first | refine blk_drewN ?_ _ | refine blk_drew ?_ | refine blk_alloc ?_ _)); refine blk_put (cs := #[.int .u32 0, .int .i64 0]) ?_ 1 _ rfl; (with_reducible repeat (first | refine blk_drewN ?_ _ | refine blk_drew ?_ | refine blk_alloc ?_ _)); refine blk_put (cs := #[.int .u32 0, .int .i64 0]) ?_ 0 _ rfl; (with_reducible repeat (first | refine blk_drewN ?_ _ | refine blk_drew ?_ | refine blk_alloc ?_ _)); exact BK281.out) Tryd.underlying48 rfl (by kernel_rfl)) rfl ?_
              exact ⟨by first | rfl | (simp [errW_none, errW_some] <;> rfl) | (simp [*, errW_none, errW_some] <;> rfl), by repeat (first | (with_reducible first | exact HB.out | apply below_alloc | apply pw_below_drewN | apply below_drew1 | refine below_set ?_ GE281.out | refine below_set ?_ GE291.out) | exact HB.out)⟩
          · replace c9 := Bool.eq_false_iff.mpr c9
            subst c9
            have H1 : (some (0, 0, false)) = some (r1, r2, r3) := by rw [if_neg (show ¬ (false = true) by decide)] at H; exact H
            clear H
            have H := H1
            clear H1
            simp only [Option.some.injEq, Prod.mk.injEq] at H
            obtain ⟨rfl, rfl, rfl⟩ := H
            go_enter Tryd.func19, Tryd.ntmps19
            go_wp2_with (first | ((with_reducible refine gate_dst (N := 2) rfl ?_); refine box_event ?hg (N := 2) ?hd (cs := #[.int .u32 0, .int .i64 0]) (t := 48) ?hr ?_; (case hd => rfl); (case hg => rfl); (case hr => first | (go_simp; done) | (go_simp; rfl)); intro gb281 hg w31 hbox hb; have n0_ := Aside0.mk (below_step (by repeat (first | (with_reducible first | exact HB.out | apply below_alloc | apply pw_below_drewN | apply below_drew1) | exact HB.out)) hb); have n1_ := Aside0.mk (hbox); have n2_ := Aside0.mk ((by rw [hg]; exact (below_size (by repeat (first | (with_reducible first | exact HB.out | apply below_alloc | apply pw_below_drewN | apply below_drew1) | exact HB.out))) : w.heap.size ≤ gb281)); have n3_ := Aside0.mk ((by rw [hg]; exact (below_size (by repeat (first | (with_reducible first | exact HB.out | apply below_alloc | apply pw_below_drewN | apply below_drew1) | exact HB.out))) : w.heap.size ≤ gb281)); clear HB; have HB := n0_; have BK281 := n1_; have GW281 := n2_; have GE281 := n3_; clear n0_ n1_ n2_ n3_; clear hb hbox hg) | ((with_reducible refine gate_callee (f := 28) rfl ?_); refine goesL_ (some 11) rfl rfl Tryd.func28 (by kernel_rfl) rfl #[.string a0, .string (⟨#[47]⟩ : ByteArray)] rfl (by (try simp only [List.map_toArray, List.map_cons, List.map_nil]); first | done | rfl | (simp only [List.length_drop, List.length_take]; rfl)) ?_; (with_reducible refine (dragomanref14_pieces.calls k a0 (⟨#[47]⟩ : ByteArray) t282 _ A2.out).mono ?_); rintro e w32 ⟨v283, rfl, ho0, hb⟩; refine ⟨_, rfl, ?_⟩; have n0_ := Aside0.mk (Kd.R_lower ho0 (below_size (by repeat (first | (with_reducible first | exact HB.out | apply below_alloc | apply pw_below_drewN | apply below_drew1 | refine below_set ?_ GE281.out) | exact HB.out)))); have n1_ := Aside0.mk (blk_below (g := gb281) (o := .cells #[.int .u32 0, .int .i64 0] 48 (0, 0)) (by (with_reducible repeat (first | refine blk_drewN ?_ _ | refine blk_drew ?_ | refine blk_alloc ?_ _)); exact BK281.out) hb); have n2_ := Aside0.mk (below_step (by repeat (first | (with_reducible first | exact HB.out | apply below_alloc | apply pw_below_drewN | apply below_drew1 | refine below_set ?_ GE281.out) | exact HB.out)) hb); clear BK281; clear HB; have HO284 := n0_; have BK281 := n1_; have HB := n2_; clear n0_ n1_ n2_; (try clear hb); (try clear hb2); (try clear hk); (try clear hi); (try clear ho0); obtain ⟨Ao33, co33, eo33⟩ := Kd.R_slice HO284.out; subst eo33; have p285 : 0 ≤ (0 : Int) := (by omega); have q285 : 0 < (t282.length : Int) := of_decide_eq_true (by first | (with_reducible assumption) | assumption); obtain ⟨ad285, e285, hx285_0⟩ := Kd.at_string (Kd.R_reads' HO284.out).2.2 0 p285 q285; cases e285; have qi285 : (0 < t282.length) = True := eq_true (by omega); (try rw [show ((0 : Int)).toNat = 0 from rfl] at hx285_0); (try rw [Addr.add_zero'] at hx285_0); replace p285 := eq_true p285; replace q285 := eq_true q285) | ((with_reducible refine gate_callee (f := 17) rfl ?_); refine goesL_ (some 20) rfl rfl Tryd.func17 (by kernel_rfl) rfl #[.string (rdOf ByteArray.empty t282 0)] rfl (by (try simp only [List.map_toArray, List.map_cons, List.map_nil]); first | done | rfl | (simp only [List.length_drop, List.length_take]; rfl)) ?_; (with_reducible refine (dragomanref14_Addr.calls k (rdOf ByteArray.empty t282 0) t286 true _ A5.out).mono ?_); rintro e w34 ⟨rfl, hb⟩; refine ⟨_, rfl, ?_⟩; have n0_ := Aside0.mk (Kd.R_below (by (with_reducible repeat (first | apply Kd.R_alloc | apply Kd.R_drewN | apply Kd.R_drew)); exact HO284.out) hb); have n1_ := Aside0.mk (blk_below (g := gb281) (o := .cells #[.int .u32 0, .int .i64 0] 48 (0, 0)) (by (with_reducible repeat (first | refine blk_drewN ?_ _ | refine blk_drew ?_ | refine blk_alloc ?_ _)); exact BK281.out) hb); have n2_ := Aside0.mk (below_step (by repeat (first | (with_reducible first | exact HB.out | apply below_alloc | apply pw_below_drewN | apply below_drew1 | refine below_set ?_ GE281.out) | exact HB.out)) hb); clear HO284; clear BK281; clear HB; have HO284 := n0_; have BK281 := n1_; have HB := n2_; clear n0_ n1_ n2_; (try clear hb); (try clear hb2); (try clear hk); (try clear hi); have p288 : 0 ≤ (1 : Int) := (by omega); have q288 : 1 < (t282.length : Int) := of_decide_eq_true (by first | (with_reducible assumption) | assumption); obtain ⟨ad288, e288, hx288_0⟩ := Kd.at_string (Kd.R_reads' HO284.out).2.2 1 p288 q288; obtain rfl : ad285 = ad288 := (by injection e288); (try simp only [show (1 : Int).toNat = 1 from rfl, Nat.reduceMul, Nat.reduceEqDiff, Go.Addr.add, ↓reduceIte] at hx288_0); have qi288 : (1 < t282.length) = True := eq_true (by omega); (try rw [show ((1 : Int)).toNat = 1 from rfl] at hx288_0); replace p288 := eq_true p288; replace q288 := eq_true q288) | ((with_reducible refine gate_callee (f := 15) rfl ?_); refine goesL_ (some 27) rfl rfl Tryd.func15 (by kernel_rfl) rfl #[.string (rdOf ByteArray.empty t282 1)] rfl (by (try simp only [List.map_toArray, List.map_cons, List.map_nil]); first | done | rfl | (simp only [List.length_drop, List.length_take]; rfl)) ?_; (with_reducible refine (dragomanref14_Num.calls k (rdOf ByteArray.empty t282 1) t289 false _ A7.out).mono ?_); rintro e w' ⟨rfl, ⟨nd, rfl⟩⟩; refine ⟨_, rfl, ?_⟩; (try (rw [drewN_self w34]; generalize hq_ : World.drewN w34 _ = w34; have n0_ : Aside0 (Kd.R Kd.string 9 w34 w.heap.size (fun _ => True) (.slice (some ad285) t282.length co33) t282) := ⟨by rw [← hq_]; exact (by (with_reducible repeat (first | apply Kd.R_alloc | apply Kd.R_drewN | apply Kd.R_drew)); exact HO284.out)⟩; have n1_ : Aside0 (w34.heap[gb281]? = some (.cells #[.int .u32 0, .int .i64 0] 48 (0, 0))) := ⟨by rw [← hq_]; exact (by (with_reducible repeat (first | refine blk_drewN ?_ _ | refine blk_drew ?_ | refine blk_alloc ?_ _)); exact BK281.out)⟩; have n2_ : Aside0 (Below w.heap.size w w34) := ⟨by rw [← hq_]; exact (by repeat (first | (with_reducible first | exact HB.out | apply below_alloc | apply pw_below_drewN | apply below_drew1 | refine below_set ?_ GE281.out) | exact HB.out))⟩; clear HO284 BK281 HB hq_; have HO284 := n0_; have BK281 := n1_; have HB := n2_; clear n0_ n1_ n2_))) | ((with_reducible refine gate_dst (N := 9) rfl ?_); refine box_event ?hg (N := 9) ?hd (cs := #[.int .u32 0, .int .i64 0]) (t := 48) ?hr ?_; (case hd => rfl); (case hg => rfl); (case hr => first | (go_simp; done) | (go_simp; rfl)); intro gb291 hg w35 hbox hb; have n0_ := Aside0.mk (Kd.R_below (by (with_reducible repeat (first | apply Kd.R_alloc | apply Kd.R_drewN | apply Kd.R_drew)); exact HO284.out) hb); have n1_ := Aside0.mk (blk_below (g := gb281) (o := .cells #[.int .u32 0, .int .i64 0] 48 (0, 0)) (by (with_reducible repeat (first | refine blk_drewN ?_ _ | refine blk_drew ?_ | refine blk_alloc ?_ _)); exact BK281.out) hb); have n2_ := Aside0.mk (below_step (by repeat (first | (with_reducible first | exact HB.out | apply below_alloc | apply pw_below_drewN | apply below_drew1 | refine below_set ?_ GE281.out) | exact HB.out)) hb); have n3_ := Aside0.mk (hbox); have n4_ := Aside0.mk ((by rw [hg]; exact (below_size (by repeat (first | (with_reducible first | exact HB.out | apply below_alloc | apply pw_below_drewN | apply below_drew1 | refine below_set ?_ GE281.out) | exact HB.out))) : w.heap.size ≤ gb291)); have n5_ := Aside0.mk ((by rw [hg]; exact (below_size (by repeat (first | (with_reducible first | exact HB.out | apply below_alloc | apply pw_below_drewN | apply below_drew1 | refine below_set ?_ GE281.out) | exact HB.out))) : w.heap.size ≤ gb291)); have n6_ := Aside0.mk ((by rw [hg]; exact Nat.ne_of_lt (blk_lt (g := gb281) (o := .cells #[.int .u32 0, .int .i64 0] 48 (0, 0)) (by (with_reducible repeat (first | refine blk_drewN ?_ _ | refine blk_drew ?_ | refine blk_alloc ?_ _)); exact BK281.out)) : gb281 ≠ gb291)); have n7_ := Aside0.mk ((by rw [hg]; exact Nat.ne_of_gt (blk_lt (g := gb281) (o := .cells #[.int .u32 0, .int .i64 0] 48 (0, 0)) (by (with_reducible repeat (first | refine blk_drewN ?_ _ | refine blk_drew ?_ | refine blk_alloc ?_ _)); exact BK281.out)) : gb291 ≠ gb281)); clear HO284; clear BK281; clear HB; have HO284 := n0_; have BK281 := n1_; have HB := n2_; have BK291 := n3_; have GW291 := n4_; have GE291 := n5_; have NB281_291 := n6_; have NB291_281 := n7_; clear n0_ n1_ n2_ n3_ n4_ n5_ n6_ n7_; clear hb hbox hg; have hnb36 := NB291_281.out; have hnc36 := NB281_291.out; have hcz37_0 : w35.cell? ⟨gb291, 0, none⟩ = some (.int .u32 0) := (blk_cell BK291.out 0).trans rfl; have hcz37_1 : w35.cell? ⟨gb291, 1, none⟩ = some (.int .i64 0) := (blk_cell BK291.out 1).trans rfl; have hfz37_0 := blk_frozen BK291.out 0; have hfz37_1 := blk_frozen BK291.out 1; have hcz38_0 : w35.cell? ⟨gb281, 0, none⟩ = some (.int .u32 0) := (blk_cell BK281.out 0).trans rfl; have hcz38_1 : w35.cell? ⟨gb281, 1, none⟩ = some (.int .i64 0) := (blk_cell BK281.out 1).trans rfl; have hfz38_0 := blk_frozen BK281.out 0; have hfz38_1 := blk_frozen BK281.out 1))
            refine bodyPost_ret (results_ct rfl _ _ gb281 48 #[.int .u32 0, .int .i64 0] (0, 0) _ rfl (by (with_reducible repeat (first | refine blk_drewN ?_ _ | refine blk_drew ?_ | refine blk_alloc ?_ _)); refine blk_put (cs := #[.int .u32 0, .int .i64 0]) ?_ 1 _ rfl; (with_reducible repeat (first | refine blk_drewN ?_ _ | refine blk_drew ?_ | refine blk_alloc ?_ _)); refine blk_put (cs := #[.int .u32 0, .int .i64 0]) ?_ 0 _ rfl; (with_reducible repeat (first | refine blk_drewN ?_ _ | refine blk_drew ?_ | refine blk_alloc ?_ _)); refine blk_far ?_ NB281_291.out _; (with_reducible repeat (first | refine blk_drewN ?_ _ | refine blk_drew ?_ | refine blk_alloc ?_ _)); refine blk_far ?_ NB281_291.out _; (with_reducible repeat (first | refine blk_drewN ?_ _ | refine blk_drew ?_ | refine blk_alloc ?_ _)); exact BK281.out) Tryd.underlying48 rfl (by kernel_rfl)) rfl ?_
            exact ⟨by first | rfl | (simp [errW_none, errW_some] <;> rfl) | (simp [*, errW_none, errW_some] <;> rfl), by repeat (first | (with_reducible first | exact HB.out | apply below_alloc | apply pw_below_drewN | apply below_drew1 | refine below_set ?_ GE281.out | refine below_set ?_ GE291.out) | exact HB.out)⟩
        · replace c8 := Bool.eq_false_iff.mpr c8
          subst c8
          have H1 : (some (0, 0, false)) = some (r1, r2, r3) := by rw [if_neg (show ¬ (false = true) by decide)] at H; exact H
          clear H
          have H := H1
          clear H1
          simp only [Option.some.injEq, Prod.mk.injEq] at H
          obtain ⟨rfl, rfl, rfl⟩ := H
          go_enter Tryd.func19, Tryd.ntmps19
          go_wp2_with (first | ((with_reducible refine gate_dst (N := 2) rfl ?_); refine box_event ?hg (N := 2) ?hd (cs := #[.int .u32 0, .int .i64 0]) (t := 48) ?hr ?_; (case hd => rfl); (case hg => rfl); (case hr => first | (go_simp; done) | (go_simp; rfl)); intro gb281 hg w39 hbox hb; have n0_ := Aside0.mk (below_step (by repeat (first | (with_reducible first | exact HB.out | apply below_alloc | apply pw_below_drewN | apply below_drew1) | exact HB.out)) hb); have n1_ := Aside0.mk (hbox); have n2_ := Aside0.mk ((by rw [hg]; exact (below_size (by repeat (first | (with_reducible first | exact HB.out | apply below_alloc | apply pw_below_drewN | apply below_drew1) | exact HB.out))) : w.heap.size ≤ gb281)); have n3_ := Aside0.mk ((by rw [hg]; exact (below_size (by repeat (first | (with_reducible first | exact HB.out | apply below_alloc | apply pw_below_drewN | apply below_drew1) | exact HB.out))) : w.heap.size ≤ gb281)); clear HB; have HB := n0_; have BK281 := n1_; have GW281 := n2_; have GE281 := n3_; clear n0_ n1_ n2_ n3_; clear hb hbox hg) | ((with_reducible refine gate_callee (f := 28) rfl ?_); refine goesL_ (some 11) rfl rfl Tryd.func28 (by kernel_rfl) rfl #[.string a0, .string (⟨#[47]⟩ : ByteArray)] rfl (by (try simp only [List.map_toArray, List.map_cons, List.map_nil]); first | done | rfl | (simp only [List.length_drop, List.length_take]; rfl)) ?_; (with_reducible refine (dragomanref14_pieces.calls k a0 (⟨#[47]⟩ : ByteArray) t282 _ A2.out).mono ?_); rintro e w40 ⟨v283, rfl, ho0, hb⟩; refine ⟨_, rfl, ?_⟩; have n0_ := Aside0.mk (Kd.R_lower ho0 (below_size (by repeat (first | (with_reducible first | exact HB.out | apply below_alloc | apply pw_below_drewN | apply below_drew1 | refine below_set ?_ GE281.out) | exact HB.out)))); have n1_ := Aside0.mk (blk_below (g := gb281) (o := .cells #[.int .u32 0, .int .i64 0] 48 (0, 0)) (by (with_reducible repeat (first | refine blk_drewN ?_ _ | refine blk_drew ?_ | refine blk_alloc ?_ _)); exact BK281.out) hb); have n2_ := Aside0.mk (below_step (by repeat (first | (with_reducible first | exact HB.out | apply below_alloc | apply pw_below_drewN | apply below_drew1 | refine below_set ?_ GE281.out) | exact HB.out)) hb); clear BK281; clear HB; have HO284 := n0_; have BK281 := n1_; have HB := n2_; clear n0_ n1_ n2_; (try clear hb); (try clear hb2); (try clear hk); (try clear hi); (try clear ho0); obtain ⟨Ao41, co41, eo41⟩ := Kd.R_slice HO284.out; subst eo41; have p285 : 0 ≤ (0 : Int) := (by omega); have q285 : 0 < (t282.length : Int) := of_decide_eq_true (by first | (with_reducible assumption) | assumption); obtain ⟨ad285, e285, hx285_0⟩ := Kd.at_string (Kd.R_reads' HO284.out).2.2 0 p285 q285; cases e285; have qi285 : (0 < t282.length) = True := eq_true (by omega); (try rw [show ((0 : Int)).toNat = 0 from rfl] at hx285_0); (try rw [Addr.add_zero'] at hx285_0); replace p285 := eq_true p285; replace q285 := eq_true q285) | ((with_reducible refine gate_callee (f := 17) rfl ?_); refine goesL_ (some 20) rfl rfl Tryd.func17 (by kernel_rfl) rfl #[.string (rdOf ByteArray.empty t282 0)] rfl (by (try simp only [List.map_toArray, List.map_cons, List.map_nil]); first | done | rfl | (simp only [List.length_drop, List.length_take]; rfl)) ?_; (with_reducible refine (dragomanref14_Addr.calls k (rdOf ByteArray.empty t282 0) t286 false _ A5.out).mono ?_); rintro e w42 ⟨rfl, hb⟩; refine ⟨_, rfl, ?_⟩; have n0_ := Aside0.mk (Kd.R_below (by (with_reducible repeat (first | apply Kd.R_alloc | apply Kd.R_drewN | apply Kd.R_drew)); exact HO284.out) hb); have n1_ := Aside0.mk (blk_below (g := gb281) (o := .cells #[.int .u32 0, .int .i64 0] 48 (0, 0)) (by (with_reducible repeat (first | refine blk_drewN ?_ _ | refine blk_drew ?_ | refine blk_alloc ?_ _)); exact BK281.out) hb); have n2_ := Aside0.mk (below_step (by repeat (first | (with_reducible first | exact HB.out | apply below_alloc | apply pw_below_drewN | apply below_drew1 | refine below_set ?_ GE281.out) | exact HB.out)) hb); clear HO284; clear BK281; clear HB; have HO284 := n0_; have BK281 := n1_; have HB := n2_; clear n0_ n1_ n2_; (try clear hb); (try clear hb2); (try clear hk); (try clear hi); have p288 : 0 ≤ (1 : Int) := (by omega); have q288 : 1 < (t282.length : Int) := of_decide_eq_true (by first | (with_reducible assumption) | assumption); obtain ⟨ad288, e288, hx288_0⟩ := Kd.at_string (Kd.R_reads' HO284.out).2.2 1 p288 q288; obtain rfl : ad285 = ad288 := (by injection e288); (try simp only [show (1 : Int).toNat = 1 from rfl, Nat.reduceMul, Nat.reduceEqDiff, Go.Addr.add, ↓reduceIte] at hx288_0); have qi288 : (1 < t282.length) = True := eq_true (by omega); (try rw [show ((1 : Int)).toNat = 1 from rfl] at hx288_0); replace p288 := eq_true p288; replace q288 := eq_true q288) | ((with_reducible refine gate_callee (f := 15) rfl ?_); refine goesL_ (some 27) rfl rfl Tryd.func15 (by kernel_rfl) rfl #[.string (rdOf ByteArray.empty t282 1)] rfl (by (try simp only [List.map_toArray, List.map_cons, List.map_nil]); first | done | rfl | (simp only [List.length_drop, List.length_take]; rfl)) ?_; (with_reducible refine (dragomanref14_Num.calls k (rdOf ByteArray.empty t282 1) t289 t290 _ A7.out).mono ?_); rintro e w' ⟨rfl, ⟨nd, rfl⟩⟩; refine ⟨_, rfl, ?_⟩; (try (rw [drewN_self w42]; generalize hq_ : World.drewN w42 _ = w42; have n0_ : Aside0 (Kd.R Kd.string 9 w42 w.heap.size (fun _ => True) (.slice (some ad285) t282.length co41) t282) := ⟨by rw [← hq_]; exact (by (with_reducible repeat (first | apply Kd.R_alloc | apply Kd.R_drewN | apply Kd.R_drew)); exact HO284.out)⟩; have n1_ : Aside0 (w42.heap[gb281]? = some (.cells #[.int .u32 0, .int .i64 0] 48 (0, 0))) := ⟨by rw [← hq_]; exact (by (with_reducible repeat (first | refine blk_drewN ?_ _ | refine blk_drew ?_ | refine blk_alloc ?_ _)); exact BK281.out)⟩; have n2_ : Aside0 (Below w.heap.size w w42) := ⟨by rw [← hq_]; exact (by repeat (first | (with_reducible first | exact HB.out | apply below_alloc | apply pw_below_drewN | apply below_drew1 | refine below_set ?_ GE281.out) | exact HB.out))⟩; clear HO284 BK281 HB hq_; have HO284 := n0_; have BK281 := n1_; have HB := n2_; clear n0_ n1_ n2_))) | ((with_reducible refine gate_dst (N := 9) rfl ?_); refine box_event ?hg (N := 9) ?hd (cs := #[.int .u32 0, .int .i64 0]) (t := 48) ?hr ?_; (case hd => rfl); (case hg => rfl); (case hr => first | (go_simp; done) | (go_simp; rfl)); intro gb291 hg w43 hbox hb; have n0_ := Aside0.mk (Kd.R_below (by (with_reducible repeat (first | apply Kd.R_alloc | apply Kd.R_drewN | apply Kd.R_drew)); exact HO284.out) hb); have n1_ := Aside0.mk (blk_below (g := gb281) (o := .cells #[.int .u32 0, .int .i64 0] 48 (0, 0)) (by (with_reducible repeat (first | refine blk_drewN ?_ _ | refine blk_drew ?_ | refine blk_alloc ?_ _)); exact BK281.out) hb); have n2_ := Aside0.mk (below_step (by repeat (first | (with_reducible first | exact HB.out | apply below_alloc | apply pw_below_drewN | apply below_drew1 | refine below_set ?_ GE281.out) | exact HB.out)) hb); have n3_ := Aside0.mk (hbox); have n4_ := Aside0.mk ((by rw [hg]; exact (below_size (by repeat (first | (with_reducible first | exact HB.out | apply below_alloc | apply pw_below_drewN | apply below_drew1 | refine below_set ?_ GE281.out) | exact HB.out))) : w.heap.size ≤ gb291)); have n5_ := Aside0.mk ((by rw [hg]; exact (below_size (by repeat (first | (with_reducible first | exact HB.out | apply below_alloc | apply pw_below_drewN | apply below_drew1 | refine below_set ?_ GE281.out) | exact HB.out))) : w.heap.size ≤ gb291)); have n6_ := Aside0.mk ((by rw [hg]; exact Nat.ne_of_lt (blk_lt (g := gb281) (o := .cells #[.int .u32 0, .int .i64 0] 48 (0, 0)) (by (with_reducible repeat (first | refine blk_drewN ?_ _ | refine blk_drew ?_ | refine blk_alloc ?_ _)); exact BK281.out)) : gb281 ≠ gb291)); have n7_ := Aside0.mk ((by rw [hg]; exact Nat.ne_of_gt (blk_lt (g := gb281) (o := .cells #[.int .u32 0, .int .i64 0] 48 (0, 0)) (by (with_reducible repeat (first | refine blk_drewN ?_ _ | refine blk_drew ?_ | refine blk_alloc ?_ _)); exact BK281.out)) : gb291 ≠ gb281)); clear HO284; clear BK281; clear HB; have HO284 := n0_; have BK281 := n1_; have HB := n2_; have BK291 := n3_; have GW291 := n4_; have GE291 := n5_; have NB281_291 := n6_; have NB291_281 := n7_; clear n0_ n1_ n2_ n3_ n4_ n5_ n6_ n7_; clear hb hbox hg; have hnb44 := NB291_281.out; have hnc44 := NB281_291.out; have hcz45_0 : w43.cell? ⟨gb291, 0, none⟩ = some (.int .u32 0) := (blk_cell BK291.out 0).trans rfl; have hcz45_1 : w43.cell? ⟨gb291, 1, none⟩ = some (.int .i64 0) := (blk_cell BK291.out 1).trans rfl; have hfz45_0 := blk_frozen BK291.out 0; have hfz45_1 := blk_frozen BK291.out 1; have hcz46_0 : w43.cell? ⟨gb281, 0, none⟩ = some (.int .u32 0) := (blk_cell BK281.out 0).trans rfl; have hcz46_1 : w43.cell? ⟨gb281, 1, none⟩ = some (.int .i64 0) := (blk_cell BK281.out 1).trans rfl; have hfz46_0 := blk_frozen BK281.out 0; have hfz46_1 := blk_frozen BK281.out 1))
          refine bodyPost_ret (results_ct rfl _ _ gb281 48 #[.int .u32 0, .int .i64 0] (0, 0) _ rfl (by (with_reducible repeat (first | refine blk_drewN ?_ _ | refine blk_drew ?_ | refine blk_alloc ?_ _)); refine blk_put (cs := #[.int .u32 0, .int .i64 0]) ?_ 1 _ rfl; (with_reducible repeat (first | refine blk_drewN ?_ _ | refine blk_drew ?_ | refine blk_alloc ?_ _)); refine blk_put (cs := #[.int .u32 0, .int .i64 0]) ?_ 0 _ rfl; (with_reducible repeat (first | refine blk_drewN ?_ _ | refine blk_drew ?_ | refine blk_alloc ?_ _)); refine blk_far ?_ NB281_291.out _; (with_reducible repeat (first | refine blk_drewN ?_ _ | refine blk_drew ?_ | refine blk_alloc ?_ _)); refine blk_far ?_ NB281_291.out _; (with_reducible repeat (first | refine blk_drewN ?_ _ | refine blk_drew ?_ | refine blk_alloc ?_ _)); exact BK281.out) Tryd.underlying48 rfl (by kernel_rfl)) rfl ?_
          exact ⟨by first | rfl | (simp [errW_none, errW_some] <;> rfl) | (simp [*, errW_none, errW_some] <;> rfl), by repeat (first | (with_reducible first | exact HB.out | apply below_alloc | apply pw_below_drewN | apply below_drew1 | refine below_set ?_ GE281.out | refine below_set ?_ GE291.out) | exact HB.out)⟩
      · rw [if_neg c6] at H
        exact absurd H (by simp)
    · rw [if_neg c4] at H
      exact absurd H (by simp)
  · rw [if_neg c3] at H
    have c3b0 : ((t282.length : Int) == 2) = false := beq_eq_false_iff_ne.mpr c3
    have c3b1 : ((t282.length : Int) != 2) = true := bne_iff_ne.mpr c3
    simp only [Option.some.injEq, Prod.mk.injEq] at H
    obtain ⟨rfl, rfl, rfl⟩ := H
    go_enter Tryd.func19, Tryd.ntmps19
    go_wp2_with (first | ((with_reducible refine gate_dst (N := 2) rfl ?_); refine box_event ?hg (N := 2) ?hd (cs := #[.int .u32 0, .int .i64 0]) (t := 48) ?hr ?_; (case hd => rfl); (case hg => rfl); (case hr => first | (go_simp; done) | (go_simp; rfl)); intro gb281 hg w47 hbox hb; have n0_ := Aside0.mk (below_step (by repeat (first | (with_reducible first | exact HB.out | apply below_alloc | apply pw_below_drewN | apply below_drew1) | exact HB.out)) hb); have n1_ := Aside0.mk (hbox); have n2_ := Aside0.mk ((by rw [hg]; exact (below_size (by repeat (first | (with_reducible first | exact HB.out | apply below_alloc | apply pw_below_drewN | apply below_drew1) | exact HB.out))) : w.heap.size ≤ gb281)); have n3_ := Aside0.mk ((by rw [hg]; exact (below_size (by repeat (first | (with_reducible first | exact HB.out | apply below_alloc | apply pw_below_drewN | apply below_drew1) | exact HB.out))) : w.heap.size ≤ gb281)); clear HB; have HB := n0_; have BK281 := n1_; have GW281 := n2_; have GE281 := n3_; clear n0_ n1_ n2_ n3_; clear hb hbox hg) | ((with_reducible refine gate_callee (f := 28) rfl ?_); refine goesL_ (some 11) rfl rfl Tryd.func28 (by kernel_rfl) rfl #[.string a0, .string (⟨#[47]⟩ : ByteArray)] rfl (by (try simp only [List.map_toArray, List.map_cons, List.map_nil]); first | done | rfl | (simp only [List.length_drop, List.length_take]; rfl)) ?_; (with_reducible refine (dragomanref14_pieces.calls k a0 (⟨#[47]⟩ : ByteArray) t282 _ A2.out).mono ?_); rintro e w48 ⟨v283, rfl, ho0, hb⟩; refine ⟨_, rfl, ?_⟩; have n0_ := Aside0.mk (Kd.R_lower ho0 (below_size (by repeat (first | (with_reducible first | exact HB.out | apply below_alloc | apply pw_below_drewN | apply below_drew1 | refine below_set ?_ GE281.out) | exact HB.out)))); have n1_ := Aside0.mk (blk_below (g := gb281) (o := .cells #[.int .u32 0, .int .i64 0] 48 (0, 0)) (by (with_reducible repeat (first | refine blk_drewN ?_ _ | refine blk_drew ?_ | refine blk_alloc ?_ _)); exact BK281.out) hb); have n2_ := Aside0.mk (below_step (by repeat (first | (with_reducible first | exact HB.out | apply below_alloc | apply pw_below_drewN | apply below_drew1 | refine below_set ?_ GE281.out) | exact HB.out)) hb); clear BK281; clear HB; have HO284 := n0_; have BK281 := n1_; have HB := n2_; clear n0_ n1_ n2_; (try clear hb); (try clear hb2); (try clear hk); (try clear hi); (try clear ho0); obtain ⟨Ao49, co49, eo49⟩ := Kd.R_slice HO284.out; subst eo49; have hcz50_0 : w48.cell? ⟨gb281, 0, none⟩ = some (.int .u32 0) := (blk_cell BK281.out 0).trans rfl; have hcz50_1 : w48.cell? ⟨gb281, 1, none⟩ = some (.int .i64 0) := (blk_cell BK281.out 1).trans rfl; have hfz50_0 := blk_frozen BK281.out 0; have hfz50_1 := blk_frozen BK281.out 1))
    refine bodyPost_ret (results_ct rfl _ _ gb281 48 #[.int .u32 0, .int .i64 0] (0, 0) _ rfl (by (with_reducible repeat (first | refine blk_drewN ?_ _ | refine blk_drew ?_ | refine blk_alloc ?_ _)); refine blk_put (cs := #[.int .u32 0, .int .i64 0]) ?_ 1 _ rfl; (with_reducible repeat (first | refine blk_drewN ?_ _ | refine blk_drew ?_ | refine blk_alloc ?_ _)); refine blk_put (cs := #[.int .u32 0, .int .i64 0]) ?_ 0 _ rfl; (with_reducible repeat (first | refine blk_drewN ?_ _ | refine blk_drew ?_ | refine blk_alloc ?_ _)); exact BK281.out) Tryd.underlying48 rfl (by kernel_rfl)) rfl ?_
    exact ⟨by first | rfl | (simp [errW_none, errW_some] <;> rfl) | (simp [*, errW_none, errW_some] <;> rfl), by repeat (first | (with_reducible first | exact HB.out | apply below_alloc | apply pw_below_drewN | apply below_drew1 | refine below_set ?_ GE281.out) | exact HB.out)⟩
mutual
def dragomanref14_Comm.l0 : Nat → List ByteArray → Int → Int → Int → Int → Option (Int × Int × Bool)
  | 0, _, _, _, _, _ => none
  | k + 1, x17, x18, x19, x298000, x298001 => if x19 < x18 then (if 0 ≤ x19 then (if x19 < (x17.length : Int) then (if (rdOf ByteArray.empty x17 x19).toList = ([42] : List UInt8) then (dragomanref14_Comm.l0 k x17 x18 (wrap64 (x19 + 1)) x298000 x298001) else ((dragomanref14_Num.f k (rdOf ByteArray.empty x17 x19)).bind fun bt299 => (if bt299.2 = true then (dragomanref14_Comm.j1 k x19 bt299.1 x17 x18 x19 (decide (bt299.1 > 65535)) x298000 x298001) else (dragomanref14_Comm.j1 k x19 bt299.1 x17 x18 x19 true x298000 x298001)))) else (none)) else (none)) else (some (x298000, x298001, true))
def dragomanref14_Comm.j1 : Nat → Int → Int → List ByteArray → Int → Int → Bool → Int → Int → Option (Int × Int × Bool)
  | 0, _, _, _, _, _, _, _, _ => none
  | k + 1, x6, x8, x17, x18, x19, x36, x298000, x298001 => if x36 = true then (some (0, 0, false)) else (if x6 = 0 then (dragomanref14_Comm.l0 k x17 x18 (wrap64 (x19 + 1)) ((x298000 + (65536 * x8)) % 4294967296) (((Int.tmod x298001 65536) + (65536 * x8)) % 4294967296)) else (dragomanref14_Comm.l0 k x17 x18 (wrap64 (x19 + 1)) (((((Int.tdiv x298000 65536) % 4294967296) * 65536) + x8) % 4294967296) (((((Int.tdiv x298001 65536) % 4294967296) * 65536) + x8) % 4294967296)))
end
def dragomanref14_Comm.f (k : Nat) (a0 : ByteArray) : Option (Int × Int × Bool) := (dragomanref14_pieces.f k a0 (⟨#[58]⟩ : ByteArray)).bind fun t294 => (if (t294.length : Int) = 2 then (dragomanref14_Comm.l0 k t294 (t294.length : Int) 0 0 4294967295) else (some (0, 0, false)))
theorem dragomanref14_Comm.mono_l : ∀ k, (∀ y0 y1 y2 y3 y4, LeO (dragomanref14_Comm.l0 k y0 y1 y2 y3 y4) (dragomanref14_Comm.l0 (k + 1) y0 y1 y2 y3 y4)) ∧ (∀ y0 y1 y2 y3 y4 y5 y6 y7, LeO (dragomanref14_Comm.j1 k y0 y1 y2 y3 y4 y5 y6 y7) (dragomanref14_Comm.j1 (k + 1) y0 y1 y2 y3 y4 y5 y6 y7))
  | 0 => ⟨fun _ _ _ _ _ r h => by simp [dragomanref14_Comm.l0] at h, fun _ _ _ _ _ _ _ _ r h => by simp [dragomanref14_Comm.j1] at h⟩
  | k + 1 => by
    obtain ⟨ih0, ih1⟩ := dragomanref14_Comm.mono_l k
    refine ⟨?_, ?_⟩
    · intro y0 y1 y2 y3 y4
      unfold dragomanref14_Comm.l0
      repeat' first
      | (with_reducible exact ih0 _ _ _ _ _)
      | (with_reducible exact ih1 _ _ _ _ _ _ _ _)
      | (with_reducible exact dragomanref14_Num.mono _ _)
      | (with_reducible exact dragomanref14_pieces.mono _ _ _)
      | (with_reducible exact LeO.refl _)
      | (with_reducible exact LeO.none _)
      | (with_reducible refine LeO.ite ?_ ?_)
      | (with_reducible refine LeO.bind ?_ (fun _ => ?_))
      | exact ih0 _ _ _ _ _
      | exact ih1 _ _ _ _ _ _ _ _
      | exact dragomanref14_Num.mono _ _
      | exact dragomanref14_pieces.mono _ _ _
      | exact LeO.none _
      | refine LeO.ite ?_ ?_
      | refine LeO.bind ?_ (fun _ => ?_)
    · intro y0 y1 y2 y3 y4 y5 y6 y7
      unfold dragomanref14_Comm.j1
      repeat' first
      | (with_reducible exact ih0 _ _ _ _ _)
      | (with_reducible exact ih1 _ _ _ _ _ _ _ _)
      | (with_reducible exact dragomanref14_Num.mono _ _)
      | (with_reducible exact dragomanref14_pieces.mono _ _ _)
      | (with_reducible exact LeO.refl _)
      | (with_reducible exact LeO.none _)
      | (with_reducible refine LeO.ite ?_ ?_)
      | (with_reducible refine LeO.bind ?_ (fun _ => ?_))
      | exact ih0 _ _ _ _ _
      | exact ih1 _ _ _ _ _ _ _ _
      | exact dragomanref14_Num.mono _ _
      | exact dragomanref14_pieces.mono _ _ _
      | exact LeO.none _
      | refine LeO.ite ?_ ?_
      | refine LeO.bind ?_ (fun _ => ?_)
theorem dragomanref14_Comm.mono : ∀ a0 k, LeO (dragomanref14_Comm.f k a0) (dragomanref14_Comm.f (k + 1) a0) := by
  intro a0 k
  obtain ⟨ih0, ih1⟩ := dragomanref14_Comm.mono_l k
  unfold dragomanref14_Comm.f
  repeat' first
      | (with_reducible exact ih0 _ _ _ _ _)
      | (with_reducible exact ih1 _ _ _ _ _ _ _ _)
      | (with_reducible exact dragomanref14_Num.mono _ _)
      | (with_reducible exact dragomanref14_pieces.mono _ _ _)
      | (with_reducible exact LeO.refl _)
      | (with_reducible exact LeO.none _)
      | (with_reducible refine LeO.ite ?_ ?_)
      | (with_reducible refine LeO.bind ?_ (fun _ => ?_))
      | exact ih0 _ _ _ _ _
      | exact ih1 _ _ _ _ _ _ _ _
      | exact dragomanref14_Num.mono _ _
      | exact dragomanref14_pieces.mono _ _ _
      | exact LeO.none _
      | refine LeO.ite ?_ ?_
      | refine LeO.bind ?_ (fun _ => ?_)
set_option maxHeartbeats 8000000 in
set_option maxRecDepth 100000 in
theorem dragomanref14_Comm.calls (k : Nat) (a0 : ByteArray) (r1 : Int) (r2 : Int) (r3 : Bool) (w : World) (h : dragomanref14_Comm.f k a0 = some (r1, r2, r3)) :
    Calls Tryd.prog 21 #[.string a0] w fun e w' => e = .returned (.tuple #[.agg #[.int .u32 r1, .int .u32 r2], .bool r3]) ∧ Below w.heap.size w w' := by
  have hu52 := Tryd.underlying52
  have HB := Aside0.mk (Below.refl w.heap.size w)
  have H : ((dragomanref14_pieces.f k a0 (⟨#[58]⟩ : ByteArray)).bind fun t294 => (if (t294.length : Int) = 2 then (dragomanref14_Comm.l0 k t294 (t294.length : Int) 0 0 4294967295) else (some (0, 0, false)))) = some (r1, r2, r3) := h
  clear h
  replace H := Option.bind_eq_some_iff.mp H
  obtain ⟨t294, A20, H⟩ := H
  replace H : (if (t294.length : Int) = 2 then (dragomanref14_Comm.l0 k t294 (t294.length : Int) 0 0 4294967295) else (some (0, 0, false))) = some (r1, r2, r3) := H
  have A2 := Aside0.mk A20
  clear A20
  by_cases c3 : (t294.length : Int) = 2
  · rw [if_pos c3] at H
    have c3b0 : ((t294.length : Int) == 2) = true := beq_iff_eq.mpr c3
    have c3b1 : ((t294.length : Int) != 2) = false := bne_eq_false_iff_eq.mpr c3
    clear c3
    have H' := Aside0.mk H
    clear H
    go_enter Tryd.func21, Tryd.ntmps21
    go_wp2_with (first | ((with_reducible refine gate_dst (N := 2) rfl ?_); refine box_event ?hg (N := 2) ?hd (cs := #[.int .u32 0, .int .u32 0]) (t := 52) ?hr ?_; (case hd => rfl); (case hg => rfl); (case hr => first | (go_simp; done) | (go_simp; rfl)); intro gb293 hg w4 hbox hb; have n0_ := Aside0.mk (below_step (by repeat (first | (with_reducible first | exact HB.out | apply below_alloc | apply pw_below_drewN | apply below_drew1) | exact HB.out)) hb); have n1_ := Aside0.mk (hbox); have n2_ := Aside0.mk ((by rw [hg]; exact (below_size (by repeat (first | (with_reducible first | exact HB.out | apply below_alloc | apply pw_below_drewN | apply below_drew1) | exact HB.out))) : w.heap.size ≤ gb293)); have n3_ := Aside0.mk ((by rw [hg]; exact (below_size (by repeat (first | (with_reducible first | exact HB.out | apply below_alloc | apply pw_below_drewN | apply below_drew1) | exact HB.out))) : w.heap.size ≤ gb293)); clear HB; have HB := n0_; have BK293 := n1_; have GW293 := n2_; have GE293 := n3_; clear n0_ n1_ n2_ n3_; clear hb hbox hg) | ((with_reducible refine gate_callee (f := 28) rfl ?_); refine goesL_ (some 11) rfl rfl Tryd.func28 (by kernel_rfl) rfl #[.string a0, .string (⟨#[58]⟩ : ByteArray)] rfl (by (try simp only [List.map_toArray, List.map_cons, List.map_nil]); first | done | rfl | (simp only [List.length_drop, List.length_take]; rfl)) ?_; (with_reducible refine (dragomanref14_pieces.calls k a0 (⟨#[58]⟩ : ByteArray) t294 _ A2.out).mono ?_); rintro e w5 ⟨v295, rfl, ho0, hb⟩; refine ⟨_, rfl, ?_⟩; have n0_ := Aside0.mk (Kd.R_lower ho0 (below_size (by repeat (first | (with_reducible first | exact HB.out | apply below_alloc | apply pw_below_drewN | apply below_drew1 | refine below_set ?_ GE293.out) | exact HB.out)))); have n1_ := Aside0.mk (blk_below (g := gb293) (o := .cells #[.int .u32 0, .int .u32 0] 52 (0, 0)) (by (with_reducible repeat (first | refine blk_drewN ?_ _ | refine blk_drew ?_ | refine blk_alloc ?_ _)); exact BK293.out) hb); have n2_ := Aside0.mk (below_step (by repeat (first | (with_reducible first | exact HB.out | apply below_alloc | apply pw_below_drewN | apply below_drew1 | refine below_set ?_ GE293.out) | exact HB.out)) hb); clear BK293; clear HB; have HO296 := n0_; have BK293 := n1_; have HB := n2_; clear n0_ n1_ n2_; (try clear hb); (try clear hb2); (try clear hk); (try clear hi); (try clear ho0); obtain ⟨Ao6, co6, eo6⟩ := Kd.R_slice HO296.out; subst eo6) | ((with_reducible refine gate_dst (N := 5) rfl ?_); refine box_event ?hg (N := 5) ?hd (cs := #[.int .u32 0, .int .u32 0]) (t := 52) ?hr ?_; (case hd => rfl); (case hg => rfl); (case hr => first | (go_simp; done) | (go_simp; rfl)); intro gb297 hg w7 hbox hb; have n0_ := Aside0.mk (Kd.R_below (by (with_reducible repeat (first | apply Kd.R_alloc | apply Kd.R_drewN | apply Kd.R_drew)); exact HO296.out) hb); have n1_ := Aside0.mk (blk_below (g := gb293) (o := .cells #[.int .u32 0, .int .u32 0] 52 (0, 0)) (by (with_reducible repeat (first | refine blk_drewN ?_ _ | refine blk_drew ?_ | refine blk_alloc ?_ _)); exact BK293.out) hb); have n2_ := Aside0.mk (below_step (by repeat (first | (with_reducible first | exact HB.out | apply below_alloc | apply pw_below_drewN | apply below_drew1 | refine below_set ?_ GE293.out) | exact HB.out)) hb); have n3_ := Aside0.mk (hbox); have n4_ := Aside0.mk ((by rw [hg]; exact (below_size (by repeat (first | (with_reducible first | exact HB.out | apply below_alloc | apply pw_below_drewN | apply below_drew1 | refine below_set ?_ GE293.out) | exact HB.out))) : w.heap.size ≤ gb297)); have n5_ := Aside0.mk ((by rw [hg]; exact (below_size (by repeat (first | (with_reducible first | exact HB.out | apply below_alloc | apply pw_below_drewN | apply below_drew1 | refine below_set ?_ GE293.out) | exact HB.out))) : w.heap.size ≤ gb297)); have n6_ := Aside0.mk ((by rw [hg]; exact Nat.ne_of_lt (blk_lt (g := gb293) (o := .cells #[.int .u32 0, .int .u32 0] 52 (0, 0)) (by (with_reducible repeat (first | refine blk_drewN ?_ _ | refine blk_drew ?_ | refine blk_alloc ?_ _)); exact BK293.out)) : gb293 ≠ gb297)); have n7_ := Aside0.mk ((by rw [hg]; exact Nat.ne_of_gt (blk_lt (g := gb293) (o := .cells #[.int .u32 0, .int .u32 0] 52 (0, 0)) (by (with_reducible repeat (first | refine blk_drewN ?_ _ | refine blk_drew ?_ | refine blk_alloc ?_ _)); exact BK293.out)) : gb297 ≠ gb293)); clear HO296; clear BK293; clear HB; have HO296 := n0_; have BK293 := n1_; have HB := n2_; have BK297 := n3_; have GW297 := n4_; have GE297 := n5_; have NB293_297 := n6_; have NB297_293 := n7_; clear n0_ n1_ n2_ n3_ n4_ n5_ n6_ n7_; clear hb hbox hg; have hnb8 := NB297_293.out; have hnc8 := NB293_297.out; have hcz9_0 : w7.cell? ⟨gb297, 0, none⟩ = some (.int .u32 0) := (blk_cell BK297.out 0).trans rfl; have hcz9_1 : w7.cell? ⟨gb297, 1, none⟩ = some (.int .u32 0) := (blk_cell BK297.out 1).trans rfl; have hfz9_0 := blk_frozen BK297.out 0; have hfz9_1 := blk_frozen BK297.out 1))
    go_loopg [19] k (fun kq v19 w' => ∃ (x19_1 : Int) (x294000_1 : Int) (x294001_1 : Int) (x298000_1 : Int) (x298001_1 : Int), v19 = .int .i64 x19_1 ∧ Aside0 (dragomanref14_Comm.l0 kq t294 (t294.length : Int) x19_1 x298000_1 x298001_1 = some (r1, r2, r3)) ∧ Aside0 (kq ≤ k) ∧ Aside0 (Kd.R Kd.string 9 w' w.heap.size (fun _ => True) (.slice Ao6 t294.length co6) t294) ∧ Aside0 (w'.heap[gb293]? = some (.cells #[.int .u32 x294000_1, .int .u32 x294001_1] 52 (0, 0))) ∧ Aside0 (w'.heap[gb297]? = some (.cells #[.int .u32 x298000_1, .int .u32 x298001_1] 52 (0, 0))) ∧ Aside0 (Below w.heap.size w w'))
    case atStart => exact ⟨(0), (0), (0), (0), (4294967295), (by first | rfl | (simp; done) | (simp [*]; done)), H', ⟨Nat.le_refl _⟩, ⟨by (with_reducible repeat (first | apply Kd.R_alloc | apply Kd.R_drewN | apply Kd.R_drew)); exact Kd.R_mono (Kd.R_far (p := ⟨gb297, 1, none⟩) (Kd.R_far (p := ⟨gb297, 0, none⟩) (Kd.R_types HO296.out BK297.out (by decide)) (fun _ hk => hk.2) (.int .u32 0)) (fun _ hk => hk.2) (.int .u32 4294967295)) (fun _ hk => trivial)⟩, ⟨by (with_reducible repeat (first | refine blk_drewN ?_ _ | refine blk_drew ?_ | refine blk_alloc ?_ _)); refine blk_far ?_ NB293_297.out _; (with_reducible repeat (first | refine blk_drewN ?_ _ | refine blk_drew ?_ | refine blk_alloc ?_ _)); refine blk_far ?_ NB293_297.out _; (with_reducible repeat (first | refine blk_drewN ?_ _ | refine blk_drew ?_ | refine blk_alloc ?_ _)); exact BK293.out⟩, ⟨by (with_reducible repeat (first | refine blk_drewN ?_ _ | refine blk_drew ?_ | refine blk_alloc ?_ _)); refine blk_put (cs := #[.int .u32 0, .int .u32 0]) ?_ 1 _ rfl; (with_reducible repeat (first | refine blk_drewN ?_ _ | refine blk_drew ?_ | refine blk_alloc ?_ _)); refine blk_put (cs := #[.int .u32 0, .int .u32 0]) ?_ 0 _ rfl; (with_reducible repeat (first | refine blk_drewN ?_ _ | refine blk_drew ?_ | refine blk_alloc ?_ _)); exact BK297.out⟩, ⟨by repeat (first | (with_reducible first | exact HB.out | apply below_alloc | apply pw_below_drewN | apply below_drew1 | refine below_set ?_ GE293.out | refine below_set ?_ GE297.out) | exact HB.out)⟩⟩
    case round =>
      clear H'
      try clear c2
      try clear p2
      try clear c3
      try clear c3b0
      try clear c3b1
      try clear c8
      try clear hcz9_0
      try clear hcz9_1
      try clear hfz9_0
      try clear hfz9_1
      obtain ⟨x19_1, x294000_1, x294001_1, x298000_1, x298001_1, rfl, HA, HK1, HO_17, BK293, BK297, HB⟩ := hrel
      cases gk with
      | zero => exact absurd HA.out (by simp [dragomanref14_Comm.l0])
      | succ k1 =>
        have H := HA.out
        clear HA
        simp only [dragomanref14_Comm.l0] at H
        by_cases c10 : x19_1 < (t294.length : Int)
        · rw [if_pos c10] at H
          have c10b0 : decide (x19_1 < (t294.length : Int)) = true := decide_eq_true c10
          clear c10
          by_cases c11 : 0 ≤ x19_1
          · rw [if_pos c11] at H
            have c11b0 : decide (0 ≤ x19_1) = true := decide_eq_true c11
            clear c11
            by_cases c12 : x19_1 < (t294.length : Int)
            · rw [if_pos c12] at H
              have c12b0 : decide (x19_1 < (t294.length : Int)) = true := decide_eq_true c12
              clear c12
              by_cases c13 : (rdOf ByteArray.empty t294 x19_1).toList = ([42] : List UInt8)
              · rw [if_pos c13] at H
                have c13b0 : ((rdOf ByteArray.empty t294 x19_1).toList == ([42] : List UInt8)) = true := beq_iff_eq.mpr c13
                have c13b1 : ((rdOf ByteArray.empty t294 x19_1).toList != ([42] : List UInt8)) = false := bne_eq_false_iff_eq.mpr c13
                clear c13
                have H' := Aside0.mk H
                clear H
                have p298 : 0 ≤ (x19_1 : Int) := of_decide_eq_true (by first | (with_reducible assumption) | assumption)
                have q298 : x19_1 < (t294.length : Int) := of_decide_eq_true (by first | (with_reducible assumption) | assumption)
                obtain ⟨ad298, e298, hx298_0⟩ := Kd.at_string (Kd.R_reads' HO_17.out).2.2 x19_1 p298 q298
                cases e298
                replace p298 := eq_true p298
                replace q298 := eq_true q298
                go_wp2
                go_roundg k1
                case measure => have := HK1.out; omega
                case rel => exact ⟨(wrap64 (x19_1 + 1)), (x294000_1), (x294001_1), (x298000_1), (x298001_1), (by first | rfl | (simp; done) | (simp [*]; done)), H', ⟨by have := HK1.out; omega⟩, ⟨by (with_reducible repeat (first | apply Kd.R_alloc | apply Kd.R_drewN | apply Kd.R_drew)); exact HO_17.out⟩, ⟨by (with_reducible repeat (first | refine blk_drewN ?_ _ | refine blk_drew ?_ | refine blk_alloc ?_ _)); exact BK293.out⟩, ⟨by (with_reducible repeat (first | refine blk_drewN ?_ _ | refine blk_drew ?_ | refine blk_alloc ?_ _)); exact BK297.out⟩, ⟨by repeat (first | (with_reducible first | exact HB.out | apply below_alloc | apply pw_below_drewN | apply below_drew1 | refine below_set ?_ GE293.out | refine below_set ?_ GE297.out) | exact HB.out)⟩⟩
              · rw [if_neg c13] at H
                have c13b0 : ((rdOf ByteArray.empty t294 x19_1).toList == ([42] : List UInt8)) = false := beq_eq_false_iff_ne.mpr c13
                have c13b1 : ((rdOf ByteArray.empty t294 x19_1).toList != ([42] : List UInt8)) = true := bne_iff_ne.mpr c13
                replace H := Option.bind_eq_some_iff.mp H
                obtain ⟨⟨t299, t300⟩, A140, H⟩ := H
                replace H : (if t300 = true then (dragomanref14_Comm.j1 k1 x19_1 t299 t294 (t294.length : Int) x19_1 (decide (t299 > 65535)) x298000_1 x298001_1) else (dragomanref14_Comm.j1 k1 x19_1 t299 t294 (t294.length : Int) x19_1 true x298000_1 x298001_1)) = some (r1, r2, r3) := H
                have A14 := Aside0.mk A140
                clear A140
                have HC15 := Aside0.mk H
                clear H
                have p298 : 0 ≤ (x19_1 : Int) := of_decide_eq_true (by first | (with_reducible assumption) | assumption)
                have q298 : x19_1 < (t294.length : Int) := of_decide_eq_true (by first | (with_reducible assumption) | assumption)
                obtain ⟨ad298, e298, hx298_0⟩ := Kd.at_string (Kd.R_reads' HO_17.out).2.2 x19_1 p298 q298
                cases e298
                replace p298 := eq_true p298
                replace q298 := eq_true q298
                go_upto_region 10 with (first | ((with_reducible refine gate_callee (f := 15) rfl ?_); refine goesL_ (some 28) rfl rfl Tryd.func15 (by kernel_rfl) rfl #[.string (rdOf ByteArray.empty t294 x19_1)] rfl (by (try simp only [List.map_toArray, List.map_cons, List.map_nil]); first | done | rfl | (simp only [List.length_drop, List.length_take]; rfl)) ?_; (with_reducible refine (dragomanref14_Num.calls k1 (rdOf ByteArray.empty t294 x19_1) t299 t300 _ A14.out).mono ?_); rintro e w' ⟨rfl, ⟨nd, rfl⟩⟩; refine ⟨_, rfl, ?_⟩))
                (try simp only [Act.put, List.setIfInBounds_toArray, List.set_cons_zero, List.set_cons_succ])
                go_cut [36] (fun v36 wc => ∃ (kq : Nat) (x36_14 : Bool), v36 = .bool x36_14 ∧ Aside0 (dragomanref14_Comm.j1 kq x19_1 t299 t294 (t294.length : Int) x19_1 x36_14 x298000_1 x298001_1 = some (r1, r2, r3)) ∧ Aside0 (kq ≤ k1) ∧ Aside0 (Kd.R Kd.string 9 wc w.heap.size (fun _ => True) (.slice (some ad298) t294.length co6) t294) ∧ Aside0 (wc.heap[gb293]? = some (.cells #[.int .u32 x294000_1, .int .u32 x294001_1] 52 (0, 0))) ∧ Aside0 (wc.heap[gb297]? = some (.cells #[.int .u32 x298000_1, .int .u32 x298001_1] 52 (0, 0))) ∧ Aside0 (Below w.heap.size w wc))
                case first =>
                  have H := HC15.out
                  clear HC15
                  by_cases c16 : t300 = true
                  · subst c16
                    have H1 : (dragomanref14_Comm.j1 k1 x19_1 t299 t294 (t294.length : Int) x19_1 (decide (t299 > 65535)) x298000_1 x298001_1) = some (r1, r2, r3) := by rw [if_pos rfl] at H; exact H
                    clear H
                    have H := H1
                    clear H1
                    have H' := Aside0.mk H
                    clear H
                    go_wp2
                    go_meet
                    case rel => exact ⟨_, (decide (t299 > 65535)), (by first | rfl | (simp; done) | (simp [*]; done)), H', ⟨by have := HK1.out; first | omega | exact Nat.le_refl _⟩, ⟨by (with_reducible repeat (first | apply Kd.R_alloc | apply Kd.R_drewN | apply Kd.R_drew)); exact HO_17.out⟩, ⟨by (with_reducible repeat (first | refine blk_drewN ?_ _ | refine blk_drew ?_ | refine blk_alloc ?_ _)); exact BK293.out⟩, ⟨by (with_reducible repeat (first | refine blk_drewN ?_ _ | refine blk_drew ?_ | refine blk_alloc ?_ _)); exact BK297.out⟩, ⟨by repeat (first | (with_reducible first | exact HB.out | apply below_alloc | apply pw_below_drewN | apply below_drew1 | refine below_set ?_ GE293.out | refine below_set ?_ GE297.out) | exact HB.out)⟩⟩
                  · replace c16 := Bool.eq_false_iff.mpr c16
                    subst c16
                    have H1 : (dragomanref14_Comm.j1 k1 x19_1 t299 t294 (t294.length : Int) x19_1 true x298000_1 x298001_1) = some (r1, r2, r3) := by rw [if_neg (show ¬ (false = true) by decide)] at H; exact H
                    clear H
                    have H := H1
                    clear H1
                    have H' := Aside0.mk H
                    clear H
                    go_wp2
                    go_meet
                    case rel => exact ⟨_, (true), (by first | rfl | (simp; done) | (simp [*]; done)), H', ⟨by have := HK1.out; first | omega | exact Nat.le_refl _⟩, ⟨by (with_reducible repeat (first | apply Kd.R_alloc | apply Kd.R_drewN | apply Kd.R_drew)); exact HO_17.out⟩, ⟨by (with_reducible repeat (first | refine blk_drewN ?_ _ | refine blk_drew ?_ | refine blk_alloc ?_ _)); exact BK293.out⟩, ⟨by (with_reducible repeat (first | refine blk_drewN ?_ _ | refine blk_drew ?_ | refine blk_alloc ?_ _)); exact BK297.out⟩, ⟨by repeat (first | (with_reducible first | exact HB.out | apply below_alloc | apply pw_below_drewN | apply below_drew1 | refine below_set ?_ GE293.out | refine below_set ?_ GE297.out) | exact HB.out)⟩⟩
                case rest =>
                  clear HC15
                  try clear c1
                  try clear c2
                  try clear p2
                  try clear q2
                  try clear hx2
                  try clear c3
                  try clear c3b0
                  try clear c3b1
                  try clear p6
                  try clear c8
                  try clear c10
                  try clear c10b0
                  try clear c11
                  try clear c11b0
                  try clear c12
                  try clear c12b0
                  try clear c13
                  try clear c13b0
                  try clear c13b1
                  try clear c15
                  try clear c16
                  try clear hcz9_0
                  try clear hcz9_1
                  try clear hfz9_0
                  try clear hfz9_1
                  try clear hx298_0
                  try clear p2
                  try clear p298
                  try clear q298
                  obtain ⟨kq, x36_14, rfl, HA, HJ14, HO_17, BK293, BK297, HB⟩ := hcut
                  cases kq with
                  | zero => exact absurd HA.out (by simp [dragomanref14_Comm.j1])
                  | succ kj14 =>
                    have H := HA.out
                    clear HA
                    simp only [dragomanref14_Comm.j1] at H
                    by_cases c17 : x36_14 = true
                    · subst c17
                      have H1 : (some (0, 0, false)) = some (r1, r2, r3) := by rw [if_pos rfl] at H; exact H
                      clear H
                      have H := H1
                      clear H1
                      simp only [Option.some.injEq, Prod.mk.injEq] at H
                      obtain ⟨rfl, rfl, rfl⟩ := H
                      have hnb18 := NB293_297.out
                      have hnc18 := NB297_293.out
                      have hcz19_0 : wc.cell? ⟨gb293, 0, none⟩ = some (.int .u32 x294000_1) := (blk_cell BK293.out 0).trans rfl
                      have hcz19_1 : wc.cell? ⟨gb293, 1, none⟩ = some (.int .u32 x294001_1) := (blk_cell BK293.out 1).trans rfl
                      have hfz19_0 := blk_frozen BK293.out 0
                      have hfz19_1 := blk_frozen BK293.out 1
                      go_wp2
                      refine bodyPost_ret (results_ct rfl _ _ gb293 52 #[.int .u32 0, .int .u32 0] (0, 0) _ rfl (by (with_reducible repeat (first | refine blk_drewN ?_ _ | refine blk_drew ?_ | refine blk_alloc ?_ _)); refine blk_put (cs := #[.int .u32 0, .int .u32 x294001_1]) ?_ 1 _ rfl; (with_reducible repeat (first | refine blk_drewN ?_ _ | refine blk_drew ?_ | refine blk_alloc ?_ _)); refine blk_put (cs := #[.int .u32 x294000_1, .int .u32 x294001_1]) ?_ 0 _ rfl; (with_reducible repeat (first | refine blk_drewN ?_ _ | refine blk_drew ?_ | refine blk_alloc ?_ _)); exact BK293.out) Tryd.underlying52 rfl (by kernel_rfl)) rfl ?_
                      exact ⟨by first | rfl | (simp [errW_none, errW_some] <;> rfl) | (simp [*, errW_none, errW_some] <;> rfl), by repeat (first | (with_reducible first | exact HB.out | apply below_alloc | apply pw_below_drewN | apply below_drew1 | refine below_set ?_ GE293.out | refine below_set ?_ GE297.out) | exact HB.out)⟩
                    · replace c17 := Bool.eq_false_iff.mpr c17
                      subst c17
                      have H1 : (if x19_1 = 0 then (dragomanref14_Comm.l0 kj14 t294 (t294.length : Int) (wrap64 (x19_1 + 1)) ((x298000_1 + (65536 * t299)) % 4294967296) (((Int.tmod x298001_1 65536) + (65536 * t299)) % 4294967296)) else (dragomanref14_Comm.l0 kj14 t294 (t294.length : Int) (wrap64 (x19_1 + 1)) (((((Int.tdiv x298000_1 65536) % 4294967296) * 65536) + t299) % 4294967296) (((((Int.tdiv x298001_1 65536) % 4294967296) * 65536) + t299) % 4294967296))) = some (r1, r2, r3) := by rw [if_neg (show ¬ (false = true) by decide)] at H; exact H
                      clear H
                      have H := H1
                      clear H1
                      by_cases c20 : x19_1 = 0
                      · rw [if_pos c20] at H
                        have c20b0 : (x19_1 == 0) = true := beq_iff_eq.mpr c20
                        have c20b1 : (x19_1 != 0) = false := bne_eq_false_iff_eq.mpr c20
                        clear c20
                        have H' := Aside0.mk H
                        clear H
                        have hnb21 := NB297_293.out
                        have hnc21 := NB293_297.out
                        have hcz22_0 : wc.cell? ⟨gb297, 0, none⟩ = some (.int .u32 x298000_1) := (blk_cell BK297.out 0).trans rfl
                        have hcz22_1 : wc.cell? ⟨gb297, 1, none⟩ = some (.int .u32 x298001_1) := (blk_cell BK297.out 1).trans rfl
                        have hfz22_0 := blk_frozen BK297.out 0
                        have hfz22_1 := blk_frozen BK297.out 1
                        go_wp2
                        go_roundg kj14
                        case measure => have := HK1.out; have := HJ14.out; omega
                        case rel => exact ⟨(wrap64 (x19_1 + 1)), (x294000_1), (x294001_1), ((x298000_1 + (65536 * t299)) % 4294967296), (((Int.tmod x298001_1 65536) + (65536 * t299)) % 4294967296), (by first | rfl | (simp; done) | (simp [*]; done)), H', ⟨by have := HK1.out; have := HJ14.out; omega⟩, ⟨by (with_reducible repeat (first | apply Kd.R_alloc | apply Kd.R_drewN | apply Kd.R_drew)); exact Kd.R_mono (Kd.R_far (p := ⟨gb297, 1, none⟩) (Kd.R_far (p := ⟨gb297, 0, none⟩) (Kd.R_types HO_17.out BK297.out (by decide)) (fun _ hk => hk.2) (.int .u32 ((x298000_1 + (65536 * t299)) % 4294967296))) (fun _ hk => hk.2) (.int .u32 (((Int.tmod x298001_1 65536) + (65536 * t299)) % 4294967296))) (fun _ hk => trivial)⟩, ⟨by (with_reducible repeat (first | refine blk_drewN ?_ _ | refine blk_drew ?_ | refine blk_alloc ?_ _)); refine blk_far ?_ NB293_297.out _; (with_reducible repeat (first | refine blk_drewN ?_ _ | refine blk_drew ?_ | refine blk_alloc ?_ _)); refine blk_far ?_ NB293_297.out _; (with_reducible repeat (first | refine blk_drewN ?_ _ | refine blk_drew ?_ | refine blk_alloc ?_ _)); exact BK293.out⟩, ⟨by (with_reducible repeat (first | refine blk_drewN ?_ _ | refine blk_drew ?_ | refine blk_alloc ?_ _)); refine blk_put (cs := #[.int .u32 ((x298000_1 + (65536 * t299)) % 4294967296), .int .u32 x298001_1]) ?_ 1 _ rfl; (with_reducible repeat (first | refine blk_drewN ?_ _ | refine blk_drew ?_ | refine blk_alloc ?_ _)); refine blk_put (cs := #[.int .u32 x298000_1, .int .u32 x298001_1]) ?_ 0 _ rfl; (with_reducible repeat (first | refine blk_drewN ?_ _ | refine blk_drew ?_ | refine blk_alloc ?_ _)); exact BK297.out⟩, ⟨by repeat (first | (with_reducible first | exact HB.out | apply below_alloc | apply pw_below_drewN | apply below_drew1 | refine below_set ?_ GE293.out | refine below_set ?_ GE297.out) | exact HB.out)⟩⟩
                      · rw [if_neg c20] at H
                        have c20b0 : (x19_1 == 0) = false := beq_eq_false_iff_ne.mpr c20
                        have c20b1 : (x19_1 != 0) = true := bne_iff_ne.mpr c20
                        have H' := Aside0.mk H
                        clear H
                        have hnb23 := NB297_293.out
                        have hnc23 := NB293_297.out
                        have hcz24_0 : wc.cell? ⟨gb297, 0, none⟩ = some (.int .u32 x298000_1) := (blk_cell BK297.out 0).trans rfl
                        have hcz24_1 : wc.cell? ⟨gb297, 1, none⟩ = some (.int .u32 x298001_1) := (blk_cell BK297.out 1).trans rfl
                        have hfz24_0 := blk_frozen BK297.out 0
                        have hfz24_1 := blk_frozen BK297.out 1
                        go_wp2
                        go_roundg kj14
                        case measure => have := HK1.out; have := HJ14.out; omega
                        case rel => exact ⟨(wrap64 (x19_1 + 1)), (x294000_1), (x294001_1), (((((Int.tdiv x298000_1 65536) % 4294967296) * 65536) + t299) % 4294967296), (((((Int.tdiv x298001_1 65536) % 4294967296) * 65536) + t299) % 4294967296), (by first | rfl | (simp; done) | (simp [*]; done)), H', ⟨by have := HK1.out; have := HJ14.out; omega⟩, ⟨by (with_reducible repeat (first | apply Kd.R_alloc | apply Kd.R_drewN | apply Kd.R_drew)); exact Kd.R_mono (Kd.R_far (p := ⟨gb297, 1, none⟩) (Kd.R_far (p := ⟨gb297, 0, none⟩) (Kd.R_types HO_17.out BK297.out (by decide)) (fun _ hk => hk.2) (.int .u32 (((((Int.tdiv x298000_1 65536) % 4294967296) * 65536) + t299) % 4294967296))) (fun _ hk => hk.2) (.int .u32 (((((Int.tdiv x298001_1 65536) % 4294967296) * 65536) + t299) % 4294967296))) (fun _ hk => trivial)⟩, ⟨by (with_reducible repeat (first | refine blk_drewN ?_ _ | refine blk_drew ?_ | refine blk_alloc ?_ _)); refine blk_far ?_ NB293_297.out _; (with_reducible repeat (first | refine blk_drewN ?_ _ | refine blk_drew ?_ | refine blk_alloc ?_ _)); refine blk_far ?_ NB293_297.out _; (with_reducible repeat (first | refine blk_drewN ?_ _ | refine blk_drew ?_ | refine blk_alloc ?_ _)); exact BK293.out⟩, ⟨by (with_reducible repeat (first | refine blk_drewN ?_ _ | refine blk_drew ?_ | refine blk_alloc ?_ _)); refine blk_put (cs := #[.int .u32 (((((Int.tdiv x298000_1 65536) % 4294967296) * 65536) + t299) % 4294967296), .int .u32 x298001_1]) ?_ 1 _ rfl; (with_reducible repeat (first | refine blk_drewN ?_ _ | refine blk_drew ?_ | refine blk_alloc ?_ _)); refine blk_put (cs := #[.int .u32 x298000_1, .int .u32 x298001_1]) ?_ 0 _ rfl; (with_reducible repeat (first | refine blk_drewN ?_ _ | refine blk_drew ?_ | refine blk_alloc ?_ _)); exact BK297.out⟩, ⟨by repeat (first | (with_reducible first | exact HB.out | apply below_alloc | apply pw_below_drewN | apply below_drew1 | refine below_set ?_ GE293.out | refine below_set ?_ GE297.out) | exact HB.out)⟩⟩
            · rw [if_neg c12] at H
              exact absurd H (by simp)
          · rw [if_neg c11] at H
            exact absurd H (by simp)
        · rw [if_neg c10] at H
          have c10b0 : decide (x19_1 < (t294.length : Int)) = false := decide_eq_false c10
          clear c10
          simp only [Option.some.injEq, Prod.mk.injEq] at H
          obtain ⟨rfl, rfl, rfl⟩ := H
          have hnb25 := NB297_293.out
          have hnc25 := NB293_297.out
          have hcz26_0 : wr.cell? ⟨gb297, 0, none⟩ = some (.int .u32 x298000_1) := (blk_cell BK297.out 0).trans rfl
          have hcz26_1 : wr.cell? ⟨gb297, 1, none⟩ = some (.int .u32 x298001_1) := (blk_cell BK297.out 1).trans rfl
          have hfz26_0 := blk_frozen BK297.out 0
          have hfz26_1 := blk_frozen BK297.out 1
          have hcz27_0 : wr.cell? ⟨gb293, 0, none⟩ = some (.int .u32 x294000_1) := (blk_cell BK293.out 0).trans rfl
          have hcz27_1 : wr.cell? ⟨gb293, 1, none⟩ = some (.int .u32 x294001_1) := (blk_cell BK293.out 1).trans rfl
          have hfz27_0 := blk_frozen BK293.out 0
          have hfz27_1 := blk_frozen BK293.out 1
          go_wp2
          refine bodyPost_ret (results_ct rfl _ _ gb293 52 #[.int .u32 x298000_1, .int .u32 x298001_1] (0, 0) _ rfl (by (with_reducible repeat (first | refine blk_drewN ?_ _ | refine blk_drew ?_ | refine blk_alloc ?_ _)); refine blk_put (cs := #[.int .u32 x298000_1, .int .u32 x294001_1]) ?_ 1 _ rfl; (with_reducible repeat (first | refine blk_drewN ?_ _ | refine blk_drew ?_ | refine blk_alloc ?_ _)); refine blk_put (cs := #[.int .u32 x294000_1, .int .u32 x294001_1]) ?_ 0 _ rfl; (with_reducible repeat (first | refine blk_drewN ?_ _ | refine blk_drew ?_ | refine blk_alloc ?_ _)); exact BK293.out) Tryd.underlying52 rfl (by kernel_rfl)) rfl ?_
          exact ⟨by first | rfl | (simp [errW_none, errW_some] <;> rfl) | (simp [*, errW_none, errW_some] <;> rfl), by repeat (first | (with_reducible first | exact HB.out | apply below_alloc | apply pw_below_drewN | apply below_drew1 | refine below_set ?_ GE293.out | refine below_set ?_ GE297.out) | exact HB.out)⟩
  · rw [if_neg c3] at H
    have c3b0 : ((t294.length : Int) == 2) = false := beq_eq_false_iff_ne.mpr c3
    have c3b1 : ((t294.length : Int) != 2) = true := bne_iff_ne.mpr c3
    simp only [Option.some.injEq, Prod.mk.injEq] at H
    obtain ⟨rfl, rfl, rfl⟩ := H
    go_enter Tryd.func21, Tryd.ntmps21
    go_wp2_with (first | ((with_reducible refine gate_dst (N := 2) rfl ?_); refine box_event ?hg (N := 2) ?hd (cs := #[.int .u32 0, .int .u32 0]) (t := 52) ?hr ?_; (case hd => rfl); (case hg => rfl); (case hr => first | (go_simp; done) | (go_simp; rfl)); intro gb293 hg w28 hbox hb; have n0_ := Aside0.mk (below_step (by repeat (first | (with_reducible first | exact HB.out | apply below_alloc | apply pw_below_drewN | apply below_drew1) | exact HB.out)) hb); have n1_ := Aside0.mk (hbox); have n2_ := Aside0.mk ((by rw [hg]; exact (below_size (by repeat (first | (with_reducible first | exact HB.out | apply below_alloc | apply pw_below_drewN | apply below_drew1) | exact HB.out))) : w.heap.size ≤ gb293)); have n3_ := Aside0.mk ((by rw [hg]; exact (below_size (by repeat (first | (with_reducible first | exact HB.out | apply below_alloc | apply pw_below_drewN | apply below_drew1) | exact HB.out))) : w.heap.size ≤ gb293)); clear HB; have HB := n0_; have BK293 := n1_; have GW293 := n2_; have GE293 := n3_; clear n0_ n1_ n2_ n3_; clear hb hbox hg) | ((with_reducible refine gate_callee (f := 28) rfl ?_); refine goesL_ (some 11) rfl rfl Tryd.func28 (by kernel_rfl) rfl #[.string a0, .string (⟨#[58]⟩ : ByteArray)] rfl (by (try simp only [List.map_toArray, List.map_cons, List.map_nil]); first | done | rfl | (simp only [List.length_drop, List.length_take]; rfl)) ?_; (with_reducible refine (dragomanref14_pieces.calls k a0 (⟨#[58]⟩ : ByteArray) t294 _ A2.out).mono ?_); rintro e w29 ⟨v295, rfl, ho0, hb⟩; refine ⟨_, rfl, ?_⟩; have n0_ := Aside0.mk (Kd.R_lower ho0 (below_size (by repeat (first | (with_reducible first | exact HB.out | apply below_alloc | apply pw_below_drewN | apply below_drew1 | refine below_set ?_ GE293.out) | exact HB.out)))); have n1_ := Aside0.mk (blk_below (g := gb293) (o := .cells #[.int .u32 0, .int .u32 0] 52 (0, 0)) (by (with_reducible repeat (first | refine blk_drewN ?_ _ | refine blk_drew ?_ | refine blk_alloc ?_ _)); exact BK293.out) hb); have n2_ := Aside0.mk (below_step (by repeat (first | (with_reducible first | exact HB.out | apply below_alloc | apply pw_below_drewN | apply below_drew1 | refine below_set ?_ GE293.out) | exact HB.out)) hb); clear BK293; clear HB; have HO296 := n0_; have BK293 := n1_; have HB := n2_; clear n0_ n1_ n2_; (try clear hb); (try clear hb2); (try clear hk); (try clear hi); (try clear ho0); obtain ⟨Ao30, co30, eo30⟩ := Kd.R_slice HO296.out; subst eo30; have hcz31_0 : w29.cell? ⟨gb293, 0, none⟩ = some (.int .u32 0) := (blk_cell BK293.out 0).trans rfl; have hcz31_1 : w29.cell? ⟨gb293, 1, none⟩ = some (.int .u32 0) := (blk_cell BK293.out 1).trans rfl; have hfz31_0 := blk_frozen BK293.out 0; have hfz31_1 := blk_frozen BK293.out 1))
    refine bodyPost_ret (results_ct rfl _ _ gb293 52 #[.int .u32 0, .int .u32 0] (0, 0) _ rfl (by (with_reducible repeat (first | refine blk_drewN ?_ _ | refine blk_drew ?_ | refine blk_alloc ?_ _)); refine blk_put (cs := #[.int .u32 0, .int .u32 0]) ?_ 1 _ rfl; (with_reducible repeat (first | refine blk_drewN ?_ _ | refine blk_drew ?_ | refine blk_alloc ?_ _)); refine blk_put (cs := #[.int .u32 0, .int .u32 0]) ?_ 0 _ rfl; (with_reducible repeat (first | refine blk_drewN ?_ _ | refine blk_drew ?_ | refine blk_alloc ?_ _)); exact BK293.out) Tryd.underlying52 rfl (by kernel_rfl)) rfl ?_
    exact ⟨by first | rfl | (simp [errW_none, errW_some] <;> rfl) | (simp [*, errW_none, errW_some] <;> rfl), by repeat (first | (with_reducible first | exact HB.out | apply below_alloc | apply pw_below_drewN | apply below_drew1 | refine below_set ?_ GE293.out) | exact HB.out)⟩
end Go.Proofs.YtdnneofebehpaaaDoor.L
