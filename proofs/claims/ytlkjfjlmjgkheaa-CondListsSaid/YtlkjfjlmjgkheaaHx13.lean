import Derived.Test.YtlkjfjlmjgkheaaHx0
namespace Go.Proofs.Ytlkjfjlmjgkheaa.H
open Go.RowKit Go.Proofs.YtlkjfjlmjgkheaaW.PrintWords Go.Proofs.YtlkjfjlmjgkheaaW.PrintLast Go.Proofs.YtlkjfjlmjgkheaaW.PrintMore
attribute [local go_sem] max2_int min2_int max_two min_two max_three min_three max_four min_four
set_option linter.unusedVariables false
set_option linter.unusedSimpArgs false
mutual
def r5_kinds.j0 : Nat → Bool → Int → List (S66) → List (S25) → Option (Bool)
 | 0, _, _, _, _ => none
 | k + 1, x5, x211000, x211001, x211002 => if x5 = true then (some false) else (if x211000 = 1 then (r5_kinds.j1 k false x211000 x211001 x211002) else (r5_kinds.j1 k (decide ((x211001.length : Int) > 0)) x211000 x211001 x211002))
def r5_kinds.j1 : Nat → Bool → Int → List (S66) → List (S25) → Option (Bool)
 | 0, _, _, _, _ => none
 | k + 1, x5, x211000, x211001, x211002 => if x5 = true then (some false) else (if x211000 = 4 then (r5_kinds.j2 k ((x211002.length : Int) != 1) x211000 x211001 x211002) else (r5_kinds.j2 k false x211000 x211001 x211002))
def r5_kinds.j2 : Nat → Bool → Int → List (S66) → List (S25) → Option (Bool)
 | 0, _, _, _, _ => none
 | k + 1, x5, x211000, x211001, x211002 => if x5 = true then (some false) else (if x211000 < 1 then (some false) else (if x211000 > 4 then (some false) else (r5_kinds.l0 k x211002 (x211002.length : Int) 0)))
def r5_kinds.l0 : Nat → List (S25) → Int → Int → Option (Bool)
 | 0, _, _, _ => none
 | k + 1, x46, x47, x48 => if x48 < x47 then (if 0 ≤ x48 then (if x48 < (x46.length : Int) then ((r5_kinds.f k ((rd_T25 x46 x48).f0) ((rd_T25 x46 x48).f1) ((rd_T25 x46 x48).f2)).bind fun t213 => (if t213 = true then (r5_kinds.l0 k x46 x47 (wrap64 (x48 + 1))) else (some false))) else (none)) else (none)) else (some true)
def r5_kinds.f : Nat → Int → List (S66) → List (S25) → Option (Bool)
 | 0, _, _, _ => none
 | k + 1, a0_0, l0_1, l0_2 => if a0_0 = 1 then (if (l0_2.length : Int) > 0 then (r5_kinds.j0 k true a0_0 l0_1 l0_2) else (r5_kinds.j0 k (decide ((l0_1.length : Int) > 256)) a0_0 l0_1 l0_2)) else (r5_kinds.j0 k false a0_0 l0_1 l0_2)
end
set_option maxHeartbeats 8000000 in
set_option maxRecDepth 100000 in
theorem r5_kinds.calls (k : Nat) : ∀ (a0_0 : Int) (A0_1 : Option Addr) (c0_1 : Nat) (l0_1 : List (S66)) (A0_2 : Option Addr) (c0_2 : Nat) (l0_2 : List (S25)) (r : Bool) (w : World) (hr0_1 : Kd.C k66 w A0_1 l0_1.length l0_1) (hc0_1 : l0_1.length ≤ c0_1) (hr0_2 : Kd.C k25 w A0_2 l0_2.length l0_2) (hc0_2 : l0_2.length ≤ c0_2) (h : r5_kinds.f k a0_0 l0_1 l0_2 = some r),
 Calls Try.prog 44 #[.agg #[.int .i64 a0_0, .slice A0_1 l0_1.length c0_1, .slice A0_2 l0_2.length c0_2]] w fun e w' => e = .returned (.bool r) ∧ Below w.heap.size w w' := by
 induction k using Nat.strongRecOn with
 | _ k ih =>
 intro a0_0 A0_1 c0_1 l0_1 A0_2 c0_2 l0_2 r w hr0_1 hc0_1 hr0_2 hc0_2 h
 cases k with
 | zero => exact absurd h (by simp [r5_kinds.f])
 | succ k =>
 simp only [r5_kinds.f] at h
 have hu25 := Try.underlying25
 have HR0_1 := aM hr0_1
 have HC0_1 := aM hc0_1
 clear hr0_1 hc0_1
 have HR0_2 := aM hr0_2
 have HC0_2 := aM hc0_2
 clear hr0_2 hc0_2
 have HB := aM (Below.refl w.heap.size w)
 have H : (if a0_0 = 1 then (if (l0_2.length : Int) > 0 then (r5_kinds.j0 k true a0_0 l0_1 l0_2) else (r5_kinds.j0 k (decide ((l0_1.length : Int) > 256)) a0_0 l0_1 l0_2)) else (r5_kinds.j0 k false a0_0 l0_1 l0_2)) = some r := h
 clear h
 have HC2 := aM H
 clear H
 go_enter Try.func44, Try.ntmps44
 go_upto_region 1 with (first | ((with_reducible refine gate_dst (N := 1) rfl ?_); (try (refine gate_guard (by rfl) ?_; dsimp only)); refine box_event ?hg (N := 1) ?hd (cs := #[.int .i64 a0_0, .slice A0_1 l0_1.length c0_1, .slice A0_2 l0_2.length c0_2]) (t := 25) ?hr ?_; (case hd => rfl); (case hg => rfl); (case hr => first | (go_simp; done) | (go_simp; rfl)); intro gb210 hg w3 hbox hb; have n0_ := aM (below_step (by repeat (first | (with_reducible first | exact HB.out | apply blA | apply blN | apply blD) | exact HB.out)) hb); have n1_ := aM (hbox); have n2_ := aM ((by rw [hg]; exact (below_size (by repeat (first | (with_reducible first | exact HB.out | apply blA | apply blN | apply blD) | exact HB.out))) : w.heap.size ≤ gb210)); have n3_ := aM ((by rw [hg]; exact (below_size (by repeat (first | (with_reducible first | exact HB.out | apply blA | apply blN | apply blD) | exact HB.out))) : w.heap.size ≤ gb210)); clear HB; have HB := n0_; have BK210 := n1_; have GW210 := n2_; have GE210 := n3_; clear n0_ n1_ n2_ n3_; clear hb hbox hg))
 (try simp only [Act.put, List.setIfInBounds_toArray, List.set_cons_zero, List.set_cons_succ])
 go_cut [5] (fun v5 wc => ∃ (kq : Nat) (x5_1 : Bool), v5 = .bool x5_1 ∧ Aside0 (r5_kinds.j0 kq x5_1 a0_0 l0_1 l0_2 = some r) ∧ Aside0 (kq ≤ k) ∧ Aside0 (wc.heap[gb210]? = some (.cells #[.int .i64 a0_0, (.slice A0_1 l0_1.length c0_1), (.slice A0_2 l0_2.length c0_2)] 25 (0, 0))) ∧ Aside0 (Below w.heap.size w wc))
 case first =>
  have H := HC2.out
  clear HC2
  by_cases c4 : a0_0 = 1
  · rw [if_pos c4] at H
    have c4b0 : (a0_0 == 1) = true := beq_iff_eq.mpr c4
    have c4b1 : (a0_0 != 1) = false := bne_eq_false_iff_eq.mpr c4
    clear c4
    (first | rw [c4b0] | (simp only [i64_w, i32_w]; rw [c4b0]) | rw [c4b1] | skip)
    by_cases c5 : (l0_2.length : Int) > 0
    · rw [if_pos c5] at H
      have c5b0 : decide (0 < (l0_2.length : Int)) = true := decide_eq_true c5
      have c5b1 : decide (0 < l0_2.length) = true := decide_eq_true (by omega)
      clear c5
      have H' := aM H
      clear H
      have hcz6_0 : w3.cell? ⟨gb210, 0, none⟩ = some (.int .i64 a0_0) := (blk_cell BK210.out 0).trans rfl
      have hcz6_1 : w3.cell? ⟨gb210, 1, none⟩ = some (.slice A0_1 l0_1.length c0_1) := (blk_cell BK210.out 1).trans rfl
      have hcz6_2 : w3.cell? ⟨gb210, 2, none⟩ = some (.slice A0_2 l0_2.length c0_2) := (blk_cell BK210.out 2).trans rfl
      have hfz6_0 := bF BK210.out 0
      have hfz6_1 := bF BK210.out 1
      have hfz6_2 := bF BK210.out 2
      go_wp2
      go_meet
      case rel => exact ⟨_, (true), (by first | rfl | (simp; done) | (simp [*]; done)), H', ⟨by first | omega | exact Nat.le_refl _⟩, ⟨by (with_reducible repeat (first | apply bkN | apply bkD | apply bkA)); exact BK210.out⟩, ⟨by repeat (first | (with_reducible first | exact HB.out | apply blA | apply blN | apply blD | refine bS ?_ GE210.out) | exact HB.out)⟩⟩
    · rw [if_neg c5] at H
      have c5b0 : decide (0 < (l0_2.length : Int)) = false := decide_eq_false c5
      have c5b1 : decide (0 < l0_2.length) = false := decide_eq_false (by omega)
      clear c5
      have H' := aM H
      clear H
      have hcz7_0 : w3.cell? ⟨gb210, 0, none⟩ = some (.int .i64 a0_0) := (blk_cell BK210.out 0).trans rfl
      have hcz7_1 : w3.cell? ⟨gb210, 1, none⟩ = some (.slice A0_1 l0_1.length c0_1) := (blk_cell BK210.out 1).trans rfl
      have hcz7_2 : w3.cell? ⟨gb210, 2, none⟩ = some (.slice A0_2 l0_2.length c0_2) := (blk_cell BK210.out 2).trans rfl
      have hfz7_0 := bF BK210.out 0
      have hfz7_1 := bF BK210.out 1
      have hfz7_2 := bF BK210.out 2
      go_wp2
      go_meet
      case rel => exact ⟨_, (decide ((l0_1.length : Int) > 256)), (by first | rfl | (simp; done) | (simp [*]; done)), H', ⟨by first | omega | exact Nat.le_refl _⟩, ⟨by (with_reducible repeat (first | apply bkN | apply bkD | apply bkA)); exact BK210.out⟩, ⟨by repeat (first | (with_reducible first | exact HB.out | apply blA | apply blN | apply blD | refine bS ?_ GE210.out) | exact HB.out)⟩⟩
  · rw [if_neg c4] at H
    have c4b0 : (a0_0 == 1) = false := beq_eq_false_iff_ne.mpr c4
    have c4b1 : (a0_0 != 1) = true := bne_iff_ne.mpr c4
    (first | rw [c4b0] | (simp only [i64_w, i32_w]; rw [c4b0]) | rw [c4b1] | skip)
    have H' := aM H
    clear H
    have hcz8_0 : w3.cell? ⟨gb210, 0, none⟩ = some (.int .i64 a0_0) := (blk_cell BK210.out 0).trans rfl
    have hcz8_1 : w3.cell? ⟨gb210, 1, none⟩ = some (.slice A0_1 l0_1.length c0_1) := (blk_cell BK210.out 1).trans rfl
    have hcz8_2 : w3.cell? ⟨gb210, 2, none⟩ = some (.slice A0_2 l0_2.length c0_2) := (blk_cell BK210.out 2).trans rfl
    have hfz8_0 := bF BK210.out 0
    have hfz8_1 := bF BK210.out 1
    have hfz8_2 := bF BK210.out 2
    go_wp2
    go_meet
    case rel => exact ⟨_, (false), (by first | rfl | (simp; done) | (simp [*]; done)), H', ⟨by first | omega | exact Nat.le_refl _⟩, ⟨by (with_reducible repeat (first | apply bkN | apply bkD | apply bkA)); exact BK210.out⟩, ⟨by repeat (first | (with_reducible first | exact HB.out | apply blA | apply blN | apply blD | refine bS ?_ GE210.out) | exact HB.out)⟩⟩
 case rest =>
  clear HC2
  obtain ⟨kq, x5_1, rfl, HA, HJ1, BK210, HB⟩ := hcut
  cases kq with
  | zero => exact absurd HA.out (by simp [r5_kinds.j0])
  | succ kj1 =>
   have H := HA.out
   clear HA
   simp only [r5_kinds.j0] at H
   by_cases c9 : x5_1 = true
   · subst c9
     have H1 : (some false) = some r := by rw [if_pos rfl] at H; exact H
     clear H
     have H := H1
     clear H1
     obtain rfl := Option.some.inj H
     go_wp2
     first | go_ret | refine ⟨_, results_tmp rfl _ _ _, ?_⟩
     exact ⟨by first | rfl | (simp [errW_none, errW_some] <;> rfl) | (simp [*, errW_none, errW_some] <;> rfl), by repeat (first | (with_reducible first | exact HB.out | apply blA | apply blN | apply blD | refine bS ?_ GE210.out) | exact HB.out)⟩
   · replace c9 := Bool.eq_false_iff.mpr c9
     subst c9
     have H1 : (if a0_0 = 1 then (r5_kinds.j1 kj1 false a0_0 l0_1 l0_2) else (r5_kinds.j1 kj1 (decide ((l0_1.length : Int) > 0)) a0_0 l0_1 l0_2)) = some r := by rw [if_neg (show ¬ (false = true) by decide)] at H; exact H
     clear H
     have H := H1
     clear H1
     have HC10 := aM H
     clear H
     go_upto_region 2 with (fail)
     go_cut [5] (fun v5 wc => ∃ (kq : Nat) (x5_9 : Bool), v5 = .bool x5_9 ∧ Aside0 (r5_kinds.j1 kq x5_9 a0_0 l0_1 l0_2 = some r) ∧ Aside0 (kq ≤ kj1) ∧ Aside0 (wc.heap[gb210]? = some (.cells #[.int .i64 a0_0, (.slice A0_1 l0_1.length c0_1), (.slice A0_2 l0_2.length c0_2)] 25 (0, 0))) ∧ Aside0 (Below w.heap.size w wc))
     case first =>
      have H := HC10.out
      clear HC10
      by_cases c11 : a0_0 = 1
      · rw [if_pos c11] at H
        have c11b0 : (a0_0 == 1) = true := beq_iff_eq.mpr c11
        have c11b1 : (a0_0 != 1) = false := bne_eq_false_iff_eq.mpr c11
        clear c11
        (first | rw [c11b0] | (simp only [i64_w, i32_w]; rw [c11b0]) | rw [c11b1] | skip)
        have H' := aM H
        clear H
        have hcz12_0 : wc.cell? ⟨gb210, 0, none⟩ = some (.int .i64 a0_0) := (blk_cell BK210.out 0).trans rfl
        have hcz12_1 : wc.cell? ⟨gb210, 1, none⟩ = some (.slice A0_1 l0_1.length c0_1) := (blk_cell BK210.out 1).trans rfl
        have hcz12_2 : wc.cell? ⟨gb210, 2, none⟩ = some (.slice A0_2 l0_2.length c0_2) := (blk_cell BK210.out 2).trans rfl
        have hfz12_0 := bF BK210.out 0
        have hfz12_1 := bF BK210.out 1
        have hfz12_2 := bF BK210.out 2
        go_wp2
        go_meet
        case rel => exact ⟨_, (false), (by first | rfl | (simp; done) | (simp [*]; done)), H', ⟨by have := HJ1.out; first | omega | exact Nat.le_refl _⟩, ⟨by (with_reducible repeat (first | apply bkN | apply bkD | apply bkA)); exact BK210.out⟩, ⟨by repeat (first | (with_reducible first | exact HB.out | apply blA | apply blN | apply blD | refine bS ?_ GE210.out) | exact HB.out)⟩⟩
      · rw [if_neg c11] at H
        have c11b0 : (a0_0 == 1) = false := beq_eq_false_iff_ne.mpr c11
        have c11b1 : (a0_0 != 1) = true := bne_iff_ne.mpr c11
        (first | rw [c11b0] | (simp only [i64_w, i32_w]; rw [c11b0]) | rw [c11b1] | skip)
        have H' := aM H
        clear H
        have hcz13_0 : wc.cell? ⟨gb210, 0, none⟩ = some (.int .i64 a0_0) := (blk_cell BK210.out 0).trans rfl
        have hcz13_1 : wc.cell? ⟨gb210, 1, none⟩ = some (.slice A0_1 l0_1.length c0_1) := (blk_cell BK210.out 1).trans rfl
        have hcz13_2 : wc.cell? ⟨gb210, 2, none⟩ = some (.slice A0_2 l0_2.length c0_2) := (blk_cell BK210.out 2).trans rfl
        have hfz13_0 := bF BK210.out 0
        have hfz13_1 := bF BK210.out 1
        have hfz13_2 := bF BK210.out 2
        go_wp2
        go_meet
        case rel => exact ⟨_, (decide ((l0_1.length : Int) > 0)), (by first | rfl | (simp; done) | (simp [*]; done)), H', ⟨by have := HJ1.out; first | omega | exact Nat.le_refl _⟩, ⟨by (with_reducible repeat (first | apply bkN | apply bkD | apply bkA)); exact BK210.out⟩, ⟨by repeat (first | (with_reducible first | exact HB.out | apply blA | apply blN | apply blD | refine bS ?_ GE210.out) | exact HB.out)⟩⟩
     case rest =>
      clear HC10
      obtain ⟨kq, x5_9, rfl, HA, HJ9, BK210, HB⟩ := hcut
      cases kq with
      | zero => exact absurd HA.out (by simp [r5_kinds.j1])
      | succ kj9 =>
       have H := HA.out
       clear HA
       simp only [r5_kinds.j1] at H
       by_cases c14 : x5_9 = true
       · subst c14
         have H1 : (some false) = some r := by rw [if_pos rfl] at H; exact H
         clear H
         have H := H1
         clear H1
         obtain rfl := Option.some.inj H
         go_wp2
         first | go_ret | refine ⟨_, results_tmp rfl _ _ _, ?_⟩
         exact ⟨by first | rfl | (simp [errW_none, errW_some] <;> rfl) | (simp [*, errW_none, errW_some] <;> rfl), by repeat (first | (with_reducible first | exact HB.out | apply blA | apply blN | apply blD | refine bS ?_ GE210.out) | exact HB.out)⟩
       · replace c14 := Bool.eq_false_iff.mpr c14
         subst c14
         have H1 : (if a0_0 = 4 then (r5_kinds.j2 kj9 ((l0_2.length : Int) != 1) a0_0 l0_1 l0_2) else (r5_kinds.j2 kj9 false a0_0 l0_1 l0_2)) = some r := by rw [if_neg (show ¬ (false = true) by decide)] at H; exact H
         clear H
         have H := H1
         clear H1
         have HC15 := aM H
         clear H
         go_upto_region 3 with (fail)
         go_cut [5] (fun v5 wc => ∃ (kq : Nat) (x5_14 : Bool), v5 = .bool x5_14 ∧ Aside0 (r5_kinds.j2 kq x5_14 a0_0 l0_1 l0_2 = some r) ∧ Aside0 (kq ≤ kj9) ∧ Aside0 (wc.heap[gb210]? = some (.cells #[.int .i64 a0_0, (.slice A0_1 l0_1.length c0_1), (.slice A0_2 l0_2.length c0_2)] 25 (0, 0))) ∧ Aside0 (Below w.heap.size w wc))
         case first =>
          have H := HC15.out
          clear HC15
          by_cases c16 : a0_0 = 4
          · rw [if_pos c16] at H
            have c16b0 : (a0_0 == 4) = true := beq_iff_eq.mpr c16
            have c16b1 : (a0_0 != 4) = false := bne_eq_false_iff_eq.mpr c16
            clear c16
            (first | rw [c16b0] | (simp only [i64_w, i32_w]; rw [c16b0]) | rw [c16b1] | skip)
            have H' := aM H
            clear H
            have hcz17_0 : wc.cell? ⟨gb210, 0, none⟩ = some (.int .i64 a0_0) := (blk_cell BK210.out 0).trans rfl
            have hcz17_1 : wc.cell? ⟨gb210, 1, none⟩ = some (.slice A0_1 l0_1.length c0_1) := (blk_cell BK210.out 1).trans rfl
            have hcz17_2 : wc.cell? ⟨gb210, 2, none⟩ = some (.slice A0_2 l0_2.length c0_2) := (blk_cell BK210.out 2).trans rfl
            have hfz17_0 := bF BK210.out 0
            have hfz17_1 := bF BK210.out 1
            have hfz17_2 := bF BK210.out 2
            go_wp2
            go_meet
            case rel => exact ⟨_, (((l0_2.length : Int) != 1)), (by first | rfl | (simp; done) | (simp [*]; done)), H', ⟨by have := HJ1.out; have := HJ9.out; first | omega | exact Nat.le_refl _⟩, ⟨by (with_reducible repeat (first | apply bkN | apply bkD | apply bkA)); exact BK210.out⟩, ⟨by repeat (first | (with_reducible first | exact HB.out | apply blA | apply blN | apply blD | refine bS ?_ GE210.out) | exact HB.out)⟩⟩
          · rw [if_neg c16] at H
            have c16b0 : (a0_0 == 4) = false := beq_eq_false_iff_ne.mpr c16
            have c16b1 : (a0_0 != 4) = true := bne_iff_ne.mpr c16
            (first | rw [c16b0] | (simp only [i64_w, i32_w]; rw [c16b0]) | rw [c16b1] | skip)
            have H' := aM H
            clear H
            have hcz18_0 : wc.cell? ⟨gb210, 0, none⟩ = some (.int .i64 a0_0) := (blk_cell BK210.out 0).trans rfl
            have hcz18_1 : wc.cell? ⟨gb210, 1, none⟩ = some (.slice A0_1 l0_1.length c0_1) := (blk_cell BK210.out 1).trans rfl
            have hcz18_2 : wc.cell? ⟨gb210, 2, none⟩ = some (.slice A0_2 l0_2.length c0_2) := (blk_cell BK210.out 2).trans rfl
            have hfz18_0 := bF BK210.out 0
            have hfz18_1 := bF BK210.out 1
            have hfz18_2 := bF BK210.out 2
            go_wp2
            go_meet
            case rel => exact ⟨_, (false), (by first | rfl | (simp; done) | (simp [*]; done)), H', ⟨by have := HJ1.out; have := HJ9.out; first | omega | exact Nat.le_refl _⟩, ⟨by (with_reducible repeat (first | apply bkN | apply bkD | apply bkA)); exact BK210.out⟩, ⟨by repeat (first | (with_reducible first | exact HB.out | apply blA | apply blN | apply blD | refine bS ?_ GE210.out) | exact HB.out)⟩⟩
         case rest =>
          clear HC15
          obtain ⟨kq, x5_14, rfl, HA, HJ14, BK210, HB⟩ := hcut
          cases kq with
          | zero => exact absurd HA.out (by simp [r5_kinds.j2])
          | succ kj14 =>
           have H := HA.out
           clear HA
           simp only [r5_kinds.j2] at H
           by_cases c19 : x5_14 = true
           · subst c19
             have H1 : (some false) = some r := by rw [if_pos rfl] at H; exact H
             clear H
             have H := H1
             clear H1
             obtain rfl := Option.some.inj H
             go_wp2
             first | go_ret | refine ⟨_, results_tmp rfl _ _ _, ?_⟩
             exact ⟨by first | rfl | (simp [errW_none, errW_some] <;> rfl) | (simp [*, errW_none, errW_some] <;> rfl), by repeat (first | (with_reducible first | exact HB.out | apply blA | apply blN | apply blD | refine bS ?_ GE210.out) | exact HB.out)⟩
           · replace c19 := Bool.eq_false_iff.mpr c19
             subst c19
             have H1 : (if a0_0 < 1 then (some false) else (if a0_0 > 4 then (some false) else (r5_kinds.l0 kj14 l0_2 (l0_2.length : Int) 0))) = some r := by rw [if_neg (show ¬ (false = true) by decide)] at H; exact H
             clear H
             have H := H1
             clear H1
             by_cases c20 : a0_0 < 1
             · rw [if_pos c20] at H
               have c20b0 : decide (a0_0 < 1) = true := decide_eq_true c20
               clear c20
               obtain rfl := Option.some.inj H
               have hcz21_0 : wc.cell? ⟨gb210, 0, none⟩ = some (.int .i64 a0_0) := (blk_cell BK210.out 0).trans rfl
               have hcz21_1 : wc.cell? ⟨gb210, 1, none⟩ = some (.slice A0_1 l0_1.length c0_1) := (blk_cell BK210.out 1).trans rfl
               have hcz21_2 : wc.cell? ⟨gb210, 2, none⟩ = some (.slice A0_2 l0_2.length c0_2) := (blk_cell BK210.out 2).trans rfl
               have hfz21_0 := bF BK210.out 0
               have hfz21_1 := bF BK210.out 1
               have hfz21_2 := bF BK210.out 2
               go_wp2
               first | go_ret | refine ⟨_, results_tmp rfl _ _ _, ?_⟩
               exact ⟨by first | rfl | (simp [errW_none, errW_some] <;> rfl) | (simp [*, errW_none, errW_some] <;> rfl), by repeat (first | (with_reducible first | exact HB.out | apply blA | apply blN | apply blD | refine bS ?_ GE210.out) | exact HB.out)⟩
             · rw [if_neg c20] at H
               have c20b0 : decide (a0_0 < 1) = false := decide_eq_false c20
               clear c20
               by_cases c22 : a0_0 > 4
               · rw [if_pos c22] at H
                 have c22b0 : decide (4 < a0_0) = true := decide_eq_true c22
                 clear c22
                 obtain rfl := Option.some.inj H
                 have hcz23_0 : wc.cell? ⟨gb210, 0, none⟩ = some (.int .i64 a0_0) := (blk_cell BK210.out 0).trans rfl
                 have hcz23_1 : wc.cell? ⟨gb210, 1, none⟩ = some (.slice A0_1 l0_1.length c0_1) := (blk_cell BK210.out 1).trans rfl
                 have hcz23_2 : wc.cell? ⟨gb210, 2, none⟩ = some (.slice A0_2 l0_2.length c0_2) := (blk_cell BK210.out 2).trans rfl
                 have hfz23_0 := bF BK210.out 0
                 have hfz23_1 := bF BK210.out 1
                 have hfz23_2 := bF BK210.out 2
                 go_wp2
                 first | go_ret | refine ⟨_, results_tmp rfl _ _ _, ?_⟩
                 exact ⟨by first | rfl | (simp [errW_none, errW_some] <;> rfl) | (simp [*, errW_none, errW_some] <;> rfl), by repeat (first | (with_reducible first | exact HB.out | apply blA | apply blN | apply blD | refine bS ?_ GE210.out) | exact HB.out)⟩
               · rw [if_neg c22] at H
                 have c22b0 : decide (4 < a0_0) = false := decide_eq_false c22
                 clear c22
                 have H' := aM H
                 clear H
                 have hcz24_0 : wc.cell? ⟨gb210, 0, none⟩ = some (.int .i64 a0_0) := (blk_cell BK210.out 0).trans rfl
                 have hcz24_1 : wc.cell? ⟨gb210, 1, none⟩ = some (.slice A0_1 l0_1.length c0_1) := (blk_cell BK210.out 1).trans rfl
                 have hcz24_2 : wc.cell? ⟨gb210, 2, none⟩ = some (.slice A0_2 l0_2.length c0_2) := (blk_cell BK210.out 2).trans rfl
                 have hfz24_0 := bF BK210.out 0
                 have hfz24_1 := bF BK210.out 1
                 have hfz24_2 := bF BK210.out 2
                 go_wp2
                 go_loopg [48] kj14 (fun kq v48 w' => ∃ (x48_4 : Int), v48 = .int .i64 x48_4 ∧ Aside0 (r5_kinds.l0 kq l0_2 (l0_2.length : Int) x48_4 = some r) ∧ Aside0 (kq ≤ kj14) ∧ Aside0 (w'.heap[gb210]? = some (.cells #[.int .i64 a0_0, (.slice A0_1 l0_1.length c0_1), (.slice A0_2 l0_2.length c0_2)] 25 (0, 0))) ∧ Aside0 (Below w.heap.size w w'))
                 case atStart => exact ⟨(0), (by first | rfl | (simp; done) | (simp [*]; done)), H', ⟨Nat.le_refl _⟩, ⟨by (with_reducible repeat (first | apply bkN | apply bkD | apply bkA)); exact BK210.out⟩, ⟨by repeat (first | (with_reducible first | exact HB.out | apply blA | apply blN | apply blD | refine bS ?_ GE210.out) | exact HB.out)⟩⟩
                 case round =>
                  clear H'
                  obtain ⟨x48_4, rfl, HA, HK4, BK210, HB⟩ := hrel
                  cases gk with
                  | zero => exact absurd HA.out (by simp [r5_kinds.l0])
                  | succ k4 =>
                   have H := HA.out
                   clear HA
                   simp only [r5_kinds.l0] at H
                   by_cases c25 : x48_4 < (l0_2.length : Int)
                   · rw [if_pos c25] at H
                     have c25b0 : decide (x48_4 < (l0_2.length : Int)) = true := decide_eq_true c25
                     clear c25
                     by_cases c26 : 0 ≤ x48_4
                     · rw [if_pos c26] at H
                       have c26b0 : decide (0 ≤ x48_4) = true := decide_eq_true c26
                       clear c26
                       by_cases c27 : x48_4 < (l0_2.length : Int)
                       · rw [if_pos c27] at H
                         have c27b0 : decide (x48_4 < (l0_2.length : Int)) = true := decide_eq_true c27
                         clear c27
                         replace H := Option.bind_eq_some_iff.mp H
                         obtain ⟨t213, A280, H⟩ := H
                         replace H : (if t213 = true then (r5_kinds.l0 k4 l0_2 (l0_2.length : Int) (wrap64 (x48_4 + 1))) else (some false)) = some r := H
                         have A28 := aM A280
                         clear A280
                         by_cases c29 : t213 = true
                         · subst c29
                           have H1 : (r5_kinds.l0 k4 l0_2 (l0_2.length : Int) (wrap64 (x48_4 + 1))) = some r := by rw [if_pos rfl] at H; exact H
                           clear H
                           have H := H1
                           clear H1
                           have H' := aM H
                           clear H
                           have p211 : 0 ≤ (x48_4 : Int) := of_decide_eq_true (by first | (with_reducible assumption) | assumption)
                           have q211 : x48_4 < (l0_2.length : Int) := of_decide_eq_true (by first | (with_reducible assumption) | assumption)
                           obtain ⟨ad211, A211_1, c211_1, A211_2, c211_2, e211, hx211_0, hx211_1, hx211_2, hl211_1, hi211_1, hl211_2, hi211_2⟩ := at_T25 HR0_2.out x48_4 p211 q211
                           cases e211
                           replace hx211_0 := (HB.out.cell (World.block_lt_of_cell? w _ hx211_0)).trans hx211_0
                           replace hx211_1 := (HB.out.cell (World.block_lt_of_cell? w _ hx211_1)).trans hx211_1
                           replace hx211_2 := (HB.out.cell (World.block_lt_of_cell? w _ hx211_2)).trans hx211_2
                           have HR211_1 := aM hi211_1
                           have HC211_1 := aM hl211_1
                           clear hi211_1 hl211_1
                           have HR211_2 := aM hi211_2
                           have HC211_2 := aM hl211_2
                           clear hi211_2 hl211_2
                           replace p211 := eq_true p211
                           replace q211 := eq_true q211
                           go_wp2_with (first | ((with_reducible refine gate_dst (N := 4) rfl ?_); (try (refine gate_guard (by rfl) ?_; dsimp only)); refine box_event ?hg (N := 4) ?hd (cs := #[.int .i64 0, .slice none 0 0, .slice none 0 0]) (t := 25) ?hr ?_; (case hd => rfl); (case hg => rfl); (case hr => first | (go_simp; done) | (go_simp; rfl)); intro gb212 hg w30 hbox hb; have n0_ := aM (blk_below (g := gb210) (o := .cells #[.int .i64 a0_0, .slice A0_1 l0_1.length c0_1, .slice (some ad211) l0_2.length c0_2] 25 (0, 0)) (by (with_reducible repeat (first | apply bkN | apply bkD | apply bkA)); exact BK210.out) hb); have n1_ := aM (below_step (by repeat (first | (with_reducible first | exact HB.out | apply blA | apply blN | apply blD | refine bS ?_ GE210.out) | exact HB.out)) hb); have n2_ := aM (hbox); have n3_ := aM ((by rw [hg]; exact (below_size (by repeat (first | (with_reducible first | exact HB.out | apply blA | apply blN | apply blD | refine bS ?_ GE210.out) | exact HB.out))) : w.heap.size ≤ gb212)); have n4_ := aM ((by rw [hg]; exact (below_size (by repeat (first | (with_reducible first | exact HB.out | apply blA | apply blN | apply blD | refine bS ?_ GE210.out) | exact HB.out))) : w.heap.size ≤ gb212)); have n5_ := aM ((by rw [hg]; exact Nat.ne_of_lt (blk_lt (g := gb210) (o := .cells #[.int .i64 a0_0, .slice A0_1 l0_1.length c0_1, .slice (some ad211) l0_2.length c0_2] 25 (0, 0)) (by (with_reducible repeat (first | apply bkN | apply bkD | apply bkA)); exact BK210.out)) : gb210 ≠ gb212)); have n6_ := aM ((by rw [hg]; exact Nat.ne_of_gt (blk_lt (g := gb210) (o := .cells #[.int .i64 a0_0, .slice A0_1 l0_1.length c0_1, .slice (some ad211) l0_2.length c0_2] 25 (0, 0)) (by (with_reducible repeat (first | apply bkN | apply bkD | apply bkA)); exact BK210.out)) : gb212 ≠ gb210)); clear BK210; clear HB; have BK210 := n0_; have HB := n1_; have BK212 := n2_; have GW212 := n3_; have GE212 := n4_; have NB210_212 := n5_; have NB212_210 := n6_; clear n0_ n1_ n2_ n3_ n4_ n5_ n6_; clear hb hbox hg; have hnb31 := NB212_210.out; have hnc31 := NB210_212.out; have hcz32_0 : w30.cell? ⟨gb212, 0, none⟩ = some (.int .i64 0) := (blk_cell BK212.out 0).trans rfl; have hcz32_1 : w30.cell? ⟨gb212, 1, none⟩ = some (.slice none 0 0) := (blk_cell BK212.out 1).trans rfl; have hcz32_2 : w30.cell? ⟨gb212, 2, none⟩ = some (.slice none 0 0) := (blk_cell BK212.out 2).trans rfl; have hfz32_0 := bF BK212.out 0; have hfz32_1 := bF BK212.out 1; have hfz32_2 := bF BK212.out 2) | ((with_reducible refine gate_callee (f := 44) rfl ?_); refine goesL_ (some 53) rfl rfl Try.func44 (by kernel_rfl) rfl #[.agg #[.int .i64 ((rd_T25 l0_2 x48_4).f0), .slice A211_1 ((rd_T25 l0_2 x48_4).f1).length c211_1, .slice A211_2 ((rd_T25 l0_2 x48_4).f2).length c211_2]] rfl (by (try simp only [List.map_toArray, List.map_cons, List.map_nil]); first | done | rfl | (simp only [List.length_drop, List.length_take]; rfl)) ?_; (with_reducible refine (ih k4 (by have := HJ1.out; have := HJ9.out; have := HJ14.out; have := HK4.out; omega) ((rd_T25 l0_2 x48_4).f0) _ _ ((rd_T25 l0_2 x48_4).f1) _ _ ((rd_T25 l0_2 x48_4).f2) true _ ?side1 ?side2 ?side3 ?side4 A28.out).mono ?_); (case side1 => exact Kd.C_below HR211_1.out (by repeat (first | (with_reducible first | exact HB.out | apply blA | apply blN | apply blD | refine bS ?_ GE210.out | refine bS ?_ GE212.out) | exact HB.out))); (case side2 => exact HC211_1.out); (case side3 => exact Kd.C_below HR211_2.out (by repeat (first | (with_reducible first | exact HB.out | apply blA | apply blN | apply blD | refine bS ?_ GE210.out | refine bS ?_ GE212.out) | exact HB.out))); (case side4 => exact HC211_2.out); rintro e w33 ⟨rfl, hb⟩; refine ⟨_, rfl, ?_⟩; have n0_ := aM (blk_below (g := gb210) (o := .cells #[.int .i64 a0_0, .slice A0_1 l0_1.length c0_1, .slice (some ad211) l0_2.length c0_2] 25 (0, 0)) (by (with_reducible repeat (first | apply bkN | apply bkD | apply bkA)); refine blk_far ?_ NB210_212.out _; (with_reducible repeat (first | apply bkN | apply bkD | apply bkA)); refine blk_far ?_ NB210_212.out _; (with_reducible repeat (first | apply bkN | apply bkD | apply bkA)); refine blk_far ?_ NB210_212.out _; (with_reducible repeat (first | apply bkN | apply bkD | apply bkA)); exact BK210.out) hb); have n1_ := aM (blk_below (g := gb212) (o := .cells #[.int .i64 ((rd_T25 l0_2 x48_4).f0), .slice A211_1 ((rd_T25 l0_2 x48_4).f1).length c211_1, .slice A211_2 ((rd_T25 l0_2 x48_4).f2).length c211_2] 25 (0, 0)) (by (with_reducible repeat (first | apply bkN | apply bkD | apply bkA)); refine blk_put (cs := #[.int .i64 ((rd_T25 l0_2 x48_4).f0), .slice A211_1 ((rd_T25 l0_2 x48_4).f1).length c211_1, .slice none 0 0]) ?_ 2 _ rfl; (with_reducible repeat (first | apply bkN | apply bkD | apply bkA)); refine blk_put (cs := #[.int .i64 ((rd_T25 l0_2 x48_4).f0), .slice none 0 0, .slice none 0 0]) ?_ 1 _ rfl; (with_reducible repeat (first | apply bkN | apply bkD | apply bkA)); refine blk_put (cs := #[.int .i64 0, .slice none 0 0, .slice none 0 0]) ?_ 0 _ rfl; (with_reducible repeat (first | apply bkN | apply bkD | apply bkA)); exact BK212.out) hb); have n2_ := aM (below_step (by repeat (first | (with_reducible first | exact HB.out | apply blA | apply blN | apply blD | refine bS ?_ GE210.out | refine bS ?_ GE212.out) | exact HB.out)) hb); clear BK210; clear BK212; clear HB; have BK210 := n0_; have BK212 := n1_; have HB := n2_; clear n0_ n1_ n2_; (try clear hb); (try clear hb2); (try clear hk); (try clear hi)))
                           go_roundg k4
                           case measure => have := HJ1.out; have := HJ9.out; have := HJ14.out; have := HK4.out; omega
                           case rel => exact ⟨(wrap64 (x48_4 + 1)), (by first | rfl | (simp; done) | (simp [*]; done)), H', ⟨by have := HJ1.out; have := HJ9.out; have := HJ14.out; have := HK4.out; omega⟩, ⟨by (with_reducible repeat (first | apply bkN | apply bkD | apply bkA)); exact BK210.out⟩, ⟨by repeat (first | (with_reducible first | exact HB.out | apply blA | apply blN | apply blD | refine bS ?_ GE210.out | refine bS ?_ GE212.out) | exact HB.out)⟩⟩
                         · replace c29 := Bool.eq_false_iff.mpr c29
                           subst c29
                           have H1 : (some false) = some r := by rw [if_neg (show ¬ (false = true) by decide)] at H; exact H
                           clear H
                           have H := H1
                           clear H1
                           obtain rfl := Option.some.inj H
                           have p211 : 0 ≤ (x48_4 : Int) := of_decide_eq_true (by first | (with_reducible assumption) | assumption)
                           have q211 : x48_4 < (l0_2.length : Int) := of_decide_eq_true (by first | (with_reducible assumption) | assumption)
                           obtain ⟨ad211, A211_1, c211_1, A211_2, c211_2, e211, hx211_0, hx211_1, hx211_2, hl211_1, hi211_1, hl211_2, hi211_2⟩ := at_T25 HR0_2.out x48_4 p211 q211
                           cases e211
                           replace hx211_0 := (HB.out.cell (World.block_lt_of_cell? w _ hx211_0)).trans hx211_0
                           replace hx211_1 := (HB.out.cell (World.block_lt_of_cell? w _ hx211_1)).trans hx211_1
                           replace hx211_2 := (HB.out.cell (World.block_lt_of_cell? w _ hx211_2)).trans hx211_2
                           have HR211_1 := aM hi211_1
                           have HC211_1 := aM hl211_1
                           clear hi211_1 hl211_1
                           have HR211_2 := aM hi211_2
                           have HC211_2 := aM hl211_2
                           clear hi211_2 hl211_2
                           replace p211 := eq_true p211
                           replace q211 := eq_true q211
                           go_wp2_with (first | ((with_reducible refine gate_dst (N := 4) rfl ?_); (try (refine gate_guard (by rfl) ?_; dsimp only)); refine box_event ?hg (N := 4) ?hd (cs := #[.int .i64 0, .slice none 0 0, .slice none 0 0]) (t := 25) ?hr ?_; (case hd => rfl); (case hg => rfl); (case hr => first | (go_simp; done) | (go_simp; rfl)); intro gb212 hg w34 hbox hb; have n0_ := aM (blk_below (g := gb210) (o := .cells #[.int .i64 a0_0, .slice A0_1 l0_1.length c0_1, .slice (some ad211) l0_2.length c0_2] 25 (0, 0)) (by (with_reducible repeat (first | apply bkN | apply bkD | apply bkA)); exact BK210.out) hb); have n1_ := aM (below_step (by repeat (first | (with_reducible first | exact HB.out | apply blA | apply blN | apply blD | refine bS ?_ GE210.out) | exact HB.out)) hb); have n2_ := aM (hbox); have n3_ := aM ((by rw [hg]; exact (below_size (by repeat (first | (with_reducible first | exact HB.out | apply blA | apply blN | apply blD | refine bS ?_ GE210.out) | exact HB.out))) : w.heap.size ≤ gb212)); have n4_ := aM ((by rw [hg]; exact (below_size (by repeat (first | (with_reducible first | exact HB.out | apply blA | apply blN | apply blD | refine bS ?_ GE210.out) | exact HB.out))) : w.heap.size ≤ gb212)); have n5_ := aM ((by rw [hg]; exact Nat.ne_of_lt (blk_lt (g := gb210) (o := .cells #[.int .i64 a0_0, .slice A0_1 l0_1.length c0_1, .slice (some ad211) l0_2.length c0_2] 25 (0, 0)) (by (with_reducible repeat (first | apply bkN | apply bkD | apply bkA)); exact BK210.out)) : gb210 ≠ gb212)); have n6_ := aM ((by rw [hg]; exact Nat.ne_of_gt (blk_lt (g := gb210) (o := .cells #[.int .i64 a0_0, .slice A0_1 l0_1.length c0_1, .slice (some ad211) l0_2.length c0_2] 25 (0, 0)) (by (with_reducible repeat (first | apply bkN | apply bkD | apply bkA)); exact BK210.out)) : gb212 ≠ gb210)); clear BK210; clear HB; have BK210 := n0_; have HB := n1_; have BK212 := n2_; have GW212 := n3_; have GE212 := n4_; have NB210_212 := n5_; have NB212_210 := n6_; clear n0_ n1_ n2_ n3_ n4_ n5_ n6_; clear hb hbox hg; have hnb35 := NB212_210.out; have hnc35 := NB210_212.out; have hcz36_0 : w34.cell? ⟨gb212, 0, none⟩ = some (.int .i64 0) := (blk_cell BK212.out 0).trans rfl; have hcz36_1 : w34.cell? ⟨gb212, 1, none⟩ = some (.slice none 0 0) := (blk_cell BK212.out 1).trans rfl; have hcz36_2 : w34.cell? ⟨gb212, 2, none⟩ = some (.slice none 0 0) := (blk_cell BK212.out 2).trans rfl; have hfz36_0 := bF BK212.out 0; have hfz36_1 := bF BK212.out 1; have hfz36_2 := bF BK212.out 2) | ((with_reducible refine gate_callee (f := 44) rfl ?_); refine goesL_ (some 53) rfl rfl Try.func44 (by kernel_rfl) rfl #[.agg #[.int .i64 ((rd_T25 l0_2 x48_4).f0), .slice A211_1 ((rd_T25 l0_2 x48_4).f1).length c211_1, .slice A211_2 ((rd_T25 l0_2 x48_4).f2).length c211_2]] rfl (by (try simp only [List.map_toArray, List.map_cons, List.map_nil]); first | done | rfl | (simp only [List.length_drop, List.length_take]; rfl)) ?_; (with_reducible refine (ih k4 (by have := HJ1.out; have := HJ9.out; have := HJ14.out; have := HK4.out; omega) ((rd_T25 l0_2 x48_4).f0) _ _ ((rd_T25 l0_2 x48_4).f1) _ _ ((rd_T25 l0_2 x48_4).f2) false _ ?side1 ?side2 ?side3 ?side4 A28.out).mono ?_); (case side1 => exact Kd.C_below HR211_1.out (by repeat (first | (with_reducible first | exact HB.out | apply blA | apply blN | apply blD | refine bS ?_ GE210.out | refine bS ?_ GE212.out) | exact HB.out))); (case side2 => exact HC211_1.out); (case side3 => exact Kd.C_below HR211_2.out (by repeat (first | (with_reducible first | exact HB.out | apply blA | apply blN | apply blD | refine bS ?_ GE210.out | refine bS ?_ GE212.out) | exact HB.out))); (case side4 => exact HC211_2.out); rintro e w37 ⟨rfl, hb⟩; refine ⟨_, rfl, ?_⟩; have n0_ := aM (blk_below (g := gb210) (o := .cells #[.int .i64 a0_0, .slice A0_1 l0_1.length c0_1, .slice (some ad211) l0_2.length c0_2] 25 (0, 0)) (by (with_reducible repeat (first | apply bkN | apply bkD | apply bkA)); refine blk_far ?_ NB210_212.out _; (with_reducible repeat (first | apply bkN | apply bkD | apply bkA)); refine blk_far ?_ NB210_212.out _; (with_reducible repeat (first | apply bkN | apply bkD | apply bkA)); refine blk_far ?_ NB210_212.out _; (with_reducible repeat (first | apply bkN | apply bkD | apply bkA)); exact BK210.out) hb); have n1_ := aM (blk_below (g := gb212) (o := .cells #[.int .i64 ((rd_T25 l0_2 x48_4).f0), .slice A211_1 ((rd_T25 l0_2 x48_4).f1).length c211_1, .slice A211_2 ((rd_T25 l0_2 x48_4).f2).length c211_2] 25 (0, 0)) (by (with_reducible repeat (first | apply bkN | apply bkD | apply bkA)); refine blk_put (cs := #[.int .i64 ((rd_T25 l0_2 x48_4).f0), .slice A211_1 ((rd_T25 l0_2 x48_4).f1).length c211_1, .slice none 0 0]) ?_ 2 _ rfl; (with_reducible repeat (first | apply bkN | apply bkD | apply bkA)); refine blk_put (cs := #[.int .i64 ((rd_T25 l0_2 x48_4).f0), .slice none 0 0, .slice none 0 0]) ?_ 1 _ rfl; (with_reducible repeat (first | apply bkN | apply bkD | apply bkA)); refine blk_put (cs := #[.int .i64 0, .slice none 0 0, .slice none 0 0]) ?_ 0 _ rfl; (with_reducible repeat (first | apply bkN | apply bkD | apply bkA)); exact BK212.out) hb); have n2_ := aM (below_step (by repeat (first | (with_reducible first | exact HB.out | apply blA | apply blN | apply blD | refine bS ?_ GE210.out | refine bS ?_ GE212.out) | exact HB.out)) hb); clear BK210; clear BK212; clear HB; have BK210 := n0_; have BK212 := n1_; have HB := n2_; clear n0_ n1_ n2_; (try clear hb); (try clear hb2); (try clear hk); (try clear hi)))
                           first | go_ret | refine ⟨_, results_tmp rfl _ _ _, ?_⟩
                           exact ⟨by first | rfl | (simp [errW_none, errW_some] <;> rfl) | (simp [*, errW_none, errW_some] <;> rfl), by repeat (first | (with_reducible first | exact HB.out | apply blA | apply blN | apply blD | refine bS ?_ GE210.out | refine bS ?_ GE212.out) | exact HB.out)⟩
                       · rw [if_neg c27] at H
                         exact absurd H (by simp)
                     · rw [if_neg c26] at H
                       exact absurd H (by simp)
                   · rw [if_neg c25] at H
                     have c25b0 : decide (x48_4 < (l0_2.length : Int)) = false := decide_eq_false c25
                     clear c25
                     obtain rfl := Option.some.inj H
                     go_wp2
                     first | go_ret | refine ⟨_, results_tmp rfl _ _ _, ?_⟩
                     exact ⟨by first | rfl | (simp [errW_none, errW_some] <;> rfl) | (simp [*, errW_none, errW_some] <;> rfl), by repeat (first | (with_reducible first | exact HB.out | apply blA | apply blN | apply blD | refine bS ?_ GE210.out) | exact HB.out)⟩
end Go.Proofs.Ytlkjfjlmjgkheaa.H
