import Derived.Test.YtlkjfjlmjgkheaaHx0
import Derived.Test.YtlkjfjlmjgkheaaHx4
namespace Go.Proofs.Ytlkjfjlmjgkheaa.H
open Go.RowKit Go.Proofs.YtlkjfjlmjgkheaaW.PrintWords Go.Proofs.YtlkjfjlmjgkheaaW.PrintLast Go.Proofs.YtlkjfjlmjgkheaaW.PrintMore
attribute [local go_sem] max2_int min2_int max_two min_two max_three min_three max_four min_four
set_option linter.unusedVariables false
set_option linter.unusedSimpArgs false
attribute [local go_sem high] eqA66
def r1_Same.l0 : Nat → List (S66) → List (S66) → Int → Int → Option (Bool)
 | 0, _, _, _, _ => none
 | k + 1, x0, x1, x12, x13 => if x13 < x12 then (if 0 ≤ x13 then (if x13 < (x0.length : Int) then (if x13 < (x1.length : Int) then (if (!(((rd_T66 x0 x13).f0) == ((rd_T66 x1 x13).f0)) || (!(((rd_T66 x0 x13).f1) == ((rd_T66 x1 x13).f1)))) = true then (some false) else (r1_Same.l0 k x0 x1 x12 (wrap64 (x13 + 1)))) else (none)) else (none)) else (none)) else (some true)
def r1_Same.f (k : Nat) (l0 : List (S66)) (l1 : List (S66)) : Option (Bool) := if (l0.length : Int) = (l1.length : Int) then (r1_Same.l0 k l0 l1 (l0.length : Int) 0) else (some false)
set_option maxHeartbeats 8000000 in
set_option maxRecDepth 100000 in
theorem r1_Same.calls (k : Nat) (A0 : Option Addr) (c0 : Nat) (l0 : List (S66)) (A1 : Option Addr) (c1 : Nat) (l1 : List (S66)) (r : Bool) (w : World) (hr0 : Kd.C k66 w A0 l0.length l0) (hc0 : l0.length ≤ c0) (hr1 : Kd.C k66 w A1 l1.length l1) (hc1 : l1.length ≤ c1) (h : r1_Same.f k l0 l1 = some r) :
 Calls Try.prog 49 #[.slice A0 l0.length c0, .slice A1 l1.length c1] w fun e w' => e = .returned (.bool r) ∧ Drawn0 w w' := by
 have hu66 := Try.underlying66
 have HR0 := aM hr0
 have HC0 := aM hc0
 clear hr0 hc0
 have HR1 := aM hr1
 have HC1 := aM hc1
 clear hr1 hc1
 have H : (if (l0.length : Int) = (l1.length : Int) then (r1_Same.l0 k l0 l1 (l0.length : Int) 0) else (some false)) = some r := h
 clear h
 by_cases c3 : (l0.length : Int) = (l1.length : Int)
 rotate_left
 · rw [if_neg c3] at H
   have c3b0 : ((l0.length : Int) == (l1.length : Int)) = false := beq_eq_false_iff_ne.mpr c3
   have c3b1 : ((l0.length : Int) != (l1.length : Int)) = true := bne_iff_ne.mpr c3
   have c3b2 : (l0.length == l1.length) = false := by first | simpa using c3 | (simp at c3 ⊢; omega)
   obtain rfl := Option.some.inj H
   go_enter Try.func49, Try.ntmps49
   go_wp2
   repeat (go_quiet (fail); try go_wp2)
   first | go_ret | refine ⟨_, results_tmp rfl _ _ _, ?_⟩
   exact ⟨rf_, dr_⟩
 rw [if_pos c3] at H
 have c3b0 : ((l0.length : Int) == (l1.length : Int)) = true := beq_iff_eq.mpr c3
 have c3b1 : ((l0.length : Int) != (l1.length : Int)) = false := bne_eq_false_iff_eq.mpr c3
 have c3b2 : (l0.length == l1.length) = true := by first | simpa using c3 | (simp at c3 ⊢; omega)
 clear c3
 have H' := aM H
 clear H
 go_enter Try.func49, Try.ntmps49
 go_wp2
 repeat (go_quiet (fail); try go_wp2)
 go_loopg [13] k (fun kq v13 w' => ∃ (x13_1 : Int), v13 = .int .i64 x13_1 ∧ Aside0 (r1_Same.l0 kq l0 l1 (l0.length : Int) x13_1 = some r) ∧ Aside0 (kq ≤ k) ∧ Drawn0 w w')
 case atStart => exact ⟨(0), rf_, H', ⟨Nat.le_refl _⟩, dr_⟩
 case round =>
  clear H'
  obtain ⟨x13_1, rfl, HA, HK1, ⟨m1, rfl⟩⟩ := hrel
  cases gk with
  | zero => exact absurd HA.out (by simp [r1_Same.l0])
  | succ k1 =>
   have H := HA.out
   clear HA
   simp only [r1_Same.l0] at H
   by_cases c4 : x13_1 < (l0.length : Int)
   rotate_left
   · rw [if_neg c4] at H
     replace c4 := decide_eq_false c4
     obtain rfl := Option.some.inj H
     go_wp2
     repeat (go_quiet (fail); try go_wp2)
     first | go_ret | refine ⟨_, results_tmp rfl _ _ _, ?_⟩
     exact ⟨rf_, dr_⟩
   rw [if_pos c4] at H
   replace c4 := decide_eq_true c4
   obtain ⟨c5, H⟩ := ifd_ H
   obtain ⟨c6, H⟩ := ifd_ H
   obtain ⟨c7, H⟩ := ifd_ H
   by_cases c8 : (!(((rd_T66 l0 x13_1).f0) == ((rd_T66 l1 x13_1).f0)) || (!(((rd_T66 l0 x13_1).f1) == ((rd_T66 l1 x13_1).f1)))) = true
   · rw [if_pos c8] at H
     have c8b0 : (!(((rd_T66 l0 x13_1).f0) == ((rd_T66 l1 x13_1).f0)) || (!(((rd_T66 l0 x13_1).f1) == ((rd_T66 l1 x13_1).f1)))) = true := c8
     clear c8
     obtain rfl := Option.some.inj H
     have p385 : 0 ≤ (x13_1 : Int) := od_
     have q385 : x13_1 < (l0.length : Int) := od_
     obtain ⟨ad385, e385, hx385_0, hx385_1⟩ := at_T66 HR0.out x13_1 p385 q385
     cases e385
     replace p385 := eq_true p385
     replace q385 := eq_true q385
     have p386 : 0 ≤ (x13_1 : Int) := od_
     have q386 : x13_1 < (l1.length : Int) := od_
     obtain ⟨ad386, e386, hx386_0, hx386_1⟩ := at_T66 HR1.out x13_1 p386 q386
     cases e386
     replace p386 := eq_true p386
     replace q386 := eq_true q386
     go_wp2
     repeat (go_quiet (fail); try go_wp2)
     first | go_ret | refine ⟨_, results_tmp rfl _ _ _, ?_⟩
     exact ⟨rf_, dr_⟩
   rw [if_neg c8] at H
   have c8b0 : (!(((rd_T66 l0 x13_1).f0) == ((rd_T66 l1 x13_1).f0)) || (!(((rd_T66 l0 x13_1).f1) == ((rd_T66 l1 x13_1).f1)))) = false := by simpa using c8
   clear c8
   have H' := aM H
   clear H
   have p385 : 0 ≤ (x13_1 : Int) := od_
   have q385 : x13_1 < (l0.length : Int) := od_
   obtain ⟨ad385, e385, hx385_0, hx385_1⟩ := at_T66 HR0.out x13_1 p385 q385
   cases e385
   replace p385 := eq_true p385
   replace q385 := eq_true q385
   have p386 : 0 ≤ (x13_1 : Int) := od_
   have q386 : x13_1 < (l1.length : Int) := od_
   obtain ⟨ad386, e386, hx386_0, hx386_1⟩ := at_T66 HR1.out x13_1 p386 q386
   cases e386
   replace p386 := eq_true p386
   replace q386 := eq_true q386
   go_wp2
   repeat (go_quiet (fail); try go_wp2)
   go_roundg k1
   case measure => have := HK1.out; omega
   case rel => exact ⟨(wrap64 (x13_1 + 1)), rf_, H', ⟨by have := HK1.out; omega⟩, dr_⟩
end Go.Proofs.Ytlkjfjlmjgkheaa.H
namespace Go.Proofs.Ytlkjfjlmjgkheaa.H
open Go.RowKit Go.Proofs.YtlkjfjlmjgkheaaW.PrintWords Go.Proofs.YtlkjfjlmjgkheaaW.PrintLast Go.Proofs.YtlkjfjlmjgkheaaW.PrintMore
attribute [local go_sem] max2_int min2_int max_two min_two max_three min_three max_four min_four
set_option linter.unusedVariables false
set_option linter.unusedSimpArgs false
mutual
def r5_Same.j0 : Nat → Bool → Int → List (S66) → List (S25) → Int → List (S66) → List (S25) → Option (Bool)
 | 0, _, _, _, _, _, _, _ => none
 | k + 1, x27, x388000, x388001, x388002, x389000, x389001, x389002 => if x27 = true then (some false) else (r5_Same.l0 k (x388002.length : Int) 0 x388000 x388001 x388002 x389000 x389001 x389002)
def r5_Same.l0 : Nat → Int → Int → Int → List (S66) → List (S25) → Int → List (S66) → List (S25) → Option (Bool)
 | 0, _, _, _, _, _, _, _, _ => none
 | k + 1, x30, x31, x388000, x388001, x388002, x389000, x389001, x389002 => if x31 < x30 then (if 0 ≤ x31 then (if x31 < (x388002.length : Int) then (if x31 < (x389002.length : Int) then ((r5_Same.f k ((rd_T25 x388002 x31).f0) ((rd_T25 x388002 x31).f1) ((rd_T25 x388002 x31).f2) ((rd_T25 x389002 x31).f0) ((rd_T25 x389002 x31).f1) ((rd_T25 x389002 x31).f2)).bind fun t392 => (if t392 = true then (r5_Same.l0 k x30 (wrap64 (x31 + 1)) x388000 x388001 x388002 x389000 x389001 x389002) else (some false))) else (none)) else (none)) else (none)) else (some true)
def r5_Same.f : Nat → Int → List (S66) → List (S25) → Int → List (S66) → List (S25) → Option (Bool)
 | 0, _, _, _, _, _, _ => none
 | k + 1, a0_0, l0_1, l0_2, a1_0, l1_1, l1_2 => if a0_0 = a1_0 then ((r1_Same.f k l0_1 l1_1).bind fun t389 => (if t389 = true then (r5_Same.j0 k ((l0_2.length : Int) != (l1_2.length : Int)) a0_0 l0_1 l0_2 a1_0 l1_1 l1_2) else (r5_Same.j0 k true a0_0 l0_1 l0_2 a1_0 l1_1 l1_2))) else (r5_Same.j0 k true a0_0 l0_1 l0_2 a1_0 l1_1 l1_2)
end
def r5_Same.T6 : Bool × List (List Nat × List Nat) := (true, [([], []), ([0], [0]), ([], []), ([1, 2], [1, 2]), ([3], [3]), ([], []), ([5], [5]), ([], []), ([6, 7], [6, 7]), ([8], [8]), ([4, 9], [4, 9]), ([10], [10])])
def r5_Same.B6 : List Nat := [0, 1, 0, 7, 15, 0, 32, 0, 224, 480, 1023, 2047]
theorem r5_Same.tab6 : rtab .any (opsOf Try.f21 6) = r5_Same.T6 := by kernel_rfl
theorem r5_Same.bits6 : waitsOk r5_Same.T6.2 r5_Same.B6 = true := by kernel_rfl
set_option maxHeartbeats 8000000 in
set_option maxRecDepth 100000 in
theorem r5_Same.calls (k : Nat) : ∀ (a0_0 : Int) (A0_1 : Option Addr) (c0_1 : Nat) (l0_1 : List (S66)) (A0_2 : Option Addr) (c0_2 : Nat) (l0_2 : List (S25)) (a1_0 : Int) (A1_1 : Option Addr) (c1_1 : Nat) (l1_1 : List (S66)) (A1_2 : Option Addr) (c1_2 : Nat) (l1_2 : List (S25)) (r : Bool) (w : World) (hr0_1 : Kd.C k66 w A0_1 l0_1.length l0_1) (hc0_1 : l0_1.length ≤ c0_1) (hr0_2 : Kd.C k25 w A0_2 l0_2.length l0_2) (hc0_2 : l0_2.length ≤ c0_2) (hr1_1 : Kd.C k66 w A1_1 l1_1.length l1_1) (hc1_1 : l1_1.length ≤ c1_1) (hr1_2 : Kd.C k25 w A1_2 l1_2.length l1_2) (hc1_2 : l1_2.length ≤ c1_2) (h : r5_Same.f k a0_0 l0_1 l0_2 a1_0 l1_1 l1_2 = some r),
 Calls Try.prog 21 #[.agg #[.int .i64 a0_0, .slice A0_1 l0_1.length c0_1, .slice A0_2 l0_2.length c0_2], .agg #[.int .i64 a1_0, .slice A1_1 l1_1.length c1_1, .slice A1_2 l1_2.length c1_2]] w fun e w' => e = .returned (.bool r) ∧ Below w.heap.size w w' := by
 induction k using Nat.strongRecOn with
 | _ k ih =>
 intro a0_0 A0_1 c0_1 l0_1 A0_2 c0_2 l0_2 a1_0 A1_1 c1_1 l1_1 A1_2 c1_2 l1_2 r w hr0_1 hc0_1 hr0_2 hc0_2 hr1_1 hc1_1 hr1_2 hc1_2 h
 cases k with
 | zero => exact absurd h (by simp [r5_Same.f])
 | succ k =>
 simp only [r5_Same.f] at h
 have hu25 := Try.underlying25
 have HR0_1 := aM hr0_1
 have HC0_1 := aM hc0_1
 clear hr0_1 hc0_1
 have HR0_2 := aM hr0_2
 have HC0_2 := aM hc0_2
 clear hr0_2 hc0_2
 have HR1_1 := aM hr1_1
 have HC1_1 := aM hc1_1
 clear hr1_1 hc1_1
 have HR1_2 := aM hr1_2
 have HC1_2 := aM hc1_2
 clear hr1_2 hc1_2
 have HB := aM (Below.refl w.heap.size w)
 have H : (if a0_0 = a1_0 then ((r1_Same.f k l0_1 l1_1).bind fun t389 => (if t389 = true then (r5_Same.j0 k ((l0_2.length : Int) != (l1_2.length : Int)) a0_0 l0_1 l0_2 a1_0 l1_1 l1_2) else (r5_Same.j0 k true a0_0 l0_1 l0_2 a1_0 l1_1 l1_2))) else (r5_Same.j0 k true a0_0 l0_1 l0_2 a1_0 l1_1 l1_2)) = some r := h
 clear h
 have HC3 := aM H
 clear H
 go_enter Try.func21, Try.ntmps21
 go_upto_region 1 with (first | ((with_reducible refine gd_ 2 rfl ?_); (try (refine gate_guard (by rfl) ?_; dsimp only)); refine be_ #[.int .i64 a0_0, .slice A0_1 l0_1.length c0_1, .slice A0_2 l0_2.length c0_2] 25 ?_; intro gb387 hg w4 BK387 hb; have GW387 := ge_ HB hg; have GE387 := ge_ HB hg; replace HB := bs_ HB hb; clear hb hg) | ((with_reducible refine gd_ 3 rfl ?_); (try (refine gate_guard (by rfl) ?_; dsimp only)); refine be_ #[.int .i64 a1_0, .slice A1_1 l1_1.length c1_1, .slice A1_2 l1_2.length c1_2] 25 ?_; intro gb388 hg w5 BK388 hb; have GW388 := ge_ HB hg; have GE388 := ge_ HB hg; have NB387_388 := nl_ BK387 hg; have NB388_387 := ng_ BK387 hg; replace BK387 := bb_ BK387 hb; replace HB := bs_ HB hb; clear hb hg))
 (try simp only [Act.put, sT, sZ, sS])
 go_cut [27] (fun v27 wc => ∃ (kq : Nat) (x27_2 : Bool), v27 = .bool x27_2 ∧ Aside0 (r5_Same.j0 kq x27_2 a0_0 l0_1 l0_2 a1_0 l1_1 l1_2 = some r) ∧ Aside0 (kq ≤ k) ∧ Aside0 (wc.heap[gb387]? = some (.cells #[.int .i64 a0_0, (.slice A0_1 l0_1.length c0_1), (.slice A0_2 l0_2.length c0_2)] 25 (0, 0))) ∧ Aside0 (wc.heap[gb388]? = some (.cells #[.int .i64 a1_0, (.slice A1_1 l1_1.length c1_1), (.slice A1_2 l1_2.length c1_2)] 25 (0, 0))) ∧ Aside0 (Below w.heap.size w wc))
 case first =>
  have H := HC3.out
  clear HC3
  by_cases c6 : a0_0 = a1_0
  rotate_left
  · rw [if_neg c6] at H
    have c6b0 : (a0_0 == a1_0) = false := beq_eq_false_iff_ne.mpr c6
    have c6b1 : (a0_0 != a1_0) = true := bne_iff_ne.mpr c6
    (first | rw [c6b0] | (simp only [i64_w, i32_w]; rw [c6b0]) | rw [c6b1] | skip)
    have H' := aM H
    clear H
    have hnb15 := NB387_388.out
    have hnc15 := NB388_387.out
    obtain ⟨hcz16_0, hcz16_1, hcz16_2, hfz16_0, hfz16_1, hfz16_2⟩ := bc3_ BK387
    obtain ⟨hcz17_0, hcz17_1, hcz17_2, hfz17_0, hfz17_1, hfz17_2⟩ := bc3_ BK388
    go_wp2
    go_meet
    case rel => exact ⟨_, (true), rf_, H', ⟨by first | omega | exact Nat.le_refl _⟩, ⟨ub_ BK387.out⟩, ⟨ub_ BK388.out⟩, ⟨bw_ HB.out⟩⟩
  rw [if_pos c6] at H
  have c6b0 : (a0_0 == a1_0) = true := beq_iff_eq.mpr c6
  have c6b1 : (a0_0 != a1_0) = false := bne_eq_false_iff_eq.mpr c6
  clear c6
  (first | rw [c6b0] | (simp only [i64_w, i32_w]; rw [c6b0]) | rw [c6b1] | skip)
  obtain ⟨t389, A7, H⟩ := bnd_ H
  by_cases c8 : t389 = true
  · subst c8
    rw [if_pos rfl] at H
    have H' := aM H
    clear H
    have hnb9 := NB387_388.out
    have hnc9 := NB388_387.out
    obtain ⟨hcz10_0, hcz10_1, hcz10_2, hfz10_0, hfz10_1, hfz10_2⟩ := bc3_ BK387
    obtain ⟨hcz11_0, hcz11_1, hcz11_2, hfz11_0, hfz11_1, hfz11_2⟩ := bc3_ BK388
    go_wp2_with (first | (go_at_call 49; (with_reducible refine (r1_Same.calls k _ _ l0_1 _ _ l1_1 true _ ?side1 ?side2 ?side3 ?side4 A7.out).mono ?_); (case side1 => exact cB_ HR0_1 HB); (case side2 => exact HC0_1.out); (case side3 => exact cB_ HR1_1 HB); (case side4 => exact HC1_1.out); rintro e w' ⟨rfl, ⟨nd, rfl⟩⟩))
    go_meet
    case rel => exact ⟨_, (((l0_2.length : Int) != (l1_2.length : Int))), rf_, H', ⟨by first | omega | exact Nat.le_refl _⟩, ⟨ub_ BK387.out⟩, ⟨ub_ BK388.out⟩, ⟨bw_ HB.out⟩⟩
  replace c8 := Bool.eq_false_iff.mpr c8
  subst c8
  rw [if_neg (show ¬ (false = true) by decide)] at H
  have H' := aM H
  clear H
  have hnb12 := NB387_388.out
  have hnc12 := NB388_387.out
  obtain ⟨hcz13_0, hcz13_1, hcz13_2, hfz13_0, hfz13_1, hfz13_2⟩ := bc3_ BK387
  obtain ⟨hcz14_0, hcz14_1, hcz14_2, hfz14_0, hfz14_1, hfz14_2⟩ := bc3_ BK388
  go_wp2_with (first | (go_at_call 49; (with_reducible refine (r1_Same.calls k _ _ l0_1 _ _ l1_1 false _ ?side1 ?side2 ?side3 ?side4 A7.out).mono ?_); (case side1 => exact cB_ HR0_1 HB); (case side2 => exact HC0_1.out); (case side3 => exact cB_ HR1_1 HB); (case side4 => exact HC1_1.out); rintro e w' ⟨rfl, ⟨nd, rfl⟩⟩))
  go_meet
  case rel => exact ⟨_, (true), rf_, H', ⟨by first | omega | exact Nat.le_refl _⟩, ⟨ub_ BK387.out⟩, ⟨ub_ BK388.out⟩, ⟨bw_ HB.out⟩⟩
 case rest =>
  clear HC3
  obtain ⟨kq, x27_2, rfl, HA, HJ2, BK387, BK388, HB⟩ := hcut
  cases kq with
  | zero => exact absurd HA.out (by simp [r5_Same.j0])
  | succ kj2 =>
   have H := HA.out
   clear HA
   simp only [r5_Same.j0] at H
   by_cases c18 : x27_2 = true
   · subst c18
     rw [if_pos rfl] at H
     obtain rfl := Option.some.inj H
     go_wp2
     first | go_ret | refine ⟨_, results_tmp rfl _ _ _, ?_⟩
     exact fin_ HB
   replace c18 := Bool.eq_false_iff.mpr c18
   subst c18
   rw [if_neg (show ¬ (false = true) by decide)] at H
   have H' := aM H
   clear H
   have hnb19 := NB387_388.out
   have hnc19 := NB388_387.out
   obtain ⟨hcz20_0, hcz20_1, hcz20_2, hfz20_0, hfz20_1, hfz20_2⟩ := bc3_ BK387
   go_wp2
   go_loopg [31] kj2 (fun kq v31 w' => ∃ (x31_2 : Int), v31 = .int .i64 x31_2 ∧ Aside0 (r5_Same.l0 kq (l0_2.length : Int) x31_2 a0_0 l0_1 l0_2 a1_0 l1_1 l1_2 = some r) ∧ Aside0 (kq ≤ kj2) ∧ Aside0 (w'.heap[gb387]? = some (.cells #[.int .i64 a0_0, (.slice A0_1 l0_1.length c0_1), (.slice A0_2 l0_2.length c0_2)] 25 (0, 0))) ∧ Aside0 (w'.heap[gb388]? = some (.cells #[.int .i64 a1_0, (.slice A1_1 l1_1.length c1_1), (.slice A1_2 l1_2.length c1_2)] 25 (0, 0))) ∧ Aside0 (Below w.heap.size w w'))
   case atStart => exact ⟨(0), rf_, H', ⟨Nat.le_refl _⟩, ⟨ub_ BK387.out⟩, ⟨ub_ BK388.out⟩, ⟨bw_ HB.out⟩⟩
   case round =>
    clear H'
    obtain ⟨x31_2, rfl, HA, HK2, BK387, BK388, HB⟩ := hrel
    cases gk with
    | zero => exact absurd HA.out (by simp [r5_Same.l0])
    | succ k2 =>
     have H := HA.out
     clear HA
     simp only [r5_Same.l0] at H
     by_cases c21 : x31_2 < (l0_2.length : Int)
     rotate_left
     · rw [if_neg c21] at H
       replace c21 := decide_eq_false c21
       obtain rfl := Option.some.inj H
       go_wp2
       first | go_ret | refine ⟨_, results_tmp rfl _ _ _, ?_⟩
       exact fin_ HB
     rw [if_pos c21] at H
     replace c21 := decide_eq_true c21
     obtain ⟨c22, H⟩ := ifd_ H
     obtain ⟨c23, H⟩ := ifd_ H
     obtain ⟨c24, H⟩ := ifd_ H
     obtain ⟨t392, A25, H⟩ := bnd_ H
     by_cases c26 : t392 = true
     rotate_left
     · replace c26 := Bool.eq_false_iff.mpr c26
       subst c26
       rw [if_neg (show ¬ (false = true) by decide)] at H
       obtain rfl := Option.some.inj H
       try go_wp2
       replace BK387 := aM (blk_drew BK387.out)
       replace BK388 := aM (blk_drew BK388.out)
       replace HB := aM (below_drew1 HB.out)
       have p390 : 0 ≤ (x31_2 : Int) := od_
       have q390 : x31_2 < (l0_2.length : Int) := od_
       obtain ⟨ad390, A390_1, c390_1, A390_2, c390_2, e390, hx390_0, hx390_1, hx390_2, hl390_1, hi390_1, hl390_2, hi390_2⟩ := at_T25 HR0_2.out x31_2 p390 q390
       have hw390_2 := hx390_2
       have hw390_1 := hx390_1
       have hw390_0 := hx390_0
       cases e390
       replace hx390_0 := hx_ HB hx390_0
       replace hx390_1 := hx_ HB hx390_1
       replace hx390_2 := hx_ HB hx390_2
       have HR390_1 := aM hi390_1
       have HC390_1 := aM hl390_1
       clear hi390_1 hl390_1
       have HR390_2 := aM hi390_2
       have HC390_2 := aM hl390_2
       clear hi390_2 hl390_2
       replace p390 := eq_true p390
       replace q390 := eq_true q390
       have p391 : 0 ≤ (x31_2 : Int) := od_
       have q391 : x31_2 < (l1_2.length : Int) := od_
       obtain ⟨ad391, A391_1, c391_1, A391_2, c391_2, e391, hx391_0, hx391_1, hx391_2, hl391_1, hi391_1, hl391_2, hi391_2⟩ := at_T25 HR1_2.out x31_2 p391 q391
       have hw391_2 := hx391_2
       have hw391_1 := hx391_1
       have hw391_0 := hx391_0
       cases e391
       replace hx391_0 := hx_ HB hx391_0
       replace hx391_1 := hx_ HB hx391_1
       replace hx391_2 := hx_ HB hx391_2
       have HR391_1 := aM hi391_1
       have HC391_1 := aM hl391_1
       clear hi391_1 hl391_1
       have HR391_2 := aM hi391_2
       have HC391_2 := aM hl391_2
       clear hi391_2 hl391_2
       replace p391 := eq_true p391
       replace q391 := eq_true q391
       refine start_ (n := 12) (S := fun w' => w'.cell? ⟨gb387, 0, none⟩ = some (.int .i64 a0_0) ∧ w'.cell? ⟨gb387, 1, none⟩ = some (.slice A0_1 l0_1.length c0_1) ∧ w'.cell? ⟨gb387, 2, none⟩ = some (.slice (some ad390) l0_2.length c0_2) ∧ w'.cell? ⟨gb388, 0, none⟩ = some (.int .i64 a1_0) ∧ w'.cell? ⟨gb388, 1, none⟩ = some (.slice A1_1 l1_1.length c1_1) ∧ w'.cell? ⟨gb388, 2, none⟩ = some (.slice (some ad391) l1_2.length c1_2) ∧ w'.cell? (ad390.add ((x31_2).toNat * 3)) = some (.int .i64 ((rd_T25 l0_2 x31_2).f0)) ∧ w'.cell? ⟨(ad390.add ((x31_2).toNat * 3)).block, (ad390.add ((x31_2).toNat * 3)).off + 1, none⟩ = some (.slice A390_1 ((rd_T25 l0_2 x31_2).f1).length c390_1) ∧ w'.cell? ⟨(ad390.add ((x31_2).toNat * 3)).block, (ad390.add ((x31_2).toNat * 3)).off + 2, none⟩ = some (.slice A390_2 ((rd_T25 l0_2 x31_2).f2).length c390_2) ∧ w'.cell? (ad391.add ((x31_2).toNat * 3)) = some (.int .i64 ((rd_T25 l1_2 x31_2).f0)) ∧ w'.cell? ⟨(ad391.add ((x31_2).toNat * 3)).block, (ad391.add ((x31_2).toNat * 3)).off + 1, none⟩ = some (.slice A391_1 ((rd_T25 l1_2 x31_2).f1).length c391_1) ∧ w'.cell? ⟨(ad391.add ((x31_2).toNat * 3)).block, (ad391.add ((x31_2).toNat * 3)).off + 2, none⟩ = some (.slice A391_2 ((rd_T25 l1_2 x31_2).f2).length c391_2)) (ds := []) (tf 0 12) (by kernel_rfl) rfl rfl ⟨(blk_cell BK387.out 0).trans rfl, (blk_cell BK387.out 1).trans rfl, (blk_cell BK387.out 2).trans rfl, (blk_cell BK388.out 0).trans rfl, (blk_cell BK388.out 1).trans rfl, (blk_cell BK388.out 2).trans rfl, ((HB.out.cell (World.block_lt_of_cell? w _ hw390_0)).trans hw390_0), ((HB.out.cell (World.block_lt_of_cell? w _ hw390_1)).trans hw390_1), ((HB.out.cell (World.block_lt_of_cell? w _ hw390_2)).trans hw390_2), ((HB.out.cell (World.block_lt_of_cell? w _ hw391_0)).trans hw391_0), ((HB.out.cell (World.block_lt_of_cell? w _ hw391_1)).trans hw391_1), ((HB.out.cell (World.block_lt_of_cell? w _ hw391_2)).trans hw391_2)⟩ (fun hHeld => ?_); refine with_tabW r5_Same.tab6 r5_Same.bits6 (fun HT_ HW_ => ?_)
       generalize wr.drew = w29 at BK387 BK388 HB HR390_1 HR390_2 HR391_1 HR391_2 hx390_0 hx390_1 hx390_2 hx391_0 hx391_1 hx391_2 hHeld ⊢
       refine pA_ 0 (some 34) ?_
       refine pA_ 2 (some 36) ?_
       refine pA_ 5 (some 39) ?_
       refine pA_ 7 (some 41) ?_
       refine pT_ 1 (some 35) hHeld ?_
       refine pA_ 3 (some 37) ?_
       refine pT_ 4 (some 38) hHeld ?_
       refine pT_ 6 (some 40) hHeld ?_
       refine pA_ 8 (some 42) ?_
       refine pT_ 9 (some 43) hHeld ?_
       refine pO_ 10 (some 44) (fun K hK => ?_)
       refine gO_ Try.func21 #[.agg #[.int .i64 ((rd_T25 l0_2 x31_2).f0), .slice A390_1 ((rd_T25 l0_2 x31_2).f1).length c390_1, .slice A390_2 ((rd_T25 l0_2 x31_2).f2).length c390_2], .agg #[.int .i64 ((rd_T25 l1_2 x31_2).f0), .slice A391_1 ((rd_T25 l1_2 x31_2).f1).length c391_1, .slice A391_2 ((rd_T25 l1_2 x31_2).f2).length c391_2]] rfl rfl ?_
       with_reducible refine (ih k2 (by have := HJ2.out; have := HK2.out; omega) ((rd_T25 l0_2 x31_2).f0) _ _ ((rd_T25 l0_2 x31_2).f1) _ _ ((rd_T25 l0_2 x31_2).f2) ((rd_T25 l1_2 x31_2).f0) _ _ ((rd_T25 l1_2 x31_2).f1) _ _ ((rd_T25 l1_2 x31_2).f2) false _ ?side1 ?side2 ?side3 ?side4 ?side5 ?side6 ?side7 ?side8 A25.out).mono ?_
       (case side1 => exact cB_ HR390_1 HB)
       (case side2 => exact HC390_1.out)
       (case side3 => exact cB_ HR390_2 HB)
       (case side4 => exact HC390_2.out)
       (case side5 => exact cB_ HR391_1 HB)
       (case side6 => exact HC391_1.out)
       (case side7 => exact cB_ HR391_2 HB)
       (case side8 => exact HC391_2.out)
       rintro e w30 ⟨rfl, hb⟩
       refine ⟨_, rfl, ?_⟩
       replace BK387 := bb_ BK387 hb
       replace BK388 := bb_ BK388 hb
       replace HB := bs_ HB hb
       (try clear hb)
       (try clear hb2)
       (try clear hk)
       (try clear hi)
       refine hK.out _ _ ⟨(blk_cell BK387.out 0).trans rfl, (blk_cell BK387.out 1).trans rfl, (blk_cell BK387.out 2).trans rfl, (blk_cell BK388.out 0).trans rfl, (blk_cell BK388.out 1).trans rfl, (blk_cell BK388.out 2).trans rfl, ((HB.out.cell (World.block_lt_of_cell? w _ hw390_0)).trans hw390_0), ((HB.out.cell (World.block_lt_of_cell? w _ hw390_1)).trans hw390_1), ((HB.out.cell (World.block_lt_of_cell? w _ hw390_2)).trans hw390_2), ((HB.out.cell (World.block_lt_of_cell? w _ hw391_0)).trans hw391_0), ((HB.out.cell (World.block_lt_of_cell? w _ hw391_1)).trans hw391_1), ((HB.out.cell (World.block_lt_of_cell? w _ hw391_2)).trans hw391_2)⟩ (fun hHeld => ?_)
       clear hK K
       refine nO_ (some 44) ?_
       refine pA_ 11 (some 45) ?_
       refine done_ (done_of HT_.out (by kernel_rfl)) ?_
       try go_wp2
       first | go_ret | refine ⟨_, results_tmp rfl _ _ _, ?_⟩
       exact fin_ HB
     subst c26
     rw [if_pos rfl] at H
     have H' := aM H
     clear H
     try go_wp2
     replace BK387 := aM (blk_drew BK387.out)
     replace BK388 := aM (blk_drew BK388.out)
     replace HB := aM (below_drew1 HB.out)
     have p390 : 0 ≤ (x31_2 : Int) := od_
     have q390 : x31_2 < (l0_2.length : Int) := od_
     obtain ⟨ad390, A390_1, c390_1, A390_2, c390_2, e390, hx390_0, hx390_1, hx390_2, hl390_1, hi390_1, hl390_2, hi390_2⟩ := at_T25 HR0_2.out x31_2 p390 q390
     have hw390_2 := hx390_2
     have hw390_1 := hx390_1
     have hw390_0 := hx390_0
     cases e390
     replace hx390_0 := hx_ HB hx390_0
     replace hx390_1 := hx_ HB hx390_1
     replace hx390_2 := hx_ HB hx390_2
     have HR390_1 := aM hi390_1
     have HC390_1 := aM hl390_1
     clear hi390_1 hl390_1
     have HR390_2 := aM hi390_2
     have HC390_2 := aM hl390_2
     clear hi390_2 hl390_2
     replace p390 := eq_true p390
     replace q390 := eq_true q390
     have p391 : 0 ≤ (x31_2 : Int) := od_
     have q391 : x31_2 < (l1_2.length : Int) := od_
     obtain ⟨ad391, A391_1, c391_1, A391_2, c391_2, e391, hx391_0, hx391_1, hx391_2, hl391_1, hi391_1, hl391_2, hi391_2⟩ := at_T25 HR1_2.out x31_2 p391 q391
     have hw391_2 := hx391_2
     have hw391_1 := hx391_1
     have hw391_0 := hx391_0
     cases e391
     replace hx391_0 := hx_ HB hx391_0
     replace hx391_1 := hx_ HB hx391_1
     replace hx391_2 := hx_ HB hx391_2
     have HR391_1 := aM hi391_1
     have HC391_1 := aM hl391_1
     clear hi391_1 hl391_1
     have HR391_2 := aM hi391_2
     have HC391_2 := aM hl391_2
     clear hi391_2 hl391_2
     replace p391 := eq_true p391
     replace q391 := eq_true q391
     refine start_ (n := 12) (S := fun w' => w'.cell? ⟨gb387, 0, none⟩ = some (.int .i64 a0_0) ∧ w'.cell? ⟨gb387, 1, none⟩ = some (.slice A0_1 l0_1.length c0_1) ∧ w'.cell? ⟨gb387, 2, none⟩ = some (.slice (some ad390) l0_2.length c0_2) ∧ w'.cell? ⟨gb388, 0, none⟩ = some (.int .i64 a1_0) ∧ w'.cell? ⟨gb388, 1, none⟩ = some (.slice A1_1 l1_1.length c1_1) ∧ w'.cell? ⟨gb388, 2, none⟩ = some (.slice (some ad391) l1_2.length c1_2) ∧ w'.cell? (ad390.add ((x31_2).toNat * 3)) = some (.int .i64 ((rd_T25 l0_2 x31_2).f0)) ∧ w'.cell? ⟨(ad390.add ((x31_2).toNat * 3)).block, (ad390.add ((x31_2).toNat * 3)).off + 1, none⟩ = some (.slice A390_1 ((rd_T25 l0_2 x31_2).f1).length c390_1) ∧ w'.cell? ⟨(ad390.add ((x31_2).toNat * 3)).block, (ad390.add ((x31_2).toNat * 3)).off + 2, none⟩ = some (.slice A390_2 ((rd_T25 l0_2 x31_2).f2).length c390_2) ∧ w'.cell? (ad391.add ((x31_2).toNat * 3)) = some (.int .i64 ((rd_T25 l1_2 x31_2).f0)) ∧ w'.cell? ⟨(ad391.add ((x31_2).toNat * 3)).block, (ad391.add ((x31_2).toNat * 3)).off + 1, none⟩ = some (.slice A391_1 ((rd_T25 l1_2 x31_2).f1).length c391_1) ∧ w'.cell? ⟨(ad391.add ((x31_2).toNat * 3)).block, (ad391.add ((x31_2).toNat * 3)).off + 2, none⟩ = some (.slice A391_2 ((rd_T25 l1_2 x31_2).f2).length c391_2)) (ds := []) (tf 0 12) (by kernel_rfl) rfl rfl ⟨(blk_cell BK387.out 0).trans rfl, (blk_cell BK387.out 1).trans rfl, (blk_cell BK387.out 2).trans rfl, (blk_cell BK388.out 0).trans rfl, (blk_cell BK388.out 1).trans rfl, (blk_cell BK388.out 2).trans rfl, ((HB.out.cell (World.block_lt_of_cell? w _ hw390_0)).trans hw390_0), ((HB.out.cell (World.block_lt_of_cell? w _ hw390_1)).trans hw390_1), ((HB.out.cell (World.block_lt_of_cell? w _ hw390_2)).trans hw390_2), ((HB.out.cell (World.block_lt_of_cell? w _ hw391_0)).trans hw391_0), ((HB.out.cell (World.block_lt_of_cell? w _ hw391_1)).trans hw391_1), ((HB.out.cell (World.block_lt_of_cell? w _ hw391_2)).trans hw391_2)⟩ (fun hHeld => ?_); refine with_tabW r5_Same.tab6 r5_Same.bits6 (fun HT_ HW_ => ?_)
     generalize wr.drew = w27 at BK387 BK388 HB HR390_1 HR390_2 HR391_1 HR391_2 hx390_0 hx390_1 hx390_2 hx391_0 hx391_1 hx391_2 hHeld ⊢
     refine pA_ 0 (some 34) ?_
     refine pA_ 2 (some 36) ?_
     refine pA_ 5 (some 39) ?_
     refine pA_ 7 (some 41) ?_
     refine pT_ 1 (some 35) hHeld ?_
     refine pA_ 3 (some 37) ?_
     refine pT_ 4 (some 38) hHeld ?_
     refine pT_ 6 (some 40) hHeld ?_
     refine pA_ 8 (some 42) ?_
     refine pT_ 9 (some 43) hHeld ?_
     refine pO_ 10 (some 44) (fun K hK => ?_)
     refine gO_ Try.func21 #[.agg #[.int .i64 ((rd_T25 l0_2 x31_2).f0), .slice A390_1 ((rd_T25 l0_2 x31_2).f1).length c390_1, .slice A390_2 ((rd_T25 l0_2 x31_2).f2).length c390_2], .agg #[.int .i64 ((rd_T25 l1_2 x31_2).f0), .slice A391_1 ((rd_T25 l1_2 x31_2).f1).length c391_1, .slice A391_2 ((rd_T25 l1_2 x31_2).f2).length c391_2]] rfl rfl ?_
     with_reducible refine (ih k2 (by have := HJ2.out; have := HK2.out; omega) ((rd_T25 l0_2 x31_2).f0) _ _ ((rd_T25 l0_2 x31_2).f1) _ _ ((rd_T25 l0_2 x31_2).f2) ((rd_T25 l1_2 x31_2).f0) _ _ ((rd_T25 l1_2 x31_2).f1) _ _ ((rd_T25 l1_2 x31_2).f2) true _ ?side1 ?side2 ?side3 ?side4 ?side5 ?side6 ?side7 ?side8 A25.out).mono ?_
     (case side1 => exact cB_ HR390_1 HB)
     (case side2 => exact HC390_1.out)
     (case side3 => exact cB_ HR390_2 HB)
     (case side4 => exact HC390_2.out)
     (case side5 => exact cB_ HR391_1 HB)
     (case side6 => exact HC391_1.out)
     (case side7 => exact cB_ HR391_2 HB)
     (case side8 => exact HC391_2.out)
     rintro e w28 ⟨rfl, hb⟩
     refine ⟨_, rfl, ?_⟩
     replace BK387 := bb_ BK387 hb
     replace BK388 := bb_ BK388 hb
     replace HB := bs_ HB hb
     (try clear hb)
     (try clear hb2)
     (try clear hk)
     (try clear hi)
     refine hK.out _ _ ⟨(blk_cell BK387.out 0).trans rfl, (blk_cell BK387.out 1).trans rfl, (blk_cell BK387.out 2).trans rfl, (blk_cell BK388.out 0).trans rfl, (blk_cell BK388.out 1).trans rfl, (blk_cell BK388.out 2).trans rfl, ((HB.out.cell (World.block_lt_of_cell? w _ hw390_0)).trans hw390_0), ((HB.out.cell (World.block_lt_of_cell? w _ hw390_1)).trans hw390_1), ((HB.out.cell (World.block_lt_of_cell? w _ hw390_2)).trans hw390_2), ((HB.out.cell (World.block_lt_of_cell? w _ hw391_0)).trans hw391_0), ((HB.out.cell (World.block_lt_of_cell? w _ hw391_1)).trans hw391_1), ((HB.out.cell (World.block_lt_of_cell? w _ hw391_2)).trans hw391_2)⟩ (fun hHeld => ?_)
     clear hK K
     refine nO_ (some 44) ?_
     refine pA_ 11 (some 45) ?_
     refine done_ (done_of HT_.out (by kernel_rfl)) ?_
     try go_wp2
     go_roundg k2
     case measure => have := HJ2.out; have := HK2.out; omega
     case rel => exact ⟨(wrap64 (x31_2 + 1)), rf_, H', ⟨by have := HJ2.out; have := HK2.out; omega⟩, ⟨ub_ BK387.out⟩, ⟨ub_ BK388.out⟩, ⟨bw_ HB.out⟩⟩
end Go.Proofs.Ytlkjfjlmjgkheaa.H
