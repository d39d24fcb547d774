import Derived.Test.YtlkjfjlmjgkheaaHx0
namespace Go.Proofs.Ytlkjfjlmjgkheaa.H
open Go.RowKit Go.Proofs.YtlkjfjlmjgkheaaW.PrintWords Go.Proofs.YtlkjfjlmjgkheaaW.PrintLast Go.Proofs.YtlkjfjlmjgkheaaW.PrintMore
attribute [local go_sem] max2_int min2_int max_two min_two max_three min_three max_four min_four
set_option linter.unusedVariables false
set_option linter.unusedSimpArgs false
mutual
def r5_kinds.j0 : Nat → Bool → Int → List (S66) → List (S25) → Option (Bool)
 | 0, _, _, _, _ => none
 | k + 1, x5, x281000, x281001, x281002 => if x5 = true then (some false) else (if x281000 = 1 then (r5_kinds.j1 k false x281000 x281001 x281002) else (r5_kinds.j1 k (decide ((x281001.length : Int) > 0)) x281000 x281001 x281002))
def r5_kinds.j1 : Nat → Bool → Int → List (S66) → List (S25) → Option (Bool)
 | 0, _, _, _, _ => none
 | k + 1, x5, x281000, x281001, x281002 => if x5 = true then (some false) else (if x281000 = 4 then (r5_kinds.j2 k ((x281002.length : Int) != 1) x281000 x281001 x281002) else (r5_kinds.j2 k false x281000 x281001 x281002))
def r5_kinds.j2 : Nat → Bool → Int → List (S66) → List (S25) → Option (Bool)
 | 0, _, _, _, _ => none
 | k + 1, x5, x281000, x281001, x281002 => if x5 = true then (some false) else (if x281000 < 1 then (some false) else (if x281000 > 4 then (some false) else (r5_kinds.l0 k x281002 (x281002.length : Int) 0)))
def r5_kinds.l0 : Nat → List (S25) → Int → Int → Option (Bool)
 | 0, _, _, _ => none
 | k + 1, x46, x47, x48 => if x48 < x47 then (if 0 ≤ x48 then (if x48 < (x46.length : Int) then ((r5_kinds.f k ((rd_T25 x46 x48).f0) ((rd_T25 x46 x48).f1) ((rd_T25 x46 x48).f2)).bind fun t283 => (if t283 = true then (r5_kinds.l0 k x46 x47 (wrap64 (x48 + 1))) else (some false))) else (none)) else (none)) else (some true)
def r5_kinds.f : Nat → Int → List (S66) → List (S25) → Option (Bool)
 | 0, _, _, _ => none
 | k + 1, a0_0, l0_1, l0_2 => if a0_0 = 1 then (if (l0_2.length : Int) > 0 then (r5_kinds.j0 k true a0_0 l0_1 l0_2) else (r5_kinds.j0 k (decide ((l0_1.length : Int) > 256)) a0_0 l0_1 l0_2)) else (r5_kinds.j0 k false a0_0 l0_1 l0_2)
end
set_option maxHeartbeats 8000000 in
set_option maxRecDepth 100000 in
theorem r5_kinds.calls (k : Nat) : ∀ (a0_0 : Int) (A0_1 : Option Addr) (c0_1 : Nat) (l0_1 : List (S66)) (A0_2 : Option Addr) (c0_2 : Nat) (l0_2 : List (S25)) (r : Bool) (w : World) (hr0_1 : Kd.C k66 w A0_1 l0_1.length l0_1) (hc0_1 : l0_1.length ≤ c0_1) (hr0_2 : Kd.C k25 w A0_2 l0_2.length l0_2) (hc0_2 : l0_2.length ≤ c0_2) (h : r5_kinds.f k a0_0 l0_1 l0_2 = some r),
 Calls Try.prog 44 #[.agg #[.int .i64 a0_0, .slice A0_1 l0_1.length c0_1, .slice A0_2 l0_2.length c0_2]] w fun e w' => e = .returned (.bool r) ∧ Below w.heap.size w w' := by
 induction k using Nat.strongRecOn with
 | _ k ih =>
 intro a0_0 A0_1 c0_1 l0_1 A0_2 c0_2 l0_2 r w hr0_1 hc0_1 hr0_2 hc0_2 h
 cases k with
 | zero => exact absurd h (by simp [r5_kinds.f])
 | succ k =>
 simp only [r5_kinds.f] at h
 have hu25 := Try.underlying25
 have HR0_1 := aM hr0_1
 have HC0_1 := aM hc0_1
 clear hr0_1 hc0_1
 have HR0_2 := aM hr0_2
 have HC0_2 := aM hc0_2
 clear hr0_2 hc0_2
 have HB := aM (Below.refl w.heap.size w)
 have H : (if a0_0 = 1 then (if (l0_2.length : Int) > 0 then (r5_kinds.j0 k true a0_0 l0_1 l0_2) else (r5_kinds.j0 k (decide ((l0_1.length : Int) > 256)) a0_0 l0_1 l0_2)) else (r5_kinds.j0 k false a0_0 l0_1 l0_2)) = some r := h
 clear h
 have HC2 := aM H
 clear H
 go_enter Try.func44, Try.ntmps44
 go_upto_region 1 with (first | ((with_reducible refine gd_ 1 rfl ?_); (try (refine gate_guard (by rfl) ?_; dsimp only)); refine be_ #[.int .i64 a0_0, .slice A0_1 l0_1.length c0_1, .slice A0_2 l0_2.length c0_2] 25 ?_; intro gb280 hg w3 BK280 hb; have GW280 := ge_ HB hg; have GE280 := ge_ HB hg; replace HB := bs_ HB hb; clear hb hg))
 (try simp only [Act.put, sT, sZ, sS])
 go_cut [5] (fun v5 wc => ∃ (kq : Nat) (x5_1 : Bool), v5 = .bool x5_1 ∧ Aside0 (r5_kinds.j0 kq x5_1 a0_0 l0_1 l0_2 = some r) ∧ Aside0 (kq ≤ k) ∧ Aside0 (wc.heap[gb280]? = some (.cells #[.int .i64 a0_0, (.slice A0_1 l0_1.length c0_1), (.slice A0_2 l0_2.length c0_2)] 25 (0, 0))) ∧ Aside0 (Below w.heap.size w wc))
 case first =>
  have H := HC2.out
  clear HC2
  by_cases c4 : a0_0 = 1
  rotate_left
  · rw [if_neg c4] at H
    have c4b0 : (a0_0 == 1) = false := beq_eq_false_iff_ne.mpr c4
    have c4b1 : (a0_0 != 1) = true := bne_iff_ne.mpr c4
    (first | rw [c4b0] | (simp only [i64_w, i32_w]; rw [c4b0]) | rw [c4b1] | skip)
    have H' := aM H
    clear H
    obtain ⟨hcz8_0, hcz8_1, hcz8_2, hfz8_0, hfz8_1, hfz8_2⟩ := bc3_ BK280
    go_wp2
    go_meet
    case rel => exact ⟨_, (false), rf_, H', ⟨by first | omega | exact Nat.le_refl _⟩, ⟨ub_ BK280.out⟩, ⟨bw_ HB.out⟩⟩
  rw [if_pos c4] at H
  have c4b0 : (a0_0 == 1) = true := beq_iff_eq.mpr c4
  have c4b1 : (a0_0 != 1) = false := bne_eq_false_iff_eq.mpr c4
  clear c4
  (first | rw [c4b0] | (simp only [i64_w, i32_w]; rw [c4b0]) | rw [c4b1] | skip)
  by_cases c5 : (l0_2.length : Int) > 0
  · rw [if_pos c5] at H
    have c5b0 : decide (0 < (l0_2.length : Int)) = true := decide_eq_true c5
    have c5b1 : decide (0 < l0_2.length) = true := decide_eq_true (by omega)
    clear c5
    have H' := aM H
    clear H
    obtain ⟨hcz6_0, hcz6_1, hcz6_2, hfz6_0, hfz6_1, hfz6_2⟩ := bc3_ BK280
    go_wp2
    go_meet
    case rel => exact ⟨_, (true), rf_, H', ⟨by first | omega | exact Nat.le_refl _⟩, ⟨ub_ BK280.out⟩, ⟨bw_ HB.out⟩⟩
  rw [if_neg c5] at H
  have c5b0 : decide (0 < (l0_2.length : Int)) = false := decide_eq_false c5
  have c5b1 : decide (0 < l0_2.length) = false := decide_eq_false (by omega)
  clear c5
  have H' := aM H
  clear H
  obtain ⟨hcz7_0, hcz7_1, hcz7_2, hfz7_0, hfz7_1, hfz7_2⟩ := bc3_ BK280
  go_wp2
  go_meet
  case rel => exact ⟨_, (decide ((l0_1.length : Int) > 256)), rf_, H', ⟨by first | omega | exact Nat.le_refl _⟩, ⟨ub_ BK280.out⟩, ⟨bw_ HB.out⟩⟩
 case rest =>
  clear HC2
  obtain ⟨kq, x5_1, rfl, HA, HJ1, BK280, HB⟩ := hcut
  cases kq with
  | zero => exact absurd HA.out (by simp [r5_kinds.j0])
  | succ kj1 =>
   have H := HA.out
   clear HA
   simp only [r5_kinds.j0] at H
   by_cases c9 : x5_1 = true
   · subst c9
     rw [if_pos rfl] at H
     obtain rfl := Option.some.inj H
     go_wp2
     first | go_ret | refine ⟨_, results_tmp rfl _ _ _, ?_⟩
     exact fin_ HB
   replace c9 := Bool.eq_false_iff.mpr c9
   subst c9
   rw [if_neg (show ¬ (false = true) by decide)] at H
   have HC10 := aM H
   clear H
   go_upto_region 2 with (fail)
   go_cut [5] (fun v5 wc => ∃ (kq : Nat) (x5_9 : Bool), v5 = .bool x5_9 ∧ Aside0 (r5_kinds.j1 kq x5_9 a0_0 l0_1 l0_2 = some r) ∧ Aside0 (kq ≤ kj1) ∧ Aside0 (wc.heap[gb280]? = some (.cells #[.int .i64 a0_0, (.slice A0_1 l0_1.length c0_1), (.slice A0_2 l0_2.length c0_2)] 25 (0, 0))) ∧ Aside0 (Below w.heap.size w wc))
   case first =>
    have H := HC10.out
    clear HC10
    by_cases c11 : a0_0 = 1
    rotate_left
    · rw [if_neg c11] at H
      have c11b0 : (a0_0 == 1) = false := beq_eq_false_iff_ne.mpr c11
      have c11b1 : (a0_0 != 1) = true := bne_iff_ne.mpr c11
      (first | rw [c11b0] | (simp only [i64_w, i32_w]; rw [c11b0]) | rw [c11b1] | skip)
      have H' := aM H
      clear H
      obtain ⟨hcz13_0, hcz13_1, hcz13_2, hfz13_0, hfz13_1, hfz13_2⟩ := bc3_ BK280
      go_wp2
      go_meet
      case rel => exact ⟨_, (decide ((l0_1.length : Int) > 0)), rf_, H', ⟨by have := HJ1.out; first | omega | exact Nat.le_refl _⟩, ⟨ub_ BK280.out⟩, ⟨bw_ HB.out⟩⟩
    rw [if_pos c11] at H
    have c11b0 : (a0_0 == 1) = true := beq_iff_eq.mpr c11
    have c11b1 : (a0_0 != 1) = false := bne_eq_false_iff_eq.mpr c11
    clear c11
    (first | rw [c11b0] | (simp only [i64_w, i32_w]; rw [c11b0]) | rw [c11b1] | skip)
    have H' := aM H
    clear H
    obtain ⟨hcz12_0, hcz12_1, hcz12_2, hfz12_0, hfz12_1, hfz12_2⟩ := bc3_ BK280
    go_wp2
    go_meet
    case rel => exact ⟨_, (false), rf_, H', ⟨by have := HJ1.out; first | omega | exact Nat.le_refl _⟩, ⟨ub_ BK280.out⟩, ⟨bw_ HB.out⟩⟩
   case rest =>
    clear HC10
    obtain ⟨kq, x5_9, rfl, HA, HJ9, BK280, HB⟩ := hcut
    cases kq with
    | zero => exact absurd HA.out (by simp [r5_kinds.j1])
    | succ kj9 =>
     have H := HA.out
     clear HA
     simp only [r5_kinds.j1] at H
     by_cases c14 : x5_9 = true
     · subst c14
       rw [if_pos rfl] at H
       obtain rfl := Option.some.inj H
       go_wp2
       first | go_ret | refine ⟨_, results_tmp rfl _ _ _, ?_⟩
       exact fin_ HB
     replace c14 := Bool.eq_false_iff.mpr c14
     subst c14
     rw [if_neg (show ¬ (false = true) by decide)] at H
     have HC15 := aM H
     clear H
     go_upto_region 3 with (fail)
     go_cut [5] (fun v5 wc => ∃ (kq : Nat) (x5_14 : Bool), v5 = .bool x5_14 ∧ Aside0 (r5_kinds.j2 kq x5_14 a0_0 l0_1 l0_2 = some r) ∧ Aside0 (kq ≤ kj9) ∧ Aside0 (wc.heap[gb280]? = some (.cells #[.int .i64 a0_0, (.slice A0_1 l0_1.length c0_1), (.slice A0_2 l0_2.length c0_2)] 25 (0, 0))) ∧ Aside0 (Below w.heap.size w wc))
     case first =>
      have H := HC15.out
      clear HC15
      by_cases c16 : a0_0 = 4
      rotate_left
      · rw [if_neg c16] at H
        have c16b0 : (a0_0 == 4) = false := beq_eq_false_iff_ne.mpr c16
        have c16b1 : (a0_0 != 4) = true := bne_iff_ne.mpr c16
        (first | rw [c16b0] | (simp only [i64_w, i32_w]; rw [c16b0]) | rw [c16b1] | skip)
        have H' := aM H
        clear H
        obtain ⟨hcz18_0, hcz18_1, hcz18_2, hfz18_0, hfz18_1, hfz18_2⟩ := bc3_ BK280
        go_wp2
        go_meet
        case rel => exact ⟨_, (false), rf_, H', ⟨by have := HJ1.out; have := HJ9.out; first | omega | exact Nat.le_refl _⟩, ⟨ub_ BK280.out⟩, ⟨bw_ HB.out⟩⟩
      rw [if_pos c16] at H
      have c16b0 : (a0_0 == 4) = true := beq_iff_eq.mpr c16
      have c16b1 : (a0_0 != 4) = false := bne_eq_false_iff_eq.mpr c16
      clear c16
      (first | rw [c16b0] | (simp only [i64_w, i32_w]; rw [c16b0]) | rw [c16b1] | skip)
      have H' := aM H
      clear H
      obtain ⟨hcz17_0, hcz17_1, hcz17_2, hfz17_0, hfz17_1, hfz17_2⟩ := bc3_ BK280
      go_wp2
      go_meet
      case rel => exact ⟨_, (((l0_2.length : Int) != 1)), rf_, H', ⟨by have := HJ1.out; have := HJ9.out; first | omega | exact Nat.le_refl _⟩, ⟨ub_ BK280.out⟩, ⟨bw_ HB.out⟩⟩
     case rest =>
      clear HC15
      obtain ⟨kq, x5_14, rfl, HA, HJ14, BK280, HB⟩ := hcut
      cases kq with
      | zero => exact absurd HA.out (by simp [r5_kinds.j2])
      | succ kj14 =>
       have H := HA.out
       clear HA
       simp only [r5_kinds.j2] at H
       by_cases c19 : x5_14 = true
       · subst c19
         rw [if_pos rfl] at H
         obtain rfl := Option.some.inj H
         go_wp2
         first | go_ret | refine ⟨_, results_tmp rfl _ _ _, ?_⟩
         exact fin_ HB
       replace c19 := Bool.eq_false_iff.mpr c19
       subst c19
       rw [if_neg (show ¬ (false = true) by decide)] at H
       by_cases c20 : a0_0 < 1
       · rw [if_pos c20] at H
         have c20b0 : decide (a0_0 < 1) = true := decide_eq_true c20
         clear c20
         obtain rfl := Option.some.inj H
         obtain ⟨hcz21_0, hcz21_1, hcz21_2, hfz21_0, hfz21_1, hfz21_2⟩ := bc3_ BK280
         go_wp2
         first | go_ret | refine ⟨_, results_tmp rfl _ _ _, ?_⟩
         exact fin_ HB
       rw [if_neg c20] at H
       have c20b0 : decide (a0_0 < 1) = false := decide_eq_false c20
       clear c20
       by_cases c22 : a0_0 > 4
       · rw [if_pos c22] at H
         have c22b0 : decide (4 < a0_0) = true := decide_eq_true c22
         clear c22
         obtain rfl := Option.some.inj H
         obtain ⟨hcz23_0, hcz23_1, hcz23_2, hfz23_0, hfz23_1, hfz23_2⟩ := bc3_ BK280
         go_wp2
         first | go_ret | refine ⟨_, results_tmp rfl _ _ _, ?_⟩
         exact fin_ HB
       rw [if_neg c22] at H
       have c22b0 : decide (4 < a0_0) = false := decide_eq_false c22
       clear c22
       have H' := aM H
       clear H
       obtain ⟨hcz24_0, hcz24_1, hcz24_2, hfz24_0, hfz24_1, hfz24_2⟩ := bc3_ BK280
       go_wp2
       go_loopg [48] kj14 (fun kq v48 w' => ∃ (x48_4 : Int), v48 = .int .i64 x48_4 ∧ Aside0 (r5_kinds.l0 kq l0_2 (l0_2.length : Int) x48_4 = some r) ∧ Aside0 (kq ≤ kj14) ∧ Aside0 (w'.heap[gb280]? = some (.cells #[.int .i64 a0_0, (.slice A0_1 l0_1.length c0_1), (.slice A0_2 l0_2.length c0_2)] 25 (0, 0))) ∧ Aside0 (Below w.heap.size w w'))
       case atStart => exact ⟨(0), rf_, H', ⟨Nat.le_refl _⟩, ⟨ub_ BK280.out⟩, ⟨bw_ HB.out⟩⟩
       case round =>
        clear H'
        obtain ⟨x48_4, rfl, HA, HK4, BK280, HB⟩ := hrel
        cases gk with
        | zero => exact absurd HA.out (by simp [r5_kinds.l0])
        | succ k4 =>
         have H := HA.out
         clear HA
         simp only [r5_kinds.l0] at H
         by_cases c25 : x48_4 < (l0_2.length : Int)
         rotate_left
         · rw [if_neg c25] at H
           replace c25 := decide_eq_false c25
           obtain rfl := Option.some.inj H
           go_wp2
           first | go_ret | refine ⟨_, results_tmp rfl _ _ _, ?_⟩
           exact fin_ HB
         rw [if_pos c25] at H
         replace c25 := decide_eq_true c25
         obtain ⟨c26, H⟩ := ifd_ H
         obtain ⟨c27, H⟩ := ifd_ H
         obtain ⟨t283, A28, H⟩ := bnd_ H
         by_cases c29 : t283 = true
         rotate_left
         · replace c29 := Bool.eq_false_iff.mpr c29
           subst c29
           rw [if_neg (show ¬ (false = true) by decide)] at H
           obtain rfl := Option.some.inj H
           have p281 : 0 ≤ (x48_4 : Int) := od_
           have q281 : x48_4 < (l0_2.length : Int) := od_
           obtain ⟨ad281, A281_1, c281_1, A281_2, c281_2, e281, hx281_0, hx281_1, hx281_2, hl281_1, hi281_1, hl281_2, hi281_2⟩ := at_T25 HR0_2.out x48_4 p281 q281
           cases e281
           replace hx281_0 := hx_ HB hx281_0
           replace hx281_1 := hx_ HB hx281_1
           replace hx281_2 := hx_ HB hx281_2
           have HR281_1 := aM hi281_1
           have HC281_1 := aM hl281_1
           clear hi281_1 hl281_1
           have HR281_2 := aM hi281_2
           have HC281_2 := aM hl281_2
           clear hi281_2 hl281_2
           replace p281 := eq_true p281
           replace q281 := eq_true q281
           go_wp2_with (first | ((with_reducible refine gd_ 4 rfl ?_); (try (refine gate_guard (by rfl) ?_; dsimp only)); refine be_ #[.int .i64 0, .slice none 0 0, .slice none 0 0] 25 ?_; intro gb282 hg w34 BK282 hb; have GW282 := ge_ HB hg; have GE282 := ge_ HB hg; have NB280_282 := nl_ BK280 hg; have NB282_280 := ng_ BK280 hg; replace BK280 := bb_ BK280 hb; replace HB := bs_ HB hb; clear hb hg; have hnb35 := NB282_280.out; have hnc35 := NB280_282.out; obtain ⟨hcz36_0, hcz36_1, hcz36_2, hfz36_0, hfz36_1, hfz36_2⟩ := bc3_ BK282) | ((with_reducible refine gf_ 44 rfl ?_); refine gL_ (some 53) rfl rfl Try.func44 #[.agg #[.int .i64 ((rd_T25 l0_2 x48_4).f0), .slice A281_1 ((rd_T25 l0_2 x48_4).f1).length c281_1, .slice A281_2 ((rd_T25 l0_2 x48_4).f2).length c281_2]] rfl ?_; (with_reducible refine (ih k4 (by have := HJ1.out; have := HJ9.out; have := HJ14.out; have := HK4.out; omega) ((rd_T25 l0_2 x48_4).f0) _ _ ((rd_T25 l0_2 x48_4).f1) _ _ ((rd_T25 l0_2 x48_4).f2) false _ ?side1 ?side2 ?side3 ?side4 A28.out).mono ?_); (case side1 => exact cB_ HR281_1 HB); (case side2 => exact HC281_1.out); (case side3 => exact cB_ HR281_2 HB); (case side4 => exact HC281_2.out); rintro e w37 ⟨rfl, hb⟩; refine ⟨_, rfl, ?_⟩; replace BK280 := bb_ BK280 hb; replace BK282 := bp_ (.cells #[.int .i64 ((rd_T25 l0_2 x48_4).f0), .slice A281_1 ((rd_T25 l0_2 x48_4).f1).length c281_1, .slice A281_2 ((rd_T25 l0_2 x48_4).f2).length c281_2] 25 (0, 0)) BK282 hb; replace HB := bs_ HB hb; clear hb))
           first | go_ret | refine ⟨_, results_tmp rfl _ _ _, ?_⟩
           exact fin_ HB
         subst c29
         rw [if_pos rfl] at H
         have H' := aM H
         clear H
         have p281 : 0 ≤ (x48_4 : Int) := od_
         have q281 : x48_4 < (l0_2.length : Int) := od_
         obtain ⟨ad281, A281_1, c281_1, A281_2, c281_2, e281, hx281_0, hx281_1, hx281_2, hl281_1, hi281_1, hl281_2, hi281_2⟩ := at_T25 HR0_2.out x48_4 p281 q281
         cases e281
         replace hx281_0 := hx_ HB hx281_0
         replace hx281_1 := hx_ HB hx281_1
         replace hx281_2 := hx_ HB hx281_2
         have HR281_1 := aM hi281_1
         have HC281_1 := aM hl281_1
         clear hi281_1 hl281_1
         have HR281_2 := aM hi281_2
         have HC281_2 := aM hl281_2
         clear hi281_2 hl281_2
         replace p281 := eq_true p281
         replace q281 := eq_true q281
         go_wp2_with (first | ((with_reducible refine gd_ 4 rfl ?_); (try (refine gate_guard (by rfl) ?_; dsimp only)); refine be_ #[.int .i64 0, .slice none 0 0, .slice none 0 0] 25 ?_; intro gb282 hg w30 BK282 hb; have GW282 := ge_ HB hg; have GE282 := ge_ HB hg; have NB280_282 := nl_ BK280 hg; have NB282_280 := ng_ BK280 hg; replace BK280 := bb_ BK280 hb; replace HB := bs_ HB hb; clear hb hg; have hnb31 := NB282_280.out; have hnc31 := NB280_282.out; obtain ⟨hcz32_0, hcz32_1, hcz32_2, hfz32_0, hfz32_1, hfz32_2⟩ := bc3_ BK282) | ((with_reducible refine gf_ 44 rfl ?_); refine gL_ (some 53) rfl rfl Try.func44 #[.agg #[.int .i64 ((rd_T25 l0_2 x48_4).f0), .slice A281_1 ((rd_T25 l0_2 x48_4).f1).length c281_1, .slice A281_2 ((rd_T25 l0_2 x48_4).f2).length c281_2]] rfl ?_; (with_reducible refine (ih k4 (by have := HJ1.out; have := HJ9.out; have := HJ14.out; have := HK4.out; omega) ((rd_T25 l0_2 x48_4).f0) _ _ ((rd_T25 l0_2 x48_4).f1) _ _ ((rd_T25 l0_2 x48_4).f2) true _ ?side1 ?side2 ?side3 ?side4 A28.out).mono ?_); (case side1 => exact cB_ HR281_1 HB); (case side2 => exact HC281_1.out); (case side3 => exact cB_ HR281_2 HB); (case side4 => exact HC281_2.out); rintro e w33 ⟨rfl, hb⟩; refine ⟨_, rfl, ?_⟩; replace BK280 := bb_ BK280 hb; replace BK282 := bp_ (.cells #[.int .i64 ((rd_T25 l0_2 x48_4).f0), .slice A281_1 ((rd_T25 l0_2 x48_4).f1).length c281_1, .slice A281_2 ((rd_T25 l0_2 x48_4).f2).length c281_2] 25 (0, 0)) BK282 hb; replace HB := bs_ HB hb; clear hb))
         go_roundg k4
         case measure => have := HJ1.out; have := HJ9.out; have := HJ14.out; have := HK4.out; omega
         case rel => exact ⟨(wrap64 (x48_4 + 1)), rf_, H', ⟨by have := HJ1.out; have := HJ9.out; have := HJ14.out; have := HK4.out; omega⟩, ⟨ub_ BK280.out⟩, ⟨bw_ HB.out⟩⟩
end Go.Proofs.Ytlkjfjlmjgkheaa.H
