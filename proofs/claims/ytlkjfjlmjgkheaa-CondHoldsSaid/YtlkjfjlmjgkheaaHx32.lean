import Derived.Test.YtlkjfjlmjgkheaaHx0
import Derived.Test.YtlkjfjlmjgkheaaHx4
namespace Go.Proofs.Ytlkjfjlmjgkheaa.H
open Go.RowKit Go.Proofs.YtlkjfjlmjgkheaaW.PrintWords Go.Proofs.YtlkjfjlmjgkheaaW.PrintLast Go.Proofs.YtlkjfjlmjgkheaaW.PrintMore
attribute [local go_sem] max2_int min2_int max_two min_two max_three min_three max_four min_four
set_option linter.unusedVariables false
set_option linter.unusedSimpArgs false
attribute [local go_sem high] eqA76
mutual
def dragomanref11_SameComms.l0 : Nat → List (S64) → List (S64) → Int → Int → Option (Bool)
 | 0, _, _, _, _ => none
 | k + 1, x0, x1, x13, x14 => if x14 < x13 then (if 0 ≤ x14 then (if x14 < (x0.length : Int) then (if x14 < (x1.length : Int) then (if (((rd_T64 x0 x14).f0) != ((rd_T64 x1 x14).f0)) = true then (dragomanref11_SameComms.j1 k x0 x1 x14 x13 x14 true) else (dragomanref11_SameComms.j1 k x0 x1 x14 x13 x14 ((((rd_T64 x0 x14).f1).length : Int) != (((rd_T64 x1 x14).f1).length : Int)))) else (none)) else (none)) else (none)) else (some true)
def dragomanref11_SameComms.j1 : Nat → List (S64) → List (S64) → Int → Int → Int → Bool → Option (Bool)
 | 0, _, _, _, _, _, _ => none
 | k + 1, x0, x1, x5, x13, x14, x42 => if x42 = true then (some false) else (if 0 ≤ x5 then (if x5 < (x0.length : Int) then (dragomanref11_SameComms.l1 k x0 x1 x5 x13 x14 (((rd_T64 x0 x5).f1).length : Int) 0) else (none)) else (none))
def dragomanref11_SameComms.l1 : Nat → List (S64) → List (S64) → Int → Int → Int → Int → Int → Option (Bool)
 | 0, _, _, _, _, _, _, _ => none
 | k + 1, x0, x1, x5, x13, x14, x48, x49 => if x49 < x48 then (if 0 ≤ x5 then (if x5 < (x0.length : Int) then (if 0 ≤ x49 then (if x49 < (((rd_T64 x0 x5).f1).length : Int) then (if x5 < (x1.length : Int) then (if x49 < (((rd_T64 x1 x5).f1).length : Int) then (if (!(((rd_T76 ((rd_T64 x0 x5).f1) x49).f0) == ((rd_T76 ((rd_T64 x1 x5).f1) x49).f0)) || (!(((rd_T76 ((rd_T64 x0 x5).f1) x49).f1) == ((rd_T76 ((rd_T64 x1 x5).f1) x49).f1)))) = true then (some false) else (dragomanref11_SameComms.l1 k x0 x1 x5 x13 x14 x48 (wrap64 (x49 + 1)))) else (none)) else (none)) else (none)) else (none)) else (none)) else (none)) else (dragomanref11_SameComms.l0 k x0 x1 x13 (wrap64 (x14 + 1)))
end
def dragomanref11_SameComms.f (k : Nat) (l0 : List (S64)) (l1 : List (S64)) : Option (Bool) := if (l0.length : Int) = (l1.length : Int) then (dragomanref11_SameComms.l0 k l0 l1 (l0.length : Int) 0) else (some false)
set_option maxHeartbeats 8000000 in
set_option maxRecDepth 100000 in
theorem dragomanref11_SameComms.calls (k : Nat) (A0 : Option Addr) (c0 : Nat) (l0 : List (S64)) (A1 : Option Addr) (c1 : Nat) (l1 : List (S64)) (r : Bool) (w : World) (hr0 : Kd.C k64 w A0 l0.length l0) (hc0 : l0.length ≤ c0) (hr1 : Kd.C k64 w A1 l1.length l1) (hc1 : l1.length ≤ c1) (h : dragomanref11_SameComms.f k l0 l1 = some r) :
 Calls Try.prog 67 #[.slice A0 l0.length c0, .slice A1 l1.length c1] w fun e w' => e = .returned (.bool r) ∧ Drawn0 w w' := by
 have hu76 := Try.underlying76
 have HR0 := aM hr0
 have HC0 := aM hc0
 clear hr0 hc0
 have HR1 := aM hr1
 have HC1 := aM hc1
 clear hr1 hc1
 have H : (if (l0.length : Int) = (l1.length : Int) then (dragomanref11_SameComms.l0 k l0 l1 (l0.length : Int) 0) else (some false)) = some r := h
 clear h
 by_cases c3 : (l0.length : Int) = (l1.length : Int)
 rotate_left
 · rw [if_neg c3] at H
   have c3b0 : ((l0.length : Int) == (l1.length : Int)) = false := beq_eq_false_iff_ne.mpr c3
   have c3b1 : ((l0.length : Int) != (l1.length : Int)) = true := bne_iff_ne.mpr c3
   have c3b2 : (l0.length == l1.length) = false := by first | simpa using c3 | (simp at c3 ⊢; omega)
   obtain rfl := Option.some.inj H
   go_enter Try.func67, Try.ntmps67
   go_wp2
   repeat (go_quiet (fail); try go_wp2)
   first | go_ret | refine ⟨_, results_tmp rfl _ _ _, ?_⟩
   exact ⟨rf_, dr_⟩
 rw [if_pos c3] at H
 have c3b0 : ((l0.length : Int) == (l1.length : Int)) = true := beq_iff_eq.mpr c3
 have c3b1 : ((l0.length : Int) != (l1.length : Int)) = false := bne_eq_false_iff_eq.mpr c3
 have c3b2 : (l0.length == l1.length) = true := by first | simpa using c3 | (simp at c3 ⊢; omega)
 clear c3
 have H' := aM H
 clear H
 go_enter Try.func67, Try.ntmps67
 go_wp2
 repeat (go_quiet (fail); try go_wp2)
 go_loopg [14] k (fun kq v14 w' => ∃ (x14_1 : Int), v14 = .int .i64 x14_1 ∧ Aside0 (dragomanref11_SameComms.l0 kq l0 l1 (l0.length : Int) x14_1 = some r) ∧ Aside0 (kq ≤ k) ∧ Drawn0 w w')
 case atStart => exact ⟨(0), rf_, H', ⟨Nat.le_refl _⟩, dr_⟩
 case round =>
  clear H'
  try clear c1
  try clear p2
  try clear c3
  try clear c3b0
  try clear c3b1
  try clear c3b2
  obtain ⟨x14_1, rfl, HA, HK1, ⟨m1, rfl⟩⟩ := hrel
  cases gk with
  | zero => exact absurd HA.out (by simp [dragomanref11_SameComms.l0])
  | succ k1 =>
   have H := HA.out
   clear HA
   simp only [dragomanref11_SameComms.l0] at H
   by_cases c4 : x14_1 < (l0.length : Int)
   rotate_left
   · rw [if_neg c4] at H
     have c4b0 : decide (x14_1 < (l0.length : Int)) = false := decide_eq_false c4
     clear c4
     obtain rfl := Option.some.inj H
     go_wp2
     repeat (go_quiet (fail); try go_wp2)
     first | go_ret | refine ⟨_, results_tmp rfl _ _ _, ?_⟩
     exact ⟨rf_, dr_⟩
   rw [if_pos c4] at H
   have c4b0 : decide (x14_1 < (l0.length : Int)) = true := decide_eq_true c4
   clear c4
   have HC5 := aM H
   clear H
   go_upto_region 6 with (fail)
   repeat (go_quiet (fail); go_upto_region 6 with (fail))
   go_cut [42] (fun v42 wc => ∃ (kq : Nat) (x42_4 : Bool), v42 = .bool x42_4 ∧ Aside0 (dragomanref11_SameComms.j1 kq l0 l1 x14_1 (l0.length : Int) x14_1 x42_4 = some r) ∧ Aside0 (kq ≤ k1) ∧ Drawn0 w wc)
   case first =>
    have H := HC5.out
    clear HC5
    have c6 := ifn_ H
    rw [if_pos c6] at H
    have c6b0 : decide (0 ≤ x14_1) = true := decide_eq_true c6
    clear c6
    (first | rw [c6b0] | (simp only [i64_w, i32_w]; rw [c6b0]) | rw [c6b1] | skip)
    have c7 := ifn_ H
    rw [if_pos c7] at H
    have c7b0 : decide (x14_1 < (l0.length : Int)) = true := decide_eq_true c7
    clear c7
    have c8 := ifn_ H
    rw [if_pos c8] at H
    have c8b0 : decide (x14_1 < (l1.length : Int)) = true := decide_eq_true c8
    clear c8
    by_cases c9 : (((rd_T64 l0 x14_1).f0) != ((rd_T64 l1 x14_1).f0)) = true
    · rw [if_pos c9] at H
      have c9b0 : (((rd_T64 l0 x14_1).f0) != ((rd_T64 l1 x14_1).f0)) = true := c9
      (try (have c9b1 : decide (((rd_T64 l0 x14_1).f0) = ((rd_T64 l1 x14_1).f0)) = false := by simpa using c9))
      (try (have c9b2 : (((rd_T64 l0 x14_1).f0) == ((rd_T64 l1 x14_1).f0)) = false := by simpa using c9))
      (try (have c9b3 : ¬ (((rd_T64 l0 x14_1).f0) = ((rd_T64 l1 x14_1).f0)) := by simpa using c9))
      clear c9
      have H' := aM H
      clear H
      have p398 : 0 ≤ (x14_1 : Int) := od_
      have q398 : x14_1 < (l0.length : Int) := od_
      obtain ⟨ad398, A398_1, c398_1, e398, hx398_0, hx398_1, hl398_1, hi398_1⟩ := at_T64 HR0.out x14_1 p398 q398
      cases e398
      have HR398_1 := aM hi398_1
      have HC398_1 := aM hl398_1
      clear hi398_1 hl398_1
      replace p398 := eq_true p398
      replace q398 := eq_true q398
      have p399 : 0 ≤ (x14_1 : Int) := od_
      have q399 : x14_1 < (l1.length : Int) := od_
      obtain ⟨ad399, A399_1, c399_1, e399, hx399_0, hx399_1, hl399_1, hi399_1⟩ := at_T64 HR1.out x14_1 p399 q399
      cases e399
      have HR399_1 := aM hi399_1
      have HC399_1 := aM hl399_1
      clear hi399_1 hl399_1
      replace p399 := eq_true p399
      replace q399 := eq_true q399
      go_wp2
      repeat (go_quiet (fail); try go_wp2)
      go_meet
      case rel => exact ⟨_, (true), rf_, H', ⟨by have := HK1.out; first | omega | exact Nat.le_refl _⟩, dr_⟩
    rw [if_neg c9] at H
    have c9b0 : (((rd_T64 l0 x14_1).f0) != ((rd_T64 l1 x14_1).f0)) = false := by simpa using c9
    (try (have c9b1 : decide (((rd_T64 l0 x14_1).f0) = ((rd_T64 l1 x14_1).f0)) = true := by simpa using c9))
    (try (have c9b2 : (((rd_T64 l0 x14_1).f0) == ((rd_T64 l1 x14_1).f0)) = true := by simpa using c9))
    clear c9
    have H' := aM H
    clear H
    have p398 : 0 ≤ (x14_1 : Int) := od_
    have q398 : x14_1 < (l0.length : Int) := od_
    obtain ⟨ad398, A398_1, c398_1, e398, hx398_0, hx398_1, hl398_1, hi398_1⟩ := at_T64 HR0.out x14_1 p398 q398
    cases e398
    have HR398_1 := aM hi398_1
    have HC398_1 := aM hl398_1
    clear hi398_1 hl398_1
    replace p398 := eq_true p398
    replace q398 := eq_true q398
    have p399 : 0 ≤ (x14_1 : Int) := od_
    have q399 : x14_1 < (l1.length : Int) := od_
    obtain ⟨ad399, A399_1, c399_1, e399, hx399_0, hx399_1, hl399_1, hi399_1⟩ := at_T64 HR1.out x14_1 p399 q399
    cases e399
    have HR399_1 := aM hi399_1
    have HC399_1 := aM hl399_1
    clear hi399_1 hl399_1
    replace p399 := eq_true p399
    replace q399 := eq_true q399
    have p400 : 0 ≤ (x14_1 : Int) := od_
    have q400 : x14_1 < (l0.length : Int) := od_
    obtain ⟨ad400, A400_1, c400_1, e400, hx400_0, hx400_1, hl400_1, hi400_1⟩ := at_T64 HR0.out x14_1 p400 q400
    obtain rfl : ad398 = ad400 := (by injection e400)
    have HR400_1 := aM hi400_1
    have HC400_1 := aM hl400_1
    clear hi400_1 hl400_1
    replace p400 := eq_true p400
    replace q400 := eq_true q400
    have ea_ := Option.some.inj (hx398_1.symm.trans hx400_1)
    injection ea_ with ea_ en_ ec_
    subst ea_
    subst ec_
    clear en_
    have p401 : 0 ≤ (x14_1 : Int) := od_
    have q401 : x14_1 < (l1.length : Int) := od_
    obtain ⟨ad401, A401_1, c401_1, e401, hx401_0, hx401_1, hl401_1, hi401_1⟩ := at_T64 HR1.out x14_1 p401 q401
    obtain rfl : ad399 = ad401 := (by injection e401)
    have HR401_1 := aM hi401_1
    have HC401_1 := aM hl401_1
    clear hi401_1 hl401_1
    replace p401 := eq_true p401
    replace q401 := eq_true q401
    have ea_ := Option.some.inj (hx399_1.symm.trans hx401_1)
    injection ea_ with ea_ en_ ec_
    subst ea_
    subst ec_
    clear en_
    go_wp2
    repeat (go_quiet (fail); try go_wp2)
    go_meet
    case rel => exact ⟨_, (((((rd_T64 l0 x14_1).f1).length : Int) != (((rd_T64 l1 x14_1).f1).length : Int))), rf_, H', ⟨by have := HK1.out; first | omega | exact Nat.le_refl _⟩, dr_⟩
   case rest =>
    clear HC5
    try clear c1
    try clear p2
    try clear c3
    try clear c3b0
    try clear c3b1
    try clear c3b2
    try clear p3
    try clear q3
    try clear hx3
    try clear c4
    try clear c4b0
    try clear p4
    try clear q4
    try clear hx4
    try clear c6
    try clear c6b0
    try clear c6b1
    try clear c7
    try clear c7b0
    try clear c8
    try clear c8b0
    try clear c9
    try clear c9b0
    try clear c9b1
    try clear c9b2
    try clear hx398_0
    try clear hx398_1
    try clear hx399_0
    try clear hx399_1
    try clear hx400_0
    try clear hx400_1
    try clear hx401_0
    try clear hx401_1
    try clear p2
    try clear p398
    try clear p399
    try clear p400
    try clear p401
    try clear q398
    try clear q399
    try clear q400
    try clear q401
    obtain ⟨kq, x42_4, rfl, HA, HJ4, ⟨mc4, rfl⟩⟩ := hcut
    cases kq with
    | zero => exact absurd HA.out (by simp [dragomanref11_SameComms.j1])
    | succ kj4 =>
     have H := HA.out
     clear HA
     simp only [dragomanref11_SameComms.j1] at H
     by_cases c10 : x42_4 = true
     · subst c10
       rw [if_pos rfl] at H
       obtain rfl := Option.some.inj H
       go_wp2
       repeat (go_quiet (fail); try go_wp2)
       first | go_ret | refine ⟨_, results_tmp rfl _ _ _, ?_⟩
       exact ⟨rf_, dr_⟩
     replace c10 := Bool.eq_false_iff.mpr c10
     subst c10
     rw [if_neg (show ¬ (false = true) by decide)] at H
     have c11 := ifn_ H
     rw [if_pos c11] at H
     have c11b0 : decide (0 ≤ x14_1) = true := decide_eq_true c11
     clear c11
     have c12 := ifn_ H
     rw [if_pos c12] at H
     have c12b0 : decide (x14_1 < (l0.length : Int)) = true := decide_eq_true c12
     clear c12
     have H' := aM H
     clear H
     have p402 : 0 ≤ (x14_1 : Int) := od_
     have q402 : x14_1 < (l0.length : Int) := od_
     obtain ⟨ad402, A402_1, c402_1, e402, hx402_0, hx402_1, hl402_1, hi402_1⟩ := at_T64 HR0.out x14_1 p402 q402
     cases e402
     have HR402_1 := aM hi402_1
     have HC402_1 := aM hl402_1
     clear hi402_1 hl402_1
     replace p402 := eq_true p402
     replace q402 := eq_true q402
     go_wp2
     repeat (go_quiet (fail); try go_wp2)
     go_loopg [49] kj4 (fun kq v49 w' => ∃ (x49_3 : Int), v49 = .int .i64 x49_3 ∧ Aside0 (dragomanref11_SameComms.l1 kq l0 l1 x14_1 (l0.length : Int) x14_1 (((rd_T64 l0 x14_1).f1).length : Int) x49_3 = some r) ∧ Aside0 (kq ≤ kj4) ∧ Drawn0 w w')
     case atStart => exact ⟨(0), rf_, H', ⟨Nat.le_refl _⟩, dr_⟩
     case round =>
      clear H'
      try clear c1
      try clear p2
      try clear c3
      try clear c3b0
      try clear c3b1
      try clear c3b2
      try clear p3
      try clear q3
      try clear hx3
      try clear c4
      try clear c4b0
      try clear p4
      try clear q4
      try clear hx4
      try clear c6
      try clear c6b0
      try clear c6b1
      try clear c7
      try clear c7b0
      try clear c8
      try clear c8b0
      try clear c9
      try clear c9b0
      try clear c9b1
      try clear c9b2
      try clear c10
      try clear c11
      try clear c11b0
      try clear c12
      try clear c12b0
      try clear hx398_0
      try clear hx398_1
      try clear hx399_0
      try clear hx399_1
      try clear hx400_0
      try clear hx400_1
      try clear hx401_0
      try clear hx401_1
      try clear hx402_0
      try clear hx402_1
      try clear p2
      try clear p3
      try clear p398
      try clear p399
      try clear p4
      try clear p400
      try clear p401
      try clear p402
      try clear q3
      try clear q398
      try clear q399
      try clear q4
      try clear q400
      try clear q401
      try clear q402
      obtain ⟨x49_3, rfl, HA, HK3, ⟨m3, rfl⟩⟩ := hrel
      cases gk with
      | zero => exact absurd HA.out (by simp [dragomanref11_SameComms.l1])
      | succ k3 =>
       have H := HA.out
       clear HA
       simp only [dragomanref11_SameComms.l1] at H
       by_cases c13 : x49_3 < (((rd_T64 l0 x14_1).f1).length : Int)
       rotate_left
       · rw [if_neg c13] at H
         replace c13 := decide_eq_false c13
         have H' := aM H
         clear H
         go_wp2
         repeat (go_quiet (fail); try go_wp2)
         go_roundg k3
         case measure => have := HK1.out; have := HJ4.out; have := HK3.out; omega
         case rel => exact ⟨(wrap64 (x14_1 + 1)), rf_, H', ⟨by have := HK1.out; have := HJ4.out; have := HK3.out; omega⟩, dr_⟩
       rw [if_pos c13] at H
       replace c13 := decide_eq_true c13
       obtain ⟨c14, H⟩ := ifd_ H
       obtain ⟨c15, H⟩ := ifd_ H
       obtain ⟨c16, H⟩ := ifd_ H
       obtain ⟨c17, H⟩ := ifd_ H
       obtain ⟨c18, H⟩ := ifd_ H
       obtain ⟨c19, H⟩ := ifd_ H
       by_cases c20 : (!(((rd_T76 ((rd_T64 l0 x14_1).f1) x49_3).f0) == ((rd_T76 ((rd_T64 l1 x14_1).f1) x49_3).f0)) || (!(((rd_T76 ((rd_T64 l0 x14_1).f1) x49_3).f1) == ((rd_T76 ((rd_T64 l1 x14_1).f1) x49_3).f1)))) = true
       · rw [if_pos c20] at H
         have c20b0 : (!(((rd_T76 ((rd_T64 l0 x14_1).f1) x49_3).f0) == ((rd_T76 ((rd_T64 l1 x14_1).f1) x49_3).f0)) || (!(((rd_T76 ((rd_T64 l0 x14_1).f1) x49_3).f1) == ((rd_T76 ((rd_T64 l1 x14_1).f1) x49_3).f1)))) = true := c20
         clear c20
         obtain rfl := Option.some.inj H
         have p403 : 0 ≤ (x14_1 : Int) := od_
         have q403 : x14_1 < (l0.length : Int) := od_
         obtain ⟨ad403, A403_1, c403_1, e403, hx403_0, hx403_1, hl403_1, hi403_1⟩ := at_T64 HR0.out x14_1 p403 q403
         obtain rfl : ad402 = ad403 := (by injection e403)
         have HR403_1 := aM hi403_1
         have HC403_1 := aM hl403_1
         clear hi403_1 hl403_1
         replace p403 := eq_true p403
         replace q403 := eq_true q403
         have p404 : 0 ≤ (x49_3 : Int) := od_
         have q404 : x49_3 < (((rd_T64 l0 x14_1).f1).length : Int) := od_
         obtain ⟨ad404, e404, hx404_0, hx404_1⟩ := at_T76 HR403_1.out x49_3 p404 q404
         cases e404
         replace p404 := eq_true p404
         replace q404 := eq_true q404
         have p405 : 0 ≤ (x14_1 : Int) := od_
         have q405 : x14_1 < (l1.length : Int) := od_
         obtain ⟨ad405, A405_1, c405_1, e405, hx405_0, hx405_1, hl405_1, hi405_1⟩ := at_T64 HR1.out x14_1 p405 q405
         cases e405
         have HR405_1 := aM hi405_1
         have HC405_1 := aM hl405_1
         clear hi405_1 hl405_1
         replace p405 := eq_true p405
         replace q405 := eq_true q405
         have p406 : 0 ≤ (x49_3 : Int) := od_
         have q406 : x49_3 < (((rd_T64 l1 x14_1).f1).length : Int) := od_
         obtain ⟨ad406, e406, hx406_0, hx406_1⟩ := at_T76 HR405_1.out x49_3 p406 q406
         cases e406
         replace p406 := eq_true p406
         replace q406 := eq_true q406
         go_wp2
         repeat (go_quiet (fail); try go_wp2)
         first | go_ret | refine ⟨_, results_tmp rfl _ _ _, ?_⟩
         exact ⟨rf_, dr_⟩
       rw [if_neg c20] at H
       have c20b0 : (!(((rd_T76 ((rd_T64 l0 x14_1).f1) x49_3).f0) == ((rd_T76 ((rd_T64 l1 x14_1).f1) x49_3).f0)) || (!(((rd_T76 ((rd_T64 l0 x14_1).f1) x49_3).f1) == ((rd_T76 ((rd_T64 l1 x14_1).f1) x49_3).f1)))) = false := by simpa using c20
       clear c20
       have H' := aM H
       clear H
       have p403 : 0 ≤ (x14_1 : Int) := od_
       have q403 : x14_1 < (l0.length : Int) := od_
       obtain ⟨ad403, A403_1, c403_1, e403, hx403_0, hx403_1, hl403_1, hi403_1⟩ := at_T64 HR0.out x14_1 p403 q403
       obtain rfl : ad402 = ad403 := (by injection e403)
       have HR403_1 := aM hi403_1
       have HC403_1 := aM hl403_1
       clear hi403_1 hl403_1
       replace p403 := eq_true p403
       replace q403 := eq_true q403
       have p404 : 0 ≤ (x49_3 : Int) := od_
       have q404 : x49_3 < (((rd_T64 l0 x14_1).f1).length : Int) := od_
       obtain ⟨ad404, e404, hx404_0, hx404_1⟩ := at_T76 HR403_1.out x49_3 p404 q404
       cases e404
       replace p404 := eq_true p404
       replace q404 := eq_true q404
       have p405 : 0 ≤ (x14_1 : Int) := od_
       have q405 : x14_1 < (l1.length : Int) := od_
       obtain ⟨ad405, A405_1, c405_1, e405, hx405_0, hx405_1, hl405_1, hi405_1⟩ := at_T64 HR1.out x14_1 p405 q405
       cases e405
       have HR405_1 := aM hi405_1
       have HC405_1 := aM hl405_1
       clear hi405_1 hl405_1
       replace p405 := eq_true p405
       replace q405 := eq_true q405
       have p406 : 0 ≤ (x49_3 : Int) := od_
       have q406 : x49_3 < (((rd_T64 l1 x14_1).f1).length : Int) := od_
       obtain ⟨ad406, e406, hx406_0, hx406_1⟩ := at_T76 HR405_1.out x49_3 p406 q406
       cases e406
       replace p406 := eq_true p406
       replace q406 := eq_true q406
       go_wp2
       repeat (go_quiet (fail); try go_wp2)
       go_roundg k3
       case measure => have := HK1.out; have := HJ4.out; have := HK3.out; omega
       case rel => exact ⟨(wrap64 (x49_3 + 1)), rf_, H', ⟨by have := HK1.out; have := HJ4.out; have := HK3.out; omega⟩, dr_⟩
end Go.Proofs.Ytlkjfjlmjgkheaa.H
