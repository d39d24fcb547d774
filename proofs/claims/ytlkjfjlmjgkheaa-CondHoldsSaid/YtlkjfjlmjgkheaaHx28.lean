import Derived.Test.YtlkjfjlmjgkheaaHx0
import Derived.Test.YtlkjfjlmjgkheaaHx4
import Derived.Test.YtlkjfjlmjgkheaaHx22
import Derived.Test.YtlkjfjlmjgkheaaHx25
import Derived.Test.YtlkjfjlmjgkheaaHx27
namespace Go.Proofs.Ytlkjfjlmjgkheaa.H
open Go.RowKit Go.Proofs.YtlkjfjlmjgkheaaW.PrintWords Go.Proofs.YtlkjfjlmjgkheaaW.PrintLast Go.Proofs.YtlkjfjlmjgkheaaW.PrintMore
attribute [local go_sem] max2_int min2_int max_two min_two max_three min_three max_four min_four
set_option linter.unusedVariables false
set_option linter.unusedSimpArgs false
attribute [local go_sem high] eqA83
def r4_Match.l0 : Nat → List (S83) → Int → Int → Int → Int → Option (Bool)
 | 0, _, _, _, _, _ => none
 | k + 1, x7, x8, x9, x373000, x373001 => if x9 < x8 then (if 0 ≤ x9 then (if x9 < (x7.length : Int) then ((r4_In.f k ((rd_T83 x7 x9).f1.f0.f0) ((rd_T83 x7 x9).f1.f0.f1) ((rd_T83 x7 x9).f1.f1) ((rd_T83 x7 x9).f1.f2) x373000 x373001).bind fun t375 => (if t375 = true then (some (!((rd_T83 x7 x9).f0))) else (r4_Match.l0 k x7 x8 (wrap64 (x9 + 1)) x373000 x373001))) else (none)) else (none)) else (some false)
def r4_Match.f (k : Nat) (l0 : List (S83)) (a1_0 : Int) (a1_1 : Int) : Option (Bool) := r4_Match.l0 k l0 (l0.length : Int) 0 a1_0 a1_1
set_option maxHeartbeats 8000000 in
set_option maxRecDepth 100000 in
theorem r4_Match.calls (k : Nat) (A0 : Option Addr) (c0 : Nat) (l0 : List (S83)) (a1_0 : Int) (a1_1 : Int) (r : Bool) (w : World) (hr0 : Kd.C k83 w A0 l0.length l0) (hc0 : l0.length ≤ c0) (h : r4_Match.f k l0 a1_0 a1_1 = some r) :
 Calls Try.prog 64 #[.slice A0 l0.length c0, .agg #[.int .u32 a1_0, .int .i64 a1_1]] w fun e w' => e = .returned (.bool r) ∧ Below w.heap.size w w' := by
 have hu48 := Try.underlying48
 have hu83 := Try.underlying83
 have hu81 := Try.underlying81
 have HR0 := aM hr0
 have HC0 := aM hc0
 clear hr0 hc0
 have HB := aM (Below.refl w.heap.size w)
 have H : (r4_Match.l0 k l0 (l0.length : Int) 0 a1_0 a1_1) = some r := h
 clear h
 have H' := aM H
 clear H
 go_enter Try.func64, Try.ntmps64
 go_wp2_with (first | ((with_reducible refine gd_ 3 rfl ?_); refine be_ #[.int .u32 a1_0, .int .i64 a1_1] 48 ?_; intro gb372 hg w3 BK372 hb; have GW372 := ge_ HB hg; have GE372 := ge_ HB hg; replace HB := bs_ HB hb; clear hb hg))
 go_loopg [9] k (fun kq v9 w' => ∃ (x9_1 : Int), v9 = .int .i64 x9_1 ∧ Aside0 (r4_Match.l0 kq l0 (l0.length : Int) x9_1 a1_0 a1_1 = some r) ∧ Aside0 (kq ≤ k) ∧ Aside0 (w'.heap[gb372]? = some (.cells #[.int .u32 a1_0, .int .i64 a1_1] 48 (0, 0))) ∧ Aside0 (Below w.heap.size w w'))
 case atStart => exact ⟨(0), rf_, H', ⟨Nat.le_refl _⟩, ⟨ub_ BK372.out⟩, ⟨bw_ HB.out⟩⟩
 case round =>
  clear H'
  obtain ⟨x9_1, rfl, HA, HK1, BK372, HB⟩ := hrel
  cases gk with
  | zero => exact absurd HA.out (by simp [r4_Match.l0])
  | succ k1 =>
   have H := HA.out
   clear HA
   simp only [r4_Match.l0] at H
   by_cases c4 : x9_1 < (l0.length : Int)
   rotate_left
   · rw [if_neg c4] at H
     replace c4 := decide_eq_false c4
     obtain rfl := Option.some.inj H
     go_wp2
     first | go_ret | refine ⟨_, results_tmp rfl _ _ _, ?_⟩
     exact fin_ HB
   rw [if_pos c4] at H
   replace c4 := decide_eq_true c4
   obtain ⟨c5, H⟩ := ifd_ H
   obtain ⟨c6, H⟩ := ifd_ H
   obtain ⟨t375, A7, H⟩ := bnd_ H
   by_cases c8 : t375 = true
   · subst c8
     rw [if_pos rfl] at H
     obtain rfl := Option.some.inj H
     have p373 : 0 ≤ (x9_1 : Int) := od_
     have q373 : x9_1 < (l0.length : Int) := od_
     obtain ⟨ad373, e373, hx373_0, hx373_1, hx373_2, hx373_3, hx373_4⟩ := at_T83 (Kd.C_below HR0.out HB.out) x9_1 p373 q373
     cases e373
     replace p373 := eq_true p373
     replace q373 := eq_true q373
     go_wp2_with (first | ((with_reducible refine gd_ 6 rfl ?_); refine be_ #[.bool false, .int .u32 0, .int .i64 0, .int .i64 0, .int .i64 0] 83 ?_; intro gb374 hg w9 BK374 hb; have GW374 := ge_ HB hg; have GE374 := ge_ HB hg; have NB372_374 := nl_ BK372 hg; have NB374_372 := ng_ BK372 hg; replace BK372 := bb_ BK372 hb; replace HB := bs_ HB hb; clear hb hg; have hnb10 := NB374_372.out; have hnc10 := NB372_374.out; obtain ⟨hcz11_0, hcz11_1, hcz11_2, hcz11_3, hcz11_4, hfz11_0, hfz11_1, hfz11_2, hfz11_3, hfz11_4⟩ := bc5_ BK374; obtain ⟨hcz12_0, hcz12_1, hfz12_0, hfz12_1⟩ := bc2_ BK372) | ((with_reducible refine gf_ 92 rfl ?_); refine gL_ (some 16) rfl rfl Try.func92 #[.agg #[.int .u32 ((rd_T83 l0 x9_1).f1.f0.f0), .int .i64 ((rd_T83 l0 x9_1).f1.f0.f1), .int .i64 ((rd_T83 l0 x9_1).f1.f1), .int .i64 ((rd_T83 l0 x9_1).f1.f2)], .agg #[.int .u32 a1_0, .int .i64 a1_1]] rfl ?_; (with_reducible refine (r4_In.calls k1 ((rd_T83 l0 x9_1).f1.f0.f0) ((rd_T83 l0 x9_1).f1.f0.f1) ((rd_T83 l0 x9_1).f1.f1) ((rd_T83 l0 x9_1).f1.f2) a1_0 a1_1 true _ A7.out).mono ?_); rintro e w13 ⟨rfl, hb⟩; refine ⟨_, rfl, ?_⟩; replace BK372 := bb_ BK372 hb; replace BK374 := bp_ (.cells #[.bool ((rd_T83 l0 x9_1).f0), .int .u32 ((rd_T83 l0 x9_1).f1.f0.f0), .int .i64 ((rd_T83 l0 x9_1).f1.f0.f1), .int .i64 ((rd_T83 l0 x9_1).f1.f1), .int .i64 ((rd_T83 l0 x9_1).f1.f2)] 83 (0, 0)) BK374 hb; replace HB := bs_ HB hb; clear hb; obtain ⟨hcz14_0, hcz14_1, hcz14_2, hcz14_3, hcz14_4, hfz14_0, hfz14_1, hfz14_2, hfz14_3, hfz14_4⟩ := bc5_ BK374))
     first | go_ret | refine ⟨_, results_tmp rfl _ _ _, ?_⟩
     exact fin_ HB
   replace c8 := Bool.eq_false_iff.mpr c8
   subst c8
   rw [if_neg (show ¬ (false = true) by decide)] at H
   have H' := aM H
   clear H
   have p373 : 0 ≤ (x9_1 : Int) := od_
   have q373 : x9_1 < (l0.length : Int) := od_
   obtain ⟨ad373, e373, hx373_0, hx373_1, hx373_2, hx373_3, hx373_4⟩ := at_T83 (Kd.C_below HR0.out HB.out) x9_1 p373 q373
   cases e373
   replace p373 := eq_true p373
   replace q373 := eq_true q373
   go_wp2_with (first | ((with_reducible refine gd_ 6 rfl ?_); refine be_ #[.bool false, .int .u32 0, .int .i64 0, .int .i64 0, .int .i64 0] 83 ?_; intro gb374 hg w15 BK374 hb; have GW374 := ge_ HB hg; have GE374 := ge_ HB hg; have NB372_374 := nl_ BK372 hg; have NB374_372 := ng_ BK372 hg; replace BK372 := bb_ BK372 hb; replace HB := bs_ HB hb; clear hb hg; have hnb16 := NB374_372.out; have hnc16 := NB372_374.out; obtain ⟨hcz17_0, hcz17_1, hcz17_2, hcz17_3, hcz17_4, hfz17_0, hfz17_1, hfz17_2, hfz17_3, hfz17_4⟩ := bc5_ BK374; obtain ⟨hcz18_0, hcz18_1, hfz18_0, hfz18_1⟩ := bc2_ BK372) | ((with_reducible refine gf_ 92 rfl ?_); refine gL_ (some 16) rfl rfl Try.func92 #[.agg #[.int .u32 ((rd_T83 l0 x9_1).f1.f0.f0), .int .i64 ((rd_T83 l0 x9_1).f1.f0.f1), .int .i64 ((rd_T83 l0 x9_1).f1.f1), .int .i64 ((rd_T83 l0 x9_1).f1.f2)], .agg #[.int .u32 a1_0, .int .i64 a1_1]] rfl ?_; (with_reducible refine (r4_In.calls k1 ((rd_T83 l0 x9_1).f1.f0.f0) ((rd_T83 l0 x9_1).f1.f0.f1) ((rd_T83 l0 x9_1).f1.f1) ((rd_T83 l0 x9_1).f1.f2) a1_0 a1_1 false _ A7.out).mono ?_); rintro e w19 ⟨rfl, hb⟩; refine ⟨_, rfl, ?_⟩; replace BK372 := bb_ BK372 hb; replace BK374 := bp_ (.cells #[.bool ((rd_T83 l0 x9_1).f0), .int .u32 ((rd_T83 l0 x9_1).f1.f0.f0), .int .i64 ((rd_T83 l0 x9_1).f1.f0.f1), .int .i64 ((rd_T83 l0 x9_1).f1.f1), .int .i64 ((rd_T83 l0 x9_1).f1.f2)] 83 (0, 0)) BK374 hb; replace HB := bs_ HB hb; clear hb))
   go_roundg k1
   case measure => have := HK1.out; omega
   case rel => exact ⟨(wrap64 (x9_1 + 1)), rf_, H', ⟨by have := HK1.out; omega⟩, ⟨ub_ BK372.out⟩, ⟨bw_ HB.out⟩⟩
def dragomanref11_Holds.f (k : Nat) (a0_0 : Int) (l0_1 : List (S83)) (l0_2 : List (S61)) (l0_3 : List (S64)) (a0_4 : Int) (a0_5 : Int) (a1_0 : Int) (a1_1 : Int) (l1_2 : List Int) (l1_3 : List Int) (a1_4 : Int) (a1_5 : Int) (a1_6 : Int) (a1_7 : Int) : Option (Bool) := (dragomanref11_Right.f k a0_0 l0_1 l0_2 l0_3 a0_4 a0_5).bind fun t378 => (if t378 = true then (if a0_0 = 1 then ((r4_Match.f k l0_1 a1_0 a1_1).bind fun t379 => (some t379)) else (if a0_0 = 2 then ((dragomanref11_TakesPath.f k l0_2 l1_2).bind fun t380 => (some t380)) else (if a0_0 = 3 then ((dragomanref11_TakesComms.f k l0_3 l1_3).bind fun t381 => (some t381)) else (if a0_0 = 4 then (if a1_4 ≥ a0_4 then (some (decide (a1_4 ≤ a0_5))) else (some false)) else (if a0_0 = 5 then (if a1_5 ≥ a0_4 then (some (decide (a1_5 ≤ a0_5))) else (some false)) else (if a0_0 = 6 then (if a1_6 ≥ 0 then (if a1_6 ≥ (wrap64 (a0_4)) then (some (decide (a1_6 ≤ (wrap64 (a0_5))))) else (some false)) else (some false)) else ((r4_Match.f k l0_1 a1_7 32).bind fun t382 => (some t382)))))))) else (some false))
set_option maxHeartbeats 8000000 in
set_option maxRecDepth 100000 in
theorem dragomanref11_Holds.calls (k : Nat) (a0_0 : Int) (A0_1 : Option Addr) (c0_1 : Nat) (l0_1 : List (S83)) (A0_2 : Option Addr) (c0_2 : Nat) (l0_2 : List (S61)) (A0_3 : Option Addr) (c0_3 : Nat) (l0_3 : List (S64)) (a0_4 : Int) (a0_5 : Int) (a1_0 : Int) (a1_1 : Int) (A1_2 : Option Addr) (c1_2 : Nat) (l1_2 : List Int) (A1_3 : Option Addr) (c1_3 : Nat) (l1_3 : List Int) (a1_4 : Int) (a1_5 : Int) (a1_6 : Int) (a1_7 : Int) (r : Bool) (w : World) (hr0_1 : Kd.C k83 w A0_1 l0_1.length l0_1) (hc0_1 : l0_1.length ≤ c0_1) (hr0_2 : Kd.C k61 w A0_2 l0_2.length l0_2) (hc0_2 : l0_2.length ≤ c0_2) (hr0_3 : Kd.C k64 w A0_3 l0_3.length l0_3) (hc0_3 : l0_3.length ≤ c0_3) (hr1_2 : Kd.C (Kd.int .u32) w A1_2 l1_2.length l1_2) (hc1_2 : l1_2.length ≤ c1_2) (hr1_3 : Kd.C (Kd.int .u32) w A1_3 l1_3.length l1_3) (hc1_3 : l1_3.length ≤ c1_3) (h : dragomanref11_Holds.f k a0_0 l0_1 l0_2 l0_3 a0_4 a0_5 a1_0 a1_1 l1_2 l1_3 a1_4 a1_5 a1_6 a1_7 = some r) :
 Calls Try.prog 35 #[.agg #[.int .i64 a0_0, .slice A0_1 l0_1.length c0_1, .slice A0_2 l0_2.length c0_2, .slice A0_3 l0_3.length c0_3, .int .u32 a0_4, .int .u32 a0_5], .agg #[.int .u32 a1_0, .int .i64 a1_1, .slice A1_2 l1_2.length c1_2, .slice A1_3 l1_3.length c1_3, .int .u32 a1_4, .int .u32 a1_5, .int .i64 a1_6, .int .u32 a1_7]] w fun e w' => e = .returned (.bool r) ∧ Below w.heap.size w w' := by
 have hu46 := Try.underlying46
 have hu50 := Try.underlying50
 have hu48 := Try.underlying48
 have HR0_1 := aM hr0_1
 have HC0_1 := aM hc0_1
 clear hr0_1 hc0_1
 have HR0_2 := aM hr0_2
 have HC0_2 := aM hc0_2
 clear hr0_2 hc0_2
 have HR0_3 := aM hr0_3
 have HC0_3 := aM hc0_3
 clear hr0_3 hc0_3
 have HR1_2 := aM hr1_2
 have HC1_2 := aM hc1_2
 clear hr1_2 hc1_2
 have HR1_3 := aM hr1_3
 have HC1_3 := aM hc1_3
 clear hr1_3 hc1_3
 have HB := aM (Below.refl w.heap.size w)
 have H : ((dragomanref11_Right.f k a0_0 l0_1 l0_2 l0_3 a0_4 a0_5).bind fun t378 => (if t378 = true then (if a0_0 = 1 then ((r4_Match.f k l0_1 a1_0 a1_1).bind fun t379 => (some t379)) else (if a0_0 = 2 then ((dragomanref11_TakesPath.f k l0_2 l1_2).bind fun t380 => (some t380)) else (if a0_0 = 3 then ((dragomanref11_TakesComms.f k l0_3 l1_3).bind fun t381 => (some t381)) else (if a0_0 = 4 then (if a1_4 ≥ a0_4 then (some (decide (a1_4 ≤ a0_5))) else (some false)) else (if a0_0 = 5 then (if a1_5 ≥ a0_4 then (some (decide (a1_5 ≤ a0_5))) else (some false)) else (if a0_0 = 6 then (if a1_6 ≥ 0 then (if a1_6 ≥ (wrap64 (a0_4)) then (some (decide (a1_6 ≤ (wrap64 (a0_5))))) else (some false)) else (some false)) else ((r4_Match.f k l0_1 a1_7 32).bind fun t382 => (some t382)))))))) else (some false))) = some r := h
 clear h
 obtain ⟨t378, A3, H⟩ := bnd_ H
 by_cases c4 : t378 = true
 rotate_left
 · replace c4 := Bool.eq_false_iff.mpr c4
   subst c4
   rw [if_neg (show ¬ (false = true) by decide)] at H
   obtain rfl := Option.some.inj H
   go_enter Try.func35, Try.ntmps35
   go_wp2_with (first | ((with_reducible refine gd_ 2 rfl ?_); refine be_ #[.int .i64 a0_0, .slice A0_1 l0_1.length c0_1, .slice A0_2 l0_2.length c0_2, .slice A0_3 l0_3.length c0_3, .int .u32 a0_4, .int .u32 a0_5] 46 ?_; intro gb376 hg w100 BK376 hb; have GW376 := ge_ HB hg; have GE376 := ge_ HB hg; replace HB := bs_ HB hb; clear hb hg) | ((with_reducible refine gd_ 3 rfl ?_); refine be_ #[.int .u32 a1_0, .int .i64 a1_1, .slice A1_2 l1_2.length c1_2, .slice A1_3 l1_3.length c1_3, .int .u32 a1_4, .int .u32 a1_5, .int .i64 a1_6, .int .u32 a1_7] 50 ?_; intro gb377 hg w101 BK377 hb; have GW377 := ge_ HB hg; have GE377 := ge_ HB hg; have NB376_377 := nl_ BK376 hg; have NB377_376 := ng_ BK376 hg; replace BK376 := bb_ BK376 hb; replace HB := bs_ HB hb; clear hb hg; have hnb102 := NB376_377.out; have hnc102 := NB377_376.out; obtain ⟨hcz103_0, hcz103_1, hcz103_2, hcz103_3, hcz103_4, hcz103_5, hfz103_0, hfz103_1, hfz103_2, hfz103_3, hfz103_4, hfz103_5⟩ := bc6_ BK376) | ((with_reducible refine gf_ 33 rfl ?_); refine gL_ (some 6) rfl rfl Try.func33 #[.agg #[.int .i64 a0_0, .slice A0_1 l0_1.length c0_1, .slice A0_2 l0_2.length c0_2, .slice A0_3 l0_3.length c0_3, .int .u32 a0_4, .int .u32 a0_5]] rfl ?_; (with_reducible refine (dragomanref11_Right.calls k a0_0 _ _ l0_1 _ _ l0_2 _ _ l0_3 a0_4 a0_5 false _ ?side1 ?side2 ?side3 ?side4 ?side5 ?side6 A3.out).mono ?_); (case side1 => exact cB_ HR0_1 HB); (case side2 => exact HC0_1.out); (case side3 => exact cB_ HR0_2 HB); (case side4 => exact HC0_2.out); (case side5 => exact cB_ HR0_3 HB); (case side6 => exact HC0_3.out); rintro e w104 ⟨rfl, hb⟩; refine ⟨_, rfl, ?_⟩; replace BK376 := bb_ BK376 hb; replace BK377 := bb_ BK377 hb; replace HB := bs_ HB hb; clear hb))
   first | go_ret | refine ⟨_, results_tmp rfl _ _ _, ?_⟩
   exact fin_ HB
 subst c4
 rw [if_pos rfl] at H
 by_cases c5 : a0_0 = 1
 · rw [if_pos c5] at H
   have c5b0 : (a0_0 == 1) = true := beq_iff_eq.mpr c5
   have c5b1 : (a0_0 != 1) = false := bne_eq_false_iff_eq.mpr c5
   clear c5
   obtain ⟨t379, A6, H⟩ := bnd_ H
   obtain rfl := Option.some.inj H
   go_enter Try.func35, Try.ntmps35
   go_wp2_with (first | ((with_reducible refine gd_ 2 rfl ?_); refine be_ #[.int .i64 a0_0, .slice A0_1 l0_1.length c0_1, .slice A0_2 l0_2.length c0_2, .slice A0_3 l0_3.length c0_3, .int .u32 a0_4, .int .u32 a0_5] 46 ?_; intro gb376 hg w7 BK376 hb; have GW376 := ge_ HB hg; have GE376 := ge_ HB hg; replace HB := bs_ HB hb; clear hb hg) | ((with_reducible refine gd_ 3 rfl ?_); refine be_ #[.int .u32 a1_0, .int .i64 a1_1, .slice A1_2 l1_2.length c1_2, .slice A1_3 l1_3.length c1_3, .int .u32 a1_4, .int .u32 a1_5, .int .i64 a1_6, .int .u32 a1_7] 50 ?_; intro gb377 hg w8 BK377 hb; have GW377 := ge_ HB hg; have GE377 := ge_ HB hg; have NB376_377 := nl_ BK376 hg; have NB377_376 := ng_ BK376 hg; replace BK376 := bb_ BK376 hb; replace HB := bs_ HB hb; clear hb hg; have hnb9 := NB376_377.out; have hnc9 := NB377_376.out; obtain ⟨hcz10_0, hcz10_1, hcz10_2, hcz10_3, hcz10_4, hcz10_5, hfz10_0, hfz10_1, hfz10_2, hfz10_3, hfz10_4, hfz10_5⟩ := bc6_ BK376) | ((with_reducible refine gf_ 33 rfl ?_); refine gL_ (some 6) rfl rfl Try.func33 #[.agg #[.int .i64 a0_0, .slice A0_1 l0_1.length c0_1, .slice A0_2 l0_2.length c0_2, .slice A0_3 l0_3.length c0_3, .int .u32 a0_4, .int .u32 a0_5]] rfl ?_; (with_reducible refine (dragomanref11_Right.calls k a0_0 _ _ l0_1 _ _ l0_2 _ _ l0_3 a0_4 a0_5 true _ ?side1 ?side2 ?side3 ?side4 ?side5 ?side6 A3.out).mono ?_); (case side1 => exact cB_ HR0_1 HB); (case side2 => exact HC0_1.out); (case side3 => exact cB_ HR0_2 HB); (case side4 => exact HC0_2.out); (case side5 => exact cB_ HR0_3 HB); (case side6 => exact HC0_3.out); rintro e w11 ⟨rfl, hb⟩; refine ⟨_, rfl, ?_⟩; replace BK376 := bb_ BK376 hb; replace BK377 := bb_ BK377 hb; replace HB := bs_ HB hb; clear hb; obtain ⟨hcz12_0, hcz12_1, hcz12_2, hcz12_3, hcz12_4, hcz12_5, hfz12_0, hfz12_1, hfz12_2, hfz12_3, hfz12_4, hfz12_5⟩ := bc6_ BK376; obtain ⟨hcz13_0, hcz13_1, hcz13_2, hcz13_3, hcz13_4, hcz13_5, hcz13_6, hcz13_7, hfz13_0, hfz13_1, hfz13_2, hfz13_3, hfz13_4, hfz13_5, hfz13_6, hfz13_7⟩ := bc8_ BK377) | ((with_reducible refine gf_ 64 rfl ?_); refine gL_ (some 16) rfl rfl Try.func64 #[.slice A0_1 l0_1.length c0_1, .agg #[.int .u32 a1_0, .int .i64 a1_1]] rfl ?_; (with_reducible refine (r4_Match.calls k _ _ l0_1 a1_0 a1_1 t379 _ ?side1 ?side2 A6.out).mono ?_); (case side1 => exact cB_ HR0_1 HB); (case side2 => exact HC0_1.out); rintro e w14 ⟨rfl, hb⟩; refine ⟨_, rfl, ?_⟩; replace BK376 := bb_ BK376 hb; replace BK377 := bb_ BK377 hb; replace HB := bs_ HB hb; clear hb))
   first | go_ret | refine ⟨_, results_tmp rfl _ _ _, ?_⟩
   exact fin_ HB
 rw [if_neg c5] at H
 have c5b0 : (a0_0 == 1) = false := beq_eq_false_iff_ne.mpr c5
 have c5b1 : (a0_0 != 1) = true := bne_iff_ne.mpr c5
 by_cases c15 : a0_0 = 2
 · rw [if_pos c15] at H
   have c15b0 : (a0_0 == 2) = true := beq_iff_eq.mpr c15
   have c15b1 : (a0_0 != 2) = false := bne_eq_false_iff_eq.mpr c15
   clear c15
   obtain ⟨t380, A16, H⟩ := bnd_ H
   obtain rfl := Option.some.inj H
   go_enter Try.func35, Try.ntmps35
   go_wp2_with (first | ((with_reducible refine gd_ 2 rfl ?_); refine be_ #[.int .i64 a0_0, .slice A0_1 l0_1.length c0_1, .slice A0_2 l0_2.length c0_2, .slice A0_3 l0_3.length c0_3, .int .u32 a0_4, .int .u32 a0_5] 46 ?_; intro gb376 hg w17 BK376 hb; have GW376 := ge_ HB hg; have GE376 := ge_ HB hg; replace HB := bs_ HB hb; clear hb hg) | ((with_reducible refine gd_ 3 rfl ?_); refine be_ #[.int .u32 a1_0, .int .i64 a1_1, .slice A1_2 l1_2.length c1_2, .slice A1_3 l1_3.length c1_3, .int .u32 a1_4, .int .u32 a1_5, .int .i64 a1_6, .int .u32 a1_7] 50 ?_; intro gb377 hg w18 BK377 hb; have GW377 := ge_ HB hg; have GE377 := ge_ HB hg; have NB376_377 := nl_ BK376 hg; have NB377_376 := ng_ BK376 hg; replace BK376 := bb_ BK376 hb; replace HB := bs_ HB hb; clear hb hg; have hnb19 := NB376_377.out; have hnc19 := NB377_376.out; obtain ⟨hcz20_0, hcz20_1, hcz20_2, hcz20_3, hcz20_4, hcz20_5, hfz20_0, hfz20_1, hfz20_2, hfz20_3, hfz20_4, hfz20_5⟩ := bc6_ BK376) | ((with_reducible refine gf_ 33 rfl ?_); refine gL_ (some 6) rfl rfl Try.func33 #[.agg #[.int .i64 a0_0, .slice A0_1 l0_1.length c0_1, .slice A0_2 l0_2.length c0_2, .slice A0_3 l0_3.length c0_3, .int .u32 a0_4, .int .u32 a0_5]] rfl ?_; (with_reducible refine (dragomanref11_Right.calls k a0_0 _ _ l0_1 _ _ l0_2 _ _ l0_3 a0_4 a0_5 true _ ?side1 ?side2 ?side3 ?side4 ?side5 ?side6 A3.out).mono ?_); (case side1 => exact cB_ HR0_1 HB); (case side2 => exact HC0_1.out); (case side3 => exact cB_ HR0_2 HB); (case side4 => exact HC0_2.out); (case side5 => exact cB_ HR0_3 HB); (case side6 => exact HC0_3.out); rintro e w21 ⟨rfl, hb⟩; refine ⟨_, rfl, ?_⟩; replace BK376 := bb_ BK376 hb; replace BK377 := bb_ BK377 hb; replace HB := bs_ HB hb; clear hb; obtain ⟨hcz22_0, hcz22_1, hcz22_2, hcz22_3, hcz22_4, hcz22_5, hfz22_0, hfz22_1, hfz22_2, hfz22_3, hfz22_4, hfz22_5⟩ := bc6_ BK376; obtain ⟨hcz23_0, hcz23_1, hcz23_2, hcz23_3, hcz23_4, hcz23_5, hcz23_6, hcz23_7, hfz23_0, hfz23_1, hfz23_2, hfz23_3, hfz23_4, hfz23_5, hfz23_6, hfz23_7⟩ := bc8_ BK377) | ((with_reducible refine gf_ 39 rfl ?_); refine gL_ (some 23) rfl rfl Try.func39 #[.slice A0_2 l0_2.length c0_2, .slice A1_2 l1_2.length c1_2] rfl ?_; (with_reducible refine (dragomanref11_TakesPath.calls k _ _ l0_2 _ _ l1_2 t380 _ ?side1 ?side2 ?side3 ?side4 A16.out).mono ?_); (case side1 => exact cB_ HR0_2 HB); (case side2 => exact HC0_2.out); (case side3 => exact cB_ HR1_2 HB); (case side4 => exact HC1_2.out); rintro e w24 ⟨rfl, hb⟩; refine ⟨_, rfl, ?_⟩; replace BK376 := bb_ BK376 hb; replace BK377 := bb_ BK377 hb; replace HB := bs_ HB hb; clear hb))
   first | go_ret | refine ⟨_, results_tmp rfl _ _ _, ?_⟩
   exact fin_ HB
 rw [if_neg c15] at H
 have c15b0 : (a0_0 == 2) = false := beq_eq_false_iff_ne.mpr c15
 have c15b1 : (a0_0 != 2) = true := bne_iff_ne.mpr c15
 by_cases c25 : a0_0 = 3
 · rw [if_pos c25] at H
   have c25b0 : (a0_0 == 3) = true := beq_iff_eq.mpr c25
   have c25b1 : (a0_0 != 3) = false := bne_eq_false_iff_eq.mpr c25
   clear c25
   obtain ⟨t381, A26, H⟩ := bnd_ H
   obtain rfl := Option.some.inj H
   go_enter Try.func35, Try.ntmps35
   go_wp2_with (first | ((with_reducible refine gd_ 2 rfl ?_); refine be_ #[.int .i64 a0_0, .slice A0_1 l0_1.length c0_1, .slice A0_2 l0_2.length c0_2, .slice A0_3 l0_3.length c0_3, .int .u32 a0_4, .int .u32 a0_5] 46 ?_; intro gb376 hg w27 BK376 hb; have GW376 := ge_ HB hg; have GE376 := ge_ HB hg; replace HB := bs_ HB hb; clear hb hg) | ((with_reducible refine gd_ 3 rfl ?_); refine be_ #[.int .u32 a1_0, .int .i64 a1_1, .slice A1_2 l1_2.length c1_2, .slice A1_3 l1_3.length c1_3, .int .u32 a1_4, .int .u32 a1_5, .int .i64 a1_6, .int .u32 a1_7] 50 ?_; intro gb377 hg w28 BK377 hb; have GW377 := ge_ HB hg; have GE377 := ge_ HB hg; have NB376_377 := nl_ BK376 hg; have NB377_376 := ng_ BK376 hg; replace BK376 := bb_ BK376 hb; replace HB := bs_ HB hb; clear hb hg; have hnb29 := NB376_377.out; have hnc29 := NB377_376.out; obtain ⟨hcz30_0, hcz30_1, hcz30_2, hcz30_3, hcz30_4, hcz30_5, hfz30_0, hfz30_1, hfz30_2, hfz30_3, hfz30_4, hfz30_5⟩ := bc6_ BK376) | ((with_reducible refine gf_ 33 rfl ?_); refine gL_ (some 6) rfl rfl Try.func33 #[.agg #[.int .i64 a0_0, .slice A0_1 l0_1.length c0_1, .slice A0_2 l0_2.length c0_2, .slice A0_3 l0_3.length c0_3, .int .u32 a0_4, .int .u32 a0_5]] rfl ?_; (with_reducible refine (dragomanref11_Right.calls k a0_0 _ _ l0_1 _ _ l0_2 _ _ l0_3 a0_4 a0_5 true _ ?side1 ?side2 ?side3 ?side4 ?side5 ?side6 A3.out).mono ?_); (case side1 => exact cB_ HR0_1 HB); (case side2 => exact HC0_1.out); (case side3 => exact cB_ HR0_2 HB); (case side4 => exact HC0_2.out); (case side5 => exact cB_ HR0_3 HB); (case side6 => exact HC0_3.out); rintro e w31 ⟨rfl, hb⟩; refine ⟨_, rfl, ?_⟩; replace BK376 := bb_ BK376 hb; replace BK377 := bb_ BK377 hb; replace HB := bs_ HB hb; clear hb; obtain ⟨hcz32_0, hcz32_1, hcz32_2, hcz32_3, hcz32_4, hcz32_5, hfz32_0, hfz32_1, hfz32_2, hfz32_3, hfz32_4, hfz32_5⟩ := bc6_ BK376; obtain ⟨hcz33_0, hcz33_1, hcz33_2, hcz33_3, hcz33_4, hcz33_5, hcz33_6, hcz33_7, hfz33_0, hfz33_1, hfz33_2, hfz33_3, hfz33_4, hfz33_5, hfz33_6, hfz33_7⟩ := bc8_ BK377) | ((with_reducible refine gf_ 41 rfl ?_); refine gL_ (some 30) rfl rfl Try.func41 #[.slice A0_3 l0_3.length c0_3, .slice A1_3 l1_3.length c1_3] rfl ?_; (with_reducible refine (dragomanref11_TakesComms.calls k _ _ l0_3 _ _ l1_3 t381 _ ?side1 ?side2 ?side3 ?side4 A26.out).mono ?_); (case side1 => exact cB_ HR0_3 HB); (case side2 => exact HC0_3.out); (case side3 => exact cB_ HR1_3 HB); (case side4 => exact HC1_3.out); rintro e w34 ⟨rfl, hb⟩; refine ⟨_, rfl, ?_⟩; replace BK376 := bb_ BK376 hb; replace BK377 := bb_ BK377 hb; replace HB := bs_ HB hb; clear hb))
   first | go_ret | refine ⟨_, results_tmp rfl _ _ _, ?_⟩
   exact fin_ HB
 rw [if_neg c25] at H
 have c25b0 : (a0_0 == 3) = false := beq_eq_false_iff_ne.mpr c25
 have c25b1 : (a0_0 != 3) = true := bne_iff_ne.mpr c25
 by_cases c35 : a0_0 = 4
 · rw [if_pos c35] at H
   have c35b0 : (a0_0 == 4) = true := beq_iff_eq.mpr c35
   have c35b1 : (a0_0 != 4) = false := bne_eq_false_iff_eq.mpr c35
   clear c35
   by_cases c36 : a1_4 ≥ a0_4
   · rw [if_pos c36] at H
     have c36b0 : decide (a0_4 ≤ a1_4) = true := decide_eq_true c36
     clear c36
     obtain rfl := Option.some.inj H
     go_enter Try.func35, Try.ntmps35
     go_wp2_with (first | ((with_reducible refine gd_ 2 rfl ?_); refine be_ #[.int .i64 a0_0, .slice A0_1 l0_1.length c0_1, .slice A0_2 l0_2.length c0_2, .slice A0_3 l0_3.length c0_3, .int .u32 a0_4, .int .u32 a0_5] 46 ?_; intro gb376 hg w37 BK376 hb; have GW376 := ge_ HB hg; have GE376 := ge_ HB hg; replace HB := bs_ HB hb; clear hb hg) | ((with_reducible refine gd_ 3 rfl ?_); refine be_ #[.int .u32 a1_0, .int .i64 a1_1, .slice A1_2 l1_2.length c1_2, .slice A1_3 l1_3.length c1_3, .int .u32 a1_4, .int .u32 a1_5, .int .i64 a1_6, .int .u32 a1_7] 50 ?_; intro gb377 hg w38 BK377 hb; have GW377 := ge_ HB hg; have GE377 := ge_ HB hg; have NB376_377 := nl_ BK376 hg; have NB377_376 := ng_ BK376 hg; replace BK376 := bb_ BK376 hb; replace HB := bs_ HB hb; clear hb hg; have hnb39 := NB376_377.out; have hnc39 := NB377_376.out; obtain ⟨hcz40_0, hcz40_1, hcz40_2, hcz40_3, hcz40_4, hcz40_5, hfz40_0, hfz40_1, hfz40_2, hfz40_3, hfz40_4, hfz40_5⟩ := bc6_ BK376) | ((with_reducible refine gf_ 33 rfl ?_); refine gL_ (some 6) rfl rfl Try.func33 #[.agg #[.int .i64 a0_0, .slice A0_1 l0_1.length c0_1, .slice A0_2 l0_2.length c0_2, .slice A0_3 l0_3.length c0_3, .int .u32 a0_4, .int .u32 a0_5]] rfl ?_; (with_reducible refine (dragomanref11_Right.calls k a0_0 _ _ l0_1 _ _ l0_2 _ _ l0_3 a0_4 a0_5 true _ ?side1 ?side2 ?side3 ?side4 ?side5 ?side6 A3.out).mono ?_); (case side1 => exact cB_ HR0_1 HB); (case side2 => exact HC0_1.out); (case side3 => exact cB_ HR0_2 HB); (case side4 => exact HC0_2.out); (case side5 => exact cB_ HR0_3 HB); (case side6 => exact HC0_3.out); rintro e w41 ⟨rfl, hb⟩; refine ⟨_, rfl, ?_⟩; replace BK376 := bb_ BK376 hb; replace BK377 := bb_ BK377 hb; replace HB := bs_ HB hb; clear hb; obtain ⟨hcz42_0, hcz42_1, hcz42_2, hcz42_3, hcz42_4, hcz42_5, hfz42_0, hfz42_1, hfz42_2, hfz42_3, hfz42_4, hfz42_5⟩ := bc6_ BK376; obtain ⟨hcz43_0, hcz43_1, hcz43_2, hcz43_3, hcz43_4, hcz43_5, hcz43_6, hcz43_7, hfz43_0, hfz43_1, hfz43_2, hfz43_3, hfz43_4, hfz43_5, hfz43_6, hfz43_7⟩ := bc8_ BK377))
     first | go_ret | refine ⟨_, results_tmp rfl _ _ _, ?_⟩
     exact fin_ HB
   rw [if_neg c36] at H
   have c36b0 : decide (a0_4 ≤ a1_4) = false := decide_eq_false c36
   clear c36
   obtain rfl := Option.some.inj H
   go_enter Try.func35, Try.ntmps35
   go_wp2_with (first | ((with_reducible refine gd_ 2 rfl ?_); refine be_ #[.int .i64 a0_0, .slice A0_1 l0_1.length c0_1, .slice A0_2 l0_2.length c0_2, .slice A0_3 l0_3.length c0_3, .int .u32 a0_4, .int .u32 a0_5] 46 ?_; intro gb376 hg w44 BK376 hb; have GW376 := ge_ HB hg; have GE376 := ge_ HB hg; replace HB := bs_ HB hb; clear hb hg) | ((with_reducible refine gd_ 3 rfl ?_); refine be_ #[.int .u32 a1_0, .int .i64 a1_1, .slice A1_2 l1_2.length c1_2, .slice A1_3 l1_3.length c1_3, .int .u32 a1_4, .int .u32 a1_5, .int .i64 a1_6, .int .u32 a1_7] 50 ?_; intro gb377 hg w45 BK377 hb; have GW377 := ge_ HB hg; have GE377 := ge_ HB hg; have NB376_377 := nl_ BK376 hg; have NB377_376 := ng_ BK376 hg; replace BK376 := bb_ BK376 hb; replace HB := bs_ HB hb; clear hb hg; have hnb46 := NB376_377.out; have hnc46 := NB377_376.out; obtain ⟨hcz47_0, hcz47_1, hcz47_2, hcz47_3, hcz47_4, hcz47_5, hfz47_0, hfz47_1, hfz47_2, hfz47_3, hfz47_4, hfz47_5⟩ := bc6_ BK376) | ((with_reducible refine gf_ 33 rfl ?_); refine gL_ (some 6) rfl rfl Try.func33 #[.agg #[.int .i64 a0_0, .slice A0_1 l0_1.length c0_1, .slice A0_2 l0_2.length c0_2, .slice A0_3 l0_3.length c0_3, .int .u32 a0_4, .int .u32 a0_5]] rfl ?_; (with_reducible refine (dragomanref11_Right.calls k a0_0 _ _ l0_1 _ _ l0_2 _ _ l0_3 a0_4 a0_5 true _ ?side1 ?side2 ?side3 ?side4 ?side5 ?side6 A3.out).mono ?_); (case side1 => exact cB_ HR0_1 HB); (case side2 => exact HC0_1.out); (case side3 => exact cB_ HR0_2 HB); (case side4 => exact HC0_2.out); (case side5 => exact cB_ HR0_3 HB); (case side6 => exact HC0_3.out); rintro e w48 ⟨rfl, hb⟩; refine ⟨_, rfl, ?_⟩; replace BK376 := bb_ BK376 hb; replace BK377 := bb_ BK377 hb; replace HB := bs_ HB hb; clear hb; obtain ⟨hcz49_0, hcz49_1, hcz49_2, hcz49_3, hcz49_4, hcz49_5, hfz49_0, hfz49_1, hfz49_2, hfz49_3, hfz49_4, hfz49_5⟩ := bc6_ BK376; obtain ⟨hcz50_0, hcz50_1, hcz50_2, hcz50_3, hcz50_4, hcz50_5, hcz50_6, hcz50_7, hfz50_0, hfz50_1, hfz50_2, hfz50_3, hfz50_4, hfz50_5, hfz50_6, hfz50_7⟩ := bc8_ BK377))
   first | go_ret | refine ⟨_, results_tmp rfl _ _ _, ?_⟩
   exact fin_ HB
 rw [if_neg c35] at H
 have c35b0 : (a0_0 == 4) = false := beq_eq_false_iff_ne.mpr c35
 have c35b1 : (a0_0 != 4) = true := bne_iff_ne.mpr c35
 by_cases c51 : a0_0 = 5
 · rw [if_pos c51] at H
   have c51b0 : (a0_0 == 5) = true := beq_iff_eq.mpr c51
   have c51b1 : (a0_0 != 5) = false := bne_eq_false_iff_eq.mpr c51
   clear c51
   by_cases c52 : a1_5 ≥ a0_4
   · rw [if_pos c52] at H
     have c52b0 : decide (a0_4 ≤ a1_5) = true := decide_eq_true c52
     clear c52
     obtain rfl := Option.some.inj H
     go_enter Try.func35, Try.ntmps35
     go_wp2_with (first | ((with_reducible refine gd_ 2 rfl ?_); refine be_ #[.int .i64 a0_0, .slice A0_1 l0_1.length c0_1, .slice A0_2 l0_2.length c0_2, .slice A0_3 l0_3.length c0_3, .int .u32 a0_4, .int .u32 a0_5] 46 ?_; intro gb376 hg w53 BK376 hb; have GW376 := ge_ HB hg; have GE376 := ge_ HB hg; replace HB := bs_ HB hb; clear hb hg) | ((with_reducible refine gd_ 3 rfl ?_); refine be_ #[.int .u32 a1_0, .int .i64 a1_1, .slice A1_2 l1_2.length c1_2, .slice A1_3 l1_3.length c1_3, .int .u32 a1_4, .int .u32 a1_5, .int .i64 a1_6, .int .u32 a1_7] 50 ?_; intro gb377 hg w54 BK377 hb; have GW377 := ge_ HB hg; have GE377 := ge_ HB hg; have NB376_377 := nl_ BK376 hg; have NB377_376 := ng_ BK376 hg; replace BK376 := bb_ BK376 hb; replace HB := bs_ HB hb; clear hb hg; have hnb55 := NB376_377.out; have hnc55 := NB377_376.out; obtain ⟨hcz56_0, hcz56_1, hcz56_2, hcz56_3, hcz56_4, hcz56_5, hfz56_0, hfz56_1, hfz56_2, hfz56_3, hfz56_4, hfz56_5⟩ := bc6_ BK376) | ((with_reducible refine gf_ 33 rfl ?_); refine gL_ (some 6) rfl rfl Try.func33 #[.agg #[.int .i64 a0_0, .slice A0_1 l0_1.length c0_1, .slice A0_2 l0_2.length c0_2, .slice A0_3 l0_3.length c0_3, .int .u32 a0_4, .int .u32 a0_5]] rfl ?_; (with_reducible refine (dragomanref11_Right.calls k a0_0 _ _ l0_1 _ _ l0_2 _ _ l0_3 a0_4 a0_5 true _ ?side1 ?side2 ?side3 ?side4 ?side5 ?side6 A3.out).mono ?_); (case side1 => exact cB_ HR0_1 HB); (case side2 => exact HC0_1.out); (case side3 => exact cB_ HR0_2 HB); (case side4 => exact HC0_2.out); (case side5 => exact cB_ HR0_3 HB); (case side6 => exact HC0_3.out); rintro e w57 ⟨rfl, hb⟩; refine ⟨_, rfl, ?_⟩; replace BK376 := bb_ BK376 hb; replace BK377 := bb_ BK377 hb; replace HB := bs_ HB hb; clear hb; obtain ⟨hcz58_0, hcz58_1, hcz58_2, hcz58_3, hcz58_4, hcz58_5, hfz58_0, hfz58_1, hfz58_2, hfz58_3, hfz58_4, hfz58_5⟩ := bc6_ BK376; obtain ⟨hcz59_0, hcz59_1, hcz59_2, hcz59_3, hcz59_4, hcz59_5, hcz59_6, hcz59_7, hfz59_0, hfz59_1, hfz59_2, hfz59_3, hfz59_4, hfz59_5, hfz59_6, hfz59_7⟩ := bc8_ BK377))
     first | go_ret | refine ⟨_, results_tmp rfl _ _ _, ?_⟩
     exact fin_ HB
   rw [if_neg c52] at H
   have c52b0 : decide (a0_4 ≤ a1_5) = false := decide_eq_false c52
   clear c52
   obtain rfl := Option.some.inj H
   go_enter Try.func35, Try.ntmps35
   go_wp2_with (first | ((with_reducible refine gd_ 2 rfl ?_); refine be_ #[.int .i64 a0_0, .slice A0_1 l0_1.length c0_1, .slice A0_2 l0_2.length c0_2, .slice A0_3 l0_3.length c0_3, .int .u32 a0_4, .int .u32 a0_5] 46 ?_; intro gb376 hg w60 BK376 hb; have GW376 := ge_ HB hg; have GE376 := ge_ HB hg; replace HB := bs_ HB hb; clear hb hg) | ((with_reducible refine gd_ 3 rfl ?_); refine be_ #[.int .u32 a1_0, .int .i64 a1_1, .slice A1_2 l1_2.length c1_2, .slice A1_3 l1_3.length c1_3, .int .u32 a1_4, .int .u32 a1_5, .int .i64 a1_6, .int .u32 a1_7] 50 ?_; intro gb377 hg w61 BK377 hb; have GW377 := ge_ HB hg; have GE377 := ge_ HB hg; have NB376_377 := nl_ BK376 hg; have NB377_376 := ng_ BK376 hg; replace BK376 := bb_ BK376 hb; replace HB := bs_ HB hb; clear hb hg; have hnb62 := NB376_377.out; have hnc62 := NB377_376.out; obtain ⟨hcz63_0, hcz63_1, hcz63_2, hcz63_3, hcz63_4, hcz63_5, hfz63_0, hfz63_1, hfz63_2, hfz63_3, hfz63_4, hfz63_5⟩ := bc6_ BK376) | ((with_reducible refine gf_ 33 rfl ?_); refine gL_ (some 6) rfl rfl Try.func33 #[.agg #[.int .i64 a0_0, .slice A0_1 l0_1.length c0_1, .slice A0_2 l0_2.length c0_2, .slice A0_3 l0_3.length c0_3, .int .u32 a0_4, .int .u32 a0_5]] rfl ?_; (with_reducible refine (dragomanref11_Right.calls k a0_0 _ _ l0_1 _ _ l0_2 _ _ l0_3 a0_4 a0_5 true _ ?side1 ?side2 ?side3 ?side4 ?side5 ?side6 A3.out).mono ?_); (case side1 => exact cB_ HR0_1 HB); (case side2 => exact HC0_1.out); (case side3 => exact cB_ HR0_2 HB); (case side4 => exact HC0_2.out); (case side5 => exact cB_ HR0_3 HB); (case side6 => exact HC0_3.out); rintro e w64 ⟨rfl, hb⟩; refine ⟨_, rfl, ?_⟩; replace BK376 := bb_ BK376 hb; replace BK377 := bb_ BK377 hb; replace HB := bs_ HB hb; clear hb; obtain ⟨hcz65_0, hcz65_1, hcz65_2, hcz65_3, hcz65_4, hcz65_5, hfz65_0, hfz65_1, hfz65_2, hfz65_3, hfz65_4, hfz65_5⟩ := bc6_ BK376; obtain ⟨hcz66_0, hcz66_1, hcz66_2, hcz66_3, hcz66_4, hcz66_5, hcz66_6, hcz66_7, hfz66_0, hfz66_1, hfz66_2, hfz66_3, hfz66_4, hfz66_5, hfz66_6, hfz66_7⟩ := bc8_ BK377))
   first | go_ret | refine ⟨_, results_tmp rfl _ _ _, ?_⟩
   exact fin_ HB
 rw [if_neg c51] at H
 have c51b0 : (a0_0 == 5) = false := beq_eq_false_iff_ne.mpr c51
 have c51b1 : (a0_0 != 5) = true := bne_iff_ne.mpr c51
 by_cases c67 : a0_0 = 6
 rotate_left
 · rw [if_neg c67] at H
   have c67b0 : (a0_0 == 6) = false := beq_eq_false_iff_ne.mpr c67
   have c67b1 : (a0_0 != 6) = true := bne_iff_ne.mpr c67
   obtain ⟨t382, A91, H⟩ := bnd_ H
   obtain rfl := Option.some.inj H
   go_enter Try.func35, Try.ntmps35
   go_wp2_with (first | ((with_reducible refine gd_ 2 rfl ?_); refine be_ #[.int .i64 a0_0, .slice A0_1 l0_1.length c0_1, .slice A0_2 l0_2.length c0_2, .slice A0_3 l0_3.length c0_3, .int .u32 a0_4, .int .u32 a0_5] 46 ?_; intro gb376 hg w92 BK376 hb; have GW376 := ge_ HB hg; have GE376 := ge_ HB hg; replace HB := bs_ HB hb; clear hb hg) | ((with_reducible refine gd_ 3 rfl ?_); refine be_ #[.int .u32 a1_0, .int .i64 a1_1, .slice A1_2 l1_2.length c1_2, .slice A1_3 l1_3.length c1_3, .int .u32 a1_4, .int .u32 a1_5, .int .i64 a1_6, .int .u32 a1_7] 50 ?_; intro gb377 hg w93 BK377 hb; have GW377 := ge_ HB hg; have GE377 := ge_ HB hg; have NB376_377 := nl_ BK376 hg; have NB377_376 := ng_ BK376 hg; replace BK376 := bb_ BK376 hb; replace HB := bs_ HB hb; clear hb hg; have hnb94 := NB376_377.out; have hnc94 := NB377_376.out; obtain ⟨hcz95_0, hcz95_1, hcz95_2, hcz95_3, hcz95_4, hcz95_5, hfz95_0, hfz95_1, hfz95_2, hfz95_3, hfz95_4, hfz95_5⟩ := bc6_ BK376) | ((with_reducible refine gf_ 33 rfl ?_); refine gL_ (some 6) rfl rfl Try.func33 #[.agg #[.int .i64 a0_0, .slice A0_1 l0_1.length c0_1, .slice A0_2 l0_2.length c0_2, .slice A0_3 l0_3.length c0_3, .int .u32 a0_4, .int .u32 a0_5]] rfl ?_; (with_reducible refine (dragomanref11_Right.calls k a0_0 _ _ l0_1 _ _ l0_2 _ _ l0_3 a0_4 a0_5 true _ ?side1 ?side2 ?side3 ?side4 ?side5 ?side6 A3.out).mono ?_); (case side1 => exact cB_ HR0_1 HB); (case side2 => exact HC0_1.out); (case side3 => exact cB_ HR0_2 HB); (case side4 => exact HC0_2.out); (case side5 => exact cB_ HR0_3 HB); (case side6 => exact HC0_3.out); rintro e w96 ⟨rfl, hb⟩; refine ⟨_, rfl, ?_⟩; replace BK376 := bb_ BK376 hb; replace BK377 := bb_ BK377 hb; replace HB := bs_ HB hb; clear hb; obtain ⟨hcz97_0, hcz97_1, hcz97_2, hcz97_3, hcz97_4, hcz97_5, hfz97_0, hfz97_1, hfz97_2, hfz97_3, hfz97_4, hfz97_5⟩ := bc6_ BK376; obtain ⟨hcz98_0, hcz98_1, hcz98_2, hcz98_3, hcz98_4, hcz98_5, hcz98_6, hcz98_7, hfz98_0, hfz98_1, hfz98_2, hfz98_3, hfz98_4, hfz98_5, hfz98_6, hfz98_7⟩ := bc8_ BK377) | ((with_reducible refine gf_ 64 rfl ?_); refine gL_ (some 85) rfl rfl Try.func64 #[.slice A0_1 l0_1.length c0_1, .agg #[.int .u32 a1_7, .int .i64 32]] rfl ?_; (with_reducible refine (r4_Match.calls k _ _ l0_1 a1_7 32 t382 _ ?side1 ?side2 A91.out).mono ?_); (case side1 => exact cB_ HR0_1 HB); (case side2 => exact HC0_1.out); rintro e w99 ⟨rfl, hb⟩; refine ⟨_, rfl, ?_⟩; replace BK376 := bb_ BK376 hb; replace BK377 := bb_ BK377 hb; replace HB := bs_ HB hb; clear hb))
   first | go_ret | refine ⟨_, results_tmp rfl _ _ _, ?_⟩
   exact fin_ HB
 rw [if_pos c67] at H
 have c67b0 : (a0_0 == 6) = true := beq_iff_eq.mpr c67
 have c67b1 : (a0_0 != 6) = false := bne_eq_false_iff_eq.mpr c67
 clear c67
 by_cases c68 : a1_6 ≥ 0
 rotate_left
 · rw [if_neg c68] at H
   have c68b0 : decide (0 ≤ a1_6) = false := decide_eq_false c68
   clear c68
   obtain rfl := Option.some.inj H
   go_enter Try.func35, Try.ntmps35
   go_wp2_with (first | ((with_reducible refine gd_ 2 rfl ?_); refine be_ #[.int .i64 a0_0, .slice A0_1 l0_1.length c0_1, .slice A0_2 l0_2.length c0_2, .slice A0_3 l0_3.length c0_3, .int .u32 a0_4, .int .u32 a0_5] 46 ?_; intro gb376 hg w84 BK376 hb; have GW376 := ge_ HB hg; have GE376 := ge_ HB hg; replace HB := bs_ HB hb; clear hb hg) | ((with_reducible refine gd_ 3 rfl ?_); refine be_ #[.int .u32 a1_0, .int .i64 a1_1, .slice A1_2 l1_2.length c1_2, .slice A1_3 l1_3.length c1_3, .int .u32 a1_4, .int .u32 a1_5, .int .i64 a1_6, .int .u32 a1_7] 50 ?_; intro gb377 hg w85 BK377 hb; have GW377 := ge_ HB hg; have GE377 := ge_ HB hg; have NB376_377 := nl_ BK376 hg; have NB377_376 := ng_ BK376 hg; replace BK376 := bb_ BK376 hb; replace HB := bs_ HB hb; clear hb hg; have hnb86 := NB376_377.out; have hnc86 := NB377_376.out; obtain ⟨hcz87_0, hcz87_1, hcz87_2, hcz87_3, hcz87_4, hcz87_5, hfz87_0, hfz87_1, hfz87_2, hfz87_3, hfz87_4, hfz87_5⟩ := bc6_ BK376) | ((with_reducible refine gf_ 33 rfl ?_); refine gL_ (some 6) rfl rfl Try.func33 #[.agg #[.int .i64 a0_0, .slice A0_1 l0_1.length c0_1, .slice A0_2 l0_2.length c0_2, .slice A0_3 l0_3.length c0_3, .int .u32 a0_4, .int .u32 a0_5]] rfl ?_; (with_reducible refine (dragomanref11_Right.calls k a0_0 _ _ l0_1 _ _ l0_2 _ _ l0_3 a0_4 a0_5 true _ ?side1 ?side2 ?side3 ?side4 ?side5 ?side6 A3.out).mono ?_); (case side1 => exact cB_ HR0_1 HB); (case side2 => exact HC0_1.out); (case side3 => exact cB_ HR0_2 HB); (case side4 => exact HC0_2.out); (case side5 => exact cB_ HR0_3 HB); (case side6 => exact HC0_3.out); rintro e w88 ⟨rfl, hb⟩; refine ⟨_, rfl, ?_⟩; replace BK376 := bb_ BK376 hb; replace BK377 := bb_ BK377 hb; replace HB := bs_ HB hb; clear hb; obtain ⟨hcz89_0, hcz89_1, hcz89_2, hcz89_3, hcz89_4, hcz89_5, hfz89_0, hfz89_1, hfz89_2, hfz89_3, hfz89_4, hfz89_5⟩ := bc6_ BK376; obtain ⟨hcz90_0, hcz90_1, hcz90_2, hcz90_3, hcz90_4, hcz90_5, hcz90_6, hcz90_7, hfz90_0, hfz90_1, hfz90_2, hfz90_3, hfz90_4, hfz90_5, hfz90_6, hfz90_7⟩ := bc8_ BK377))
   first | go_ret | refine ⟨_, results_tmp rfl _ _ _, ?_⟩
   exact fin_ HB
 rw [if_pos c68] at H
 have c68b0 : decide (0 ≤ a1_6) = true := decide_eq_true c68
 clear c68
 by_cases c69 : a1_6 ≥ (wrap64 (a0_4))
 · rw [if_pos c69] at H
   have c69b0 : decide ((wrap64 (a0_4)) ≤ a1_6) = true := decide_eq_true c69
   clear c69
   obtain rfl := Option.some.inj H
   go_enter Try.func35, Try.ntmps35
   go_wp2_with (first | ((with_reducible refine gd_ 2 rfl ?_); refine be_ #[.int .i64 a0_0, .slice A0_1 l0_1.length c0_1, .slice A0_2 l0_2.length c0_2, .slice A0_3 l0_3.length c0_3, .int .u32 a0_4, .int .u32 a0_5] 46 ?_; intro gb376 hg w70 BK376 hb; have GW376 := ge_ HB hg; have GE376 := ge_ HB hg; replace HB := bs_ HB hb; clear hb hg) | ((with_reducible refine gd_ 3 rfl ?_); refine be_ #[.int .u32 a1_0, .int .i64 a1_1, .slice A1_2 l1_2.length c1_2, .slice A1_3 l1_3.length c1_3, .int .u32 a1_4, .int .u32 a1_5, .int .i64 a1_6, .int .u32 a1_7] 50 ?_; intro gb377 hg w71 BK377 hb; have GW377 := ge_ HB hg; have GE377 := ge_ HB hg; have NB376_377 := nl_ BK376 hg; have NB377_376 := ng_ BK376 hg; replace BK376 := bb_ BK376 hb; replace HB := bs_ HB hb; clear hb hg; have hnb72 := NB376_377.out; have hnc72 := NB377_376.out; obtain ⟨hcz73_0, hcz73_1, hcz73_2, hcz73_3, hcz73_4, hcz73_5, hfz73_0, hfz73_1, hfz73_2, hfz73_3, hfz73_4, hfz73_5⟩ := bc6_ BK376) | ((with_reducible refine gf_ 33 rfl ?_); refine gL_ (some 6) rfl rfl Try.func33 #[.agg #[.int .i64 a0_0, .slice A0_1 l0_1.length c0_1, .slice A0_2 l0_2.length c0_2, .slice A0_3 l0_3.length c0_3, .int .u32 a0_4, .int .u32 a0_5]] rfl ?_; (with_reducible refine (dragomanref11_Right.calls k a0_0 _ _ l0_1 _ _ l0_2 _ _ l0_3 a0_4 a0_5 true _ ?side1 ?side2 ?side3 ?side4 ?side5 ?side6 A3.out).mono ?_); (case side1 => exact cB_ HR0_1 HB); (case side2 => exact HC0_1.out); (case side3 => exact cB_ HR0_2 HB); (case side4 => exact HC0_2.out); (case side5 => exact cB_ HR0_3 HB); (case side6 => exact HC0_3.out); rintro e w74 ⟨rfl, hb⟩; refine ⟨_, rfl, ?_⟩; replace BK376 := bb_ BK376 hb; replace BK377 := bb_ BK377 hb; replace HB := bs_ HB hb; clear hb; obtain ⟨hcz75_0, hcz75_1, hcz75_2, hcz75_3, hcz75_4, hcz75_5, hfz75_0, hfz75_1, hfz75_2, hfz75_3, hfz75_4, hfz75_5⟩ := bc6_ BK376; obtain ⟨hcz76_0, hcz76_1, hcz76_2, hcz76_3, hcz76_4, hcz76_5, hcz76_6, hcz76_7, hfz76_0, hfz76_1, hfz76_2, hfz76_3, hfz76_4, hfz76_5, hfz76_6, hfz76_7⟩ := bc8_ BK377))
   first | go_ret | refine ⟨_, results_tmp rfl _ _ _, ?_⟩
   exact fin_ HB
 rw [if_neg c69] at H
 have c69b0 : decide ((wrap64 (a0_4)) ≤ a1_6) = false := decide_eq_false c69
 clear c69
 obtain rfl := Option.some.inj H
 go_enter Try.func35, Try.ntmps35
 go_wp2_with (first | ((with_reducible refine gd_ 2 rfl ?_); refine be_ #[.int .i64 a0_0, .slice A0_1 l0_1.length c0_1, .slice A0_2 l0_2.length c0_2, .slice A0_3 l0_3.length c0_3, .int .u32 a0_4, .int .u32 a0_5] 46 ?_; intro gb376 hg w77 BK376 hb; have GW376 := ge_ HB hg; have GE376 := ge_ HB hg; replace HB := bs_ HB hb; clear hb hg) | ((with_reducible refine gd_ 3 rfl ?_); refine be_ #[.int .u32 a1_0, .int .i64 a1_1, .slice A1_2 l1_2.length c1_2, .slice A1_3 l1_3.length c1_3, .int .u32 a1_4, .int .u32 a1_5, .int .i64 a1_6, .int .u32 a1_7] 50 ?_; intro gb377 hg w78 BK377 hb; have GW377 := ge_ HB hg; have GE377 := ge_ HB hg; have NB376_377 := nl_ BK376 hg; have NB377_376 := ng_ BK376 hg; replace BK376 := bb_ BK376 hb; replace HB := bs_ HB hb; clear hb hg; have hnb79 := NB376_377.out; have hnc79 := NB377_376.out; obtain ⟨hcz80_0, hcz80_1, hcz80_2, hcz80_3, hcz80_4, hcz80_5, hfz80_0, hfz80_1, hfz80_2, hfz80_3, hfz80_4, hfz80_5⟩ := bc6_ BK376) | ((with_reducible refine gf_ 33 rfl ?_); refine gL_ (some 6) rfl rfl Try.func33 #[.agg #[.int .i64 a0_0, .slice A0_1 l0_1.length c0_1, .slice A0_2 l0_2.length c0_2, .slice A0_3 l0_3.length c0_3, .int .u32 a0_4, .int .u32 a0_5]] rfl ?_; (with_reducible refine (dragomanref11_Right.calls k a0_0 _ _ l0_1 _ _ l0_2 _ _ l0_3 a0_4 a0_5 true _ ?side1 ?side2 ?side3 ?side4 ?side5 ?side6 A3.out).mono ?_); (case side1 => exact cB_ HR0_1 HB); (case side2 => exact HC0_1.out); (case side3 => exact cB_ HR0_2 HB); (case side4 => exact HC0_2.out); (case side5 => exact cB_ HR0_3 HB); (case side6 => exact HC0_3.out); rintro e w81 ⟨rfl, hb⟩; refine ⟨_, rfl, ?_⟩; replace BK376 := bb_ BK376 hb; replace BK377 := bb_ BK377 hb; replace HB := bs_ HB hb; clear hb; obtain ⟨hcz82_0, hcz82_1, hcz82_2, hcz82_3, hcz82_4, hcz82_5, hfz82_0, hfz82_1, hfz82_2, hfz82_3, hfz82_4, hfz82_5⟩ := bc6_ BK376; obtain ⟨hcz83_0, hcz83_1, hcz83_2, hcz83_3, hcz83_4, hcz83_5, hcz83_6, hcz83_7, hfz83_0, hfz83_1, hfz83_2, hfz83_3, hfz83_4, hfz83_5, hfz83_6, hfz83_7⟩ := bc8_ BK377))
 first | go_ret | refine ⟨_, results_tmp rfl _ _ _, ?_⟩
 exact fin_ HB
def dragomanref11_SamePfx.l0 : Nat → List (S83) → List (S83) → Int → Int → Option (Bool)
 | 0, _, _, _, _ => none
 | k + 1, x0, x1, x12, x13 => if x13 < x12 then (if 0 ≤ x13 then (if x13 < (x0.length : Int) then (if x13 < (x1.length : Int) then (if (!(((rd_T83 x0 x13).f0) == ((rd_T83 x1 x13).f0)) || (((!(((rd_T83 x0 x13).f1.f0.f0) == ((rd_T83 x1 x13).f1.f0.f0)) || (!(((rd_T83 x0 x13).f1.f0.f1) == ((rd_T83 x1 x13).f1.f0.f1)))) || (!(((rd_T83 x0 x13).f1.f1) == ((rd_T83 x1 x13).f1.f1)) || (!(((rd_T83 x0 x13).f1.f2) == ((rd_T83 x1 x13).f1.f2))))))) = true then (some false) else (dragomanref11_SamePfx.l0 k x0 x1 x12 (wrap64 (x13 + 1)))) else (none)) else (none)) else (none)) else (some true)
def dragomanref11_SamePfx.f (k : Nat) (l0 : List (S83)) (l1 : List (S83)) : Option (Bool) := if (l0.length : Int) = (l1.length : Int) then (dragomanref11_SamePfx.l0 k l0 l1 (l0.length : Int) 0) else (some false)
set_option maxHeartbeats 8000000 in
set_option maxRecDepth 100000 in
theorem dragomanref11_SamePfx.calls (k : Nat) (A0 : Option Addr) (c0 : Nat) (l0 : List (S83)) (A1 : Option Addr) (c1 : Nat) (l1 : List (S83)) (r : Bool) (w : World) (hr0 : Kd.C k83 w A0 l0.length l0) (hc0 : l0.length ≤ c0) (hr1 : Kd.C k83 w A1 l1.length l1) (hc1 : l1.length ≤ c1) (h : dragomanref11_SamePfx.f k l0 l1 = some r) :
 Calls Try.prog 65 #[.slice A0 l0.length c0, .slice A1 l1.length c1] w fun e w' => e = .returned (.bool r) ∧ Drawn0 w w' := by
 have hu83 := Try.underlying83
 have HR0 := aM hr0
 have HC0 := aM hc0
 clear hr0 hc0
 have HR1 := aM hr1
 have HC1 := aM hc1
 clear hr1 hc1
 have H : (if (l0.length : Int) = (l1.length : Int) then (dragomanref11_SamePfx.l0 k l0 l1 (l0.length : Int) 0) else (some false)) = some r := h
 clear h
 by_cases c3 : (l0.length : Int) = (l1.length : Int)
 rotate_left
 · rw [if_neg c3] at H
   have c3b0 : ((l0.length : Int) == (l1.length : Int)) = false := beq_eq_false_iff_ne.mpr c3
   have c3b1 : ((l0.length : Int) != (l1.length : Int)) = true := bne_iff_ne.mpr c3
   have c3b2 : (l0.length == l1.length) = false := by first | simpa using c3 | (simp at c3 ⊢; omega)
   obtain rfl := Option.some.inj H
   go_enter Try.func65, Try.ntmps65
   go_wp2
   repeat (go_quiet (fail); try go_wp2)
   first | go_ret | refine ⟨_, results_tmp rfl _ _ _, ?_⟩
   exact ⟨rf_, dr_⟩
 rw [if_pos c3] at H
 have c3b0 : ((l0.length : Int) == (l1.length : Int)) = true := beq_iff_eq.mpr c3
 have c3b1 : ((l0.length : Int) != (l1.length : Int)) = false := bne_eq_false_iff_eq.mpr c3
 have c3b2 : (l0.length == l1.length) = true := by first | simpa using c3 | (simp at c3 ⊢; omega)
 clear c3
 have H' := aM H
 clear H
 go_enter Try.func65, Try.ntmps65
 go_wp2
 repeat (go_quiet (fail); try go_wp2)
 go_loopg [13] k (fun kq v13 w' => ∃ (x13_1 : Int), v13 = .int .i64 x13_1 ∧ Aside0 (dragomanref11_SamePfx.l0 kq l0 l1 (l0.length : Int) x13_1 = some r) ∧ Aside0 (kq ≤ k) ∧ Drawn0 w w')
 case atStart => exact ⟨(0), rf_, H', ⟨Nat.le_refl _⟩, dr_⟩
 case round =>
  clear H'
  obtain ⟨x13_1, rfl, HA, HK1, ⟨m1, rfl⟩⟩ := hrel
  cases gk with
  | zero => exact absurd HA.out (by simp [dragomanref11_SamePfx.l0])
  | succ k1 =>
   have H := HA.out
   clear HA
   simp only [dragomanref11_SamePfx.l0] at H
   by_cases c4 : x13_1 < (l0.length : Int)
   rotate_left
   · rw [if_neg c4] at H
     replace c4 := decide_eq_false c4
     obtain rfl := Option.some.inj H
     go_wp2
     repeat (go_quiet (fail); try go_wp2)
     first | go_ret | refine ⟨_, results_tmp rfl _ _ _, ?_⟩
     exact ⟨rf_, dr_⟩
   rw [if_pos c4] at H
   replace c4 := decide_eq_true c4
   obtain ⟨c5, H⟩ := ifd_ H
   obtain ⟨c6, H⟩ := ifd_ H
   obtain ⟨c7, H⟩ := ifd_ H
   by_cases c8 : (!(((rd_T83 l0 x13_1).f0) == ((rd_T83 l1 x13_1).f0)) || (((!(((rd_T83 l0 x13_1).f1.f0.f0) == ((rd_T83 l1 x13_1).f1.f0.f0)) || (!(((rd_T83 l0 x13_1).f1.f0.f1) == ((rd_T83 l1 x13_1).f1.f0.f1)))) || (!(((rd_T83 l0 x13_1).f1.f1) == ((rd_T83 l1 x13_1).f1.f1)) || (!(((rd_T83 l0 x13_1).f1.f2) == ((rd_T83 l1 x13_1).f1.f2))))))) = true
   · rw [if_pos c8] at H
     have c8b0 : (!(((rd_T83 l0 x13_1).f0) == ((rd_T83 l1 x13_1).f0)) || (((!(((rd_T83 l0 x13_1).f1.f0.f0) == ((rd_T83 l1 x13_1).f1.f0.f0)) || (!(((rd_T83 l0 x13_1).f1.f0.f1) == ((rd_T83 l1 x13_1).f1.f0.f1)))) || (!(((rd_T83 l0 x13_1).f1.f1) == ((rd_T83 l1 x13_1).f1.f1)) || (!(((rd_T83 l0 x13_1).f1.f2) == ((rd_T83 l1 x13_1).f1.f2))))))) = true := c8
     clear c8
     obtain rfl := Option.some.inj H
     have p383 : 0 ≤ (x13_1 : Int) := od_
     have q383 : x13_1 < (l0.length : Int) := od_
     obtain ⟨ad383, e383, hx383_0, hx383_1, hx383_2, hx383_3, hx383_4⟩ := at_T83 HR0.out x13_1 p383 q383
     cases e383
     replace p383 := eq_true p383
     replace q383 := eq_true q383
     have p384 : 0 ≤ (x13_1 : Int) := od_
     have q384 : x13_1 < (l1.length : Int) := od_
     obtain ⟨ad384, e384, hx384_0, hx384_1, hx384_2, hx384_3, hx384_4⟩ := at_T83 HR1.out x13_1 p384 q384
     cases e384
     replace p384 := eq_true p384
     replace q384 := eq_true q384
     go_wp2
     repeat (go_quiet (fail); try go_wp2)
     first | go_ret | refine ⟨_, results_tmp rfl _ _ _, ?_⟩
     exact ⟨rf_, dr_⟩
   rw [if_neg c8] at H
   have c8b0 : (!(((rd_T83 l0 x13_1).f0) == ((rd_T83 l1 x13_1).f0)) || (((!(((rd_T83 l0 x13_1).f1.f0.f0) == ((rd_T83 l1 x13_1).f1.f0.f0)) || (!(((rd_T83 l0 x13_1).f1.f0.f1) == ((rd_T83 l1 x13_1).f1.f0.f1)))) || (!(((rd_T83 l0 x13_1).f1.f1) == ((rd_T83 l1 x13_1).f1.f1)) || (!(((rd_T83 l0 x13_1).f1.f2) == ((rd_T83 l1 x13_1).f1.f2))))))) = false := by simpa using c8
   clear c8
   have H' := aM H
   clear H
   have p383 : 0 ≤ (x13_1 : Int) := od_
   have q383 : x13_1 < (l0.length : Int) := od_
   obtain ⟨ad383, e383, hx383_0, hx383_1, hx383_2, hx383_3, hx383_4⟩ := at_T83 HR0.out x13_1 p383 q383
   cases e383
   replace p383 := eq_true p383
   replace q383 := eq_true q383
   have p384 : 0 ≤ (x13_1 : Int) := od_
   have q384 : x13_1 < (l1.length : Int) := od_
   obtain ⟨ad384, e384, hx384_0, hx384_1, hx384_2, hx384_3, hx384_4⟩ := at_T83 HR1.out x13_1 p384 q384
   cases e384
   replace p384 := eq_true p384
   replace q384 := eq_true q384
   go_wp2
   repeat (go_quiet (fail); try go_wp2)
   go_roundg k1
   case measure => have := HK1.out; omega
   case rel => exact ⟨(wrap64 (x13_1 + 1)), rf_, H', ⟨by have := HK1.out; omega⟩, dr_⟩
end Go.Proofs.Ytlkjfjlmjgkheaa.H
