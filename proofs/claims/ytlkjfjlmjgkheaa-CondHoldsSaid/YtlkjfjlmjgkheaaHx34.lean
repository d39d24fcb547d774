import Derived.Test.YtlkjfjlmjgkheaaHx0
import Derived.Test.YtlkjfjlmjgkheaaHx28
import Derived.Test.YtlkjfjlmjgkheaaHx31
import Derived.Test.YtlkjfjlmjgkheaaHx32
namespace Go.Proofs.Ytlkjfjlmjgkheaa.H
open Go.RowKit Go.Proofs.YtlkjfjlmjgkheaaW.PrintWords Go.Proofs.YtlkjfjlmjgkheaaW.PrintLast Go.Proofs.YtlkjfjlmjgkheaaW.PrintMore
attribute [local go_sem] max2_int min2_int max_two min_two max_three min_three max_four min_four
set_option linter.unusedVariables false
set_option linter.unusedSimpArgs false
def dragomanref11_Same.f (k : Nat) (a0_0 : Int) (l0_1 : List (S83)) (l0_2 : List (S61)) (l0_3 : List (S64)) (a0_4 : Int) (a0_5 : Int) (a1_0 : Int) (l1_1 : List (S83)) (l1_2 : List (S61)) (l1_3 : List (S64)) (a1_4 : Int) (a1_5 : Int) : Option (Bool) := if a0_0 = a1_0 then (if a0_4 = a1_4 then (if a0_5 = a1_5 then ((dragomanref11_SamePfx.f k l0_1 l1_1).bind fun t409 => (if t409 = true then ((dragomanref11_SamePath.f k l0_2 l1_2).bind fun t410 => (if t410 = true then ((dragomanref11_SameComms.f k l0_3 l1_3).bind fun t411 => (some t411)) else (some false))) else (some false))) else (some false)) else (some false)) else (some false)
set_option maxHeartbeats 8000000 in
set_option maxRecDepth 100000 in
theorem dragomanref11_Same.calls (k : Nat) (a0_0 : Int) (A0_1 : Option Addr) (c0_1 : Nat) (l0_1 : List (S83)) (A0_2 : Option Addr) (c0_2 : Nat) (l0_2 : List (S61)) (A0_3 : Option Addr) (c0_3 : Nat) (l0_3 : List (S64)) (a0_4 : Int) (a0_5 : Int) (a1_0 : Int) (A1_1 : Option Addr) (c1_1 : Nat) (l1_1 : List (S83)) (A1_2 : Option Addr) (c1_2 : Nat) (l1_2 : List (S61)) (A1_3 : Option Addr) (c1_3 : Nat) (l1_3 : List (S64)) (a1_4 : Int) (a1_5 : Int) (r : Bool) (w : World) (hr0_1 : Kd.C k83 w A0_1 l0_1.length l0_1) (hc0_1 : l0_1.length ≤ c0_1) (hr0_2 : Kd.C k61 w A0_2 l0_2.length l0_2) (hc0_2 : l0_2.length ≤ c0_2) (hr0_3 : Kd.C k64 w A0_3 l0_3.length l0_3) (hc0_3 : l0_3.length ≤ c0_3) (hr1_1 : Kd.C k83 w A1_1 l1_1.length l1_1) (hc1_1 : l1_1.length ≤ c1_1) (hr1_2 : Kd.C k61 w A1_2 l1_2.length l1_2) (hc1_2 : l1_2.length ≤ c1_2) (hr1_3 : Kd.C k64 w A1_3 l1_3.length l1_3) (hc1_3 : l1_3.length ≤ c1_3) (h : dragomanref11_Same.f k a0_0 l0_1 l0_2 l0_3 a0_4 a0_5 a1_0 l1_1 l1_2 l1_3 a1_4 a1_5 = some r) :
 Calls Try.prog 36 #[.agg #[.int .i64 a0_0, .slice A0_1 l0_1.length c0_1, .slice A0_2 l0_2.length c0_2, .slice A0_3 l0_3.length c0_3, .int .u32 a0_4, .int .u32 a0_5], .agg #[.int .i64 a1_0, .slice A1_1 l1_1.length c1_1, .slice A1_2 l1_2.length c1_2, .slice A1_3 l1_3.length c1_3, .int .u32 a1_4, .int .u32 a1_5]] w fun e w' => e = .returned (.bool r) ∧ Below w.heap.size w w' := by
 have hu46 := Try.underlying46
 have HR0_1 := aM hr0_1
 have HC0_1 := aM hc0_1
 clear hr0_1 hc0_1
 have HR0_2 := aM hr0_2
 have HC0_2 := aM hc0_2
 clear hr0_2 hc0_2
 have HR0_3 := aM hr0_3
 have HC0_3 := aM hc0_3
 clear hr0_3 hc0_3
 have HR1_1 := aM hr1_1
 have HC1_1 := aM hc1_1
 clear hr1_1 hc1_1
 have HR1_2 := aM hr1_2
 have HC1_2 := aM hc1_2
 clear hr1_2 hc1_2
 have HR1_3 := aM hr1_3
 have HC1_3 := aM hc1_3
 clear hr1_3 hc1_3
 have HB := aM (Below.refl w.heap.size w)
 have H : (if a0_0 = a1_0 then (if a0_4 = a1_4 then (if a0_5 = a1_5 then ((dragomanref11_SamePfx.f k l0_1 l1_1).bind fun t409 => (if t409 = true then ((dragomanref11_SamePath.f k l0_2 l1_2).bind fun t410 => (if t410 = true then ((dragomanref11_SameComms.f k l0_3 l1_3).bind fun t411 => (some t411)) else (some false))) else (some false))) else (some false)) else (some false)) else (some false)) = some r := h
 clear h
 by_cases c3 : a0_0 = a1_0
 rotate_left
 · rw [if_neg c3] at H
   have c3b0 : (a0_0 == a1_0) = false := beq_eq_false_iff_ne.mpr c3
   have c3b1 : (a0_0 != a1_0) = true := bne_iff_ne.mpr c3
   obtain rfl := Option.some.inj H
   go_enter Try.func36, Try.ntmps36
   go_wp2_with (first | ((with_reducible refine gd_ 2 rfl ?_); refine be_ #[.int .i64 a0_0, .slice A0_1 l0_1.length c0_1, .slice A0_2 l0_2.length c0_2, .slice A0_3 l0_3.length c0_3, .int .u32 a0_4, .int .u32 a0_5] 46 ?_; intro gb407 hg w40 BK407 hb; have GW407 := ge_ HB hg; have GE407 := ge_ HB hg; replace HB := bs_ HB hb; clear hb hg) | ((with_reducible refine gd_ 3 rfl ?_); refine be_ #[.int .i64 a1_0, .slice A1_1 l1_1.length c1_1, .slice A1_2 l1_2.length c1_2, .slice A1_3 l1_3.length c1_3, .int .u32 a1_4, .int .u32 a1_5] 46 ?_; intro gb408 hg w41 BK408 hb; have GW408 := ge_ HB hg; have GE408 := ge_ HB hg; have NB407_408 := nl_ BK407 hg; have NB408_407 := ng_ BK407 hg; replace BK407 := bb_ BK407 hb; replace HB := bs_ HB hb; clear hb hg; have hnb42 := NB407_408.out; have hnc42 := NB408_407.out; obtain ⟨hcz43_0, hcz43_1, hcz43_2, hcz43_3, hcz43_4, hcz43_5, hfz43_0, hfz43_1, hfz43_2, hfz43_3, hfz43_4, hfz43_5⟩ := bc6_ BK407; obtain ⟨hcz44_0, hcz44_1, hcz44_2, hcz44_3, hcz44_4, hcz44_5, hfz44_0, hfz44_1, hfz44_2, hfz44_3, hfz44_4, hfz44_5⟩ := bc6_ BK408))
   first | go_ret | refine ⟨_, results_tmp rfl _ _ _, ?_⟩
   exact fin_ HB
 rw [if_pos c3] at H
 have c3b0 : (a0_0 == a1_0) = true := beq_iff_eq.mpr c3
 have c3b1 : (a0_0 != a1_0) = false := bne_eq_false_iff_eq.mpr c3
 clear c3
 by_cases c4 : a0_4 = a1_4
 rotate_left
 · rw [if_neg c4] at H
   have c4b0 : (a0_4 == a1_4) = false := beq_eq_false_iff_ne.mpr c4
   have c4b1 : (a0_4 != a1_4) = true := bne_iff_ne.mpr c4
   obtain rfl := Option.some.inj H
   go_enter Try.func36, Try.ntmps36
   go_wp2_with (first | ((with_reducible refine gd_ 2 rfl ?_); refine be_ #[.int .i64 a0_0, .slice A0_1 l0_1.length c0_1, .slice A0_2 l0_2.length c0_2, .slice A0_3 l0_3.length c0_3, .int .u32 a0_4, .int .u32 a0_5] 46 ?_; intro gb407 hg w35 BK407 hb; have GW407 := ge_ HB hg; have GE407 := ge_ HB hg; replace HB := bs_ HB hb; clear hb hg) | ((with_reducible refine gd_ 3 rfl ?_); refine be_ #[.int .i64 a1_0, .slice A1_1 l1_1.length c1_1, .slice A1_2 l1_2.length c1_2, .slice A1_3 l1_3.length c1_3, .int .u32 a1_4, .int .u32 a1_5] 46 ?_; intro gb408 hg w36 BK408 hb; have GW408 := ge_ HB hg; have GE408 := ge_ HB hg; have NB407_408 := nl_ BK407 hg; have NB408_407 := ng_ BK407 hg; replace BK407 := bb_ BK407 hb; replace HB := bs_ HB hb; clear hb hg; have hnb37 := NB407_408.out; have hnc37 := NB408_407.out; obtain ⟨hcz38_0, hcz38_1, hcz38_2, hcz38_3, hcz38_4, hcz38_5, hfz38_0, hfz38_1, hfz38_2, hfz38_3, hfz38_4, hfz38_5⟩ := bc6_ BK407; obtain ⟨hcz39_0, hcz39_1, hcz39_2, hcz39_3, hcz39_4, hcz39_5, hfz39_0, hfz39_1, hfz39_2, hfz39_3, hfz39_4, hfz39_5⟩ := bc6_ BK408))
   first | go_ret | refine ⟨_, results_tmp rfl _ _ _, ?_⟩
   exact fin_ HB
 rw [if_pos c4] at H
 have c4b0 : (a0_4 == a1_4) = true := beq_iff_eq.mpr c4
 have c4b1 : (a0_4 != a1_4) = false := bne_eq_false_iff_eq.mpr c4
 clear c4
 by_cases c5 : a0_5 = a1_5
 rotate_left
 · rw [if_neg c5] at H
   have c5b0 : (a0_5 == a1_5) = false := beq_eq_false_iff_ne.mpr c5
   have c5b1 : (a0_5 != a1_5) = true := bne_iff_ne.mpr c5
   obtain rfl := Option.some.inj H
   go_enter Try.func36, Try.ntmps36
   go_wp2_with (first | ((with_reducible refine gd_ 2 rfl ?_); refine be_ #[.int .i64 a0_0, .slice A0_1 l0_1.length c0_1, .slice A0_2 l0_2.length c0_2, .slice A0_3 l0_3.length c0_3, .int .u32 a0_4, .int .u32 a0_5] 46 ?_; intro gb407 hg w30 BK407 hb; have GW407 := ge_ HB hg; have GE407 := ge_ HB hg; replace HB := bs_ HB hb; clear hb hg) | ((with_reducible refine gd_ 3 rfl ?_); refine be_ #[.int .i64 a1_0, .slice A1_1 l1_1.length c1_1, .slice A1_2 l1_2.length c1_2, .slice A1_3 l1_3.length c1_3, .int .u32 a1_4, .int .u32 a1_5] 46 ?_; intro gb408 hg w31 BK408 hb; have GW408 := ge_ HB hg; have GE408 := ge_ HB hg; have NB407_408 := nl_ BK407 hg; have NB408_407 := ng_ BK407 hg; replace BK407 := bb_ BK407 hb; replace HB := bs_ HB hb; clear hb hg; have hnb32 := NB407_408.out; have hnc32 := NB408_407.out; obtain ⟨hcz33_0, hcz33_1, hcz33_2, hcz33_3, hcz33_4, hcz33_5, hfz33_0, hfz33_1, hfz33_2, hfz33_3, hfz33_4, hfz33_5⟩ := bc6_ BK407; obtain ⟨hcz34_0, hcz34_1, hcz34_2, hcz34_3, hcz34_4, hcz34_5, hfz34_0, hfz34_1, hfz34_2, hfz34_3, hfz34_4, hfz34_5⟩ := bc6_ BK408))
   first | go_ret | refine ⟨_, results_tmp rfl _ _ _, ?_⟩
   exact fin_ HB
 rw [if_pos c5] at H
 have c5b0 : (a0_5 == a1_5) = true := beq_iff_eq.mpr c5
 have c5b1 : (a0_5 != a1_5) = false := bne_eq_false_iff_eq.mpr c5
 clear c5
 obtain ⟨t409, A6, H⟩ := bnd_ H
 by_cases c7 : t409 = true
 rotate_left
 · replace c7 := Bool.eq_false_iff.mpr c7
   subst c7
   rw [if_neg (show ¬ (false = true) by decide)] at H
   obtain rfl := Option.some.inj H
   go_enter Try.func36, Try.ntmps36
   go_wp2_with (first | ((with_reducible refine gd_ 2 rfl ?_); refine be_ #[.int .i64 a0_0, .slice A0_1 l0_1.length c0_1, .slice A0_2 l0_2.length c0_2, .slice A0_3 l0_3.length c0_3, .int .u32 a0_4, .int .u32 a0_5] 46 ?_; intro gb407 hg w25 BK407 hb; have GW407 := ge_ HB hg; have GE407 := ge_ HB hg; replace HB := bs_ HB hb; clear hb hg) | ((with_reducible refine gd_ 3 rfl ?_); refine be_ #[.int .i64 a1_0, .slice A1_1 l1_1.length c1_1, .slice A1_2 l1_2.length c1_2, .slice A1_3 l1_3.length c1_3, .int .u32 a1_4, .int .u32 a1_5] 46 ?_; intro gb408 hg w26 BK408 hb; have GW408 := ge_ HB hg; have GE408 := ge_ HB hg; have NB407_408 := nl_ BK407 hg; have NB408_407 := ng_ BK407 hg; replace BK407 := bb_ BK407 hb; replace HB := bs_ HB hb; clear hb hg; have hnb27 := NB407_408.out; have hnc27 := NB408_407.out; obtain ⟨hcz28_0, hcz28_1, hcz28_2, hcz28_3, hcz28_4, hcz28_5, hfz28_0, hfz28_1, hfz28_2, hfz28_3, hfz28_4, hfz28_5⟩ := bc6_ BK407; obtain ⟨hcz29_0, hcz29_1, hcz29_2, hcz29_3, hcz29_4, hcz29_5, hfz29_0, hfz29_1, hfz29_2, hfz29_3, hfz29_4, hfz29_5⟩ := bc6_ BK408) | (go_at_call 65; (with_reducible refine (dragomanref11_SamePfx.calls k _ _ l0_1 _ _ l1_1 false _ ?side1 ?side2 ?side3 ?side4 A6.out).mono ?_); (case side1 => exact cB_ HR0_1 HB); (case side2 => exact HC0_1.out); (case side3 => exact cB_ HR1_1 HB); (case side4 => exact HC1_1.out); rintro e w' ⟨rfl, ⟨nd, rfl⟩⟩))
   first | go_ret | refine ⟨_, results_tmp rfl _ _ _, ?_⟩
   exact fin_ HB
 subst c7
 rw [if_pos rfl] at H
 obtain ⟨t410, A8, H⟩ := bnd_ H
 by_cases c9 : t410 = true
 · subst c9
   rw [if_pos rfl] at H
   obtain ⟨t411, A10, H⟩ := bnd_ H
   obtain rfl := Option.some.inj H
   go_enter Try.func36, Try.ntmps36
   go_wp2_with (first | ((with_reducible refine gd_ 2 rfl ?_); refine be_ #[.int .i64 a0_0, .slice A0_1 l0_1.length c0_1, .slice A0_2 l0_2.length c0_2, .slice A0_3 l0_3.length c0_3, .int .u32 a0_4, .int .u32 a0_5] 46 ?_; intro gb407 hg w11 BK407 hb; have GW407 := ge_ HB hg; have GE407 := ge_ HB hg; replace HB := bs_ HB hb; clear hb hg) | ((with_reducible refine gd_ 3 rfl ?_); refine be_ #[.int .i64 a1_0, .slice A1_1 l1_1.length c1_1, .slice A1_2 l1_2.length c1_2, .slice A1_3 l1_3.length c1_3, .int .u32 a1_4, .int .u32 a1_5] 46 ?_; intro gb408 hg w12 BK408 hb; have GW408 := ge_ HB hg; have GE408 := ge_ HB hg; have NB407_408 := nl_ BK407 hg; have NB408_407 := ng_ BK407 hg; replace BK407 := bb_ BK407 hb; replace HB := bs_ HB hb; clear hb hg; have hnb13 := NB407_408.out; have hnc13 := NB408_407.out; obtain ⟨hcz14_0, hcz14_1, hcz14_2, hcz14_3, hcz14_4, hcz14_5, hfz14_0, hfz14_1, hfz14_2, hfz14_3, hfz14_4, hfz14_5⟩ := bc6_ BK407; obtain ⟨hcz15_0, hcz15_1, hcz15_2, hcz15_3, hcz15_4, hcz15_5, hfz15_0, hfz15_1, hfz15_2, hfz15_3, hfz15_4, hfz15_5⟩ := bc6_ BK408) | (go_at_call 65; (with_reducible refine (dragomanref11_SamePfx.calls k _ _ l0_1 _ _ l1_1 true _ ?side1 ?side2 ?side3 ?side4 A6.out).mono ?_); (case side1 => exact cB_ HR0_1 HB); (case side2 => exact HC0_1.out); (case side3 => exact cB_ HR1_1 HB); (case side4 => exact HC1_1.out); rintro e w' ⟨rfl, ⟨nd, rfl⟩⟩) | (go_at_call 66; (with_reducible refine (dragomanref11_SamePath.calls k _ _ l0_2 _ _ l1_2 true _ ?side1 ?side2 ?side3 ?side4 A8.out).mono ?_); (case side1 => exact uc_ (Kd.C_below HR0_2.out (bw_ HB.out))); (case side2 => exact HC0_2.out); (case side3 => exact uc_ (Kd.C_below HR1_2.out (bw_ HB.out))); (case side4 => exact HC1_2.out); rintro e w16 ⟨rfl, hb⟩; replace BK407 := bb_ BK407 hb; replace BK408 := bb_ BK408 hb; replace HB := bs_ HB hb; clear hb; obtain ⟨hcz17_0, hcz17_1, hcz17_2, hcz17_3, hcz17_4, hcz17_5, hfz17_0, hfz17_1, hfz17_2, hfz17_3, hfz17_4, hfz17_5⟩ := bc6_ BK407; obtain ⟨hcz18_0, hcz18_1, hcz18_2, hcz18_3, hcz18_4, hcz18_5, hfz18_0, hfz18_1, hfz18_2, hfz18_3, hfz18_4, hfz18_5⟩ := bc6_ BK408) | (go_at_call 67; (with_reducible refine (dragomanref11_SameComms.calls k _ _ l0_3 _ _ l1_3 t411 _ ?side1 ?side2 ?side3 ?side4 A10.out).mono ?_); (case side1 => exact cB_ HR0_3 HB); (case side2 => exact HC0_3.out); (case side3 => exact cB_ HR1_3 HB); (case side4 => exact HC1_3.out); rintro e w' ⟨rfl, ⟨nd, rfl⟩⟩))
   first | go_ret | refine ⟨_, results_tmp rfl _ _ _, ?_⟩
   exact fin_ HB
 replace c9 := Bool.eq_false_iff.mpr c9
 subst c9
 rw [if_neg (show ¬ (false = true) by decide)] at H
 obtain rfl := Option.some.inj H
 go_enter Try.func36, Try.ntmps36
 go_wp2_with (first | ((with_reducible refine gd_ 2 rfl ?_); refine be_ #[.int .i64 a0_0, .slice A0_1 l0_1.length c0_1, .slice A0_2 l0_2.length c0_2, .slice A0_3 l0_3.length c0_3, .int .u32 a0_4, .int .u32 a0_5] 46 ?_; intro gb407 hg w19 BK407 hb; have GW407 := ge_ HB hg; have GE407 := ge_ HB hg; replace HB := bs_ HB hb; clear hb hg) | ((with_reducible refine gd_ 3 rfl ?_); refine be_ #[.int .i64 a1_0, .slice A1_1 l1_1.length c1_1, .slice A1_2 l1_2.length c1_2, .slice A1_3 l1_3.length c1_3, .int .u32 a1_4, .int .u32 a1_5] 46 ?_; intro gb408 hg w20 BK408 hb; have GW408 := ge_ HB hg; have GE408 := ge_ HB hg; have NB407_408 := nl_ BK407 hg; have NB408_407 := ng_ BK407 hg; replace BK407 := bb_ BK407 hb; replace HB := bs_ HB hb; clear hb hg; have hnb21 := NB407_408.out; have hnc21 := NB408_407.out; obtain ⟨hcz22_0, hcz22_1, hcz22_2, hcz22_3, hcz22_4, hcz22_5, hfz22_0, hfz22_1, hfz22_2, hfz22_3, hfz22_4, hfz22_5⟩ := bc6_ BK407; obtain ⟨hcz23_0, hcz23_1, hcz23_2, hcz23_3, hcz23_4, hcz23_5, hfz23_0, hfz23_1, hfz23_2, hfz23_3, hfz23_4, hfz23_5⟩ := bc6_ BK408) | (go_at_call 65; (with_reducible refine (dragomanref11_SamePfx.calls k _ _ l0_1 _ _ l1_1 true _ ?side1 ?side2 ?side3 ?side4 A6.out).mono ?_); (case side1 => exact cB_ HR0_1 HB); (case side2 => exact HC0_1.out); (case side3 => exact cB_ HR1_1 HB); (case side4 => exact HC1_1.out); rintro e w' ⟨rfl, ⟨nd, rfl⟩⟩) | (go_at_call 66; (with_reducible refine (dragomanref11_SamePath.calls k _ _ l0_2 _ _ l1_2 false _ ?side1 ?side2 ?side3 ?side4 A8.out).mono ?_); (case side1 => exact uc_ (Kd.C_below HR0_2.out (bw_ HB.out))); (case side2 => exact HC0_2.out); (case side3 => exact uc_ (Kd.C_below HR1_2.out (bw_ HB.out))); (case side4 => exact HC1_2.out); rintro e w24 ⟨rfl, hb⟩; replace BK407 := bb_ BK407 hb; replace BK408 := bb_ BK408 hb; replace HB := bs_ HB hb; clear hb))
 first | go_ret | refine ⟨_, results_tmp rfl _ _ _, ?_⟩
 exact fin_ HB
def r3_number.f (a0 : Int) (a1 : Int) : Option (Int) := if a0 < a1 then (some (-1)) else (if a0 > a1 then (some 1) else (some 0))
set_option maxHeartbeats 8000000 in
set_option maxRecDepth 100000 in
theorem r3_number.calls (a0 : Int) (a1 : Int) (r : Int) (w : World) (h : r3_number.f a0 a1 = some r) :
 Calls Try.prog 68 #[.int .i64 a0, .int .i64 a1] w fun e w' => e = .returned (.int .i64 r) ∧ Drawn0 w w' := by
 unfold r3_number.f at h
 have H := h
 clear h
 by_cases c3 : a0 < a1
 · rw [if_pos c3] at H
   replace c3 := decide_eq_true c3
   obtain rfl := Option.some.inj H
   go_enter Try.func68, Try.ntmps68
   go_wp2
   first | go_ret | refine ⟨_, results_tmp rfl _ _ _, ?_⟩
   exact ⟨rf_, dr_⟩
 rw [if_neg c3] at H
 replace c3 := decide_eq_false c3
 by_cases c4 : a0 > a1
 · rw [if_pos c4] at H
   have c4b0 : decide (a1 < a0) = true := decide_eq_true c4
   clear c4
   obtain rfl := Option.some.inj H
   go_enter Try.func68, Try.ntmps68
   go_wp2
   first | go_ret | refine ⟨_, results_tmp rfl _ _ _, ?_⟩
   exact ⟨rf_, dr_⟩
 rw [if_neg c4] at H
 have c4b0 : decide (a1 < a0) = false := decide_eq_false c4
 clear c4
 obtain rfl := Option.some.inj H
 go_enter Try.func68, Try.ntmps68
 go_wp2
 first | go_ret | refine ⟨_, results_tmp rfl _ _ _, ?_⟩
 exact ⟨rf_, dr_⟩
mutual
def r3_list.l0 : Nat → List Int → List Int → Int → Option (Int)
 | 0, _, _, _ => none
 | k + 1, x0, x1, x5 => if x5 < (x0.length : Int) then (r3_list.j1 k x0 x1 x5 (decide (x5 < (x1.length : Int)))) else (r3_list.j1 k x0 x1 x5 false)
def r3_list.j1 : Nat → List Int → List Int → Int → Bool → Option (Int)
 | 0, _, _, _, _ => none
 | k + 1, x0, x1, x5, x15 => if x15 = true then (if 0 ≤ x5 then (if x5 < (x0.length : Int) then (if x5 < (x1.length : Int) then (if (rd x0 x5) = (rd x1 x5) then (r3_list.l0 k x0 x1 (wrap64 (x5 + 1))) else ((r3_number.f (wrap64 (rd x0 x5)) (wrap64 (rd x1 x5))).bind fun t416 => (some t416))) else (none)) else (none)) else (none)) else ((r3_number.f (x0.length : Int) (x1.length : Int)).bind fun t417 => (some t417))
end
def r3_list.f (k : Nat) (l0 : List Int) (l1 : List Int) : Option (Int) := r3_list.l0 k l0 l1 0
set_option maxHeartbeats 8000000 in
set_option maxRecDepth 100000 in
theorem r3_list.calls (k : Nat) (A0 : Option Addr) (c0 : Nat) (l0 : List Int) (A1 : Option Addr) (c1 : Nat) (l1 : List Int) (r : Int) (w : World) (hr0 : Kd.C (Kd.int .u32) w A0 l0.length l0) (hc0 : l0.length ≤ c0) (hr1 : Kd.C (Kd.int .u32) w A1 l1.length l1) (hc1 : l1.length ≤ c1) (h : r3_list.f k l0 l1 = some r) :
 Calls Try.prog 69 #[.slice A0 l0.length c0, .slice A1 l1.length c1] w fun e w' => e = .returned (.int .i64 r) ∧ Drawn0 w w' := by
 have HR0 := aM hr0
 have HC0 := aM hc0
 clear hr0 hc0
 have HR1 := aM hr1
 have HC1 := aM hc1
 clear hr1 hc1
 unfold r3_list.f at h
 have H := h
 clear h
 have H' := aM H
 clear H
 go_enter Try.func69, Try.ntmps69
 go_wp2
 repeat (go_quiet (fail); try go_wp2)
 go_loopg [5] k (fun kq v5 w' => ∃ (x5_1 : Int), v5 = .int .i64 x5_1 ∧ Aside0 (r3_list.l0 kq l0 l1 x5_1 = some r) ∧ Aside0 (kq ≤ k) ∧ Drawn0 w w')
 case atStart => exact ⟨(0), rf_, H', ⟨Nat.le_refl _⟩, dr_⟩
 case round =>
  clear H'
  obtain ⟨x5_1, rfl, HA, HK1, ⟨m1, rfl⟩⟩ := hrel
  cases gk with
  | zero => exact absurd HA.out (by simp [r3_list.l0])
  | succ k1 =>
   have H := HA.out
   clear HA
   simp only [r3_list.l0] at H
   have HC3 := aM H
   clear H
   go_upto_region 2 with (fail)
   repeat (go_quiet (fail); go_upto_region 2 with (fail))
   go_cut [15] (fun v15 wc => ∃ (kq : Nat) (x15_2 : Bool), v15 = .bool x15_2 ∧ Aside0 (r3_list.j1 kq l0 l1 x5_1 x15_2 = some r) ∧ Aside0 (kq ≤ k1) ∧ Drawn0 w wc)
   case first =>
    have H := HC3.out
    clear HC3
    by_cases c4 : x5_1 < (l0.length : Int)
    · rw [if_pos c4] at H
      have c4b0 : decide (x5_1 < (l0.length : Int)) = true := decide_eq_true c4
      clear c4
      (first | rw [c4b0] | (simp only [i64_w, i32_w]; rw [c4b0]) | rw [c4b1] | skip)
      have H' := aM H
      clear H
      go_wp2
      repeat (go_quiet (fail); try go_wp2)
      go_meet
      case rel => exact ⟨_, (decide (x5_1 < (l1.length : Int))), rf_, H', ⟨by have := HK1.out; first | omega | exact Nat.le_refl _⟩, dr_⟩
    rw [if_neg c4] at H
    have c4b0 : decide (x5_1 < (l0.length : Int)) = false := decide_eq_false c4
    clear c4
    (first | rw [c4b0] | (simp only [i64_w, i32_w]; rw [c4b0]) | rw [c4b1] | skip)
    have H' := aM H
    clear H
    go_wp2
    repeat (go_quiet (fail); try go_wp2)
    go_meet
    case rel => exact ⟨_, (false), rf_, H', ⟨by have := HK1.out; first | omega | exact Nat.le_refl _⟩, dr_⟩
   case rest =>
    clear HC3
    obtain ⟨kq, x15_2, rfl, HA, HJ2, ⟨mc2, rfl⟩⟩ := hcut
    cases kq with
    | zero => exact absurd HA.out (by simp [r3_list.j1])
    | succ kj2 =>
     have H := HA.out
     clear HA
     simp only [r3_list.j1] at H
     by_cases c5 : x15_2 = true
     rotate_left
     · replace c5 := Bool.eq_false_iff.mpr c5
       subst c5
       rw [if_neg (show ¬ (false = true) by decide)] at H
       obtain ⟨t417, A11, H⟩ := bnd_ H
       obtain rfl := Option.some.inj H
       go_wp2_with (first | (go_at_call 68; (with_reducible refine (r3_number.calls (l0.length : Int) (l1.length : Int) t417 _ A11.out).mono ?_); rintro e w' ⟨rfl, ⟨nd, rfl⟩⟩; (try first | exact ⟨rfl, _, World.drewN_drewN _ _ _⟩ | exact ⟨rfl, _, Eq.trans (World.drewN_drewN _ _ _) (congrArg (World.drewN _) (Nat.add_assoc _ _ _))⟩)))
       repeat (go_quiet (first | (go_at_call 68; (with_reducible refine (r3_number.calls (l0.length : Int) (l1.length : Int) t417 _ A11.out).mono ?_); rintro e w' ⟨rfl, ⟨nd, rfl⟩⟩; (try first | exact ⟨rfl, _, World.drewN_drewN _ _ _⟩ | exact ⟨rfl, _, Eq.trans (World.drewN_drewN _ _ _) (congrArg (World.drewN _) (Nat.add_assoc _ _ _))⟩))); try go_wp2_with (first | (go_at_call 68; (with_reducible refine (r3_number.calls (l0.length : Int) (l1.length : Int) t417 _ A11.out).mono ?_); rintro e w' ⟨rfl, ⟨nd, rfl⟩⟩; (try first | exact ⟨rfl, _, World.drewN_drewN _ _ _⟩ | exact ⟨rfl, _, Eq.trans (World.drewN_drewN _ _ _) (congrArg (World.drewN _) (Nat.add_assoc _ _ _))⟩))))
       first | go_ret | refine ⟨_, results_tmp rfl _ _ _, ?_⟩
       exact ⟨rf_, dr_⟩
     subst c5
     rw [if_pos rfl] at H
     obtain ⟨c6, H⟩ := ifd_ H
     obtain ⟨c7, H⟩ := ifd_ H
     obtain ⟨c8, H⟩ := ifd_ H
     by_cases c9 : (rd l0 x5_1) = (rd l1 x5_1)
     · rw [if_pos c9] at H
       have c9b0 : ((rd l0 x5_1) == (rd l1 x5_1)) = true := beq_iff_eq.mpr c9
       have c9b1 : ((rd l0 x5_1) != (rd l1 x5_1)) = false := bne_eq_false_iff_eq.mpr c9
       clear c9
       have H' := aM H
       clear H
       have p412 : 0 ≤ (x5_1 : Int) := od_
       have q412 : x5_1 < (l0.length : Int) := od_
       obtain ⟨ad412, e412, hx412_0⟩ := Kd.at_int HR0.out x5_1 p412 q412
       cases e412
       replace p412 := eq_true p412
       replace q412 := eq_true q412
       have p413 : 0 ≤ (x5_1 : Int) := od_
       have q413 : x5_1 < (l1.length : Int) := od_
       obtain ⟨ad413, e413, hx413_0⟩ := Kd.at_int HR1.out x5_1 p413 q413
       cases e413
       replace p413 := eq_true p413
       replace q413 := eq_true q413
       go_wp2
       repeat (go_quiet (fail); try go_wp2)
       go_roundg kj2
       case measure => have := HK1.out; have := HJ2.out; omega
       case rel => exact ⟨(wrap64 (x5_1 + 1)), rf_, H', ⟨by have := HK1.out; have := HJ2.out; omega⟩, dr_⟩
     rw [if_neg c9] at H
     have c9b0 : ((rd l0 x5_1) == (rd l1 x5_1)) = false := beq_eq_false_iff_ne.mpr c9
     have c9b1 : ((rd l0 x5_1) != (rd l1 x5_1)) = true := bne_iff_ne.mpr c9
     obtain ⟨t416, A10, H⟩ := bnd_ H
     obtain rfl := Option.some.inj H
     have p412 : 0 ≤ (x5_1 : Int) := od_
     have q412 : x5_1 < (l0.length : Int) := od_
     obtain ⟨ad412, e412, hx412_0⟩ := Kd.at_int HR0.out x5_1 p412 q412
     cases e412
     replace p412 := eq_true p412
     replace q412 := eq_true q412
     have p413 : 0 ≤ (x5_1 : Int) := od_
     have q413 : x5_1 < (l1.length : Int) := od_
     obtain ⟨ad413, e413, hx413_0⟩ := Kd.at_int HR1.out x5_1 p413 q413
     cases e413
     replace p413 := eq_true p413
     replace q413 := eq_true q413
     have p414 : 0 ≤ (x5_1 : Int) := od_
     have q414 : x5_1 < (l0.length : Int) := od_
     obtain ⟨ad414, e414, hx414_0⟩ := Kd.at_int HR0.out x5_1 p414 q414
     obtain rfl : ad412 = ad414 := (by injection e414)
     replace p414 := eq_true p414
     replace q414 := eq_true q414
     have p415 : 0 ≤ (x5_1 : Int) := od_
     have q415 : x5_1 < (l1.length : Int) := od_
     obtain ⟨ad415, e415, hx415_0⟩ := Kd.at_int HR1.out x5_1 p415 q415
     obtain rfl : ad413 = ad415 := (by injection e415)
     replace p415 := eq_true p415
     replace q415 := eq_true q415
     go_wp2_with (first | (go_at_call 68; (with_reducible refine (r3_number.calls (wrap64 (rd l0 x5_1)) (wrap64 (rd l1 x5_1)) t416 _ A10.out).mono ?_); rintro e w' ⟨rfl, ⟨nd, rfl⟩⟩; (try first | exact ⟨rfl, _, World.drewN_drewN _ _ _⟩ | exact ⟨rfl, _, Eq.trans (World.drewN_drewN _ _ _) (congrArg (World.drewN _) (Nat.add_assoc _ _ _))⟩)))
     repeat (go_quiet (first | (go_at_call 68; (with_reducible refine (r3_number.calls (wrap64 (rd l0 x5_1)) (wrap64 (rd l1 x5_1)) t416 _ A10.out).mono ?_); rintro e w' ⟨rfl, ⟨nd, rfl⟩⟩; (try first | exact ⟨rfl, _, World.drewN_drewN _ _ _⟩ | exact ⟨rfl, _, Eq.trans (World.drewN_drewN _ _ _) (congrArg (World.drewN _) (Nat.add_assoc _ _ _))⟩))); try go_wp2_with (first | (go_at_call 68; (with_reducible refine (r3_number.calls (wrap64 (rd l0 x5_1)) (wrap64 (rd l1 x5_1)) t416 _ A10.out).mono ?_); rintro e w' ⟨rfl, ⟨nd, rfl⟩⟩; (try first | exact ⟨rfl, _, World.drewN_drewN _ _ _⟩ | exact ⟨rfl, _, Eq.trans (World.drewN_drewN _ _ _) (congrArg (World.drewN _) (Nat.add_assoc _ _ _))⟩))))
     first | go_ret | refine ⟨_, results_tmp rfl _ _ _, ?_⟩
     exact ⟨rf_, dr_⟩
end Go.Proofs.Ytlkjfjlmjgkheaa.H
namespace Go.Proofs.Ytlkjfjlmjgkheaa.H
open Go.RowKit Go.Proofs.YtlkjfjlmjgkheaaW.PrintWords Go.Proofs.YtlkjfjlmjgkheaaW.PrintLast Go.Proofs.YtlkjfjlmjgkheaaW.PrintMore
attribute [local go_sem] max2_int min2_int max_two min_two max_three min_three max_four min_four
set_option linter.unusedVariables false
set_option linter.unusedSimpArgs false
def cz8 (a b c d e f g h : Int) : Option Int := if a = 0 ∧ b = 0 ∧ c = 0 ∧ d = 0 ∧ e = 0 ∧ f = 0 ∧ g = 0 ∧ h = 0 then some 0 else none
theorem cz8_some {a b c d e f g h r : Int} (H : cz8 a b c d e f g h = some r) : a = 0 ∧ b = 0 ∧ c = 0 ∧ d = 0 ∧ e = 0 ∧ f = 0 ∧ g = 0 ∧ h = 0 ∧ r = 0 := by
 unfold cz8 at H
 split at H
 · rename_i q
   obtain ⟨h0, h1, h2, h3, h4, h5, h6, h7⟩ := q
   exact ⟨h0, h1, h2, h3, h4, h5, h6, h7, (Option.some.inj H).symm⟩
 · cases H
def r3_Cmp.f (k : Nat) (a0_0 : Int) (a0_1 : Int) (l0_2 : List Int) (l0_3 : List Int) (a0_4 : Int) (a0_5 : Int) (a0_6 : Int) (a0_7 : Int) (a1_0 : Int) (a1_1 : Int) (l1_2 : List Int) (l1_3 : List Int) (a1_4 : Int) (a1_5 : Int) (a1_6 : Int) (a1_7 : Int) : Option (Int) := (r3_number.f (wrap64 (a0_0)) (wrap64 (a1_0))).bind fun t420 => ((r3_number.f a0_1 a1_1).bind fun t421 => ((r3_list.f k l0_2 l1_2).bind fun t422 => ((r3_list.f k l0_3 l1_3).bind fun t423 => ((r3_number.f (wrap64 (a0_4)) (wrap64 (a1_4))).bind fun t424 => ((r3_number.f (wrap64 (a0_5)) (wrap64 (a1_5))).bind fun t425 => ((r3_number.f a0_6 a1_6).bind fun t426 => ((r3_number.f (wrap64 (a0_7)) (wrap64 (a1_7))).bind fun t427 => (cz8 t420 t421 t422 t423 t424 t425 t426 t427))))))))
def r3_Cmp.T1 : Bool × List (List Nat × List Nat) := (true, [([], []), ([0], [0]), ([1], [1]), ([2], [2]), ([], []), ([4], [4]), ([5], [5]), ([6], [6]), ([3, 7], [3, 7]), ([], []), ([9], [9]), ([10], [10]), ([], []), ([12], [12]), ([13], [13]), ([11, 14, 8], [11, 14]), ([], []), ([16], [16]), ([], []), ([18], [18]), ([17, 19, 15], [17, 19]), ([], []), ([21], [21]), ([], []), ([23], [23]), ([22, 24, 20], [22, 24]), ([], []), ([26], [26]), ([27], [27]), ([], []), ([29], [29]), ([30], [30]), ([28, 31, 25], [28, 31]), ([], []), ([33], [33]), ([34], [34]), ([], []), ([36], [36]), ([37], [37]), ([35, 38, 32], [35, 38]), ([], []), ([40], [40]), ([], []), ([42], [42]), ([41, 43, 39], [41, 43]), ([], []), ([45], [45]), ([46], [46]), ([], []), ([48], [48]), ([49], [49]), ([47, 50, 44], [47, 50]), ([8, 15, 20, 25, 32, 39, 44, 51], [8, 15, 20, 25, 32, 39, 44, 51]), ([], [])])
def r3_Cmp.B1 : List Nat := [0, 1, 3, 7, 0, 16, 48, 112, 255, 0, 512, 1536, 0, 4096, 12288, 32767, 0, 65536, 0, 262144, 1048575, 0, 2097152, 0, 8388608, 33554431, 0, 67108864, 201326592, 0, 536870912, 1610612736, 4294967295, 0, 8589934592, 25769803776, 0, 68719476736, 206158430208, 549755813887, 0, 1099511627776, 0, 4398046511104, 17592186044415, 0, 35184372088832, 105553116266496, 0, 281474976710656, 844424930131968, 2251799813685247, 4503599627370495, 0]
theorem r3_Cmp.tab1 : rtab .any (opsOf Try.f37 1) = r3_Cmp.T1 := by kernel_rfl
theorem r3_Cmp.bits1 : waitsOk r3_Cmp.T1.2 r3_Cmp.B1 = true := by kernel_rfl
set_option maxHeartbeats 8000000 in
set_option maxRecDepth 100000 in
theorem r3_Cmp.calls (k : Nat) (a0_0 : Int) (a0_1 : Int) (A0_2 : Option Addr) (c0_2 : Nat) (l0_2 : List Int) (A0_3 : Option Addr) (c0_3 : Nat) (l0_3 : List Int) (a0_4 : Int) (a0_5 : Int) (a0_6 : Int) (a0_7 : Int) (a1_0 : Int) (a1_1 : Int) (A1_2 : Option Addr) (c1_2 : Nat) (l1_2 : List Int) (A1_3 : Option Addr) (c1_3 : Nat) (l1_3 : List Int) (a1_4 : Int) (a1_5 : Int) (a1_6 : Int) (a1_7 : Int) (r : Int) (w : World) (hr0_2 : Kd.C (Kd.int .u32) w A0_2 l0_2.length l0_2) (hc0_2 : l0_2.length ≤ c0_2) (hr0_3 : Kd.C (Kd.int .u32) w A0_3 l0_3.length l0_3) (hc0_3 : l0_3.length ≤ c0_3) (hr1_2 : Kd.C (Kd.int .u32) w A1_2 l1_2.length l1_2) (hc1_2 : l1_2.length ≤ c1_2) (hr1_3 : Kd.C (Kd.int .u32) w A1_3 l1_3.length l1_3) (hc1_3 : l1_3.length ≤ c1_3) (h : r3_Cmp.f k a0_0 a0_1 l0_2 l0_3 a0_4 a0_5 a0_6 a0_7 a1_0 a1_1 l1_2 l1_3 a1_4 a1_5 a1_6 a1_7 = some r) :
 Calls Try.prog 37 #[.agg #[.int .u32 a0_0, .int .i64 a0_1, .slice A0_2 l0_2.length c0_2, .slice A0_3 l0_3.length c0_3, .int .u32 a0_4, .int .u32 a0_5, .int .i64 a0_6, .int .u32 a0_7], .agg #[.int .u32 a1_0, .int .i64 a1_1, .slice A1_2 l1_2.length c1_2, .slice A1_3 l1_3.length c1_3, .int .u32 a1_4, .int .u32 a1_5, .int .i64 a1_6, .int .u32 a1_7]] w fun e w' => e = .returned (.int .i64 r) ∧ Below w.heap.size w w' := by
 have hu50 := Try.underlying50
 have hu98 := Try.underlying98
 have HR0_2 := aM hr0_2
 have HC0_2 := aM hc0_2
 clear hr0_2 hc0_2
 have HR0_3 := aM hr0_3
 have HC0_3 := aM hc0_3
 clear hr0_3 hc0_3
 have HR1_2 := aM hr1_2
 have HC1_2 := aM hc1_2
 clear hr1_2 hc1_2
 have HR1_3 := aM hr1_3
 have HC1_3 := aM hc1_3
 clear hr1_3 hc1_3
 have HB := aM (Below.refl w.heap.size w)
 unfold r3_Cmp.f at h
 have H := h
 clear h
 obtain ⟨t420, A3, H⟩ := bnd_ H
 obtain ⟨t421, A4, H⟩ := bnd_ H
 obtain ⟨t422, A5, H⟩ := bnd_ H
 obtain ⟨t423, A6, H⟩ := bnd_ H
 obtain ⟨t424, A7, H⟩ := bnd_ H
 obtain ⟨t425, A8, H⟩ := bnd_ H
 obtain ⟨t426, A9, H⟩ := bnd_ H
 obtain ⟨t427, A10, H⟩ := bnd_ H
 obtain ⟨z0, z1, z2, z3, z4, z5, z6, z7, rfl⟩ := cz8_some H
 clear H
 go_enter Try.func37, Try.ntmps37
 try go_wp2_with (first | ((with_reducible refine gd_ 2 rfl ?_); refine be_ #[.int .u32 a0_0, .int .i64 a0_1, .slice A0_2 l0_2.length c0_2, .slice A0_3 l0_3.length c0_3, .int .u32 a0_4, .int .u32 a0_5, .int .i64 a0_6, .int .u32 a0_7] 50 ?_; intro gb418 hg w11 BK418 hb; have GW418 := ge_ HB hg; have GE418 := ge_ HB hg; replace HB := bs_ HB hb; clear hb hg) | ((with_reducible refine gd_ 3 rfl ?_); refine be_ #[.int .u32 a1_0, .int .i64 a1_1, .slice A1_2 l1_2.length c1_2, .slice A1_3 l1_3.length c1_3, .int .u32 a1_4, .int .u32 a1_5, .int .i64 a1_6, .int .u32 a1_7] 50 ?_; intro gb419 hg w12 BK419 hb; have GW419 := ge_ HB hg; have GE419 := ge_ HB hg; have NB418_419 := nl_ BK418 hg; have NB419_418 := ng_ BK418 hg; replace BK418 := bb_ BK418 hb; replace HB := bs_ HB hb; clear hb hg))
 replace BK418 := aM (blk_drew BK418.out)
 replace BK419 := aM (blk_drew BK419.out)
 replace HB := aM (below_drew1 HB.out)
 refine start_ (n := 54) (S := fun w' => w'.cell? ⟨gb418, 0, none⟩ = some (.int .u32 a0_0) ∧ w'.cell? ⟨gb418, 1, none⟩ = some (.int .i64 a0_1) ∧ w'.cell? ⟨gb418, 2, none⟩ = some (.slice A0_2 l0_2.length c0_2) ∧ w'.cell? ⟨gb418, 3, none⟩ = some (.slice A0_3 l0_3.length c0_3) ∧ w'.cell? ⟨gb418, 4, none⟩ = some (.int .u32 a0_4) ∧ w'.cell? ⟨gb418, 5, none⟩ = some (.int .u32 a0_5) ∧ w'.cell? ⟨gb418, 6, none⟩ = some (.int .i64 a0_6) ∧ w'.cell? ⟨gb418, 7, none⟩ = some (.int .u32 a0_7) ∧ w'.cell? ⟨gb419, 0, none⟩ = some (.int .u32 a1_0) ∧ w'.cell? ⟨gb419, 1, none⟩ = some (.int .i64 a1_1) ∧ w'.cell? ⟨gb419, 2, none⟩ = some (.slice A1_2 l1_2.length c1_2) ∧ w'.cell? ⟨gb419, 3, none⟩ = some (.slice A1_3 l1_3.length c1_3) ∧ w'.cell? ⟨gb419, 4, none⟩ = some (.int .u32 a1_4) ∧ w'.cell? ⟨gb419, 5, none⟩ = some (.int .u32 a1_5) ∧ w'.cell? ⟨gb419, 6, none⟩ = some (.int .i64 a1_6) ∧ w'.cell? ⟨gb419, 7, none⟩ = some (.int .u32 a1_7)) (ds := []) (tf 0 54) (by kernel_rfl) rfl rfl ⟨(blk_cell BK418.out 0).trans rfl, (blk_cell BK418.out 1).trans rfl, (blk_cell BK418.out 2).trans rfl, (blk_cell BK418.out 3).trans rfl, (blk_cell BK418.out 4).trans rfl, (blk_cell BK418.out 5).trans rfl, (blk_cell BK418.out 6).trans rfl, (blk_cell BK418.out 7).trans rfl, (blk_cell BK419.out 0).trans rfl, (blk_cell BK419.out 1).trans rfl, (blk_cell BK419.out 2).trans rfl, (blk_cell BK419.out 3).trans rfl, (blk_cell BK419.out 4).trans rfl, (blk_cell BK419.out 5).trans rfl, (blk_cell BK419.out 6).trans rfl, (blk_cell BK419.out 7).trans rfl⟩ (fun hHeld => ?_); refine with_tabW r3_Cmp.tab1 r3_Cmp.bits1 (fun HT_ HW_ => ?_)
 generalize w12.drew = w13 at BK418 BK419 HB hHeld ⊢
 refine pA_ 0 (some 7) ?_
 refine pA_ 1 (some 8) ?_
 refine pA_ 4 (some 11) ?_
 refine pA_ 5 (some 12) ?_
 refine pA_ 9 (some 16) ?_
 refine pA_ 10 (some 17) ?_
 refine pA_ 12 (some 19) ?_
 refine pA_ 13 (some 20) ?_
 refine pA_ 16 (some 23) ?_
 refine pA_ 18 (some 25) ?_
 refine pA_ 21 (some 28) ?_
 refine pA_ 23 (some 30) ?_
 refine pA_ 26 (some 33) ?_
 refine pA_ 29 (some 36) ?_
 refine pA_ 33 (some 40) ?_
 refine pA_ 36 (some 43) ?_
 refine pA_ 40 (some 47) ?_
 refine pA_ 42 (some 49) ?_
 refine pA_ 45 (some 52) ?_
 refine pA_ 48 (some 55) ?_
 refine pA_ 53 (some 60) ?_
 refine pT_ 2 (some 9) hHeld ?_
 refine pA_ 3 (some 10) ?_
 refine pT_ 6 (some 13) hHeld ?_
 refine pA_ 7 (some 14) ?_
 refine pT_ 11 (some 18) hHeld ?_
 refine pT_ 14 (some 21) hHeld ?_
 refine pT_ 17 (some 24) hHeld ?_
 refine pT_ 19 (some 26) hHeld ?_
 refine pT_ 22 (some 29) hHeld ?_
 refine pT_ 24 (some 31) hHeld ?_
 refine pT_ 27 (some 34) hHeld ?_
 refine pA_ 28 (some 35) ?_
 refine pT_ 30 (some 37) hHeld ?_
 refine pA_ 31 (some 38) ?_
 refine pT_ 34 (some 41) hHeld ?_
 refine pA_ 35 (some 42) ?_
 refine pT_ 37 (some 44) hHeld ?_
 refine pA_ 38 (some 45) ?_
 refine pT_ 41 (some 48) hHeld ?_
 refine pT_ 43 (some 50) hHeld ?_
 refine pT_ 46 (some 53) hHeld ?_
 refine pA_ 47 (some 54) ?_
 refine pT_ 49 (some 56) hHeld ?_
 refine pA_ 50 (some 57) ?_
 refine pO_ 8 (some 15) (fun K hK => ?_)
 refine gO_ Try.func68 #[.int .i64 (wrap64 (a0_0)), .int .i64 (wrap64 (a1_0))] rfl rfl ?_
 with_reducible refine (r3_number.calls (wrap64 (a0_0)) (wrap64 (a1_0)) t420 _ A3.out).mono ?_
 rintro e w' ⟨rfl, ⟨nd, rfl⟩⟩
 refine ⟨_, rfl, ?_⟩
 refine hK.out _ _ ⟨(blk_cell BK418.out 0).trans rfl, (blk_cell BK418.out 1).trans rfl, (blk_cell BK418.out 2).trans rfl, (blk_cell BK418.out 3).trans rfl, (blk_cell BK418.out 4).trans rfl, (blk_cell BK418.out 5).trans rfl, (blk_cell BK418.out 6).trans rfl, (blk_cell BK418.out 7).trans rfl, (blk_cell BK419.out 0).trans rfl, (blk_cell BK419.out 1).trans rfl, (blk_cell BK419.out 2).trans rfl, (blk_cell BK419.out 3).trans rfl, (blk_cell BK419.out 4).trans rfl, (blk_cell BK419.out 5).trans rfl, (blk_cell BK419.out 6).trans rfl, (blk_cell BK419.out 7).trans rfl⟩ (fun hHeld => ?_)
 clear hK K
 refine nO_ (some 15) ?_
 refine pO_ 15 (some 22) (fun K hK => ?_)
 refine gO_ Try.func68 #[.int .i64 a0_1, .int .i64 a1_1] rfl rfl ?_
 with_reducible refine (r3_number.calls a0_1 a1_1 t421 _ A4.out).mono ?_
 rintro e w' ⟨rfl, ⟨nd, rfl⟩⟩
 refine ⟨_, rfl, ?_⟩
 refine hK.out _ _ ⟨(blk_cell BK418.out 0).trans rfl, (blk_cell BK418.out 1).trans rfl, (blk_cell BK418.out 2).trans rfl, (blk_cell BK418.out 3).trans rfl, (blk_cell BK418.out 4).trans rfl, (blk_cell BK418.out 5).trans rfl, (blk_cell BK418.out 6).trans rfl, (blk_cell BK418.out 7).trans rfl, (blk_cell BK419.out 0).trans rfl, (blk_cell BK419.out 1).trans rfl, (blk_cell BK419.out 2).trans rfl, (blk_cell BK419.out 3).trans rfl, (blk_cell BK419.out 4).trans rfl, (blk_cell BK419.out 5).trans rfl, (blk_cell BK419.out 6).trans rfl, (blk_cell BK419.out 7).trans rfl⟩ (fun hHeld => ?_)
 clear hK K
 refine nO_ (some 22) ?_
 refine pO_ 20 (some 27) (fun K hK => ?_)
 refine gO_ Try.func69 #[.slice A0_2 l0_2.length c0_2, .slice A1_2 l1_2.length c1_2] rfl rfl ?_
 with_reducible refine (r3_list.calls k _ _ l0_2 _ _ l1_2 t422 _ ?side1 ?side2 ?side3 ?side4 A5.out).mono ?_
 (case side1 => exact uc_ (Kd.C_below HR0_2.out (bw_ HB.out)))
 (case side2 => exact HC0_2.out)
 (case side3 => exact uc_ (Kd.C_below HR1_2.out (bw_ HB.out)))
 (case side4 => exact HC1_2.out)
 rintro e w' ⟨rfl, ⟨nd, rfl⟩⟩
 refine ⟨_, rfl, ?_⟩
 refine hK.out _ _ ⟨(blk_cell BK418.out 0).trans rfl, (blk_cell BK418.out 1).trans rfl, (blk_cell BK418.out 2).trans rfl, (blk_cell BK418.out 3).trans rfl, (blk_cell BK418.out 4).trans rfl, (blk_cell BK418.out 5).trans rfl, (blk_cell BK418.out 6).trans rfl, (blk_cell BK418.out 7).trans rfl, (blk_cell BK419.out 0).trans rfl, (blk_cell BK419.out 1).trans rfl, (blk_cell BK419.out 2).trans rfl, (blk_cell BK419.out 3).trans rfl, (blk_cell BK419.out 4).trans rfl, (blk_cell BK419.out 5).trans rfl, (blk_cell BK419.out 6).trans rfl, (blk_cell BK419.out 7).trans rfl⟩ (fun hHeld => ?_)
 clear hK K
 refine nO_ (some 27) ?_
 refine pO_ 25 (some 32) (fun K hK => ?_)
 refine gO_ Try.func69 #[.slice A0_3 l0_3.length c0_3, .slice A1_3 l1_3.length c1_3] rfl rfl ?_
 with_reducible refine (r3_list.calls k _ _ l0_3 _ _ l1_3 t423 _ ?side1 ?side2 ?side3 ?side4 A6.out).mono ?_
 (case side1 => exact uc_ (Kd.C_below HR0_3.out (bw_ HB.out)))
 (case side2 => exact HC0_3.out)
 (case side3 => exact uc_ (Kd.C_below HR1_3.out (bw_ HB.out)))
 (case side4 => exact HC1_3.out)
 rintro e w' ⟨rfl, ⟨nd, rfl⟩⟩
 refine ⟨_, rfl, ?_⟩
 refine hK.out _ _ ⟨(blk_cell BK418.out 0).trans rfl, (blk_cell BK418.out 1).trans rfl, (blk_cell BK418.out 2).trans rfl, (blk_cell BK418.out 3).trans rfl, (blk_cell BK418.out 4).trans rfl, (blk_cell BK418.out 5).trans rfl, (blk_cell BK418.out 6).trans rfl, (blk_cell BK418.out 7).trans rfl, (blk_cell BK419.out 0).trans rfl, (blk_cell BK419.out 1).trans rfl, (blk_cell BK419.out 2).trans rfl, (blk_cell BK419.out 3).trans rfl, (blk_cell BK419.out 4).trans rfl, (blk_cell BK419.out 5).trans rfl, (blk_cell BK419.out 6).trans rfl, (blk_cell BK419.out 7).trans rfl⟩ (fun hHeld => ?_)
 clear hK K
 refine nO_ (some 32) ?_
 refine pO_ 32 (some 39) (fun K hK => ?_)
 refine gO_ Try.func68 #[.int .i64 (wrap64 (a0_4)), .int .i64 (wrap64 (a1_4))] rfl rfl ?_
 with_reducible refine (r3_number.calls (wrap64 (a0_4)) (wrap64 (a1_4)) t424 _ A7.out).mono ?_
 rintro e w' ⟨rfl, ⟨nd, rfl⟩⟩
 refine ⟨_, rfl, ?_⟩
 refine hK.out _ _ ⟨(blk_cell BK418.out 0).trans rfl, (blk_cell BK418.out 1).trans rfl, (blk_cell BK418.out 2).trans rfl, (blk_cell BK418.out 3).trans rfl, (blk_cell BK418.out 4).trans rfl, (blk_cell BK418.out 5).trans rfl, (blk_cell BK418.out 6).trans rfl, (blk_cell BK418.out 7).trans rfl, (blk_cell BK419.out 0).trans rfl, (blk_cell BK419.out 1).trans rfl, (blk_cell BK419.out 2).trans rfl, (blk_cell BK419.out 3).trans rfl, (blk_cell BK419.out 4).trans rfl, (blk_cell BK419.out 5).trans rfl, (blk_cell BK419.out 6).trans rfl, (blk_cell BK419.out 7).trans rfl⟩ (fun hHeld => ?_)
 clear hK K
 refine nO_ (some 39) ?_
 refine pO_ 39 (some 46) (fun K hK => ?_)
 refine gO_ Try.func68 #[.int .i64 (wrap64 (a0_5)), .int .i64 (wrap64 (a1_5))] rfl rfl ?_
 with_reducible refine (r3_number.calls (wrap64 (a0_5)) (wrap64 (a1_5)) t425 _ A8.out).mono ?_
 rintro e w' ⟨rfl, ⟨nd, rfl⟩⟩
 refine ⟨_, rfl, ?_⟩
 refine hK.out _ _ ⟨(blk_cell BK418.out 0).trans rfl, (blk_cell BK418.out 1).trans rfl, (blk_cell BK418.out 2).trans rfl, (blk_cell BK418.out 3).trans rfl, (blk_cell BK418.out 4).trans rfl, (blk_cell BK418.out 5).trans rfl, (blk_cell BK418.out 6).trans rfl, (blk_cell BK418.out 7).trans rfl, (blk_cell BK419.out 0).trans rfl, (blk_cell BK419.out 1).trans rfl, (blk_cell BK419.out 2).trans rfl, (blk_cell BK419.out 3).trans rfl, (blk_cell BK419.out 4).trans rfl, (blk_cell BK419.out 5).trans rfl, (blk_cell BK419.out 6).trans rfl, (blk_cell BK419.out 7).trans rfl⟩ (fun hHeld => ?_)
 clear hK K
 refine nO_ (some 46) ?_
 refine pO_ 44 (some 51) (fun K hK => ?_)
 refine gO_ Try.func68 #[.int .i64 a0_6, .int .i64 a1_6] rfl rfl ?_
 with_reducible refine (r3_number.calls a0_6 a1_6 t426 _ A9.out).mono ?_
 rintro e w' ⟨rfl, ⟨nd, rfl⟩⟩
 refine ⟨_, rfl, ?_⟩
 refine hK.out _ _ ⟨(blk_cell BK418.out 0).trans rfl, (blk_cell BK418.out 1).trans rfl, (blk_cell BK418.out 2).trans rfl, (blk_cell BK418.out 3).trans rfl, (blk_cell BK418.out 4).trans rfl, (blk_cell BK418.out 5).trans rfl, (blk_cell BK418.out 6).trans rfl, (blk_cell BK418.out 7).trans rfl, (blk_cell BK419.out 0).trans rfl, (blk_cell BK419.out 1).trans rfl, (blk_cell BK419.out 2).trans rfl, (blk_cell BK419.out 3).trans rfl, (blk_cell BK419.out 4).trans rfl, (blk_cell BK419.out 5).trans rfl, (blk_cell BK419.out 6).trans rfl, (blk_cell BK419.out 7).trans rfl⟩ (fun hHeld => ?_)
 clear hK K
 refine nO_ (some 51) ?_
 refine pO_ 51 (some 58) (fun K hK => ?_)
 refine gO_ Try.func68 #[.int .i64 (wrap64 (a0_7)), .int .i64 (wrap64 (a1_7))] rfl rfl ?_
 with_reducible refine (r3_number.calls (wrap64 (a0_7)) (wrap64 (a1_7)) t427 _ A10.out).mono ?_
 rintro e w' ⟨rfl, ⟨nd, rfl⟩⟩
 refine ⟨_, rfl, ?_⟩
 refine hK.out _ _ ⟨(blk_cell BK418.out 0).trans rfl, (blk_cell BK418.out 1).trans rfl, (blk_cell BK418.out 2).trans rfl, (blk_cell BK418.out 3).trans rfl, (blk_cell BK418.out 4).trans rfl, (blk_cell BK418.out 5).trans rfl, (blk_cell BK418.out 6).trans rfl, (blk_cell BK418.out 7).trans rfl, (blk_cell BK419.out 0).trans rfl, (blk_cell BK419.out 1).trans rfl, (blk_cell BK419.out 2).trans rfl, (blk_cell BK419.out 3).trans rfl, (blk_cell BK419.out 4).trans rfl, (blk_cell BK419.out 5).trans rfl, (blk_cell BK419.out 6).trans rfl, (blk_cell BK419.out 7).trans rfl⟩ (fun hHeld => ?_)
 clear hK K
 refine nO_ (some 58) ?_
 refine pA_ 52 (some 59) ?_
 refine done_ (done_of HT_.out (by kernel_rfl)) ?_
 subst z0 z1 z2 z3 z4 z5 z6 z7
 have ix : ∀ (n : Nat) W, n < 8 → (Instr.index 98 (.agg #[.int .i64 0, .int .i64 0, .int .i64 0, .int .i64 0, .int .i64 0, .int .i64 0, .int .i64 0, .int .i64 0]) (.int .i64 n)).run Try.prog W = .ok (.int .i64 0) W := fun n W hn => by
  unfold Instr.index
  obtain rfl | rfl | rfl | rfl | rfl | rfl | rfl | rfl : n = 0 ∨ n = 1 ∨ n = 2 ∨ n = 3 ∨ n = 4 ∨ n = 5 ∨ n = 6 ∨ n = 7 := by omega
  all_goals go_simp
 try go_wp2
 go_loopg [60] 8 (fun g v60 w' => ∃ (n : Nat), n ≤ 8 ∧ 8 - n ≤ g ∧ v60 = .int .i64 n ∧ Aside0 (Below w.heap.size w w'))
 case atStart => exact ⟨0, by omega, by omega, rfl, ⟨bw_ HB.out⟩⟩
 case round =>
  obtain ⟨n, hn, hg, rfl, HB⟩ := hrel
  by_cases c : n < 8
  · have c0 : decide ((n : Int) < 8) = true := decide_eq_true (by omega)
    have ix0 := fun W => ix n W c
    have e1 : wrap64 ((n : Int) + 1) = (n + 1 : Nat) := by unfold wrap64; omega
    go_wp2
    obtain ⟨g1, rfl⟩ : ∃ g1, gk = g1 + 1 := ⟨gk - 1, by omega⟩
    go_roundg g1
    case measure => omega
    case rel => exact ⟨n + 1, by omega, by omega, by first | rfl | (rw [e1]; rfl) | simp [*], HB⟩
  · have c0 : decide ((n : Int) < 8) = false := decide_eq_false (by omega)
    go_wp2
    first | go_ret | refine ⟨_, results_tmp rfl _ _ _, ?_⟩
    exact ⟨rfl, HB.out⟩
end Go.Proofs.Ytlkjfjlmjgkheaa.H
