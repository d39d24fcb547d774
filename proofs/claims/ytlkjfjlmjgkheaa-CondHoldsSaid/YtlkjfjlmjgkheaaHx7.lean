import Derived.Test.YtlkjfjlmjgkheaaHx0
import Derived.Test.YtlkjfjlmjgkheaaHx4
import Derived.Test.YtlkjfjlmjgkheaaHx6
namespace Go.Proofs.Ytlkjfjlmjgkheaa.H
open Go.RowKit Go.Proofs.YtlkjfjlmjgkheaaW.PrintWords Go.Proofs.YtlkjfjlmjgkheaaW.PrintLast Go.Proofs.YtlkjfjlmjgkheaaW.PrintMore
attribute [local go_sem] max2_int min2_int max_two min_two max_three min_three max_four min_four
set_option linter.unusedVariables false
set_option linter.unusedSimpArgs false
attribute [local go_sem high] eqA48
def pfx_Right.f (a0_0 : Int) (a0_1 : Int) (a0_2 : Int) (a0_3 : Int) : Option (Bool) := (route_Mask.f a0_0 a0_1).bind fun bt113 => (if (a0_0 == bt113.1 && (a0_1 == bt113.2)) = true then (if a0_2 ≥ a0_1 then (if a0_3 ≥ a0_2 then (some (decide (a0_3 ≤ 32))) else (some false)) else (some false)) else (some false))
def pfx_Right.T1 : Bool × List (List Nat × List Nat) := (true, [([], []), ([0], [0]), ([], []), ([2], [2]), ([3], [3]), ([1, 4], [1, 4]), ([5, 4], [5]), ([6], [6]), ([7, 6], [6, 7]), ([6], [6]), ([9, 6], [6, 9]), ([10, 6], [6, 10]), ([8, 11, 6], [6, 8, 11]), ([6, 12], [6, 12]), ([13, 6], [13]), ([14], [14]), ([15, 14], [14, 15]), ([14], [14]), ([17, 14], [14, 17]), ([16, 18, 14], [14, 16, 18]), ([14, 19], [14, 19]), ([20, 14], [20]), ([21], [21]), ([22, 21], [21, 22]), ([23, 21], [21, 23]), ([21, 24], [21, 24]), ([25, 21, 0, 1, 2, 3, 4, 5, 6, 7, 8, 9, 10, 11, 12, 13, 14, 15, 16, 17, 18, 19, 20, 21, 22, 23, 24, 25], [25])])
def pfx_Right.B1 : List Nat := [0, 1, 0, 4, 12, 31, 63, 127, 255, 127, 639, 1663, 4095, 8191, 16383, 32767, 65535, 32767, 163839, 524287, 1048575, 2097151, 4194303, 8388607, 16777215, 33554431, 67108863]
theorem pfx_Right.tab1 : rtab .any (opsOf Try.f55 1) = pfx_Right.T1 := by kernel_rfl
theorem pfx_Right.bits1 : waitsOk pfx_Right.T1.2 pfx_Right.B1 = true := by kernel_rfl
set_option maxHeartbeats 8000000 in
set_option maxRecDepth 100000 in
theorem pfx_Right.calls (a0_0 : Int) (a0_1 : Int) (a0_2 : Int) (a0_3 : Int) (r : Bool) (w : World) (h : pfx_Right.f a0_0 a0_1 a0_2 a0_3 = some r) :
 Calls Try.prog 55 #[.agg #[.int .u32 a0_0, .int .i64 a0_1, .int .i64 a0_2, .int .i64 a0_3]] w fun e w' => e = .returned (.bool r) ∧ Below w.heap.size w w' := by
 have hu81 := Try.underlying81
 have hu48 := Try.underlying48
 have HB := aM (Below.refl w.heap.size w)
 unfold pfx_Right.f at h
 have H := h
 clear h
 obtain ⟨⟨t113, t114⟩, A2, H⟩ := bnd_ H
 dsimp only at H
 by_cases c3 : (a0_0 == t113 && (a0_1 == t114)) = true
 rotate_left
 · rw [if_neg c3] at H
   have c3b0 : (a0_0 == t113 && (a0_1 == t114)) = false := by simpa using c3
   (try (have c3b1 : decide (a0_0 = t113 && (a0_1 == t114)) = false := by simpa using c3))
   (try (have c3b2 : (a0_0 == t113 && (a0_1 == t114)) = false := by simpa using c3))
   (try (have c3b3 : ¬ (a0_0 = t113 && (a0_1 == t114)) := by simpa using c3))
   clear c3
   obtain rfl := Option.some.inj H
   go_enter Try.func55, Try.ntmps55
   try go_wp2_with (first | ((with_reducible refine gd_ 1 rfl ?_); refine be_ #[.int .u32 a0_0, .int .i64 a0_1, .int .i64 a0_2, .int .i64 a0_3] 81 ?_; intro gb112 hg w15 BK112 hb; have GW112 := ge_ HB hg; have GE112 := ge_ HB hg; replace HB := bs_ HB hb; clear hb hg))
   replace BK112 := aM (blk_drew BK112.out)
   replace HB := aM (below_drew1 HB.out)
   refine start_ (n := 27) (S := fun w' => w'.cell? ⟨gb112, 0, none⟩ = some (.int .u32 a0_0) ∧ w'.cell? ⟨gb112, 1, none⟩ = some (.int .i64 a0_1) ∧ w'.cell? ⟨gb112, 2, none⟩ = some (.int .i64 a0_2) ∧ w'.cell? ⟨gb112, 3, none⟩ = some (.int .i64 a0_3)) (ds := []) (tf 0 27) (by kernel_rfl) rfl rfl (bd4_ BK112) (fun hHeld => ?_); refine with_tabW pfx_Right.tab1 pfx_Right.bits1 (fun HT_ HW_ => ?_)
   generalize w15.drew = w16 at BK112 HB hHeld ⊢
   refine pA_ 0 (some 3) ?_
   refine pA_ 2 (some 5) ?_
   refine pT_ 1 (some 4) hHeld ?_
   refine pT_ 3 (some 6) hHeld ?_
   refine pO_ 4 (some 7) (fun K hK => ?_)
   refine gO_ Try.func86 #[.agg #[.int .u32 a0_0, .int .i64 a0_1]] rfl rfl ?_
   with_reducible refine (route_Mask.calls a0_0 a0_1 t113 t114 _ A2.out).mono ?_
   rintro e w17 ⟨rfl, hb⟩
   refine ⟨_, rfl, ?_⟩
   replace BK112 := bb_ BK112 hb
   replace HB := bs_ HB hb
   (try clear hb)
   (try clear hb2)
   (try clear hk)
   (try clear hi)
   refine hK.out _ _ (bd4_ BK112) (fun hHeld => ?_)
   clear hK K
   refine nO_ (some 7) ?_
   refine pA_ 5 (some 8) ?_
   refine pA_ 6 (some 9) ?_
   refine pS_ 7 (some 10) ?_
   refine pS_ 8 (some 11) ?_
   refine pS_ 9 (some 12) ?_
   refine pS_ 10 (some 13) ?_
   refine pS_ 11 (some 14) ?_
   refine pS_ 12 (some 15) ?_
   refine pA_ 13 (some 16) ?_
   refine pA_ 14 (some 17) ?_
   refine pS_ 15 (some 18) ?_
   refine pS_ 16 (some 19) ?_
   refine pS_ 17 (some 20) ?_
   refine pS_ 18 (some 21) ?_
   refine pS_ 19 (some 22) ?_
   refine pA_ 20 (some 23) ?_
   refine pA_ 21 (some 24) ?_
   refine pS_ 22 (some 25) ?_
   refine pS_ 23 (some 26) ?_
   refine pS_ 24 (some 27) ?_
   refine pA_ 25 (some 28) ?_
   refine pA_ 26 (some 2) ?_
   refine done_ (done_of HT_.out (by kernel_rfl)) ?_
   try go_wp2
   first | go_ret | refine ⟨_, results_tmp rfl _ _ _, ?_⟩
   exact fin_ HB
 rw [if_pos c3] at H
 have c3b0 : (a0_0 == t113 && (a0_1 == t114)) = true := c3
 (try (have c3b1 : decide (a0_0 = t113 && (a0_1 == t114)) = true := by simpa using c3))
 (try (have c3b2 : (a0_0 == t113 && (a0_1 == t114)) = true := by simpa using c3))
 clear c3
 by_cases c4 : a0_2 ≥ a0_1
 rotate_left
 · rw [if_neg c4] at H
   have c4b0 : decide (a0_1 ≤ a0_2) = false := decide_eq_false c4
   clear c4
   obtain rfl := Option.some.inj H
   go_enter Try.func55, Try.ntmps55
   try go_wp2_with (first | ((with_reducible refine gd_ 1 rfl ?_); refine be_ #[.int .u32 a0_0, .int .i64 a0_1, .int .i64 a0_2, .int .i64 a0_3] 81 ?_; intro gb112 hg w12 BK112 hb; have GW112 := ge_ HB hg; have GE112 := ge_ HB hg; replace HB := bs_ HB hb; clear hb hg))
   replace BK112 := aM (blk_drew BK112.out)
   replace HB := aM (below_drew1 HB.out)
   refine start_ (n := 27) (S := fun w' => w'.cell? ⟨gb112, 0, none⟩ = some (.int .u32 a0_0) ∧ w'.cell? ⟨gb112, 1, none⟩ = some (.int .i64 a0_1) ∧ w'.cell? ⟨gb112, 2, none⟩ = some (.int .i64 a0_2) ∧ w'.cell? ⟨gb112, 3, none⟩ = some (.int .i64 a0_3)) (ds := []) (tf 0 27) (by kernel_rfl) rfl rfl (bd4_ BK112) (fun hHeld => ?_); refine with_tabW pfx_Right.tab1 pfx_Right.bits1 (fun HT_ HW_ => ?_)
   generalize w12.drew = w13 at BK112 HB hHeld ⊢
   refine pA_ 0 (some 3) ?_
   refine pA_ 2 (some 5) ?_
   refine pT_ 1 (some 4) hHeld ?_
   refine pT_ 3 (some 6) hHeld ?_
   refine pO_ 4 (some 7) (fun K hK => ?_)
   refine gO_ Try.func86 #[.agg #[.int .u32 a0_0, .int .i64 a0_1]] rfl rfl ?_
   with_reducible refine (route_Mask.calls a0_0 a0_1 t113 t114 _ A2.out).mono ?_
   rintro e w14 ⟨rfl, hb⟩
   refine ⟨_, rfl, ?_⟩
   replace BK112 := bb_ BK112 hb
   replace HB := bs_ HB hb
   (try clear hb)
   (try clear hb2)
   (try clear hk)
   (try clear hi)
   refine hK.out _ _ (bd4_ BK112) (fun hHeld => ?_)
   clear hK K
   refine nO_ (some 7) ?_
   refine pA_ 5 (some 8) ?_
   refine pA_ 6 (some 9) ?_
   refine pA_ 7 (some 10) ?_
   refine pA_ 9 (some 12) ?_
   refine pA_ 10 (some 13) ?_
   refine pT_ 8 (some 11) hHeld ?_
   refine pT_ 11 (some 14) hHeld ?_
   refine pA_ 12 (some 15) ?_
   refine pA_ 13 (some 16) ?_
   refine pA_ 14 (some 17) ?_
   refine pS_ 15 (some 18) ?_
   refine pS_ 16 (some 19) ?_
   refine pS_ 17 (some 20) ?_
   refine pS_ 18 (some 21) ?_
   refine pS_ 19 (some 22) ?_
   refine pA_ 20 (some 23) ?_
   refine pA_ 21 (some 24) ?_
   refine pS_ 22 (some 25) ?_
   refine pS_ 23 (some 26) ?_
   refine pS_ 24 (some 27) ?_
   refine pA_ 25 (some 28) ?_
   refine pA_ 26 (some 2) ?_
   refine done_ (done_of HT_.out (by kernel_rfl)) ?_
   try go_wp2
   first | go_ret | refine ⟨_, results_tmp rfl _ _ _, ?_⟩
   exact fin_ HB
 rw [if_pos c4] at H
 have c4b0 : decide (a0_1 ≤ a0_2) = true := decide_eq_true c4
 clear c4
 by_cases c5 : a0_3 ≥ a0_2
 rotate_left
 · rw [if_neg c5] at H
   have c5b0 : decide (a0_2 ≤ a0_3) = false := decide_eq_false c5
   clear c5
   obtain rfl := Option.some.inj H
   go_enter Try.func55, Try.ntmps55
   try go_wp2_with (first | ((with_reducible refine gd_ 1 rfl ?_); refine be_ #[.int .u32 a0_0, .int .i64 a0_1, .int .i64 a0_2, .int .i64 a0_3] 81 ?_; intro gb112 hg w9 BK112 hb; have GW112 := ge_ HB hg; have GE112 := ge_ HB hg; replace HB := bs_ HB hb; clear hb hg))
   replace BK112 := aM (blk_drew BK112.out)
   replace HB := aM (below_drew1 HB.out)
   refine start_ (n := 27) (S := fun w' => w'.cell? ⟨gb112, 0, none⟩ = some (.int .u32 a0_0) ∧ w'.cell? ⟨gb112, 1, none⟩ = some (.int .i64 a0_1) ∧ w'.cell? ⟨gb112, 2, none⟩ = some (.int .i64 a0_2) ∧ w'.cell? ⟨gb112, 3, none⟩ = some (.int .i64 a0_3)) (ds := []) (tf 0 27) (by kernel_rfl) rfl rfl (bd4_ BK112) (fun hHeld => ?_); refine with_tabW pfx_Right.tab1 pfx_Right.bits1 (fun HT_ HW_ => ?_)
   generalize w9.drew = w10 at BK112 HB hHeld ⊢
   refine pA_ 0 (some 3) ?_
   refine pA_ 2 (some 5) ?_
   refine pT_ 1 (some 4) hHeld ?_
   refine pT_ 3 (some 6) hHeld ?_
   refine pO_ 4 (some 7) (fun K hK => ?_)
   refine gO_ Try.func86 #[.agg #[.int .u32 a0_0, .int .i64 a0_1]] rfl rfl ?_
   with_reducible refine (route_Mask.calls a0_0 a0_1 t113 t114 _ A2.out).mono ?_
   rintro e w11 ⟨rfl, hb⟩
   refine ⟨_, rfl, ?_⟩
   replace BK112 := bb_ BK112 hb
   replace HB := bs_ HB hb
   (try clear hb)
   (try clear hb2)
   (try clear hk)
   (try clear hi)
   refine hK.out _ _ (bd4_ BK112) (fun hHeld => ?_)
   clear hK K
   refine nO_ (some 7) ?_
   refine pA_ 5 (some 8) ?_
   refine pA_ 6 (some 9) ?_
   refine pA_ 7 (some 10) ?_
   refine pA_ 9 (some 12) ?_
   refine pA_ 10 (some 13) ?_
   refine pT_ 8 (some 11) hHeld ?_
   refine pT_ 11 (some 14) hHeld ?_
   refine pA_ 12 (some 15) ?_
   refine pA_ 13 (some 16) ?_
   refine pA_ 14 (some 17) ?_
   refine pA_ 15 (some 18) ?_
   refine pA_ 17 (some 20) ?_
   refine pT_ 16 (some 19) hHeld ?_
   refine pT_ 18 (some 21) hHeld ?_
   refine pA_ 19 (some 22) ?_
   refine pA_ 20 (some 23) ?_
   refine pA_ 21 (some 24) ?_
   refine pS_ 22 (some 25) ?_
   refine pS_ 23 (some 26) ?_
   refine pS_ 24 (some 27) ?_
   refine pA_ 25 (some 28) ?_
   refine pA_ 26 (some 2) ?_
   refine done_ (done_of HT_.out (by kernel_rfl)) ?_
   try go_wp2
   first | go_ret | refine ⟨_, results_tmp rfl _ _ _, ?_⟩
   exact fin_ HB
 rw [if_pos c5] at H
 have c5b0 : decide (a0_2 ≤ a0_3) = true := decide_eq_true c5
 clear c5
 obtain rfl := Option.some.inj H
 go_enter Try.func55, Try.ntmps55
 try go_wp2_with (first | ((with_reducible refine gd_ 1 rfl ?_); refine be_ #[.int .u32 a0_0, .int .i64 a0_1, .int .i64 a0_2, .int .i64 a0_3] 81 ?_; intro gb112 hg w6 BK112 hb; have GW112 := ge_ HB hg; have GE112 := ge_ HB hg; replace HB := bs_ HB hb; clear hb hg))
 replace BK112 := aM (blk_drew BK112.out)
 replace HB := aM (below_drew1 HB.out)
 refine start_ (n := 27) (S := fun w' => w'.cell? ⟨gb112, 0, none⟩ = some (.int .u32 a0_0) ∧ w'.cell? ⟨gb112, 1, none⟩ = some (.int .i64 a0_1) ∧ w'.cell? ⟨gb112, 2, none⟩ = some (.int .i64 a0_2) ∧ w'.cell? ⟨gb112, 3, none⟩ = some (.int .i64 a0_3)) (ds := []) (tf 0 27) (by kernel_rfl) rfl rfl (bd4_ BK112) (fun hHeld => ?_); refine with_tabW pfx_Right.tab1 pfx_Right.bits1 (fun HT_ HW_ => ?_)
 generalize w6.drew = w7 at BK112 HB hHeld ⊢
 refine pA_ 0 (some 3) ?_
 refine pA_ 2 (some 5) ?_
 refine pT_ 1 (some 4) hHeld ?_
 refine pT_ 3 (some 6) hHeld ?_
 refine pO_ 4 (some 7) (fun K hK => ?_)
 refine gO_ Try.func86 #[.agg #[.int .u32 a0_0, .int .i64 a0_1]] rfl rfl ?_
 with_reducible refine (route_Mask.calls a0_0 a0_1 t113 t114 _ A2.out).mono ?_
 rintro e w8 ⟨rfl, hb⟩
 refine ⟨_, rfl, ?_⟩
 replace BK112 := bb_ BK112 hb
 replace HB := bs_ HB hb
 (try clear hb)
 (try clear hb2)
 (try clear hk)
 (try clear hi)
 refine hK.out _ _ (bd4_ BK112) (fun hHeld => ?_)
 clear hK K
 refine nO_ (some 7) ?_
 refine pA_ 5 (some 8) ?_
 refine pA_ 6 (some 9) ?_
 refine pA_ 7 (some 10) ?_
 refine pA_ 9 (some 12) ?_
 refine pA_ 10 (some 13) ?_
 refine pT_ 8 (some 11) hHeld ?_
 refine pT_ 11 (some 14) hHeld ?_
 refine pA_ 12 (some 15) ?_
 refine pA_ 13 (some 16) ?_
 refine pA_ 14 (some 17) ?_
 refine pA_ 15 (some 18) ?_
 refine pA_ 17 (some 20) ?_
 refine pT_ 16 (some 19) hHeld ?_
 refine pT_ 18 (some 21) hHeld ?_
 refine pA_ 19 (some 22) ?_
 refine pA_ 20 (some 23) ?_
 refine pA_ 21 (some 24) ?_
 refine pA_ 22 (some 25) ?_
 refine pT_ 23 (some 26) hHeld ?_
 refine pA_ 24 (some 27) ?_
 refine pA_ 25 (some 28) ?_
 refine pA_ 26 (some 2) ?_
 refine done_ (done_of HT_.out (by kernel_rfl)) ?_
 try go_wp2
 first | go_ret | refine ⟨_, results_tmp rfl _ _ _, ?_⟩
 exact fin_ HB
end Go.Proofs.Ytlkjfjlmjgkheaa.H
