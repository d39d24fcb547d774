import Derived.Test.YtlkjfjlmjgkheaaHx0
import Derived.Test.YtlkjfjlmjgkheaaHx4
import Derived.Test.YtlkjfjlmjgkheaaHx6
import Derived.Test.YtlkjfjlmjgkheaaHx7
import Derived.Test.YtlkjfjlmjgkheaaHx12
namespace Go.Proofs.Ytlkjfjlmjgkheaa.H
open Go.RowKit Go.Proofs.YtlkjfjlmjgkheaaW.PrintWords Go.Proofs.YtlkjfjlmjgkheaaW.PrintLast Go.Proofs.YtlkjfjlmjgkheaaW.PrintMore
attribute [local go_sem] max2_int min2_int max_two min_two max_three min_three max_four min_four
set_option linter.unusedVariables false
set_option linter.unusedSimpArgs false
attribute [local go_sem high] eqA48
def pfx_In.f (a0_0 : Int) (a0_1 : Int) (a0_2 : Int) (a0_3 : Int) (a1_0 : Int) (a1_1 : Int) : Option (Bool) := (pfx_Right.f a0_0 a0_1 a0_2 a0_3).bind fun t172 => (if t172 = true then ((route_Mask.f a1_0 a1_1).bind fun bt173 => (if (a1_0 == bt173.1 && (a1_1 == bt173.2)) = true then (if a1_1 ≥ a0_2 then (if a1_1 ≤ a0_3 then ((pfx_begins.f a1_0 a0_0 a0_1).bind fun t175 => (some t175)) else (some false)) else (some false)) else (some false))) else (some false))
def pfx_In.T1 : Bool × List (List Nat × List Nat) := (true, [([], []), ([0], [0]), ([1, 1], [1]), ([2], [2]), ([2], [2]), ([4, 2, 2], [2, 4]), ([3, 5, 2], [2, 3, 5]), ([2, 6], [2, 6]), ([7, 5], [7]), ([8], [8]), ([9, 8], [8, 9]), ([8], [8]), ([11, 8], [8, 11]), ([10, 12, 8], [8, 10, 12]), ([8, 13], [8, 13]), ([14, 8], [14]), ([15], [15]), ([16, 15], [15, 16]), ([15], [15]), ([18, 15], [15, 18]), ([17, 19, 15], [15, 17, 19]), ([15, 20], [15, 20]), ([21, 15], [21]), ([22], [22]), ([23, 22], [22, 23]), ([22], [22]), ([25, 22], [22, 25]), ([24, 26, 22, 22], [22, 24, 26]), ([22, 27], [22, 27]), ([28, 27, 0, 1, 2, 3, 4, 5, 6, 7, 8, 9, 10, 11, 12, 13, 14, 15, 16, 17, 18, 19, 20, 21, 22, 23, 24, 25, 26, 27, 28], [28])])
def pfx_In.B1 : List Nat := [0, 1, 3, 7, 7, 23, 63, 127, 255, 511, 1023, 511, 2559, 8191, 16383, 32767, 65535, 131071, 65535, 327679, 1048575, 2097151, 4194303, 8388607, 16777215, 8388607, 41943039, 134217727, 268435455, 536870911]
theorem pfx_In.tab1 : rtab .any (opsOf Try.f91 1) = pfx_In.T1 := by kernel_rfl
theorem pfx_In.bits1 : waitsOk pfx_In.T1.2 pfx_In.B1 = true := by kernel_rfl
set_option maxHeartbeats 8000000 in
set_option maxRecDepth 100000 in
theorem pfx_In.calls (a0_0 : Int) (a0_1 : Int) (a0_2 : Int) (a0_3 : Int) (a1_0 : Int) (a1_1 : Int) (r : Bool) (w : World) (h : pfx_In.f a0_0 a0_1 a0_2 a0_3 a1_0 a1_1 = some r) :
 Calls Try.prog 91 #[.agg #[.int .u32 a0_0, .int .i64 a0_1, .int .i64 a0_2, .int .i64 a0_3], .agg #[.int .u32 a1_0, .int .i64 a1_1]] w fun e w' => e = .returned (.bool r) ∧ Below w.heap.size w w' := by
 have hu81 := Try.underlying81
 have hu48 := Try.underlying48
 have HB := aM (Below.refl w.heap.size w)
 unfold pfx_In.f at h
 have H := h
 clear h
 obtain ⟨t172, A3, H⟩ := bnd_ H
 by_cases c4 : t172 = true
 rotate_left
 · replace c4 := Bool.eq_false_iff.mpr c4
   subst c4
   rw [if_neg (show ¬ (false = true) by decide)] at H
   obtain rfl := Option.some.inj H
   go_enter Try.func91, Try.ntmps91
   try go_wp2_with (first | ((with_reducible refine gd_ 2 rfl ?_); refine be_ #[.int .u32 a0_0, .int .i64 a0_1, .int .i64 a0_2, .int .i64 a0_3] 81 ?_; intro gb170 hg w31 BK170 hb; have GW170 := ge_ HB hg; have GE170 := ge_ HB hg; replace HB := bs_ HB hb; clear hb hg) | ((with_reducible refine gd_ 3 rfl ?_); refine be_ #[.int .u32 a1_0, .int .i64 a1_1] 48 ?_; intro gb171 hg w32 BK171 hb; have GW171 := ge_ HB hg; have GE171 := ge_ HB hg; have NB170_171 := nl_ BK170 hg; have NB171_170 := ng_ BK170 hg; replace BK170 := bb_ BK170 hb; replace HB := bs_ HB hb; clear hb hg))
   replace BK170 := aM (blk_drew BK170.out)
   replace BK171 := aM (blk_drew BK171.out)
   replace HB := aM (below_drew1 HB.out)
   refine start_ (n := 30) (S := fun w' => w'.cell? ⟨gb170, 0, none⟩ = some (.int .u32 a0_0) ∧ w'.cell? ⟨gb170, 1, none⟩ = some (.int .i64 a0_1) ∧ w'.cell? ⟨gb170, 2, none⟩ = some (.int .i64 a0_2) ∧ w'.cell? ⟨gb170, 3, none⟩ = some (.int .i64 a0_3)) (ds := []) (tf 0 30) (by kernel_rfl) rfl rfl (bd4_ BK170) (fun hHeld => ?_); refine with_tabW pfx_In.tab1 pfx_In.bits1 (fun HT_ HW_ => ?_)
   generalize w32.drew = w33 at BK170 BK171 HB hHeld ⊢
   refine pT_ 0 (some 5) hHeld ?_
   refine pO_ 1 (some 6) (fun K hK => ?_)
   refine gO_ Try.func55 #[.agg #[.int .u32 a0_0, .int .i64 a0_1, .int .i64 a0_2, .int .i64 a0_3]] rfl rfl ?_
   with_reducible refine (pfx_Right.calls a0_0 a0_1 a0_2 a0_3 false _ A3.out).mono ?_
   rintro e w34 ⟨rfl, hb⟩
   refine ⟨_, rfl, ?_⟩
   replace BK170 := bb_ BK170 hb
   replace BK171 := bb_ BK171 hb
   replace HB := bs_ HB hb
   (try clear hb)
   (try clear hb2)
   (try clear hk)
   (try clear hi)
   refine hK.out _ _ (bd4_ BK170) (fun hHeld => ?_)
   clear hK K
   refine nO_ (some 6) ?_
   refine pA_ 2 (some 7) ?_
   refine pS_ 3 (some 8) ?_
   refine pS_ 4 (some 9) ?_
   refine pS_ 5 (some 10) ?_
   refine pS_ 6 (some 11) ?_
   refine pA_ 7 (some 12) ?_
   refine pA_ 8 (some 13) ?_
   refine pS_ 9 (some 14) ?_
   refine pS_ 10 (some 15) ?_
   refine pS_ 11 (some 16) ?_
   refine pS_ 12 (some 17) ?_
   refine pS_ 13 (some 18) ?_
   refine pA_ 14 (some 19) ?_
   refine pA_ 15 (some 20) ?_
   refine pS_ 16 (some 21) ?_
   refine pS_ 17 (some 22) ?_
   refine pS_ 18 (some 23) ?_
   refine pS_ 19 (some 24) ?_
   refine pS_ 20 (some 25) ?_
   refine pA_ 21 (some 26) ?_
   refine pA_ 22 (some 27) ?_
   refine pS_ 23 (some 28) ?_
   refine pS_ 24 (some 29) ?_
   refine pS_ 25 (some 30) ?_
   refine pS_ 26 (some 31) ?_
   refine pS_ 27 (some 32) ?_
   refine pA_ 28 (some 33) ?_
   refine pA_ 29 (some 4) ?_
   refine done_ (done_of HT_.out (by kernel_rfl)) ?_
   try go_wp2
   first | go_ret | refine ⟨_, results_tmp rfl _ _ _, ?_⟩
   exact fin_ HB
 subst c4
 rw [if_pos rfl] at H
 obtain ⟨⟨t173, t174⟩, A5, H⟩ := bnd_ H
 dsimp only at H
 by_cases c6 : (a1_0 == t173 && (a1_1 == t174)) = true
 rotate_left
 · rw [if_neg c6] at H
   have c6b0 : (a1_0 == t173 && (a1_1 == t174)) = false := by simpa using c6
   (try (have c6b1 : decide (a1_0 = t173 && (a1_1 == t174)) = false := by simpa using c6))
   (try (have c6b2 : (a1_0 == t173 && (a1_1 == t174)) = false := by simpa using c6))
   (try (have c6b3 : ¬ (a1_0 = t173 && (a1_1 == t174)) := by simpa using c6))
   clear c6
   obtain rfl := Option.some.inj H
   go_enter Try.func91, Try.ntmps91
   try go_wp2_with (first | ((with_reducible refine gd_ 2 rfl ?_); refine be_ #[.int .u32 a0_0, .int .i64 a0_1, .int .i64 a0_2, .int .i64 a0_3] 81 ?_; intro gb170 hg w26 BK170 hb; have GW170 := ge_ HB hg; have GE170 := ge_ HB hg; replace HB := bs_ HB hb; clear hb hg) | ((with_reducible refine gd_ 3 rfl ?_); refine be_ #[.int .u32 a1_0, .int .i64 a1_1] 48 ?_; intro gb171 hg w27 BK171 hb; have GW171 := ge_ HB hg; have GE171 := ge_ HB hg; have NB170_171 := nl_ BK170 hg; have NB171_170 := ng_ BK170 hg; replace BK170 := bb_ BK170 hb; replace HB := bs_ HB hb; clear hb hg))
   replace BK170 := aM (blk_drew BK170.out)
   replace BK171 := aM (blk_drew BK171.out)
   replace HB := aM (below_drew1 HB.out)
   refine start_ (n := 30) (S := fun w' => w'.cell? ⟨gb170, 0, none⟩ = some (.int .u32 a0_0) ∧ w'.cell? ⟨gb170, 1, none⟩ = some (.int .i64 a0_1) ∧ w'.cell? ⟨gb170, 2, none⟩ = some (.int .i64 a0_2) ∧ w'.cell? ⟨gb170, 3, none⟩ = some (.int .i64 a0_3) ∧ w'.cell? ⟨gb171, 0, none⟩ = some (.int .u32 a1_0) ∧ w'.cell? ⟨gb171, 1, none⟩ = some (.int .i64 a1_1)) (ds := []) (tf 0 30) (by kernel_rfl) rfl rfl ⟨(blk_cell BK170.out 0).trans rfl, (blk_cell BK170.out 1).trans rfl, (blk_cell BK170.out 2).trans rfl, (blk_cell BK170.out 3).trans rfl, (blk_cell BK171.out 0).trans rfl, (blk_cell BK171.out 1).trans rfl⟩ (fun hHeld => ?_); refine with_tabW pfx_In.tab1 pfx_In.bits1 (fun HT_ HW_ => ?_)
   generalize w27.drew = w28 at BK170 BK171 HB hHeld ⊢
   refine pT_ 0 (some 5) hHeld ?_
   refine pO_ 1 (some 6) (fun K hK => ?_)
   refine gO_ Try.func55 #[.agg #[.int .u32 a0_0, .int .i64 a0_1, .int .i64 a0_2, .int .i64 a0_3]] rfl rfl ?_
   with_reducible refine (pfx_Right.calls a0_0 a0_1 a0_2 a0_3 true _ A3.out).mono ?_
   rintro e w29 ⟨rfl, hb⟩
   refine ⟨_, rfl, ?_⟩
   replace BK170 := bb_ BK170 hb
   replace BK171 := bb_ BK171 hb
   replace HB := bs_ HB hb
   (try clear hb)
   (try clear hb2)
   (try clear hk)
   (try clear hi)
   refine hK.out _ _ ⟨(blk_cell BK170.out 0).trans rfl, (blk_cell BK170.out 1).trans rfl, (blk_cell BK170.out 2).trans rfl, (blk_cell BK170.out 3).trans rfl, (blk_cell BK171.out 0).trans rfl, (blk_cell BK171.out 1).trans rfl⟩ (fun hHeld => ?_)
   clear hK K
   refine nO_ (some 6) ?_
   refine pA_ 2 (some 7) ?_
   refine pT_ 3 (some 8) hHeld ?_
   refine pT_ 4 (some 9) hHeld ?_
   refine pO_ 5 (some 10) (fun K hK => ?_)
   refine gO_ Try.func86 #[.agg #[.int .u32 a1_0, .int .i64 a1_1]] rfl rfl ?_
   with_reducible refine (route_Mask.calls a1_0 a1_1 t173 t174 _ A5.out).mono ?_
   rintro e w30 ⟨rfl, hb⟩
   refine ⟨_, rfl, ?_⟩
   replace BK170 := bb_ BK170 hb
   replace BK171 := bb_ BK171 hb
   replace HB := bs_ HB hb
   (try clear hb)
   (try clear hb2)
   (try clear hk)
   (try clear hi)
   refine hK.out _ _ ⟨(blk_cell BK170.out 0).trans rfl, (blk_cell BK170.out 1).trans rfl, (blk_cell BK170.out 2).trans rfl, (blk_cell BK170.out 3).trans rfl, (blk_cell BK171.out 0).trans rfl, (blk_cell BK171.out 1).trans rfl⟩ (fun hHeld => ?_)
   clear hK K
   refine nO_ (some 10) ?_
   refine pA_ 6 (some 11) ?_
   refine pA_ 7 (some 12) ?_
   refine pA_ 8 (some 13) ?_
   refine pS_ 9 (some 14) ?_
   refine pS_ 10 (some 15) ?_
   refine pS_ 11 (some 16) ?_
   refine pS_ 12 (some 17) ?_
   refine pS_ 13 (some 18) ?_
   refine pA_ 14 (some 19) ?_
   refine pA_ 15 (some 20) ?_
   refine pS_ 16 (some 21) ?_
   refine pS_ 17 (some 22) ?_
   refine pS_ 18 (some 23) ?_
   refine pS_ 19 (some 24) ?_
   refine pS_ 20 (some 25) ?_
   refine pA_ 21 (some 26) ?_
   refine pA_ 22 (some 27) ?_
   refine pS_ 23 (some 28) ?_
   refine pS_ 24 (some 29) ?_
   refine pS_ 25 (some 30) ?_
   refine pS_ 26 (some 31) ?_
   refine pS_ 27 (some 32) ?_
   refine pA_ 28 (some 33) ?_
   refine pA_ 29 (some 4) ?_
   refine done_ (done_of HT_.out (by kernel_rfl)) ?_
   try go_wp2
   first | go_ret | refine ⟨_, results_tmp rfl _ _ _, ?_⟩
   exact fin_ HB
 rw [if_pos c6] at H
 have c6b0 : (a1_0 == t173 && (a1_1 == t174)) = true := c6
 (try (have c6b1 : decide (a1_0 = t173 && (a1_1 == t174)) = true := by simpa using c6))
 (try (have c6b2 : (a1_0 == t173 && (a1_1 == t174)) = true := by simpa using c6))
 clear c6
 by_cases c7 : a1_1 ≥ a0_2
 rotate_left
 · rw [if_neg c7] at H
   have c7b0 : decide (a0_2 ≤ a1_1) = false := decide_eq_false c7
   clear c7
   obtain rfl := Option.some.inj H
   go_enter Try.func91, Try.ntmps91
   try go_wp2_with (first | ((with_reducible refine gd_ 2 rfl ?_); refine be_ #[.int .u32 a0_0, .int .i64 a0_1, .int .i64 a0_2, .int .i64 a0_3] 81 ?_; intro gb170 hg w21 BK170 hb; have GW170 := ge_ HB hg; have GE170 := ge_ HB hg; replace HB := bs_ HB hb; clear hb hg) | ((with_reducible refine gd_ 3 rfl ?_); refine be_ #[.int .u32 a1_0, .int .i64 a1_1] 48 ?_; intro gb171 hg w22 BK171 hb; have GW171 := ge_ HB hg; have GE171 := ge_ HB hg; have NB170_171 := nl_ BK170 hg; have NB171_170 := ng_ BK170 hg; replace BK170 := bb_ BK170 hb; replace HB := bs_ HB hb; clear hb hg))
   replace BK170 := aM (blk_drew BK170.out)
   replace BK171 := aM (blk_drew BK171.out)
   replace HB := aM (below_drew1 HB.out)
   refine start_ (n := 30) (S := fun w' => w'.cell? ⟨gb170, 0, none⟩ = some (.int .u32 a0_0) ∧ w'.cell? ⟨gb170, 1, none⟩ = some (.int .i64 a0_1) ∧ w'.cell? ⟨gb170, 2, none⟩ = some (.int .i64 a0_2) ∧ w'.cell? ⟨gb170, 3, none⟩ = some (.int .i64 a0_3) ∧ w'.cell? ⟨gb171, 0, none⟩ = some (.int .u32 a1_0) ∧ w'.cell? ⟨gb171, 1, none⟩ = some (.int .i64 a1_1)) (ds := []) (tf 0 30) (by kernel_rfl) rfl rfl ⟨(blk_cell BK170.out 0).trans rfl, (blk_cell BK170.out 1).trans rfl, (blk_cell BK170.out 2).trans rfl, (blk_cell BK170.out 3).trans rfl, (blk_cell BK171.out 0).trans rfl, (blk_cell BK171.out 1).trans rfl⟩ (fun hHeld => ?_); refine with_tabW pfx_In.tab1 pfx_In.bits1 (fun HT_ HW_ => ?_)
   generalize w22.drew = w23 at BK170 BK171 HB hHeld ⊢
   refine pT_ 0 (some 5) hHeld ?_
   refine pO_ 1 (some 6) (fun K hK => ?_)
   refine gO_ Try.func55 #[.agg #[.int .u32 a0_0, .int .i64 a0_1, .int .i64 a0_2, .int .i64 a0_3]] rfl rfl ?_
   with_reducible refine (pfx_Right.calls a0_0 a0_1 a0_2 a0_3 true _ A3.out).mono ?_
   rintro e w24 ⟨rfl, hb⟩
   refine ⟨_, rfl, ?_⟩
   replace BK170 := bb_ BK170 hb
   replace BK171 := bb_ BK171 hb
   replace HB := bs_ HB hb
   (try clear hb)
   (try clear hb2)
   (try clear hk)
   (try clear hi)
   refine hK.out _ _ ⟨(blk_cell BK170.out 0).trans rfl, (blk_cell BK170.out 1).trans rfl, (blk_cell BK170.out 2).trans rfl, (blk_cell BK170.out 3).trans rfl, (blk_cell BK171.out 0).trans rfl, (blk_cell BK171.out 1).trans rfl⟩ (fun hHeld => ?_)
   clear hK K
   refine nO_ (some 6) ?_
   refine pA_ 2 (some 7) ?_
   refine pT_ 3 (some 8) hHeld ?_
   refine pT_ 4 (some 9) hHeld ?_
   refine pO_ 5 (some 10) (fun K hK => ?_)
   refine gO_ Try.func86 #[.agg #[.int .u32 a1_0, .int .i64 a1_1]] rfl rfl ?_
   with_reducible refine (route_Mask.calls a1_0 a1_1 t173 t174 _ A5.out).mono ?_
   rintro e w25 ⟨rfl, hb⟩
   refine ⟨_, rfl, ?_⟩
   replace BK170 := bb_ BK170 hb
   replace BK171 := bb_ BK171 hb
   replace HB := bs_ HB hb
   (try clear hb)
   (try clear hb2)
   (try clear hk)
   (try clear hi)
   refine hK.out _ _ ⟨(blk_cell BK170.out 0).trans rfl, (blk_cell BK170.out 1).trans rfl, (blk_cell BK170.out 2).trans rfl, (blk_cell BK170.out 3).trans rfl, (blk_cell BK171.out 0).trans rfl, (blk_cell BK171.out 1).trans rfl⟩ (fun hHeld => ?_)
   clear hK K
   refine nO_ (some 10) ?_
   refine pA_ 6 (some 11) ?_
   refine pA_ 7 (some 12) ?_
   refine pA_ 8 (some 13) ?_
   refine pA_ 9 (some 14) ?_
   refine pA_ 11 (some 16) ?_
   refine pT_ 10 (some 15) hHeld ?_
   refine pT_ 12 (some 17) hHeld ?_
   refine pA_ 13 (some 18) ?_
   refine pA_ 14 (some 19) ?_
   refine pA_ 15 (some 20) ?_
   refine pS_ 16 (some 21) ?_
   refine pS_ 17 (some 22) ?_
   refine pS_ 18 (some 23) ?_
   refine pS_ 19 (some 24) ?_
   refine pS_ 20 (some 25) ?_
   refine pA_ 21 (some 26) ?_
   refine pA_ 22 (some 27) ?_
   refine pS_ 23 (some 28) ?_
   refine pS_ 24 (some 29) ?_
   refine pS_ 25 (some 30) ?_
   refine pS_ 26 (some 31) ?_
   refine pS_ 27 (some 32) ?_
   refine pA_ 28 (some 33) ?_
   refine pA_ 29 (some 4) ?_
   refine done_ (done_of HT_.out (by kernel_rfl)) ?_
   try go_wp2
   first | go_ret | refine ⟨_, results_tmp rfl _ _ _, ?_⟩
   exact fin_ HB
 rw [if_pos c7] at H
 have c7b0 : decide (a0_2 ≤ a1_1) = true := decide_eq_true c7
 clear c7
 by_cases c8 : a1_1 ≤ a0_3
 rotate_left
 · rw [if_neg c8] at H
   replace c8 := decide_eq_false c8
   obtain rfl := Option.some.inj H
   go_enter Try.func91, Try.ntmps91
   try go_wp2_with (first | ((with_reducible refine gd_ 2 rfl ?_); refine be_ #[.int .u32 a0_0, .int .i64 a0_1, .int .i64 a0_2, .int .i64 a0_3] 81 ?_; intro gb170 hg w16 BK170 hb; have GW170 := ge_ HB hg; have GE170 := ge_ HB hg; replace HB := bs_ HB hb; clear hb hg) | ((with_reducible refine gd_ 3 rfl ?_); refine be_ #[.int .u32 a1_0, .int .i64 a1_1] 48 ?_; intro gb171 hg w17 BK171 hb; have GW171 := ge_ HB hg; have GE171 := ge_ HB hg; have NB170_171 := nl_ BK170 hg; have NB171_170 := ng_ BK170 hg; replace BK170 := bb_ BK170 hb; replace HB := bs_ HB hb; clear hb hg))
   replace BK170 := aM (blk_drew BK170.out)
   replace BK171 := aM (blk_drew BK171.out)
   replace HB := aM (below_drew1 HB.out)
   refine start_ (n := 30) (S := fun w' => w'.cell? ⟨gb170, 0, none⟩ = some (.int .u32 a0_0) ∧ w'.cell? ⟨gb170, 1, none⟩ = some (.int .i64 a0_1) ∧ w'.cell? ⟨gb170, 2, none⟩ = some (.int .i64 a0_2) ∧ w'.cell? ⟨gb170, 3, none⟩ = some (.int .i64 a0_3) ∧ w'.cell? ⟨gb171, 0, none⟩ = some (.int .u32 a1_0) ∧ w'.cell? ⟨gb171, 1, none⟩ = some (.int .i64 a1_1)) (ds := []) (tf 0 30) (by kernel_rfl) rfl rfl ⟨(blk_cell BK170.out 0).trans rfl, (blk_cell BK170.out 1).trans rfl, (blk_cell BK170.out 2).trans rfl, (blk_cell BK170.out 3).trans rfl, (blk_cell BK171.out 0).trans rfl, (blk_cell BK171.out 1).trans rfl⟩ (fun hHeld => ?_); refine with_tabW pfx_In.tab1 pfx_In.bits1 (fun HT_ HW_ => ?_)
   generalize w17.drew = w18 at BK170 BK171 HB hHeld ⊢
   refine pT_ 0 (some 5) hHeld ?_
   refine pO_ 1 (some 6) (fun K hK => ?_)
   refine gO_ Try.func55 #[.agg #[.int .u32 a0_0, .int .i64 a0_1, .int .i64 a0_2, .int .i64 a0_3]] rfl rfl ?_
   with_reducible refine (pfx_Right.calls a0_0 a0_1 a0_2 a0_3 true _ A3.out).mono ?_
   rintro e w19 ⟨rfl, hb⟩
   refine ⟨_, rfl, ?_⟩
   replace BK170 := bb_ BK170 hb
   replace BK171 := bb_ BK171 hb
   replace HB := bs_ HB hb
   (try clear hb)
   (try clear hb2)
   (try clear hk)
   (try clear hi)
   refine hK.out _ _ ⟨(blk_cell BK170.out 0).trans rfl, (blk_cell BK170.out 1).trans rfl, (blk_cell BK170.out 2).trans rfl, (blk_cell BK170.out 3).trans rfl, (blk_cell BK171.out 0).trans rfl, (blk_cell BK171.out 1).trans rfl⟩ (fun hHeld => ?_)
   clear hK K
   refine nO_ (some 6) ?_
   refine pA_ 2 (some 7) ?_
   refine pT_ 3 (some 8) hHeld ?_
   refine pT_ 4 (some 9) hHeld ?_
   refine pO_ 5 (some 10) (fun K hK => ?_)
   refine gO_ Try.func86 #[.agg #[.int .u32 a1_0, .int .i64 a1_1]] rfl rfl ?_
   with_reducible refine (route_Mask.calls a1_0 a1_1 t173 t174 _ A5.out).mono ?_
   rintro e w20 ⟨rfl, hb⟩
   refine ⟨_, rfl, ?_⟩
   replace BK170 := bb_ BK170 hb
   replace BK171 := bb_ BK171 hb
   replace HB := bs_ HB hb
   (try clear hb)
   (try clear hb2)
   (try clear hk)
   (try clear hi)
   refine hK.out _ _ ⟨(blk_cell BK170.out 0).trans rfl, (blk_cell BK170.out 1).trans rfl, (blk_cell BK170.out 2).trans rfl, (blk_cell BK170.out 3).trans rfl, (blk_cell BK171.out 0).trans rfl, (blk_cell BK171.out 1).trans rfl⟩ (fun hHeld => ?_)
   clear hK K
   refine nO_ (some 10) ?_
   refine pA_ 6 (some 11) ?_
   refine pA_ 7 (some 12) ?_
   refine pA_ 8 (some 13) ?_
   refine pA_ 9 (some 14) ?_
   refine pA_ 11 (some 16) ?_
   refine pT_ 10 (some 15) hHeld ?_
   refine pT_ 12 (some 17) hHeld ?_
   refine pA_ 13 (some 18) ?_
   refine pA_ 14 (some 19) ?_
   refine pA_ 15 (some 20) ?_
   refine pA_ 16 (some 21) ?_
   refine pA_ 18 (some 23) ?_
   refine pT_ 17 (some 22) hHeld ?_
   refine pT_ 19 (some 24) hHeld ?_
   refine pA_ 20 (some 25) ?_
   refine pA_ 21 (some 26) ?_
   refine pA_ 22 (some 27) ?_
   refine pS_ 23 (some 28) ?_
   refine pS_ 24 (some 29) ?_
   refine pS_ 25 (some 30) ?_
   refine pS_ 26 (some 31) ?_
   refine pS_ 27 (some 32) ?_
   refine pA_ 28 (some 33) ?_
   refine pA_ 29 (some 4) ?_
   refine done_ (done_of HT_.out (by kernel_rfl)) ?_
   try go_wp2
   first | go_ret | refine ⟨_, results_tmp rfl _ _ _, ?_⟩
   exact fin_ HB
 rw [if_pos c8] at H
 replace c8 := decide_eq_true c8
 obtain ⟨t175, A9, H⟩ := bnd_ H
 obtain rfl := Option.some.inj H
 go_enter Try.func91, Try.ntmps91
 try go_wp2_with (first | ((with_reducible refine gd_ 2 rfl ?_); refine be_ #[.int .u32 a0_0, .int .i64 a0_1, .int .i64 a0_2, .int .i64 a0_3] 81 ?_; intro gb170 hg w10 BK170 hb; have GW170 := ge_ HB hg; have GE170 := ge_ HB hg; replace HB := bs_ HB hb; clear hb hg) | ((with_reducible refine gd_ 3 rfl ?_); refine be_ #[.int .u32 a1_0, .int .i64 a1_1] 48 ?_; intro gb171 hg w11 BK171 hb; have GW171 := ge_ HB hg; have GE171 := ge_ HB hg; have NB170_171 := nl_ BK170 hg; have NB171_170 := ng_ BK170 hg; replace BK170 := bb_ BK170 hb; replace HB := bs_ HB hb; clear hb hg))
 replace BK170 := aM (blk_drew BK170.out)
 replace BK171 := aM (blk_drew BK171.out)
 replace HB := aM (below_drew1 HB.out)
 refine start_ (n := 30) (S := fun w' => w'.cell? ⟨gb170, 0, none⟩ = some (.int .u32 a0_0) ∧ w'.cell? ⟨gb170, 1, none⟩ = some (.int .i64 a0_1) ∧ w'.cell? ⟨gb170, 2, none⟩ = some (.int .i64 a0_2) ∧ w'.cell? ⟨gb170, 3, none⟩ = some (.int .i64 a0_3) ∧ w'.cell? ⟨gb171, 0, none⟩ = some (.int .u32 a1_0) ∧ w'.cell? ⟨gb171, 1, none⟩ = some (.int .i64 a1_1)) (ds := []) (tf 0 30) (by kernel_rfl) rfl rfl ⟨(blk_cell BK170.out 0).trans rfl, (blk_cell BK170.out 1).trans rfl, (blk_cell BK170.out 2).trans rfl, (blk_cell BK170.out 3).trans rfl, (blk_cell BK171.out 0).trans rfl, (blk_cell BK171.out 1).trans rfl⟩ (fun hHeld => ?_); refine with_tabW pfx_In.tab1 pfx_In.bits1 (fun HT_ HW_ => ?_)
 generalize w11.drew = w12 at BK170 BK171 HB hHeld ⊢
 refine pT_ 0 (some 5) hHeld ?_
 refine pO_ 1 (some 6) (fun K hK => ?_)
 refine gO_ Try.func55 #[.agg #[.int .u32 a0_0, .int .i64 a0_1, .int .i64 a0_2, .int .i64 a0_3]] rfl rfl ?_
 with_reducible refine (pfx_Right.calls a0_0 a0_1 a0_2 a0_3 true _ A3.out).mono ?_
 rintro e w13 ⟨rfl, hb⟩
 refine ⟨_, rfl, ?_⟩
 replace BK170 := bb_ BK170 hb
 replace BK171 := bb_ BK171 hb
 replace HB := bs_ HB hb
 (try clear hb)
 (try clear hb2)
 (try clear hk)
 (try clear hi)
 refine hK.out _ _ ⟨(blk_cell BK170.out 0).trans rfl, (blk_cell BK170.out 1).trans rfl, (blk_cell BK170.out 2).trans rfl, (blk_cell BK170.out 3).trans rfl, (blk_cell BK171.out 0).trans rfl, (blk_cell BK171.out 1).trans rfl⟩ (fun hHeld => ?_)
 clear hK K
 refine nO_ (some 6) ?_
 refine pA_ 2 (some 7) ?_
 refine pT_ 3 (some 8) hHeld ?_
 refine pT_ 4 (some 9) hHeld ?_
 refine pO_ 5 (some 10) (fun K hK => ?_)
 refine gO_ Try.func86 #[.agg #[.int .u32 a1_0, .int .i64 a1_1]] rfl rfl ?_
 with_reducible refine (route_Mask.calls a1_0 a1_1 t173 t174 _ A5.out).mono ?_
 rintro e w14 ⟨rfl, hb⟩
 refine ⟨_, rfl, ?_⟩
 replace BK170 := bb_ BK170 hb
 replace BK171 := bb_ BK171 hb
 replace HB := bs_ HB hb
 (try clear hb)
 (try clear hb2)
 (try clear hk)
 (try clear hi)
 refine hK.out _ _ ⟨(blk_cell BK170.out 0).trans rfl, (blk_cell BK170.out 1).trans rfl, (blk_cell BK170.out 2).trans rfl, (blk_cell BK170.out 3).trans rfl, (blk_cell BK171.out 0).trans rfl, (blk_cell BK171.out 1).trans rfl⟩ (fun hHeld => ?_)
 clear hK K
 refine nO_ (some 10) ?_
 refine pA_ 6 (some 11) ?_
 refine pA_ 7 (some 12) ?_
 refine pA_ 8 (some 13) ?_
 refine pA_ 9 (some 14) ?_
 refine pA_ 11 (some 16) ?_
 refine pT_ 10 (some 15) hHeld ?_
 refine pT_ 12 (some 17) hHeld ?_
 refine pA_ 13 (some 18) ?_
 refine pA_ 14 (some 19) ?_
 refine pA_ 15 (some 20) ?_
 refine pA_ 16 (some 21) ?_
 refine pA_ 18 (some 23) ?_
 refine pT_ 17 (some 22) hHeld ?_
 refine pT_ 19 (some 24) hHeld ?_
 refine pA_ 20 (some 25) ?_
 refine pA_ 21 (some 26) ?_
 refine pA_ 22 (some 27) ?_
 refine pA_ 23 (some 28) ?_
 refine pA_ 25 (some 30) ?_
 refine pT_ 24 (some 29) hHeld ?_
 refine pT_ 26 (some 31) hHeld ?_
 refine pO_ 27 (some 32) (fun K hK => ?_)
 refine gO_ Try.func103 #[.int .u32 a1_0, .agg #[.int .u32 a0_0, .int .i64 a0_1]] rfl rfl ?_
 with_reducible refine (pfx_begins.calls a1_0 a0_0 a0_1 t175 _ A9.out).mono ?_
 rintro e w15 ⟨rfl, hb⟩
 refine ⟨_, rfl, ?_⟩
 replace BK170 := bb_ BK170 hb
 replace BK171 := bb_ BK171 hb
 replace HB := bs_ HB hb
 (try clear hb)
 (try clear hb2)
 (try clear hk)
 (try clear hi)
 refine hK.out _ _ ⟨(blk_cell BK170.out 0).trans rfl, (blk_cell BK170.out 1).trans rfl, (blk_cell BK170.out 2).trans rfl, (blk_cell BK170.out 3).trans rfl, (blk_cell BK171.out 0).trans rfl, (blk_cell BK171.out 1).trans rfl⟩ (fun hHeld => ?_)
 clear hK K
 refine nO_ (some 32) ?_
 refine pA_ 28 (some 33) ?_
 refine pA_ 29 (some 4) ?_
 refine done_ (done_of HT_.out (by kernel_rfl)) ?_
 try go_wp2
 first | go_ret | refine ⟨_, results_tmp rfl _ _ _, ?_⟩
 exact fin_ HB
end Go.Proofs.Ytlkjfjlmjgkheaa.H
