import Derived.Test.YtlkjfjlmjgkheaaHx0
import Derived.Test.YtlkjfjlmjgkheaaHx21
import Derived.Test.YtlkjfjlmjgkheaaHx24
namespace Go.Proofs.Ytlkjfjlmjgkheaa.H
open Go.RowKit Go.Proofs.YtlkjfjlmjgkheaaW.PrintWords Go.Proofs.YtlkjfjlmjgkheaaW.PrintLast Go.Proofs.YtlkjfjlmjgkheaaW.PrintMore
attribute [local go_sem] max2_int min2_int max_two min_two max_three min_three max_four min_four
set_option linter.unusedVariables false
set_option linter.unusedSimpArgs false
def r5_Match.f (k : Nat) (a0_0 : Int) (l0_1 : List (S66)) (l0_2 : List (S25)) (l1 : List Int) : Option (Bool) := if 0 ≤ (wrap64 ((l1.length : Int) + 1)) then (if (wrap64 ((l1.length : Int) + 1) : Int).toNat ≤ 281474976710656 then ((some (List.replicate (wrap64 ((l1.length : Int) + 1) : Int).toNat false : List Bool)).bind fun y343 => (if 0 < (y343.length : Int) then ((r5_ends.f k a0_0 l0_1 l0_2 l1 (y343.set (0 : Int).toNat true)).bind fun t347 => (if 0 ≤ (l1.length : Int) then (if (l1.length : Int) < (t347.length : Int) then (some (rdOf false t347 (l1.length : Int))) else (none)) else (none))) else (none))) else (none)) else (none)
set_option maxHeartbeats 8000000 in
set_option maxRecDepth 100000 in
theorem r5_Match.calls (k : Nat) (a0_0 : Int) (A0_1 : Option Addr) (c0_1 : Nat) (l0_1 : List (S66)) (A0_2 : Option Addr) (c0_2 : Nat) (l0_2 : List (S25)) (A1 : Option Addr) (c1 : Nat) (l1 : List Int) (r : Bool) (w : World) (hr0_1 : Kd.C k66 w A0_1 l0_1.length l0_1) (hc0_1 : l0_1.length ≤ c0_1) (hr0_2 : Kd.C k25 w A0_2 l0_2.length l0_2) (hc0_2 : l0_2.length ≤ c0_2) (hr1 : Kd.C (Kd.int .u32) w A1 l1.length l1) (hc1 : l1.length ≤ c1) (h : r5_Match.f k a0_0 l0_1 l0_2 l1 = some r) :
 Calls Try.prog 48 #[.agg #[.int .i64 a0_0, .slice A0_1 l0_1.length c0_1, .slice A0_2 l0_2.length c0_2], .slice A1 l1.length c1] w fun e w' => e = .returned (.bool r) ∧ Below w.heap.size w w' := by
 have hu25 := Try.underlying25
 have HR0_1 := aM hr0_1
 have HC0_1 := aM hc0_1
 clear hr0_1 hc0_1
 have HR0_2 := aM hr0_2
 have HC0_2 := aM hc0_2
 clear hr0_2 hc0_2
 have HR1 := aM hr1
 have HC1 := aM hc1
 clear hr1 hc1
 have HB := aM (Below.refl w.heap.size w)
 have H : (if 0 ≤ (wrap64 ((l1.length : Int) + 1)) then (if (wrap64 ((l1.length : Int) + 1) : Int).toNat ≤ 281474976710656 then ((some (List.replicate (wrap64 ((l1.length : Int) + 1) : Int).toNat false : List Bool)).bind fun y343 => (if 0 < (y343.length : Int) then ((r5_ends.f k a0_0 l0_1 l0_2 l1 (y343.set (0 : Int).toNat true)).bind fun t347 => (if 0 ≤ (l1.length : Int) then (if (l1.length : Int) < (t347.length : Int) then (some (rdOf false t347 (l1.length : Int))) else (none)) else (none))) else (none))) else (none)) else (none)) = some r := h
 clear h
 obtain ⟨ji3, hji3⟩ : ∃ j_ : Int, (wrap64 ((l1.length : Int) + 1)) = j_ := ⟨_, rfl⟩
 replace H : (if 0 ≤ (ji3) then (if (ji3 : Int).toNat ≤ 281474976710656 then ((some (List.replicate (ji3 : Int).toNat false : List Bool)).bind fun y343 => (if 0 < (y343.length : Int) then ((r5_ends.f k a0_0 l0_1 l0_2 l1 (y343.set (0 : Int).toNat true)).bind fun t347 => (if 0 ≤ (l1.length : Int) then (if (l1.length : Int) < (t347.length : Int) then (some (rdOf false t347 (l1.length : Int))) else (none)) else (none))) else (none))) else (none)) else (none)) = some r := by first | (rw [hji3] at H; exact H) | (simp only [hji3] at H ⊢; exact H)
 have hji3w : (IntKind.i64.wrap ((l1.length : Int) + 1)) = ji3 := (i64_w _).trans hji3
 have c4 := ifn_ H
 rw [if_pos c4] at H
 have c4b0 := eq_true c4
 have c4b1 : decide (0 ≤ (ji3)) = true := decide_eq_true c4
 clear c4
 have c5 := ifn_ H
 rw [if_pos c5] at H
 have c5b0 := eq_true c5
 have c5b1 : decide ((ji3 : Int).toNat ≤ 281474976710656) = true := decide_eq_true c5
 clear c5
 obtain ⟨y343, hy343⟩ : ∃ y_ : List Bool, y_ = (List.replicate (ji3 : Int).toNat false) := ⟨_, rfl⟩
 replace H : (if 0 < (y343.length : Int) then ((r5_ends.f k a0_0 l0_1 l0_2 l1 (y343.set (0 : Int).toNat true)).bind fun t347 => (if 0 ≤ (l1.length : Int) then (if (l1.length : Int) < (t347.length : Int) then (some (rdOf false t347 (l1.length : Int))) else (none)) else (none))) else (none)) = some r := by first | (rw [hy343]; with_reducible exact H) | (have H2_ := (Option.bind_some _ _).symm.trans H; rw [hy343]; with_reducible exact H2_) | (have H2_ := (Option.bind_some _ _).symm.trans H; with_reducible exact H2_) | with_reducible exact H | (rw [hy343]; exact H) | exact H
 have Ny343 := aM hy343
 clear hy343
 have c6 := ifn_ H
 rw [if_pos c6] at H
 have c6b0 : decide (0 < (y343.length : Int)) = true := decide_eq_true c6
 have c6b1 : decide (0 < y343.length) = true := decide_eq_true (by omega)
 clear c6
 obtain ⟨y346, hy346⟩ : ∃ y_ : List Bool, y_ = (y343.set (0 : Int).toNat true) := ⟨_, rfl⟩
 replace H : ((r5_ends.f k a0_0 l0_1 l0_2 l1 y346).bind fun t347 => (if 0 ≤ (l1.length : Int) then (if (l1.length : Int) < (t347.length : Int) then (some (rdOf false t347 (l1.length : Int))) else (none)) else (none))) = some r := by first | (rw [hy346]; with_reducible exact H) | (have H2_ := (Option.bind_some _ _).symm.trans H; rw [hy346]; with_reducible exact H2_) | (have H2_ := (Option.bind_some _ _).symm.trans H; with_reducible exact H2_) | with_reducible exact H | (rw [hy346]; exact H) | exact H
 have Ny346 := aM hy346
 clear hy346
 obtain ⟨t347, A8, H⟩ := bnd_ H
 have c9 := ifn_ H
 rw [if_pos c9] at H
 have c9b0 : decide (0 ≤ (l1.length : Int)) = true := decide_eq_true c9
 have c9b1 : decide (0 ≤ l1.length) = true := decide_eq_true (by omega)
 clear c9
 have c10 := ifn_ H
 rw [if_pos c10] at H
 have c10b0 : decide ((l1.length : Int) < (t347.length : Int)) = true := decide_eq_true c10
 have c10b1 : decide (l1.length < t347.length) = true := decide_eq_true (Int.ofNat_lt.mp c10)
 clear c10
 obtain rfl := Option.some.inj H
 go_enter Try.func48, Try.ntmps48
 go_wp2_with (first | ((with_reducible refine gd_ 2 rfl ?_); refine be_ #[.int .i64 a0_0, .slice A0_1 l0_1.length c0_1, .slice A0_2 l0_2.length c0_2] 25 ?_; intro gb342 hg w11 BK342 hb; have GW342 := ge_ HB hg; have GE342 := ge_ HB hg; replace HB := bs_ HB hb; clear hb hg) | ((with_reducible refine gd_ 9 rfl ?_); refine Kd.R_make Kd.bool _ 4 rfl (N := 9) rfl 108 _ _ rfl ji3 rfl rfl Try.underlying108 (.bool false) 1 info4 rfl (by decide) (by omega) false (ok := fun _ => True) (okp := fun _ => True) rfl (fun _ hk => hk) trivial (of_decide_eq_true (by first | (with_reducible assumption) | assumption)) (Nat.le_trans (Nat.mul_le_mul_right _ (of_decide_eq_true (by first | (with_reducible assumption) | assumption) : ji3.toNat ≤ 281474976710656)) (by omega)) (Below.refl _ _) (Nat.le_refl _) ?_; intro v344 w12 ho13 hb hg_ hnew_; clear hg_ hnew_; (first | rw [← Ny343.out] at ho13 | (simp only [Int.reduceToNat] at ho13; rw [← Ny343.out] at ho13)); have HO345 := aM (Kd.R_lower ho13 (below_size (bw_ HB.out))); replace BK342 := bb_ BK342 hb; replace HB := bs_ HB hb; clear hb ho13; have p7 : 0 ≤ (0 : Int) := (by omega); have q7 : (0 : Int) < ((y343.length : Int) : Int) := od_; have qi7 : (0 < y343.length) = True := eq_true (by omega); obtain ⟨go7, co7, eo7, gb7, gl7, cl7, HG7⟩ := Kd.R_form HO345.out (by omega); (first | cases eo7 | (injection eo7 with ea_ en_ ec_; (first | subst ea_ | (injection ea_ with ea_; subst ea_)); subst ec_; clear en_)); have GB7 := aM gb7; have GG7 := aM HG7; clear gb7 gl7 HG7; obtain ⟨hx7_0, hf7_0⟩ := Kd.R_celln false HO345.out (0 : Int) p7 q7; (try rw [show ((0 : Int)).toNat = 0 from rfl] at hx7_0); (try simp only [Nat.reduceMul, Nat.zero_mul, Nat.zero_add, Nat.reduceAdd] at hx7_0); (try rw [show ((0 : Int)).toNat = 0 from rfl] at hf7_0); (try simp only [Nat.reduceMul, Nat.zero_mul, Nat.zero_add, Nat.reduceAdd] at hf7_0); replace p7 := eq_true p7; replace q7 := eq_true q7; obtain ⟨hy14_, hz14_⟩ := Kd.R_celln false HO345.out (0 : Int) (by omega) (of_decide_eq_true (by first | (with_reducible assumption) | assumption)); (try simp only [Int.reduceToNat, Int.toNat_zero, Int.toNat_ofNat, Nat.reduceMul, Nat.zero_mul, Nat.zero_add] at hy14_ hz14_); (try rw [show ((0 : Int)).toNat = 0 from rfl] at hy14_); (try rw [show ((0 : Int)).toNat = 0 from rfl] at hz14_); have HP14 := Kd.R_putg HO345.out (0 : Int) true) | ((with_reducible refine gate_store (t := 4) (p := 11) rfl ?_); refine store_event (t := 4) (p := 11) (v := ?vo_w15) (w1 := (w12.setCell ⟨go7, (0 : Int).toNat, none⟩ (.bool true))) ?hg ?ho ?hn ?hr ?_; (case ho => rfl); (case hg => rfl); (case hn => rfl); (case hr => first | (go_simp; done) | (go_simp; rfl)); intro w15 hw; have hg : w12.grownBy w15 (some go7) := (by rw [hw]; exact HP14.2); have hp_ : Kd.R Kd.bool 4 w15 w.heap.size (fun _ => True) (.slice (some ⟨go7, 0, none⟩) y343.length co7) y346 := (by rw [hw, Ny346.out]; exact HP14.1); clear HP14; replace BK342 := aM (blk_grown (g := gb342) (o := .cells #[.int .i64 a0_0, .slice A0_1 l0_1.length c0_1, .slice A0_2 l0_2.length c0_2] 25 (0, 0)) (ub_ BK342.out) hg (Kd.R_ne HO345.out BK342.out (by decide))); replace HO345 := aM hp_; replace HB := aM ((by rw [hw]; exact below_set (HB.out) GB7.out : Below w.heap.size w w15)); clear hg hw hp_; obtain ⟨hcz16_0, hcz16_1, hcz16_2, hfz16_0, hfz16_1, hfz16_2⟩ := bc3_ BK342) | ((with_reducible refine gf_ 83 rfl ?_); refine goesL_ (some 15) rfl rfl Try.func83 (by kernel_rfl) rfl #[.agg #[.int .i64 a0_0, .slice A0_1 l0_1.length c0_1, .slice A0_2 l0_2.length c0_2], .slice A1 l1.length c1, .slice (some ⟨go7, 0, none⟩) y346.length co7] rfl (by (try simp only [List.map_toArray, List.map_cons, List.map_nil]); first | done | (rw [show y346.length = y343.length from (Kd.R_reads' HO345.out).1.symm] <;> rfl) | rfl | (simp only [List.length_drop, List.length_take]; rfl)) ?_; (with_reducible refine (r5_ends.calls k a0_0 _ _ l0_1 _ _ l0_2 _ _ l1 _ _ y346 t347 _ ?side1 ?side2 ?side3 ?side4 ?side5 ?side6 ?side7 ?side8 A8.out).mono ?_); (case side1 => exact cB_ HR0_1 HB); (case side2 => exact HC0_1.out); (case side3 => exact cB_ HR0_2 HB); (case side4 => exact HC0_2.out); (case side5 => exact cB_ HR1 HB); (case side6 => exact HC1.out); (case side7 => exact uc_ (Kd.R_reads' HO345.out).2.2); (case side8 => rw [show y346.length = y343.length from (Kd.R_reads' HO345.out).1.symm]; exact (Kd.R_reads' HO345.out).2.1); rintro e w17 ⟨v348, rfl, ho0, hb⟩; refine ⟨_, rfl, ?_⟩; have HO349 := aM (Kd.R_lower (Kd.R_new' ho0 (Kd.R_lt (uk_ HO345.out))) (below_size (bw_ HB.out))); replace HO345 := aM (Kd.R_elder' (uk_ HO345.out) (Kd.R_base ho0) hb); replace BK342 := bb_ BK342 hb; replace HB := bs_ HB hb; (try clear hb); (try clear hb2); (try clear hk); (try clear hi); (try clear ho0); obtain ⟨Ao18, co18, eo18⟩ := Kd.R_slice HO349.out; subst eo18; have p350 : 0 ≤ ((l1.length : Int) : Int) := od_; have q350 : (l1.length : Int) < (t347.length : Int) := od_; obtain ⟨ad350, e350, hx350_0⟩ := Kd.at_bool (Kd.R_reads' HO349.out).2.2 (l1.length : Int) p350 q350; cases e350; (try simp only [Go.IntWalk.toNatUp] at hx350_0); replace p350 := eq_true p350; replace q350 := eq_true q350))
 first | go_ret | refine ⟨_, results_tmp rfl _ _ _, ?_⟩
 exact ⟨by first | rfl | (simp [errW_none, errW_some] <;> rfl) | (simp only [← hji3]; first | rfl | (simp [errW_none, errW_some] <;> rfl)) | (simp [*, errW_none, errW_some] <;> rfl), by repeat (first | (with_reducible first | exact HB.out | apply blA | apply blN | apply blD | refine bS ?_ GE342.out) | exact HB.out)⟩
def r5_Takes.f (k : Nat) (a0_0 : Int) (l0_1 : List (S66)) (l0_2 : List (S25)) (l1 : List Int) : Option (Bool) := (r5_Right.f k a0_0 l0_1 l0_2).bind fun t352 => (if t352 = true then (if (l1.length : Int) ≤ 255 then ((r5_Match.f k a0_0 l0_1 l0_2 l1).bind fun t353 => (some t353)) else (some false)) else (some false))
set_option maxHeartbeats 8000000 in
set_option maxRecDepth 100000 in
theorem r5_Takes.calls (k : Nat) (a0_0 : Int) (A0_1 : Option Addr) (c0_1 : Nat) (l0_1 : List (S66)) (A0_2 : Option Addr) (c0_2 : Nat) (l0_2 : List (S25)) (A1 : Option Addr) (c1 : Nat) (l1 : List Int) (r : Bool) (w : World) (hr0_1 : Kd.C k66 w A0_1 l0_1.length l0_1) (hc0_1 : l0_1.length ≤ c0_1) (hr0_2 : Kd.C k25 w A0_2 l0_2.length l0_2) (hc0_2 : l0_2.length ≤ c0_2) (hr1 : Kd.C (Kd.int .u32) w A1 l1.length l1) (hc1 : l1.length ≤ c1) (h : r5_Takes.f k a0_0 l0_1 l0_2 l1 = some r) :
 Calls Try.prog 19 #[.agg #[.int .i64 a0_0, .slice A0_1 l0_1.length c0_1, .slice A0_2 l0_2.length c0_2], .slice A1 l1.length c1] w fun e w' => e = .returned (.bool r) ∧ Below w.heap.size w w' := by
 have hu25 := Try.underlying25
 have HR0_1 := aM hr0_1
 have HC0_1 := aM hc0_1
 clear hr0_1 hc0_1
 have HR0_2 := aM hr0_2
 have HC0_2 := aM hc0_2
 clear hr0_2 hc0_2
 have HR1 := aM hr1
 have HC1 := aM hc1
 clear hr1 hc1
 have HB := aM (Below.refl w.heap.size w)
 have H : ((r5_Right.f k a0_0 l0_1 l0_2).bind fun t352 => (if t352 = true then (if (l1.length : Int) ≤ 255 then ((r5_Match.f k a0_0 l0_1 l0_2 l1).bind fun t353 => (some t353)) else (some false)) else (some false))) = some r := h
 clear h
 obtain ⟨t352, A3, H⟩ := bnd_ H
 by_cases c4 : t352 = true
 rotate_left
 · replace c4 := Bool.eq_false_iff.mpr c4
   subst c4
   rw [if_neg (show ¬ (false = true) by decide)] at H
   obtain rfl := Option.some.inj H
   go_enter Try.func19, Try.ntmps19
   go_wp2_with (first | ((with_reducible refine gd_ 2 rfl ?_); (try (refine gate_guard (by rfl) ?_; dsimp only)); refine be_ #[.int .i64 a0_0, .slice A0_1 l0_1.length c0_1, .slice A0_2 l0_2.length c0_2] 25 ?_; intro gb351 hg w15 BK351 hb; have GW351 := ge_ HB hg; have GE351 := ge_ HB hg; replace HB := bs_ HB hb; clear hb hg; obtain ⟨hcz16_0, hcz16_1, hcz16_2, hfz16_0, hfz16_1, hfz16_2⟩ := bc3_ BK351) | ((with_reducible refine gf_ 17 rfl ?_); refine gL_ (some 6) rfl rfl Try.func17 #[.agg #[.int .i64 a0_0, .slice A0_1 l0_1.length c0_1, .slice A0_2 l0_2.length c0_2]] rfl ?_; (with_reducible refine (r5_Right.calls k a0_0 _ _ l0_1 _ _ l0_2 false _ ?side1 ?side2 ?side3 ?side4 A3.out).mono ?_); (case side1 => exact cB_ HR0_1 HB); (case side2 => exact HC0_1.out); (case side3 => exact cB_ HR0_2 HB); (case side4 => exact HC0_2.out); rintro e w17 ⟨rfl, hb⟩; refine ⟨_, rfl, ?_⟩; replace BK351 := bb_ BK351 hb; replace HB := bs_ HB hb; clear hb))
   first | go_ret | refine ⟨_, results_tmp rfl _ _ _, ?_⟩
   exact fin_ HB
 subst c4
 rw [if_pos rfl] at H
 by_cases c5 : (l1.length : Int) ≤ 255
 rotate_left
 · rw [if_neg c5] at H
   have c5b0 : decide ((l1.length : Int) ≤ 255) = false := decide_eq_false c5
   have c5b1 : decide (l1.length ≤ 255) = false := decide_eq_false (by omega)
   clear c5
   obtain rfl := Option.some.inj H
   go_enter Try.func19, Try.ntmps19
   go_wp2_with (first | ((with_reducible refine gd_ 2 rfl ?_); (try (refine gate_guard (by rfl) ?_; dsimp only)); refine be_ #[.int .i64 a0_0, .slice A0_1 l0_1.length c0_1, .slice A0_2 l0_2.length c0_2] 25 ?_; intro gb351 hg w12 BK351 hb; have GW351 := ge_ HB hg; have GE351 := ge_ HB hg; replace HB := bs_ HB hb; clear hb hg; obtain ⟨hcz13_0, hcz13_1, hcz13_2, hfz13_0, hfz13_1, hfz13_2⟩ := bc3_ BK351) | ((with_reducible refine gf_ 17 rfl ?_); refine gL_ (some 6) rfl rfl Try.func17 #[.agg #[.int .i64 a0_0, .slice A0_1 l0_1.length c0_1, .slice A0_2 l0_2.length c0_2]] rfl ?_; (with_reducible refine (r5_Right.calls k a0_0 _ _ l0_1 _ _ l0_2 true _ ?side1 ?side2 ?side3 ?side4 A3.out).mono ?_); (case side1 => exact cB_ HR0_1 HB); (case side2 => exact HC0_1.out); (case side3 => exact cB_ HR0_2 HB); (case side4 => exact HC0_2.out); rintro e w14 ⟨rfl, hb⟩; refine ⟨_, rfl, ?_⟩; replace BK351 := bb_ BK351 hb; replace HB := bs_ HB hb; clear hb))
   first | go_ret | refine ⟨_, results_tmp rfl _ _ _, ?_⟩
   exact fin_ HB
 rw [if_pos c5] at H
 have c5b0 : decide ((l1.length : Int) ≤ 255) = true := decide_eq_true c5
 have c5b1 : decide (l1.length ≤ 255) = true := decide_eq_true (by omega)
 clear c5
 obtain ⟨t353, A6, H⟩ := bnd_ H
 obtain rfl := Option.some.inj H
 go_enter Try.func19, Try.ntmps19
 go_wp2_with (first | ((with_reducible refine gd_ 2 rfl ?_); (try (refine gate_guard (by rfl) ?_; dsimp only)); refine be_ #[.int .i64 a0_0, .slice A0_1 l0_1.length c0_1, .slice A0_2 l0_2.length c0_2] 25 ?_; intro gb351 hg w7 BK351 hb; have GW351 := ge_ HB hg; have GE351 := ge_ HB hg; replace HB := bs_ HB hb; clear hb hg; obtain ⟨hcz8_0, hcz8_1, hcz8_2, hfz8_0, hfz8_1, hfz8_2⟩ := bc3_ BK351) | ((with_reducible refine gf_ 17 rfl ?_); refine gL_ (some 6) rfl rfl Try.func17 #[.agg #[.int .i64 a0_0, .slice A0_1 l0_1.length c0_1, .slice A0_2 l0_2.length c0_2]] rfl ?_; (with_reducible refine (r5_Right.calls k a0_0 _ _ l0_1 _ _ l0_2 true _ ?side1 ?side2 ?side3 ?side4 A3.out).mono ?_); (case side1 => exact cB_ HR0_1 HB); (case side2 => exact HC0_1.out); (case side3 => exact cB_ HR0_2 HB); (case side4 => exact HC0_2.out); rintro e w9 ⟨rfl, hb⟩; refine ⟨_, rfl, ?_⟩; replace BK351 := bb_ BK351 hb; replace HB := bs_ HB hb; clear hb; obtain ⟨hcz10_0, hcz10_1, hcz10_2, hfz10_0, hfz10_1, hfz10_2⟩ := bc3_ BK351) | (go_at_call 48; (with_reducible refine (r5_Match.calls k a0_0 _ _ l0_1 _ _ l0_2 _ _ l1 t353 _ ?side1 ?side2 ?side3 ?side4 ?side5 ?side6 A6.out).mono ?_); (case side1 => exact cB_ HR0_1 HB); (case side2 => exact HC0_1.out); (case side3 => exact cB_ HR0_2 HB); (case side4 => exact HC0_2.out); (case side5 => exact cB_ HR1 HB); (case side6 => exact HC1.out); rintro e w11 ⟨rfl, hb⟩; replace BK351 := bb_ BK351 hb; replace HB := bs_ HB hb; clear hb))
 first | go_ret | refine ⟨_, results_tmp rfl _ _ _, ?_⟩
 exact fin_ HB
def dragomanref11_TakesPath.l0 : Nat → List Int → List (S61) → Int → Int → Option (Bool)
 | 0, _, _, _, _ => none
 | k + 1, x1, x7, x8, x9 => if x9 < x8 then (if 0 ≤ x9 then (if x9 < (x7.length : Int) then ((r5_Takes.f k ((rd_T61 x7 x9).f1.f0) ((rd_T61 x7 x9).f1.f1) ((rd_T61 x7 x9).f1.f2) x1).bind fun t356 => (if t356 = true then (some (!((rd_T61 x7 x9).f0))) else (dragomanref11_TakesPath.l0 k x1 x7 x8 (wrap64 (x9 + 1))))) else (none)) else (none)) else (some false)
def dragomanref11_TakesPath.f (k : Nat) (l0 : List (S61)) (l1 : List Int) : Option (Bool) := dragomanref11_TakesPath.l0 k l1 l0 (l0.length : Int) 0
set_option maxHeartbeats 8000000 in
set_option maxRecDepth 100000 in
theorem dragomanref11_TakesPath.calls (k : Nat) (A0 : Option Addr) (c0 : Nat) (l0 : List (S61)) (A1 : Option Addr) (c1 : Nat) (l1 : List Int) (r : Bool) (w : World) (hr0 : Kd.C k61 w A0 l0.length l0) (hc0 : l0.length ≤ c0) (hr1 : Kd.C (Kd.int .u32) w A1 l1.length l1) (hc1 : l1.length ≤ c1) (h : dragomanref11_TakesPath.f k l0 l1 = some r) :
 Calls Try.prog 39 #[.slice A0 l0.length c0, .slice A1 l1.length c1] w fun e w' => e = .returned (.bool r) ∧ Below w.heap.size w w' := by
 have hu61 := Try.underlying61
 have hu25 := Try.underlying25
 have HR0 := aM hr0
 have HC0 := aM hc0
 clear hr0 hc0
 have HR1 := aM hr1
 have HC1 := aM hc1
 clear hr1 hc1
 have HB := aM (Below.refl w.heap.size w)
 have H : (dragomanref11_TakesPath.l0 k l1 l0 (l0.length : Int) 0) = some r := h
 clear h
 have H' := aM H
 clear H
 go_enter Try.func39, Try.ntmps39
 go_wp2
 go_loopg [9] k (fun kq v9 w' => ∃ (x9_1 : Int), v9 = .int .i64 x9_1 ∧ Aside0 (dragomanref11_TakesPath.l0 kq l1 l0 (l0.length : Int) x9_1 = some r) ∧ Aside0 (kq ≤ k) ∧ Aside0 (Below w.heap.size w w'))
 case atStart => exact ⟨(0), rf_, H', ⟨Nat.le_refl _⟩, ⟨bw_ HB.out⟩⟩
 case round =>
  clear H'
  obtain ⟨x9_1, rfl, HA, HK1, HB⟩ := hrel
  cases gk with
  | zero => exact absurd HA.out (by simp [dragomanref11_TakesPath.l0])
  | succ k1 =>
   have H := HA.out
   clear HA
   simp only [dragomanref11_TakesPath.l0] at H
   by_cases c3 : x9_1 < (l0.length : Int)
   rotate_left
   · rw [if_neg c3] at H
     replace c3 := decide_eq_false c3
     obtain rfl := Option.some.inj H
     go_wp2
     first | go_ret | refine ⟨_, results_tmp rfl _ _ _, ?_⟩
     exact fin_ HB
   rw [if_pos c3] at H
   replace c3 := decide_eq_true c3
   obtain ⟨c4, H⟩ := ifd_ H
   obtain ⟨c5, H⟩ := ifd_ H
   obtain ⟨t356, A6, H⟩ := bnd_ H
   by_cases c7 : t356 = true
   · subst c7
     rw [if_pos rfl] at H
     obtain rfl := Option.some.inj H
     have p354 : 0 ≤ (x9_1 : Int) := od_
     have q354 : x9_1 < (l0.length : Int) := od_
     obtain ⟨ad354, A354_2, c354_2, A354_3, c354_3, e354, hx354_0, hx354_1, hx354_2, hx354_3, hl354_2, hi354_2, hl354_3, hi354_3⟩ := at_T61 HR0.out x9_1 p354 q354
     cases e354
     replace hx354_0 := hx_ HB hx354_0
     replace hx354_1 := hx_ HB hx354_1
     replace hx354_2 := hx_ HB hx354_2
     replace hx354_3 := hx_ HB hx354_3
     have HR354_2 := aM hi354_2
     have HC354_2 := aM hl354_2
     clear hi354_2 hl354_2
     have HR354_3 := aM hi354_3
     have HC354_3 := aM hl354_3
     clear hi354_3 hl354_3
     replace p354 := eq_true p354
     replace q354 := eq_true q354
     go_wp2_with (first | ((with_reducible refine gd_ 6 rfl ?_); refine be_ #[.bool false, .int .i64 0, .slice none 0 0, .slice none 0 0] 61 ?_; intro gb355 hg w8 BK355 hb; have GW355 := ge_ HB hg; have GE355 := ge_ HB hg; replace HB := bs_ HB hb; clear hb hg; obtain ⟨hcz9_0, hcz9_1, hcz9_2, hcz9_3, hfz9_0, hfz9_1, hfz9_2, hfz9_3⟩ := bc4_ BK355) | ((with_reducible refine gf_ 19 rfl ?_); refine gL_ (some 16) rfl rfl Try.func19 #[.agg #[.int .i64 ((rd_T61 l0 x9_1).f1.f0), .slice A354_2 ((rd_T61 l0 x9_1).f1.f1).length c354_2, .slice A354_3 ((rd_T61 l0 x9_1).f1.f2).length c354_3], .slice A1 l1.length c1] rfl ?_; (with_reducible refine (r5_Takes.calls k1 ((rd_T61 l0 x9_1).f1.f0) _ _ ((rd_T61 l0 x9_1).f1.f1) _ _ ((rd_T61 l0 x9_1).f1.f2) _ _ l1 true _ ?side1 ?side2 ?side3 ?side4 ?side5 ?side6 A6.out).mono ?_); (case side1 => exact cB_ HR354_2 HB); (case side2 => exact HC354_2.out); (case side3 => exact cB_ HR354_3 HB); (case side4 => exact HC354_3.out); (case side5 => exact cB_ HR1 HB); (case side6 => exact HC1.out); rintro e w10 ⟨rfl, hb⟩; refine ⟨_, rfl, ?_⟩; replace BK355 := bp_ (.cells #[.bool ((rd_T61 l0 x9_1).f0), .int .i64 ((rd_T61 l0 x9_1).f1.f0), .slice A354_2 ((rd_T61 l0 x9_1).f1.f1).length c354_2, .slice A354_3 ((rd_T61 l0 x9_1).f1.f2).length c354_3] 61 (0, 0)) BK355 hb; replace HB := bs_ HB hb; clear hb; obtain ⟨hcz11_0, hcz11_1, hcz11_2, hcz11_3, hfz11_0, hfz11_1, hfz11_2, hfz11_3⟩ := bc4_ BK355))
     first | go_ret | refine ⟨_, results_tmp rfl _ _ _, ?_⟩
     exact fin_ HB
   replace c7 := Bool.eq_false_iff.mpr c7
   subst c7
   rw [if_neg (show ¬ (false = true) by decide)] at H
   have H' := aM H
   clear H
   have p354 : 0 ≤ (x9_1 : Int) := od_
   have q354 : x9_1 < (l0.length : Int) := od_
   obtain ⟨ad354, A354_2, c354_2, A354_3, c354_3, e354, hx354_0, hx354_1, hx354_2, hx354_3, hl354_2, hi354_2, hl354_3, hi354_3⟩ := at_T61 HR0.out x9_1 p354 q354
   cases e354
   replace hx354_0 := hx_ HB hx354_0
   replace hx354_1 := hx_ HB hx354_1
   replace hx354_2 := hx_ HB hx354_2
   replace hx354_3 := hx_ HB hx354_3
   have HR354_2 := aM hi354_2
   have HC354_2 := aM hl354_2
   clear hi354_2 hl354_2
   have HR354_3 := aM hi354_3
   have HC354_3 := aM hl354_3
   clear hi354_3 hl354_3
   replace p354 := eq_true p354
   replace q354 := eq_true q354
   go_wp2_with (first | ((with_reducible refine gd_ 6 rfl ?_); refine be_ #[.bool false, .int .i64 0, .slice none 0 0, .slice none 0 0] 61 ?_; intro gb355 hg w12 BK355 hb; have GW355 := ge_ HB hg; have GE355 := ge_ HB hg; replace HB := bs_ HB hb; clear hb hg; obtain ⟨hcz13_0, hcz13_1, hcz13_2, hcz13_3, hfz13_0, hfz13_1, hfz13_2, hfz13_3⟩ := bc4_ BK355) | ((with_reducible refine gf_ 19 rfl ?_); refine gL_ (some 16) rfl rfl Try.func19 #[.agg #[.int .i64 ((rd_T61 l0 x9_1).f1.f0), .slice A354_2 ((rd_T61 l0 x9_1).f1.f1).length c354_2, .slice A354_3 ((rd_T61 l0 x9_1).f1.f2).length c354_3], .slice A1 l1.length c1] rfl ?_; (with_reducible refine (r5_Takes.calls k1 ((rd_T61 l0 x9_1).f1.f0) _ _ ((rd_T61 l0 x9_1).f1.f1) _ _ ((rd_T61 l0 x9_1).f1.f2) _ _ l1 false _ ?side1 ?side2 ?side3 ?side4 ?side5 ?side6 A6.out).mono ?_); (case side1 => exact cB_ HR354_2 HB); (case side2 => exact HC354_2.out); (case side3 => exact cB_ HR354_3 HB); (case side4 => exact HC354_3.out); (case side5 => exact cB_ HR1 HB); (case side6 => exact HC1.out); rintro e w14 ⟨rfl, hb⟩; refine ⟨_, rfl, ?_⟩; replace BK355 := bp_ (.cells #[.bool ((rd_T61 l0 x9_1).f0), .int .i64 ((rd_T61 l0 x9_1).f1.f0), .slice A354_2 ((rd_T61 l0 x9_1).f1.f1).length c354_2, .slice A354_3 ((rd_T61 l0 x9_1).f1.f2).length c354_3] 61 (0, 0)) BK355 hb; replace HB := bs_ HB hb; clear hb))
   go_roundg k1
   case measure => have := HK1.out; omega
   case rel => exact ⟨(wrap64 (x9_1 + 1)), rf_, H', ⟨by have := HK1.out; omega⟩, ⟨bw_ HB.out⟩⟩
def r2_In.f (a0_0 : Int) (a0_1 : Int) (a1 : Int) : Option (Bool) := if ((Int.tdiv a1 65536) % 4294967296) ≥ ((Int.tdiv a0_0 65536) % 4294967296) then (if ((Int.tdiv a1 65536) % 4294967296) ≤ ((Int.tdiv a0_1 65536) % 4294967296) then (if (Int.tmod a1 65536) ≥ (Int.tmod a0_0 65536) then (some (decide ((Int.tmod a1 65536) ≤ (Int.tmod a0_1 65536)))) else (some false)) else (some false)) else (some false)
set_option maxHeartbeats 8000000 in
set_option maxRecDepth 100000 in
theorem r2_In.calls (a0_0 : Int) (a0_1 : Int) (a1 : Int) (r : Bool) (w : World) (h : r2_In.f a0_0 a0_1 a1 = some r) :
 Calls Try.prog 97 #[.agg #[.int .u32 a0_0, .int .u32 a0_1], .int .u32 a1] w fun e w' => e = .returned (.bool r) ∧ Below w.heap.size w w' := by
 have hu76 := Try.underlying76
 have HB := aM (Below.refl w.heap.size w)
 unfold r2_In.f at h
 have H := h
 clear h
 by_cases c3 : ((Int.tdiv a1 65536) % 4294967296) ≥ ((Int.tdiv a0_0 65536) % 4294967296)
 rotate_left
 · rw [if_neg c3] at H
   have c3b0 : decide (((Int.tdiv a0_0 65536) % 4294967296) ≤ ((Int.tdiv a1 65536) % 4294967296)) = false := decide_eq_false c3
   clear c3
   obtain rfl := Option.some.inj H
   go_enter Try.func97, Try.ntmps97
   go_wp2_with (first | ((with_reducible refine gd_ 2 rfl ?_); refine be_ #[.int .u32 a0_0, .int .u32 a0_1] 76 ?_; intro gb357 hg w12 BK357 hb; have GW357 := ge_ HB hg; have GE357 := ge_ HB hg; replace HB := bs_ HB hb; clear hb hg; obtain ⟨hcz13_0, hcz13_1, hfz13_0, hfz13_1⟩ := bc2_ BK357))
   first | go_ret | refine ⟨_, results_tmp rfl _ _ _, ?_⟩
   exact fin_ HB
 rw [if_pos c3] at H
 have c3b0 : decide (((Int.tdiv a0_0 65536) % 4294967296) ≤ ((Int.tdiv a1 65536) % 4294967296)) = true := decide_eq_true c3
 clear c3
 by_cases c4 : ((Int.tdiv a1 65536) % 4294967296) ≤ ((Int.tdiv a0_1 65536) % 4294967296)
 rotate_left
 · rw [if_neg c4] at H
   replace c4 := decide_eq_false c4
   obtain rfl := Option.some.inj H
   go_enter Try.func97, Try.ntmps97
   go_wp2_with (first | ((with_reducible refine gd_ 2 rfl ?_); refine be_ #[.int .u32 a0_0, .int .u32 a0_1] 76 ?_; intro gb357 hg w10 BK357 hb; have GW357 := ge_ HB hg; have GE357 := ge_ HB hg; replace HB := bs_ HB hb; clear hb hg; obtain ⟨hcz11_0, hcz11_1, hfz11_0, hfz11_1⟩ := bc2_ BK357))
   first | go_ret | refine ⟨_, results_tmp rfl _ _ _, ?_⟩
   exact fin_ HB
 rw [if_pos c4] at H
 replace c4 := decide_eq_true c4
 by_cases c5 : (Int.tmod a1 65536) ≥ (Int.tmod a0_0 65536)
 · rw [if_pos c5] at H
   have c5b0 : decide ((Int.tmod a0_0 65536) ≤ (Int.tmod a1 65536)) = true := decide_eq_true c5
   clear c5
   obtain rfl := Option.some.inj H
   go_enter Try.func97, Try.ntmps97
   go_wp2_with (first | ((with_reducible refine gd_ 2 rfl ?_); refine be_ #[.int .u32 a0_0, .int .u32 a0_1] 76 ?_; intro gb357 hg w6 BK357 hb; have GW357 := ge_ HB hg; have GE357 := ge_ HB hg; replace HB := bs_ HB hb; clear hb hg; obtain ⟨hcz7_0, hcz7_1, hfz7_0, hfz7_1⟩ := bc2_ BK357))
   first | go_ret | refine ⟨_, results_tmp rfl _ _ _, ?_⟩
   exact fin_ HB
 rw [if_neg c5] at H
 have c5b0 : decide ((Int.tmod a0_0 65536) ≤ (Int.tmod a1 65536)) = false := decide_eq_false c5
 clear c5
 obtain rfl := Option.some.inj H
 go_enter Try.func97, Try.ntmps97
 go_wp2_with (first | ((with_reducible refine gd_ 2 rfl ?_); refine be_ #[.int .u32 a0_0, .int .u32 a0_1] 76 ?_; intro gb357 hg w8 BK357 hb; have GW357 := ge_ HB hg; have GE357 := ge_ HB hg; replace HB := bs_ HB hb; clear hb hg; obtain ⟨hcz9_0, hcz9_1, hfz9_0, hfz9_1⟩ := bc2_ BK357))
 first | go_ret | refine ⟨_, results_tmp rfl _ _ _, ?_⟩
 exact fin_ HB
end Go.Proofs.Ytlkjfjlmjgkheaa.H
