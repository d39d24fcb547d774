import Derived.Test.YtlkjfjlmjgkheaaHx0
import Derived.Test.YtlkjfjlmjgkheaaHx4
import Derived.Test.YtlkjfjlmjgkheaaHx15
import Derived.Test.YtlkjfjlmjgkheaaHx20
namespace Go.Proofs.Ytlkjfjlmjgkheaa.H
open Go.RowKit Go.Proofs.YtlkjfjlmjgkheaaW.PrintWords Go.Proofs.YtlkjfjlmjgkheaaW.PrintLast Go.Proofs.YtlkjfjlmjgkheaaW.PrintMore
attribute [local go_sem] max2_int min2_int max_two min_two max_three min_three max_four min_four
set_option linter.unusedVariables false
set_option linter.unusedSimpArgs false
attribute [local go_sem high] eqA48
def r5_Right.f (k : Nat) (a0_0 : Int) (l0_1 : List (S66)) (l0_2 : List (S25)) : Option (Bool) := (r5_Size.f k a0_0 l0_1 l0_2).bind fun bt285 => (if bt285.1 ≤ 200 then (if bt285.2 ≤ 40 then ((r5_kinds.f k a0_0 l0_1 l0_2).bind fun t287 => (some t287)) else (some false)) else (some false))
set_option maxHeartbeats 8000000 in
set_option maxRecDepth 100000 in
theorem r5_Right.calls (k : Nat) (a0_0 : Int) (A0_1 : Option Addr) (c0_1 : Nat) (l0_1 : List (S66)) (A0_2 : Option Addr) (c0_2 : Nat) (l0_2 : List (S25)) (r : Bool) (w : World) (hr0_1 : Kd.C k66 w A0_1 l0_1.length l0_1) (hc0_1 : l0_1.length ≤ c0_1) (hr0_2 : Kd.C k25 w A0_2 l0_2.length l0_2) (hc0_2 : l0_2.length ≤ c0_2) (h : r5_Right.f k a0_0 l0_1 l0_2 = some r) :
 Calls Try.prog 17 #[.agg #[.int .i64 a0_0, .slice A0_1 l0_1.length c0_1, .slice A0_2 l0_2.length c0_2]] w fun e w' => e = .returned (.bool r) ∧ Below w.heap.size w w' := by
 have hu25 := Try.underlying25
 have HR0_1 := aM hr0_1
 have HC0_1 := aM hc0_1
 clear hr0_1 hc0_1
 have HR0_2 := aM hr0_2
 have HC0_2 := aM hc0_2
 clear hr0_2 hc0_2
 have HB := aM (Below.refl w.heap.size w)
 have H : ((r5_Size.f k a0_0 l0_1 l0_2).bind fun bt285 => (if bt285.1 ≤ 200 then (if bt285.2 ≤ 40 then ((r5_kinds.f k a0_0 l0_1 l0_2).bind fun t287 => (some t287)) else (some false)) else (some false))) = some r := h
 clear h
 obtain ⟨⟨t285, t286⟩, A2, H⟩ := bnd_ H
 dsimp only at H
 by_cases c3 : t285 ≤ 200
 rotate_left
 · rw [if_neg c3] at H
   replace c3 := decide_eq_false c3
   obtain rfl := Option.some.inj H
   go_enter Try.func17, Try.ntmps17
   go_wp2_with (first | ((with_reducible refine gd_ 1 rfl ?_); refine be_ #[.int .i64 a0_0, .slice A0_1 l0_1.length c0_1, .slice A0_2 l0_2.length c0_2] 25 ?_; intro gb284 hg w14 BK284 hb; have GW284 := ge_ HB hg; have GE284 := ge_ HB hg; replace HB := bs_ HB hb; clear hb hg; obtain ⟨hcz15_0, hcz15_1, hcz15_2, hfz15_0, hfz15_1, hfz15_2⟩ := bc3_ BK284) | ((with_reducible refine gf_ 24 rfl ?_); refine gL_ (some 7) rfl rfl Try.func24 #[.agg #[.int .i64 a0_0, .slice A0_1 l0_1.length c0_1, .slice A0_2 l0_2.length c0_2]] rfl ?_; (with_reducible refine (r5_Size.calls k a0_0 _ _ l0_1 _ _ l0_2 t285 t286 _ ?side1 ?side2 ?side3 ?side4 A2.out).mono ?_); (case side1 => exact cB_ HR0_1 HB); (case side2 => exact HC0_1.out); (case side3 => exact cB_ HR0_2 HB); (case side4 => exact HC0_2.out); rintro e w16 ⟨rfl, hb⟩; refine ⟨_, rfl, ?_⟩; replace BK284 := bb_ BK284 hb; replace HB := bs_ HB hb; clear hb))
   first | go_ret | refine ⟨_, results_tmp rfl _ _ _, ?_⟩
   exact fin_ HB
 rw [if_pos c3] at H
 replace c3 := decide_eq_true c3
 by_cases c4 : t286 ≤ 40
 rotate_left
 · rw [if_neg c4] at H
   replace c4 := decide_eq_false c4
   obtain rfl := Option.some.inj H
   go_enter Try.func17, Try.ntmps17
   go_wp2_with (first | ((with_reducible refine gd_ 1 rfl ?_); refine be_ #[.int .i64 a0_0, .slice A0_1 l0_1.length c0_1, .slice A0_2 l0_2.length c0_2] 25 ?_; intro gb284 hg w11 BK284 hb; have GW284 := ge_ HB hg; have GE284 := ge_ HB hg; replace HB := bs_ HB hb; clear hb hg; obtain ⟨hcz12_0, hcz12_1, hcz12_2, hfz12_0, hfz12_1, hfz12_2⟩ := bc3_ BK284) | ((with_reducible refine gf_ 24 rfl ?_); refine gL_ (some 7) rfl rfl Try.func24 #[.agg #[.int .i64 a0_0, .slice A0_1 l0_1.length c0_1, .slice A0_2 l0_2.length c0_2]] rfl ?_; (with_reducible refine (r5_Size.calls k a0_0 _ _ l0_1 _ _ l0_2 t285 t286 _ ?side1 ?side2 ?side3 ?side4 A2.out).mono ?_); (case side1 => exact cB_ HR0_1 HB); (case side2 => exact HC0_1.out); (case side3 => exact cB_ HR0_2 HB); (case side4 => exact HC0_2.out); rintro e w13 ⟨rfl, hb⟩; refine ⟨_, rfl, ?_⟩; replace BK284 := bb_ BK284 hb; replace HB := bs_ HB hb; clear hb))
   first | go_ret | refine ⟨_, results_tmp rfl _ _ _, ?_⟩
   exact fin_ HB
 rw [if_pos c4] at H
 replace c4 := decide_eq_true c4
 obtain ⟨t287, A5, H⟩ := bnd_ H
 obtain rfl := Option.some.inj H
 go_enter Try.func17, Try.ntmps17
 go_wp2_with (first | ((with_reducible refine gd_ 1 rfl ?_); refine be_ #[.int .i64 a0_0, .slice A0_1 l0_1.length c0_1, .slice A0_2 l0_2.length c0_2] 25 ?_; intro gb284 hg w6 BK284 hb; have GW284 := ge_ HB hg; have GE284 := ge_ HB hg; replace HB := bs_ HB hb; clear hb hg; obtain ⟨hcz7_0, hcz7_1, hcz7_2, hfz7_0, hfz7_1, hfz7_2⟩ := bc3_ BK284) | ((with_reducible refine gf_ 24 rfl ?_); refine gL_ (some 7) rfl rfl Try.func24 #[.agg #[.int .i64 a0_0, .slice A0_1 l0_1.length c0_1, .slice A0_2 l0_2.length c0_2]] rfl ?_; (with_reducible refine (r5_Size.calls k a0_0 _ _ l0_1 _ _ l0_2 t285 t286 _ ?side1 ?side2 ?side3 ?side4 A2.out).mono ?_); (case side1 => exact cB_ HR0_1 HB); (case side2 => exact HC0_1.out); (case side3 => exact cB_ HR0_2 HB); (case side4 => exact HC0_2.out); rintro e w8 ⟨rfl, hb⟩; refine ⟨_, rfl, ?_⟩; replace BK284 := bb_ BK284 hb; replace HB := bs_ HB hb; clear hb; obtain ⟨hcz9_0, hcz9_1, hcz9_2, hfz9_0, hfz9_1, hfz9_2⟩ := bc3_ BK284) | (go_at_call 44; (with_reducible refine (r5_kinds.calls k a0_0 _ _ l0_1 _ _ l0_2 t287 _ ?side1 ?side2 ?side3 ?side4 A5.out).mono ?_); (case side1 => exact cB_ HR0_1 HB); (case side2 => exact HC0_1.out); (case side3 => exact cB_ HR0_2 HB); (case side4 => exact HC0_2.out); rintro e w10 ⟨rfl, hb⟩; replace BK284 := bb_ BK284 hb; replace HB := bs_ HB hb; clear hb))
 first | go_ret | refine ⟨_, results_tmp rfl _ _ _, ?_⟩
 exact fin_ HB
def r3_Mask.l0 : Nat → Int → Int → Int → Int → Int → Option (Int × Int)
 | 0, _, _, _, _, _ => none
 | k + 1, x3, x4, x5, x289000, x289001 => if x5 < 32 then (r3_Mask.l0 k x3 (IntKind.u64.wrap (2 * x4)) (wrap64 (x5 + 1)) x289000 x289001) else (if x4 = 0 then (none) else (some ((IntKind.u64.wrap ((IntKind.u64.wrap (Int.tdiv (IntKind.u64.wrap (x289000)) x4)) * x4)) % 4294967296, x3)))
def r3_Mask.f (k : Nat) (a0_0 : Int) (a0_1 : Int) : Option (Int × Int) := r3_Mask.l0 k (mx 0 (mn a0_1 32)) 1 (mx 0 (mn a0_1 32)) a0_0 a0_1
set_option maxHeartbeats 8000000 in
set_option maxRecDepth 100000 in
theorem r3_Mask.calls (k : Nat) (a0_0 : Int) (a0_1 : Int) (r1 : Int) (r2 : Int) (w : World) (h : r3_Mask.f k a0_0 a0_1 = some (r1, r2)) :
 Calls Try.prog 102 #[.agg #[.int .u32 a0_0, .int .i64 a0_1]] w fun e w' => e = .returned (.agg #[.int .u32 r1, .int .i64 r2]) ∧ Below w.heap.size w w' := by
 have hu48 := Try.underlying48
 have HB := aM (Below.refl w.heap.size w)
 have H : (r3_Mask.l0 k (mx 0 (mn a0_1 32)) 1 (mx 0 (mn a0_1 32)) a0_0 a0_1) = some (r1, r2) := h
 clear h
 obtain ⟨ji2, hji2⟩ : ∃ j_ : Int, (mn a0_1 32) = j_ := ⟨_, rfl⟩
 replace H : (r3_Mask.l0 k (mx 0 (ji2)) 1 (mx 0 (ji2)) a0_0 a0_1) = some (r1, r2) := by first | (rw [hji2] at H; exact H) | (simp only [hji2] at H ⊢; exact H)
 (try (have hji2h : ji2 ≤ 32 := by (rw [← hji2]; unfold mn; (repeat' split) <;> omega)))
 (try (have hji2g : ji2 ≤ 64 := by omega))
 have hji2_ : (if 32 < a0_1 then 32 else a0_1) = ji2 := hji2
 obtain ⟨ji3, hji3⟩ : ∃ j_ : Int, (mx 0 (ji2)) = j_ := ⟨_, rfl⟩
 replace H : (r3_Mask.l0 k ji3 1 ji3 a0_0 a0_1) = some (r1, r2) := by first | (rw [hji3] at H; exact H) | (simp only [hji3] at H ⊢; exact H)
 have hji3_ : (if 0 < (ji2) then (ji2) else 0) = ji3 := hji3
 have H' := aM H
 clear H
 go_enter Try.func102, Try.ntmps102
 go_wp2_with (first | ((with_reducible refine gd_ 1 rfl ?_); refine be_ #[.int .u32 a0_0, .int .i64 a0_1] 48 ?_; intro gb288 hg w4 BK288 hb; have GW288 := ge_ HB hg; have GE288 := ge_ HB hg; replace HB := bs_ HB hb; clear hb hg) | ((with_reducible refine gd_ 2 rfl ?_); refine be_ #[.int .u32 0, .int .i64 0] 48 ?_; intro gb289 hg w5 BK289 hb; have GW289 := ge_ HB hg; have GE289 := ge_ HB hg; have NB288_289 := nl_ BK288 hg; have NB289_288 := ng_ BK288 hg; replace BK288 := bb_ BK288 hb; replace HB := bs_ HB hb; clear hb hg; have hnb6 := NB288_289.out; have hnc6 := NB289_288.out; obtain ⟨hcz7_0, hcz7_1, hfz7_0, hfz7_1⟩ := bc2_ BK288))
 go_loopg [4, 5] k (fun kq v4 v5 w' => ∃ (x4_1 : Int) (x5_1 : Int), v4 = .int .u64 x4_1 ∧ v5 = .int .i64 x5_1 ∧ Aside0 (r3_Mask.l0 kq ji3 x4_1 x5_1 a0_0 a0_1 = some (r1, r2)) ∧ Aside0 (kq ≤ k) ∧ Aside0 (w'.heap[gb288]? = some (.cells #[.int .u32 a0_0, .int .i64 a0_1] 48 (0, 0))) ∧ Aside0 (w'.heap[gb289]? = some (.cells #[.int .u32 0, .int .i64 0] 48 (0, 0))) ∧ Aside0 (Below w.heap.size w w'))
 case atStart => exact ⟨(1), (ji3), rf_, (by first | rfl | (simp; done) | (simp only [← hji3] <;> (first | rfl | simp)) | (simp [*]; done)), H', ⟨Nat.le_refl _⟩, ⟨ub_ BK288.out⟩, ⟨ub_ BK289.out⟩, ⟨bw_ HB.out⟩⟩
 case round =>
  clear H'
  obtain ⟨x4_1, x5_1, rfl, rfl, HA, HK1, BK288, BK289, HB⟩ := hrel
  cases gk with
  | zero => exact absurd HA.out (by simp [r3_Mask.l0])
  | succ k1 =>
   have H := HA.out
   clear HA
   simp only [r3_Mask.l0] at H
   by_cases c8 : x5_1 < 32
   · rw [if_pos c8] at H
     replace c8 := decide_eq_true c8
     have H' := aM H
     clear H
     go_wp2
     go_roundg k1
     case measure => have := HK1.out; omega
     case rel => exact ⟨(IntKind.u64.wrap (2 * x4_1)), (wrap64 (x5_1 + 1)), rf_, rf_, H', ⟨by have := HK1.out; omega⟩, ⟨ub_ BK288.out⟩, ⟨ub_ BK289.out⟩, ⟨bw_ HB.out⟩⟩
   rw [if_neg c8] at H
   replace c8 := decide_eq_false c8
   by_cases c9 : x4_1 = 0
   · rw [if_pos c9] at H
     exact absurd H (by simp)
   rw [if_neg c9] at H
   have c9b0 : (x4_1 == 0) = false := beq_eq_false_iff_ne.mpr c9
   have c9b1 : (x4_1 != 0) = true := bne_iff_ne.mpr c9
   simp only [Option.some.injEq, Prod.mk.injEq] at H
   obtain ⟨rfl, rfl⟩ := H
   have hnb10 := NB288_289.out
   have hnc10 := NB289_288.out
   obtain ⟨hcz11_0, hcz11_1, hfz11_0, hfz11_1⟩ := bc2_ BK288
   obtain ⟨hcz12_0, hcz12_1, hfz12_0, hfz12_1⟩ := bc2_ BK289
   go_wp2
   refine bodyPost_ret (results_cell_row rfl _ _ gb289 48 #[.int .u32 ((IntKind.u64.wrap ((IntKind.u64.wrap (Int.tdiv (IntKind.u64.wrap (a0_0)) x4_1)) * x4_1)) % 4294967296), .int .i64 ji3] (0, 0) _ rfl (ub_ BK289.out) Try.underlying48 rfl (by kernel_rfl)) rfl ?_
   exact ⟨by first | rfl | (simp [errW_none, errW_some] <;> rfl) | (simp only [← hji2, ← hji3]; first | rfl | (simp [errW_none, errW_some] <;> rfl)) | (simp [*, errW_none, errW_some] <;> rfl), by repeat (first | (with_reducible first | exact HB.out | apply blA | apply blN | apply blD | refine bS ?_ GE288.out | refine bS ?_ GE289.out) | exact HB.out)⟩
def r3_Right.f (k : Nat) (a0_0 : Int) (a0_1 : Int) : Option (Bool) := (r3_Mask.f k a0_0 a0_1).bind fun bt291 => (some (a0_0 == bt291.1 && (a0_1 == bt291.2)))
set_option maxHeartbeats 8000000 in
set_option maxRecDepth 100000 in
theorem r3_Right.calls (k : Nat) (a0_0 : Int) (a0_1 : Int) (r : Bool) (w : World) (h : r3_Right.f k a0_0 a0_1 = some r) :
 Calls Try.prog 89 #[.agg #[.int .u32 a0_0, .int .i64 a0_1]] w fun e w' => e = .returned (.bool r) ∧ Below w.heap.size w w' := by
 have hu48 := Try.underlying48
 have HB := aM (Below.refl w.heap.size w)
 unfold r3_Right.f at h
 have H := h
 clear h
 obtain ⟨⟨t291, t292⟩, A2, H⟩ := bnd_ H
 dsimp only at H
 obtain rfl := Option.some.inj H
 go_enter Try.func89, Try.ntmps89
 try go_wp2_with (first | ((with_reducible refine gd_ 1 rfl ?_); refine be_ #[.int .u32 a0_0, .int .i64 a0_1] 48 ?_; intro gb290 hg w3 BK290 hb; have GW290 := ge_ HB hg; have GE290 := ge_ HB hg; replace HB := bs_ HB hb; clear hb hg))
 replace BK290 := aM (blk_drew BK290.out)
 replace HB := aM (below_drew1 HB.out)
 refine start_ (n := 5) (S := fun w' => w'.cell? ⟨gb290, 0, none⟩ = some (.int .u32 a0_0) ∧ w'.cell? ⟨gb290, 1, none⟩ = some (.int .i64 a0_1)) (ds := []) (tf 0 5) (by kernel_rfl) rfl rfl (bd2_ BK290) (fun hHeld => ?_)
 generalize w3.drew = w4 at BK290 HB hHeld ⊢
 refine take_ (i := 0) (N := some 3) (v := ?_) (a' := ?_) (tf 1 4) rfl rfl (by kernel_rfl) (fun _ _ _ h => h) (Or.inl ⟨by rfl, ?_⟩) hHeld ?_ ?_
 rotate_left
 · rintro w' ⟨s0, s1⟩
   go_simp
   with_reducible rfl
 rotate_left
 · simp only [Act.put, sT, sZ, sS, i64_w, i32_w]
   rfl
 refine take_ (i := 1) (N := some 4) (v := ?_) (a' := ?_) (tf 2 3) rfl rfl (by kernel_rfl) (fun _ _ _ h => h) (Or.inl ⟨by rfl, ?_⟩) hHeld ?_ ?_
 rotate_left
 · rintro w' ⟨s0, s1⟩
   go_simp
   with_reducible rfl
 rotate_left
 · simp only [Act.put, sT, sZ, sS, i64_w, i32_w]
   rfl
 refine one_ (i := 2) (N := some 5) (tf 3 2) rfl rfl (by kernel_rfl) (by decide) (fun K hK => ?_)
 refine gO_ Try.func102 #[.agg #[.int .u32 a0_0, .int .i64 a0_1]] rfl rfl ?_
 with_reducible refine (r3_Mask.calls k a0_0 a0_1 t291 t292 _ A2.out).mono ?_
 rintro e w5 ⟨rfl, hb⟩
 refine ⟨_, rfl, ?_⟩
 replace BK290 := bb_ BK290 hb
 replace HB := bs_ HB hb
 (try clear hb)
 (try clear hb2)
 (try clear hk)
 (try clear hi)
 refine hK.out _ _ (bd2_ BK290) (fun hHeld => ?_)
 clear hK K
 refine nO_ (some 5) ?_
 refine pure_ (i := 3) (N := some 6) (v := ?_) (a' := ?_) (tf 4 1) rfl rfl (by kernel_rfl) (fun _ _ _ h => h) (Or.inl ⟨by rfl, ?_⟩) ?_ ?_
 rotate_left
 · intro w'
   go_simp
   with_reducible rfl
 rotate_left
 · simp only [Act.put, sT, sZ, sS, i64_w, i32_w]
   rfl
 refine pure_ (i := 4) (N := some 2) (v := ?_) (a' := ?_) (tf 5 0) rfl rfl (by kernel_rfl) (fun _ _ _ h => h) (Or.inl ⟨by rfl, ?_⟩) ?_ ?_
 rotate_left
 · intro w'
   go_simp
   with_reducible rfl
 rotate_left
 · simp only [Act.put, sT, sZ, sS, i64_w, i32_w]
   rfl
 refine done_ (by kernel_rfl) ?_
 try go_wp2
 first | go_ret | refine ⟨_, results_tmp rfl _ _ _, ?_⟩
 exact fin_ HB
def r4_Right.f (k : Nat) (a0_0 : Int) (a0_1 : Int) (a0_2 : Int) (a0_3 : Int) : Option (Bool) := (r3_Right.f k a0_0 a0_1).bind fun t294 => (if t294 = true then (if a0_1 ≤ a0_2 then (if a0_2 ≤ a0_3 then (some (decide (a0_3 ≤ 32))) else (some false)) else (some false)) else (some false))
set_option maxHeartbeats 8000000 in
set_option maxRecDepth 100000 in
theorem r4_Right.calls (k : Nat) (a0_0 : Int) (a0_1 : Int) (a0_2 : Int) (a0_3 : Int) (r : Bool) (w : World) (h : r4_Right.f k a0_0 a0_1 a0_2 a0_3 = some r) :
 Calls Try.prog 60 #[.agg #[.int .u32 a0_0, .int .i64 a0_1, .int .i64 a0_2, .int .i64 a0_3]] w fun e w' => e = .returned (.bool r) ∧ Below w.heap.size w w' := by
 have hu81 := Try.underlying81
 have hu48 := Try.underlying48
 have HB := aM (Below.refl w.heap.size w)
 unfold r4_Right.f at h
 have H := h
 clear h
 obtain ⟨t294, A2, H⟩ := bnd_ H
 by_cases c3 : t294 = true
 rotate_left
 · replace c3 := Bool.eq_false_iff.mpr c3
   subst c3
   rw [if_neg (show ¬ (false = true) by decide)] at H
   obtain rfl := Option.some.inj H
   go_enter Try.func60, Try.ntmps60
   go_wp2_with (first | ((with_reducible refine gd_ 1 rfl ?_); refine be_ #[.int .u32 a0_0, .int .i64 a0_1, .int .i64 a0_2, .int .i64 a0_3] 81 ?_; intro gb293 hg w18 BK293 hb; have GW293 := ge_ HB hg; have GE293 := ge_ HB hg; replace HB := bs_ HB hb; clear hb hg; obtain ⟨hcz19_0, hcz19_1, hcz19_2, hcz19_3, hfz19_0, hfz19_1, hfz19_2, hfz19_3⟩ := bc4_ BK293) | ((with_reducible refine gf_ 89 rfl ?_); refine gL_ (some 5) rfl rfl Try.func89 #[.agg #[.int .u32 a0_0, .int .i64 a0_1]] rfl ?_; (with_reducible refine (r3_Right.calls k a0_0 a0_1 false _ A2.out).mono ?_); rintro e w20 ⟨rfl, hb⟩; refine ⟨_, rfl, ?_⟩; replace BK293 := bb_ BK293 hb; replace HB := bs_ HB hb; clear hb))
   first | go_ret | refine ⟨_, results_tmp rfl _ _ _, ?_⟩
   exact fin_ HB
 subst c3
 rw [if_pos rfl] at H
 by_cases c4 : a0_1 ≤ a0_2
 rotate_left
 · rw [if_neg c4] at H
   replace c4 := decide_eq_false c4
   obtain rfl := Option.some.inj H
   go_enter Try.func60, Try.ntmps60
   go_wp2_with (first | ((with_reducible refine gd_ 1 rfl ?_); refine be_ #[.int .u32 a0_0, .int .i64 a0_1, .int .i64 a0_2, .int .i64 a0_3] 81 ?_; intro gb293 hg w14 BK293 hb; have GW293 := ge_ HB hg; have GE293 := ge_ HB hg; replace HB := bs_ HB hb; clear hb hg; obtain ⟨hcz15_0, hcz15_1, hcz15_2, hcz15_3, hfz15_0, hfz15_1, hfz15_2, hfz15_3⟩ := bc4_ BK293) | ((with_reducible refine gf_ 89 rfl ?_); refine gL_ (some 5) rfl rfl Try.func89 #[.agg #[.int .u32 a0_0, .int .i64 a0_1]] rfl ?_; (with_reducible refine (r3_Right.calls k a0_0 a0_1 true _ A2.out).mono ?_); rintro e w16 ⟨rfl, hb⟩; refine ⟨_, rfl, ?_⟩; replace BK293 := bb_ BK293 hb; replace HB := bs_ HB hb; clear hb; obtain ⟨hcz17_0, hcz17_1, hcz17_2, hcz17_3, hfz17_0, hfz17_1, hfz17_2, hfz17_3⟩ := bc4_ BK293))
   first | go_ret | refine ⟨_, results_tmp rfl _ _ _, ?_⟩
   exact fin_ HB
 rw [if_pos c4] at H
 replace c4 := decide_eq_true c4
 by_cases c5 : a0_2 ≤ a0_3
 · rw [if_pos c5] at H
   replace c5 := decide_eq_true c5
   obtain rfl := Option.some.inj H
   go_enter Try.func60, Try.ntmps60
   go_wp2_with (first | ((with_reducible refine gd_ 1 rfl ?_); refine be_ #[.int .u32 a0_0, .int .i64 a0_1, .int .i64 a0_2, .int .i64 a0_3] 81 ?_; intro gb293 hg w6 BK293 hb; have GW293 := ge_ HB hg; have GE293 := ge_ HB hg; replace HB := bs_ HB hb; clear hb hg; obtain ⟨hcz7_0, hcz7_1, hcz7_2, hcz7_3, hfz7_0, hfz7_1, hfz7_2, hfz7_3⟩ := bc4_ BK293) | ((with_reducible refine gf_ 89 rfl ?_); refine gL_ (some 5) rfl rfl Try.func89 #[.agg #[.int .u32 a0_0, .int .i64 a0_1]] rfl ?_; (with_reducible refine (r3_Right.calls k a0_0 a0_1 true _ A2.out).mono ?_); rintro e w8 ⟨rfl, hb⟩; refine ⟨_, rfl, ?_⟩; replace BK293 := bb_ BK293 hb; replace HB := bs_ HB hb; clear hb; obtain ⟨hcz9_0, hcz9_1, hcz9_2, hcz9_3, hfz9_0, hfz9_1, hfz9_2, hfz9_3⟩ := bc4_ BK293))
   first | go_ret | refine ⟨_, results_tmp rfl _ _ _, ?_⟩
   exact fin_ HB
 rw [if_neg c5] at H
 replace c5 := decide_eq_false c5
 obtain rfl := Option.some.inj H
 go_enter Try.func60, Try.ntmps60
 go_wp2_with (first | ((with_reducible refine gd_ 1 rfl ?_); refine be_ #[.int .u32 a0_0, .int .i64 a0_1, .int .i64 a0_2, .int .i64 a0_3] 81 ?_; intro gb293 hg w10 BK293 hb; have GW293 := ge_ HB hg; have GE293 := ge_ HB hg; replace HB := bs_ HB hb; clear hb hg; obtain ⟨hcz11_0, hcz11_1, hcz11_2, hcz11_3, hfz11_0, hfz11_1, hfz11_2, hfz11_3⟩ := bc4_ BK293) | ((with_reducible refine gf_ 89 rfl ?_); refine gL_ (some 5) rfl rfl Try.func89 #[.agg #[.int .u32 a0_0, .int .i64 a0_1]] rfl ?_; (with_reducible refine (r3_Right.calls k a0_0 a0_1 true _ A2.out).mono ?_); rintro e w12 ⟨rfl, hb⟩; refine ⟨_, rfl, ?_⟩; replace BK293 := bb_ BK293 hb; replace HB := bs_ HB hb; clear hb; obtain ⟨hcz13_0, hcz13_1, hcz13_2, hcz13_3, hfz13_0, hfz13_1, hfz13_2, hfz13_3⟩ := bc4_ BK293))
 first | go_ret | refine ⟨_, results_tmp rfl _ _ _, ?_⟩
 exact fin_ HB
def dragomanref11_CommsRight.l0 : Nat → List (S64) → Int → Int → Option (Bool)
 | 0, _, _, _ => none
 | k + 1, x8, x9, x10 => if x10 < x9 then (if 0 ≤ x10 then (if x10 < (x8.length : Int) then (if (((rd_T64 x8 x10).f1).length : Int) > 64 then (some false) else (dragomanref11_CommsRight.l0 k x8 x9 (wrap64 (x10 + 1)))) else (none)) else (none)) else (some true)
def dragomanref11_CommsRight.f (k : Nat) (l0 : List (S64)) : Option (Bool) := if (l0.length : Int) > 64 then (some false) else (dragomanref11_CommsRight.l0 k l0 (l0.length : Int) 0)
set_option maxHeartbeats 8000000 in
set_option maxRecDepth 100000 in
theorem dragomanref11_CommsRight.calls (k : Nat) (A0 : Option Addr) (c0 : Nat) (l0 : List (S64)) (r : Bool) (w : World) (hr0 : Kd.C k64 w A0 l0.length l0) (hc0 : l0.length ≤ c0) (h : dragomanref11_CommsRight.f k l0 = some r) :
 Calls Try.prog 61 #[.slice A0 l0.length c0] w fun e w' => e = .returned (.bool r) ∧ Below w.heap.size w w' := by
 have hu64 := Try.underlying64
 have HR0 := aM hr0
 have HC0 := aM hc0
 clear hr0 hc0
 have HB := aM (Below.refl w.heap.size w)
 have H : (if (l0.length : Int) > 64 then (some false) else (dragomanref11_CommsRight.l0 k l0 (l0.length : Int) 0)) = some r := h
 clear h
 by_cases c2 : (l0.length : Int) > 64
 · rw [if_pos c2] at H
   have c2b0 : decide (64 < (l0.length : Int)) = true := decide_eq_true c2
   have c2b1 : decide (64 < l0.length) = true := decide_eq_true (by omega)
   clear c2
   obtain rfl := Option.some.inj H
   go_enter Try.func61, Try.ntmps61
   go_wp2
   first | go_ret | refine ⟨_, results_tmp rfl _ _ _, ?_⟩
   exact fin_ HB
 rw [if_neg c2] at H
 have c2b0 : decide (64 < (l0.length : Int)) = false := decide_eq_false c2
 have c2b1 : decide (64 < l0.length) = false := decide_eq_false (by omega)
 clear c2
 have H' := aM H
 clear H
 go_enter Try.func61, Try.ntmps61
 go_wp2
 go_loopg [10] k (fun kq v10 w' => ∃ (x10_1 : Int), v10 = .int .i64 x10_1 ∧ Aside0 (dragomanref11_CommsRight.l0 kq l0 (l0.length : Int) x10_1 = some r) ∧ Aside0 (kq ≤ k) ∧ Aside0 (Below w.heap.size w w'))
 case atStart => exact ⟨(0), rf_, H', ⟨Nat.le_refl _⟩, ⟨bw_ HB.out⟩⟩
 case round =>
  clear H'
  obtain ⟨x10_1, rfl, HA, HK1, HB⟩ := hrel
  cases gk with
  | zero => exact absurd HA.out (by simp [dragomanref11_CommsRight.l0])
  | succ k1 =>
   have H := HA.out
   clear HA
   simp only [dragomanref11_CommsRight.l0] at H
   by_cases c3 : x10_1 < (l0.length : Int)
   rotate_left
   · rw [if_neg c3] at H
     replace c3 := decide_eq_false c3
     obtain rfl := Option.some.inj H
     go_wp2
     first | go_ret | refine ⟨_, results_tmp rfl _ _ _, ?_⟩
     exact fin_ HB
   rw [if_pos c3] at H
   replace c3 := decide_eq_true c3
   obtain ⟨c4, H⟩ := ifd_ H
   obtain ⟨c5, H⟩ := ifd_ H
   by_cases c6 : (((rd_T64 l0 x10_1).f1).length : Int) > 64
   · rw [if_pos c6] at H
     have c6b0 : decide (64 < (((rd_T64 l0 x10_1).f1).length : Int)) = true := decide_eq_true c6
     have c6b1 : decide (64 < ((rd_T64 l0 x10_1).f1).length) = true := decide_eq_true (by omega)
     clear c6
     obtain rfl := Option.some.inj H
     have p295 : 0 ≤ (x10_1 : Int) := od_
     have q295 : x10_1 < (l0.length : Int) := od_
     obtain ⟨ad295, A295_1, c295_1, e295, hx295_0, hx295_1, hl295_1, hi295_1⟩ := at_T64 HR0.out x10_1 p295 q295
     cases e295
     replace hx295_0 := hx_ HB hx295_0
     replace hx295_1 := hx_ HB hx295_1
     have HR295_1 := aM hi295_1
     have HC295_1 := aM hl295_1
     clear hi295_1 hl295_1
     replace p295 := eq_true p295
     replace q295 := eq_true q295
     go_wp2_with (first | ((with_reducible refine gd_ 4 rfl ?_); refine be_ #[.bool false, .slice none 0 0] 64 ?_; intro gb296 hg w7 BK296 hb; have GW296 := ge_ HB hg; have GE296 := ge_ HB hg; replace HB := bs_ HB hb; clear hb hg; obtain ⟨hcz8_0, hcz8_1, hfz8_0, hfz8_1⟩ := bc2_ BK296))
     first | go_ret | refine ⟨_, results_tmp rfl _ _ _, ?_⟩
     exact fin_ HB
   rw [if_neg c6] at H
   have c6b0 : decide (64 < (((rd_T64 l0 x10_1).f1).length : Int)) = false := decide_eq_false c6
   have c6b1 : decide (64 < ((rd_T64 l0 x10_1).f1).length) = false := decide_eq_false (by omega)
   clear c6
   have H' := aM H
   clear H
   have p295 : 0 ≤ (x10_1 : Int) := od_
   have q295 : x10_1 < (l0.length : Int) := od_
   obtain ⟨ad295, A295_1, c295_1, e295, hx295_0, hx295_1, hl295_1, hi295_1⟩ := at_T64 HR0.out x10_1 p295 q295
   cases e295
   replace hx295_0 := hx_ HB hx295_0
   replace hx295_1 := hx_ HB hx295_1
   have HR295_1 := aM hi295_1
   have HC295_1 := aM hl295_1
   clear hi295_1 hl295_1
   replace p295 := eq_true p295
   replace q295 := eq_true q295
   go_wp2_with (first | ((with_reducible refine gd_ 4 rfl ?_); refine be_ #[.bool false, .slice none 0 0] 64 ?_; intro gb296 hg w9 BK296 hb; have GW296 := ge_ HB hg; have GE296 := ge_ HB hg; replace HB := bs_ HB hb; clear hb hg; obtain ⟨hcz10_0, hcz10_1, hfz10_0, hfz10_1⟩ := bc2_ BK296))
   go_roundg k1
   case measure => have := HK1.out; omega
   case rel => exact ⟨(wrap64 (x10_1 + 1)), rf_, H', ⟨by have := HK1.out; omega⟩, ⟨bw_ HB.out⟩⟩
end Go.Proofs.Ytlkjfjlmjgkheaa.H
