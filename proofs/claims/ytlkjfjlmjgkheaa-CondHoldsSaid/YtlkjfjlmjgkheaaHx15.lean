import Derived.Test.YtlkjfjlmjgkheaaHx0
namespace Go.Proofs.Ytlkjfjlmjgkheaa.H
open Go.RowKit Go.Proofs.YtlkjfjlmjgkheaaW.PrintWords Go.Proofs.YtlkjfjlmjgkheaaW.PrintLast Go.Proofs.YtlkjfjlmjgkheaaW.PrintMore
attribute [local go_sem] max2_int min2_int max_two min_two max_three min_three max_four min_four
set_option linter.unusedVariables false
set_option linter.unusedSimpArgs false
mutual
def r5_Size.l0 : Nat → Int → Int → List (S25) → Int → Int → Option (Int × Int)
 | 0, _, _, _, _, _ => none
 | k + 1, x4, x5, x11, x12, x13 => if x13 < x12 then (if 0 ≤ x13 then (if x13 < (x11.length : Int) then ((r5_Size.f k ((rd_T25 x11 x13).f0) ((rd_T25 x11 x13).f1) ((rd_T25 x11 x13).f2)).bind fun bt200 => (r5_Size.l0 k (mn (wrap64 (x4 + bt200.1)) 1000000) (mx x5 bt200.2) x11 x12 (wrap64 (x13 + 1)))) else (none)) else (none)) else (some (x4, wrap64 (x5 + 1)))
def r5_Size.f : Nat → Int → List (S66) → List (S25) → Option (Int × Int)
 | 0, _, _, _ => none
 | k + 1, a0_0, l0_1, l0_2 => r5_Size.l0 k 1 0 l0_2 (l0_2.length : Int) 0
end
set_option maxHeartbeats 8000000 in
set_option maxRecDepth 100000 in
theorem r5_Size.calls (k : Nat) : ∀ (a0_0 : Int) (A0_1 : Option Addr) (c0_1 : Nat) (l0_1 : List (S66)) (A0_2 : Option Addr) (c0_2 : Nat) (l0_2 : List (S25)) (r1 : Int) (r2 : Int) (w : World) (hr0_1 : Kd.C k66 w A0_1 l0_1.length l0_1) (hc0_1 : l0_1.length ≤ c0_1) (hr0_2 : Kd.C k25 w A0_2 l0_2.length l0_2) (hc0_2 : l0_2.length ≤ c0_2) (h : r5_Size.f k a0_0 l0_1 l0_2 = some (r1, r2)),
 Calls Try.prog 24 #[.agg #[.int .i64 a0_0, .slice A0_1 l0_1.length c0_1, .slice A0_2 l0_2.length c0_2]] w fun e w' => e = .returned (.tuple #[.int .i64 r1, .int .i64 r2]) ∧ Below w.heap.size w w' := by
 induction k using Nat.strongRecOn with
 | _ k ih =>
 intro a0_0 A0_1 c0_1 l0_1 A0_2 c0_2 l0_2 r1 r2 w hr0_1 hc0_1 hr0_2 hc0_2 h
 cases k with
 | zero => exact absurd h (by simp [r5_Size.f])
 | succ k =>
 simp only [r5_Size.f] at h
 have hu25 := Try.underlying25
 have HR0_1 := aM hr0_1
 have HC0_1 := aM hc0_1
 clear hr0_1 hc0_1
 have HR0_2 := aM hr0_2
 have HC0_2 := aM hc0_2
 clear hr0_2 hc0_2
 have HB := aM (Below.refl w.heap.size w)
 have H : (r5_Size.l0 k 1 0 l0_2 (l0_2.length : Int) 0) = some (r1, r2) := h
 clear h
 have H' := aM H
 clear H
 go_enter Try.func24, Try.ntmps24
 go_wp2_with (first | ((with_reducible refine gd_ 1 rfl ?_); refine be_ #[.int .i64 a0_0, .slice A0_1 l0_1.length c0_1, .slice A0_2 l0_2.length c0_2] 25 ?_; intro gb197 hg w2 BK197 hb; have GW197 := ge_ HB hg; have GE197 := ge_ HB hg; replace HB := bs_ HB hb; clear hb hg; obtain ⟨hcz3_0, hcz3_1, hcz3_2, hfz3_0, hfz3_1, hfz3_2⟩ := bc3_ BK197))
 go_loopg [4, 5, 13] k (fun kq v4 v5 v13 w' => ∃ (x4_1 : Int) (x5_1 : Int) (x13_1 : Int), v4 = .int .i64 x4_1 ∧ v5 = .int .i64 x5_1 ∧ v13 = .int .i64 x13_1 ∧ Aside0 (r5_Size.l0 kq x4_1 x5_1 l0_2 (l0_2.length : Int) x13_1 = some (r1, r2)) ∧ Aside0 (kq ≤ k) ∧ Aside0 (w'.heap[gb197]? = some (.cells #[.int .i64 a0_0, (.slice A0_1 l0_1.length c0_1), (.slice A0_2 l0_2.length c0_2)] 25 (0, 0))) ∧ Aside0 (Below w.heap.size w w'))
 case atStart => exact ⟨(1), (0), (0), rf_, rf_, rf_, H', ⟨Nat.le_refl _⟩, ⟨ub_ BK197.out⟩, ⟨bw_ HB.out⟩⟩
 case round =>
  clear H'
  obtain ⟨x4_1, x5_1, x13_1, rfl, rfl, rfl, HA, HK1, BK197, HB⟩ := hrel
  cases gk with
  | zero => exact absurd HA.out (by simp [r5_Size.l0])
  | succ k1 =>
   have H := HA.out
   clear HA
   simp only [r5_Size.l0] at H
   by_cases c4 : x13_1 < (l0_2.length : Int)
   rotate_left
   · rw [if_neg c4] at H
     replace c4 := decide_eq_false c4
     simp only [Option.some.injEq, Prod.mk.injEq] at H
     obtain ⟨rfl, rfl⟩ := H
     go_wp2
     first | go_ret2 | refine ⟨_, results_tmp2 rfl _ _ _, ?_⟩
     exact fin_ HB
   rw [if_pos c4] at H
   replace c4 := decide_eq_true c4
   obtain ⟨c5, H⟩ := ifd_ H
   obtain ⟨c6, H⟩ := ifd_ H
   obtain ⟨⟨t200, t201⟩, A7, H⟩ := bnd_ H
   dsimp only at H
   obtain ⟨ji8, hji8⟩ : ∃ j_ : Int, (mn (wrap64 (x4_1 + t200)) 1000000) = j_ := ⟨_, rfl⟩
   replace H : (r5_Size.l0 k1 ji8 (mx x5_1 t201) l0_2 (l0_2.length : Int) (wrap64 (x13_1 + 1))) = some (r1, r2) := by first | (rw [hji8] at H; exact H) | (simp only [hji8] at H ⊢; exact H)
   (try rw [hji8] at A7)
   have hji8_ : (if 1000000 < (wrap64 (x4_1 + t200)) then 1000000 else (wrap64 (x4_1 + t200))) = ji8 := hji8
   obtain ⟨ji9, hji9⟩ : ∃ j_ : Int, (mx x5_1 t201) = j_ := ⟨_, rfl⟩
   replace H : (r5_Size.l0 k1 ji8 ji9 l0_2 (l0_2.length : Int) (wrap64 (x13_1 + 1))) = some (r1, r2) := by first | (rw [hji9] at H; exact H) | (simp only [hji9] at H ⊢; exact H)
   (try rw [hji9] at A7)
   have hji9_ : (if x5_1 < t201 then t201 else x5_1) = ji9 := hji9
   have H' := aM H
   clear H
   have p198 : 0 ≤ (x13_1 : Int) := od_
   have q198 : x13_1 < (l0_2.length : Int) := od_
   obtain ⟨ad198, A198_1, c198_1, A198_2, c198_2, e198, hx198_0, hx198_1, hx198_2, hl198_1, hi198_1, hl198_2, hi198_2⟩ := at_T25 HR0_2.out x13_1 p198 q198
   cases e198
   replace hx198_0 := hx_ HB hx198_0
   replace hx198_1 := hx_ HB hx198_1
   replace hx198_2 := hx_ HB hx198_2
   have HR198_1 := aM hi198_1
   have HC198_1 := aM hl198_1
   clear hi198_1 hl198_1
   have HR198_2 := aM hi198_2
   have HC198_2 := aM hl198_2
   clear hi198_2 hl198_2
   replace p198 := eq_true p198
   replace q198 := eq_true q198
   go_wp2_with (first | ((with_reducible refine gd_ 7 rfl ?_); refine be_ #[.int .i64 0, .slice none 0 0, .slice none 0 0] 25 ?_; intro gb199 hg w10 BK199 hb; have GW199 := ge_ HB hg; have GE199 := ge_ HB hg; have NB197_199 := nl_ BK197 hg; have NB199_197 := ng_ BK197 hg; replace BK197 := bb_ BK197 hb; replace HB := bs_ HB hb; clear hb hg; have hnb11 := NB199_197.out; have hnc11 := NB197_199.out; obtain ⟨hcz12_0, hcz12_1, hcz12_2, hfz12_0, hfz12_1, hfz12_2⟩ := bc3_ BK199) | ((with_reducible refine gf_ 24 rfl ?_); refine gL_ (some 19) rfl rfl Try.func24 #[.agg #[.int .i64 ((rd_T25 l0_2 x13_1).f0), .slice A198_1 ((rd_T25 l0_2 x13_1).f1).length c198_1, .slice A198_2 ((rd_T25 l0_2 x13_1).f2).length c198_2]] rfl ?_; (with_reducible refine (ih k1 (by have := HK1.out; omega) ((rd_T25 l0_2 x13_1).f0) _ _ ((rd_T25 l0_2 x13_1).f1) _ _ ((rd_T25 l0_2 x13_1).f2) t200 t201 _ ?side1 ?side2 ?side3 ?side4 A7.out).mono ?_); (case side1 => exact cB_ HR198_1 HB); (case side2 => exact HC198_1.out); (case side3 => exact cB_ HR198_2 HB); (case side4 => exact HC198_2.out); rintro e w13 ⟨rfl, hb⟩; refine ⟨_, rfl, ?_⟩; replace BK197 := bb_ BK197 hb; replace BK199 := bp_ (.cells #[.int .i64 ((rd_T25 l0_2 x13_1).f0), .slice A198_1 ((rd_T25 l0_2 x13_1).f1).length c198_1, .slice A198_2 ((rd_T25 l0_2 x13_1).f2).length c198_2] 25 (0, 0)) BK199 hb; replace HB := bs_ HB hb; clear hb))
   go_roundg k1
   case measure => have := HK1.out; omega
   case rel => exact ⟨(ji8), (ji9), (wrap64 (x13_1 + 1)), (by first | rfl | (simp; done) | (simp only [← hji8] <;> (first | rfl | simp)) | (simp [*]; done)), (by first | rfl | (simp; done) | (simp only [← hji9] <;> (first | rfl | simp)) | (simp [*]; done)), rf_, H', ⟨by have := HK1.out; omega⟩, ⟨ub_ BK197.out⟩, ⟨bw_ HB.out⟩⟩
mutual
def dragomanref11_Great.l0 : Nat → Int → List (S61) → Int → Int → Int → List (S83) → List (S61) → List (S64) → Int → Int → Option (Bool)
 | 0, _, _, _, _, _, _, _, _, _, _ => none
 | k + 1, x3, x11, x12, x13, x203000, x203001, x203002, x203003, x203004, x203005 => if x13 < x12 then (if 0 ≤ x13 then (if x13 < (x11.length : Int) then ((r5_Size.f k ((rd_T61 x11 x13).f1.f0) ((rd_T61 x11 x13).f1.f1) ((rd_T61 x11 x13).f1.f2)).bind fun bt205 => (if x13 > 100 then (some true) else (if (wrap64 (x3 + bt205.1)) > 3000 then (some true) else (dragomanref11_Great.l0 k (wrap64 (x3 + bt205.1)) x11 x12 (wrap64 (x13 + 1)) x203000 x203001 x203002 x203003 x203004 x203005)))) else (none)) else (none)) else (dragomanref11_Great.l1 k 0 x203003 (x203003.length : Int) 0 x203000 x203001 x203002 x203003 x203004 x203005)
def dragomanref11_Great.l1 : Nat → Int → List (S64) → Int → Int → Int → List (S83) → List (S61) → List (S64) → Int → Int → Option (Bool)
 | 0, _, _, _, _, _, _, _, _, _, _ => none
 | k + 1, x3, x35, x36, x37, x203000, x203001, x203002, x203003, x203004, x203005 => if x37 < x36 then (if 0 ≤ x37 then (if x37 < (x35.length : Int) then (if x37 > 100 then (some true) else (if (wrap64 (x3 + (mn (((rd_T64 x35 x37).f1).length : Int) 10000))) > 3000 then (some true) else (dragomanref11_Great.l1 k (wrap64 (x3 + (mn (((rd_T64 x35 x37).f1).length : Int) 10000))) x35 x36 (wrap64 (x37 + 1)) x203000 x203001 x203002 x203003 x203004 x203005))) else (none)) else (none)) else (some (decide ((x203001.length : Int) > 3000)))
end
def dragomanref11_Great.f (k : Nat) (a0_0 : Int) (l0_1 : List (S83)) (l0_2 : List (S61)) (l0_3 : List (S64)) (a0_4 : Int) (a0_5 : Int) : Option (Bool) := dragomanref11_Great.l0 k 0 l0_2 (l0_2.length : Int) 0 a0_0 l0_1 l0_2 l0_3 a0_4 a0_5
set_option maxHeartbeats 8000000 in
set_option maxRecDepth 100000 in
theorem dragomanref11_Great.calls (k : Nat) (a0_0 : Int) (A0_1 : Option Addr) (c0_1 : Nat) (l0_1 : List (S83)) (A0_2 : Option Addr) (c0_2 : Nat) (l0_2 : List (S61)) (A0_3 : Option Addr) (c0_3 : Nat) (l0_3 : List (S64)) (a0_4 : Int) (a0_5 : Int) (r : Bool) (w : World) (hr0_1 : Kd.C k83 w A0_1 l0_1.length l0_1) (hc0_1 : l0_1.length ≤ c0_1) (hr0_2 : Kd.C k61 w A0_2 l0_2.length l0_2) (hc0_2 : l0_2.length ≤ c0_2) (hr0_3 : Kd.C k64 w A0_3 l0_3.length l0_3) (hc0_3 : l0_3.length ≤ c0_3) (h : dragomanref11_Great.f k a0_0 l0_1 l0_2 l0_3 a0_4 a0_5 = some r) :
 Calls Try.prog 28 #[.agg #[.int .i64 a0_0, .slice A0_1 l0_1.length c0_1, .slice A0_2 l0_2.length c0_2, .slice A0_3 l0_3.length c0_3, .int .u32 a0_4, .int .u32 a0_5]] w fun e w' => e = .returned (.bool r) ∧ Below w.heap.size w w' := by
 have hu46 := Try.underlying46
 have hu61 := Try.underlying61
 have hu25 := Try.underlying25
 have hu64 := Try.underlying64
 have HR0_1 := aM hr0_1
 have HC0_1 := aM hc0_1
 clear hr0_1 hc0_1
 have HR0_2 := aM hr0_2
 have HC0_2 := aM hc0_2
 clear hr0_2 hc0_2
 have HR0_3 := aM hr0_3
 have HC0_3 := aM hc0_3
 clear hr0_3 hc0_3
 have HB := aM (Below.refl w.heap.size w)
 have H : (dragomanref11_Great.l0 k 0 l0_2 (l0_2.length : Int) 0 a0_0 l0_1 l0_2 l0_3 a0_4 a0_5) = some r := h
 clear h
 have H' := aM H
 clear H
 go_enter Try.func28, Try.ntmps28
 go_wp2_with (first | ((with_reducible refine gd_ 1 rfl ?_); refine be_ #[.int .i64 a0_0, .slice A0_1 l0_1.length c0_1, .slice A0_2 l0_2.length c0_2, .slice A0_3 l0_3.length c0_3, .int .u32 a0_4, .int .u32 a0_5] 46 ?_; intro gb202 hg w2 BK202 hb; have GW202 := ge_ HB hg; have GE202 := ge_ HB hg; replace HB := bs_ HB hb; clear hb hg; obtain ⟨hcz3_0, hcz3_1, hcz3_2, hcz3_3, hcz3_4, hcz3_5, hfz3_0, hfz3_1, hfz3_2, hfz3_3, hfz3_4, hfz3_5⟩ := bc6_ BK202))
 go_loopg [3, 13] k (fun kq v3 v13 w' => ∃ (x3_1 : Int) (x13_1 : Int), v3 = .int .i64 x3_1 ∧ v13 = .int .i64 x13_1 ∧ Aside0 (dragomanref11_Great.l0 kq x3_1 l0_2 (l0_2.length : Int) x13_1 a0_0 l0_1 l0_2 l0_3 a0_4 a0_5 = some r) ∧ Aside0 (kq ≤ k) ∧ Aside0 (w'.heap[gb202]? = some (.cells #[.int .i64 a0_0, (.slice A0_1 l0_1.length c0_1), (.slice A0_2 l0_2.length c0_2), (.slice A0_3 l0_3.length c0_3), .int .u32 a0_4, .int .u32 a0_5] 46 (0, 0))) ∧ Aside0 (Below w.heap.size w w'))
 case atStart => exact ⟨(0), (0), rf_, rf_, H', ⟨Nat.le_refl _⟩, ⟨ub_ BK202.out⟩, ⟨bw_ HB.out⟩⟩
 case round =>
  clear H'
  obtain ⟨x3_1, x13_1, rfl, rfl, HA, HK1, BK202, HB⟩ := hrel
  cases gk with
  | zero => exact absurd HA.out (by simp [dragomanref11_Great.l0])
  | succ k1 =>
   have H := HA.out
   clear HA
   simp only [dragomanref11_Great.l0] at H
   by_cases c4 : x13_1 < (l0_2.length : Int)
   · rw [if_pos c4] at H
     have c4b0 : decide (x13_1 < (l0_2.length : Int)) = true := decide_eq_true c4
     clear c4
     have c5 := ifn_ H
     rw [if_pos c5] at H
     have c5b0 : decide (0 ≤ x13_1) = true := decide_eq_true c5
     clear c5
     have c6 := ifn_ H
     rw [if_pos c6] at H
     have c6b0 : decide (x13_1 < (l0_2.length : Int)) = true := decide_eq_true c6
     clear c6
     obtain ⟨⟨t205, t206⟩, A7, H⟩ := bnd_ H
     dsimp only at H
     by_cases c8 : x13_1 > 100
     · rw [if_pos c8] at H
       have c8b0 : decide (100 < x13_1) = true := decide_eq_true c8
       clear c8
       obtain rfl := Option.some.inj H
       have p203 : 0 ≤ (x13_1 : Int) := od_
       have q203 : x13_1 < (l0_2.length : Int) := od_
       obtain ⟨ad203, A203_2, c203_2, A203_3, c203_3, e203, hx203_0, hx203_1, hx203_2, hx203_3, hl203_2, hi203_2, hl203_3, hi203_3⟩ := at_T61 HR0_2.out x13_1 p203 q203
       cases e203
       replace hx203_0 := hx_ HB hx203_0
       replace hx203_1 := hx_ HB hx203_1
       replace hx203_2 := hx_ HB hx203_2
       replace hx203_3 := hx_ HB hx203_3
       have HR203_2 := aM hi203_2
       have HC203_2 := aM hl203_2
       clear hi203_2 hl203_2
       have HR203_3 := aM hi203_3
       have HC203_3 := aM hl203_3
       clear hi203_3 hl203_3
       replace p203 := eq_true p203
       replace q203 := eq_true q203
       go_wp2_with (first | ((with_reducible refine gd_ 5 rfl ?_); refine be_ #[.bool false, .int .i64 0, .slice none 0 0, .slice none 0 0] 61 ?_; intro gb204 hg w9 BK204 hb; have GW204 := ge_ HB hg; have GE204 := ge_ HB hg; have NB202_204 := nl_ BK202 hg; have NB204_202 := ng_ BK202 hg; replace BK202 := bb_ BK202 hb; replace HB := bs_ HB hb; clear hb hg; have hnb10 := NB204_202.out; have hnc10 := NB202_204.out; obtain ⟨hcz11_0, hcz11_1, hcz11_2, hcz11_3, hfz11_0, hfz11_1, hfz11_2, hfz11_3⟩ := bc4_ BK204) | ((with_reducible refine gf_ 24 rfl ?_); refine gL_ (some 21) rfl rfl Try.func24 #[.agg #[.int .i64 ((rd_T61 l0_2 x13_1).f1.f0), .slice A203_2 ((rd_T61 l0_2 x13_1).f1.f1).length c203_2, .slice A203_3 ((rd_T61 l0_2 x13_1).f1.f2).length c203_3]] rfl ?_; (with_reducible refine (r5_Size.calls k1 ((rd_T61 l0_2 x13_1).f1.f0) _ _ ((rd_T61 l0_2 x13_1).f1.f1) _ _ ((rd_T61 l0_2 x13_1).f1.f2) t205 t206 _ ?side1 ?side2 ?side3 ?side4 A7.out).mono ?_); (case side1 => exact cB_ HR203_2 HB); (case side2 => exact HC203_2.out); (case side3 => exact cB_ HR203_3 HB); (case side4 => exact HC203_3.out); rintro e w12 ⟨rfl, hb⟩; refine ⟨_, rfl, ?_⟩; replace BK202 := bb_ BK202 hb; replace BK204 := bp_ (.cells #[.bool ((rd_T61 l0_2 x13_1).f0), .int .i64 ((rd_T61 l0_2 x13_1).f1.f0), .slice A203_2 ((rd_T61 l0_2 x13_1).f1.f1).length c203_2, .slice A203_3 ((rd_T61 l0_2 x13_1).f1.f2).length c203_3] 61 (0, 0)) BK204 hb; replace HB := bs_ HB hb; clear hb))
       first | go_ret | refine ⟨_, results_tmp rfl _ _ _, ?_⟩
       exact fin_ HB
     rw [if_neg c8] at H
     have c8b0 : decide (100 < x13_1) = false := decide_eq_false c8
     clear c8
     by_cases c13 : (wrap64 (x3_1 + t205)) > 3000
     · rw [if_pos c13] at H
       have c13b0 : decide (3000 < (wrap64 (x3_1 + t205))) = true := decide_eq_true c13
       clear c13
       obtain rfl := Option.some.inj H
       have p203 : 0 ≤ (x13_1 : Int) := od_
       have q203 : x13_1 < (l0_2.length : Int) := od_
       obtain ⟨ad203, A203_2, c203_2, A203_3, c203_3, e203, hx203_0, hx203_1, hx203_2, hx203_3, hl203_2, hi203_2, hl203_3, hi203_3⟩ := at_T61 HR0_2.out x13_1 p203 q203
       cases e203
       replace hx203_0 := hx_ HB hx203_0
       replace hx203_1 := hx_ HB hx203_1
       replace hx203_2 := hx_ HB hx203_2
       replace hx203_3 := hx_ HB hx203_3
       have HR203_2 := aM hi203_2
       have HC203_2 := aM hl203_2
       clear hi203_2 hl203_2
       have HR203_3 := aM hi203_3
       have HC203_3 := aM hl203_3
       clear hi203_3 hl203_3
       replace p203 := eq_true p203
       replace q203 := eq_true q203
       go_wp2_with (first | ((with_reducible refine gd_ 5 rfl ?_); refine be_ #[.bool false, .int .i64 0, .slice none 0 0, .slice none 0 0] 61 ?_; intro gb204 hg w14 BK204 hb; have GW204 := ge_ HB hg; have GE204 := ge_ HB hg; have NB202_204 := nl_ BK202 hg; have NB204_202 := ng_ BK202 hg; replace BK202 := bb_ BK202 hb; replace HB := bs_ HB hb; clear hb hg; have hnb15 := NB204_202.out; have hnc15 := NB202_204.out; obtain ⟨hcz16_0, hcz16_1, hcz16_2, hcz16_3, hfz16_0, hfz16_1, hfz16_2, hfz16_3⟩ := bc4_ BK204) | ((with_reducible refine gf_ 24 rfl ?_); refine gL_ (some 21) rfl rfl Try.func24 #[.agg #[.int .i64 ((rd_T61 l0_2 x13_1).f1.f0), .slice A203_2 ((rd_T61 l0_2 x13_1).f1.f1).length c203_2, .slice A203_3 ((rd_T61 l0_2 x13_1).f1.f2).length c203_3]] rfl ?_; (with_reducible refine (r5_Size.calls k1 ((rd_T61 l0_2 x13_1).f1.f0) _ _ ((rd_T61 l0_2 x13_1).f1.f1) _ _ ((rd_T61 l0_2 x13_1).f1.f2) t205 t206 _ ?side1 ?side2 ?side3 ?side4 A7.out).mono ?_); (case side1 => exact cB_ HR203_2 HB); (case side2 => exact HC203_2.out); (case side3 => exact cB_ HR203_3 HB); (case side4 => exact HC203_3.out); rintro e w17 ⟨rfl, hb⟩; refine ⟨_, rfl, ?_⟩; replace BK202 := bb_ BK202 hb; replace BK204 := bp_ (.cells #[.bool ((rd_T61 l0_2 x13_1).f0), .int .i64 ((rd_T61 l0_2 x13_1).f1.f0), .slice A203_2 ((rd_T61 l0_2 x13_1).f1.f1).length c203_2, .slice A203_3 ((rd_T61 l0_2 x13_1).f1.f2).length c203_3] 61 (0, 0)) BK204 hb; replace HB := bs_ HB hb; clear hb))
       first | go_ret | refine ⟨_, results_tmp rfl _ _ _, ?_⟩
       exact fin_ HB
     rw [if_neg c13] at H
     have c13b0 : decide (3000 < (wrap64 (x3_1 + t205))) = false := decide_eq_false c13
     clear c13
     have H' := aM H
     clear H
     have p203 : 0 ≤ (x13_1 : Int) := od_
     have q203 : x13_1 < (l0_2.length : Int) := od_
     obtain ⟨ad203, A203_2, c203_2, A203_3, c203_3, e203, hx203_0, hx203_1, hx203_2, hx203_3, hl203_2, hi203_2, hl203_3, hi203_3⟩ := at_T61 HR0_2.out x13_1 p203 q203
     cases e203
     replace hx203_0 := hx_ HB hx203_0
     replace hx203_1 := hx_ HB hx203_1
     replace hx203_2 := hx_ HB hx203_2
     replace hx203_3 := hx_ HB hx203_3
     have HR203_2 := aM hi203_2
     have HC203_2 := aM hl203_2
     clear hi203_2 hl203_2
     have HR203_3 := aM hi203_3
     have HC203_3 := aM hl203_3
     clear hi203_3 hl203_3
     replace p203 := eq_true p203
     replace q203 := eq_true q203
     go_wp2_with (first | ((with_reducible refine gd_ 5 rfl ?_); refine be_ #[.bool false, .int .i64 0, .slice none 0 0, .slice none 0 0] 61 ?_; intro gb204 hg w18 BK204 hb; have GW204 := ge_ HB hg; have GE204 := ge_ HB hg; have NB202_204 := nl_ BK202 hg; have NB204_202 := ng_ BK202 hg; replace BK202 := bb_ BK202 hb; replace HB := bs_ HB hb; clear hb hg; have hnb19 := NB204_202.out; have hnc19 := NB202_204.out; obtain ⟨hcz20_0, hcz20_1, hcz20_2, hcz20_3, hfz20_0, hfz20_1, hfz20_2, hfz20_3⟩ := bc4_ BK204) | ((with_reducible refine gf_ 24 rfl ?_); refine gL_ (some 21) rfl rfl Try.func24 #[.agg #[.int .i64 ((rd_T61 l0_2 x13_1).f1.f0), .slice A203_2 ((rd_T61 l0_2 x13_1).f1.f1).length c203_2, .slice A203_3 ((rd_T61 l0_2 x13_1).f1.f2).length c203_3]] rfl ?_; (with_reducible refine (r5_Size.calls k1 ((rd_T61 l0_2 x13_1).f1.f0) _ _ ((rd_T61 l0_2 x13_1).f1.f1) _ _ ((rd_T61 l0_2 x13_1).f1.f2) t205 t206 _ ?side1 ?side2 ?side3 ?side4 A7.out).mono ?_); (case side1 => exact cB_ HR203_2 HB); (case side2 => exact HC203_2.out); (case side3 => exact cB_ HR203_3 HB); (case side4 => exact HC203_3.out); rintro e w21 ⟨rfl, hb⟩; refine ⟨_, rfl, ?_⟩; replace BK202 := bb_ BK202 hb; replace BK204 := bp_ (.cells #[.bool ((rd_T61 l0_2 x13_1).f0), .int .i64 ((rd_T61 l0_2 x13_1).f1.f0), .slice A203_2 ((rd_T61 l0_2 x13_1).f1.f1).length c203_2, .slice A203_3 ((rd_T61 l0_2 x13_1).f1.f2).length c203_3] 61 (0, 0)) BK204 hb; replace HB := bs_ HB hb; clear hb))
     go_roundg k1
     case measure => have := HK1.out; omega
     case rel => exact ⟨(wrap64 (x3_1 + t205)), (wrap64 (x13_1 + 1)), rf_, rf_, H', ⟨by have := HK1.out; omega⟩, ⟨ub_ BK202.out⟩, ⟨bw_ HB.out⟩⟩
   rw [if_neg c4] at H
   have c4b0 : decide (x13_1 < (l0_2.length : Int)) = false := decide_eq_false c4
   clear c4
   have H' := aM H
   clear H
   obtain ⟨hcz22_0, hcz22_1, hcz22_2, hcz22_3, hcz22_4, hcz22_5, hfz22_0, hfz22_1, hfz22_2, hfz22_3, hfz22_4, hfz22_5⟩ := bc6_ BK202
   go_wp2
   go_loopg [3, 37] k1 (fun kq v3 v37 w' => ∃ (x3_2 : Int) (x37_2 : Int), v3 = .int .i64 x3_2 ∧ v37 = .int .i64 x37_2 ∧ Aside0 (dragomanref11_Great.l1 kq x3_2 l0_3 (l0_3.length : Int) x37_2 a0_0 l0_1 l0_2 l0_3 a0_4 a0_5 = some r) ∧ Aside0 (kq ≤ k1) ∧ Aside0 (w'.heap[gb202]? = some (.cells #[.int .i64 a0_0, (.slice A0_1 l0_1.length c0_1), (.slice A0_2 l0_2.length c0_2), (.slice A0_3 l0_3.length c0_3), .int .u32 a0_4, .int .u32 a0_5] 46 (0, 0))) ∧ Aside0 (Below w.heap.size w w'))
   case atStart => exact ⟨(0), (0), rf_, rf_, H', ⟨Nat.le_refl _⟩, ⟨ub_ BK202.out⟩, ⟨bw_ HB.out⟩⟩
   case round =>
    clear H'
    obtain ⟨x3_2, x37_2, rfl, rfl, HA, HK2, BK202, HB⟩ := hrel
    cases gk with
    | zero => exact absurd HA.out (by simp [dragomanref11_Great.l1])
    | succ k2 =>
     have H := HA.out
     clear HA
     simp only [dragomanref11_Great.l1] at H
     by_cases c23 : x37_2 < (l0_3.length : Int)
     rotate_left
     · rw [if_neg c23] at H
       replace c23 := decide_eq_false c23
       obtain rfl := Option.some.inj H
       obtain ⟨hcz38_0, hcz38_1, hcz38_2, hcz38_3, hcz38_4, hcz38_5, hfz38_0, hfz38_1, hfz38_2, hfz38_3, hfz38_4, hfz38_5⟩ := bc6_ BK202
       go_wp2
       first | go_ret | refine ⟨_, results_tmp rfl _ _ _, ?_⟩
       exact fin_ HB
     rw [if_pos c23] at H
     replace c23 := decide_eq_true c23
     obtain ⟨c24, H⟩ := ifd_ H
     obtain ⟨c25, H⟩ := ifd_ H
     obtain ⟨ji26, hji26⟩ : ∃ j_ : Int, (mn (((rd_T64 l0_3 x37_2).f1).length : Int) 10000) = j_ := ⟨_, rfl⟩
     replace H : (if x37_2 > 100 then (some true) else (if (wrap64 (x3_2 + (ji26))) > 3000 then (some true) else (dragomanref11_Great.l1 k2 (wrap64 (x3_2 + (ji26))) l0_3 (l0_3.length : Int) (wrap64 (x37_2 + 1)) a0_0 l0_1 l0_2 l0_3 a0_4 a0_5))) = some r := by first | (rw [hji26] at H; exact H) | (simp only [hji26] at H ⊢; exact H)
     have hji26_ : (if 10000 < (((rd_T64 l0_3 x37_2).f1).length : Int) then 10000 else (((rd_T64 l0_3 x37_2).f1).length : Int)) = ji26 := hji26
     by_cases c27 : x37_2 > 100
     · rw [if_pos c27] at H
       have c27b0 : decide (100 < x37_2) = true := decide_eq_true c27
       clear c27
       obtain rfl := Option.some.inj H
       have p207 : 0 ≤ (x37_2 : Int) := od_
       have q207 : x37_2 < (l0_3.length : Int) := od_
       obtain ⟨ad207, A207_1, c207_1, e207, hx207_0, hx207_1, hl207_1, hi207_1⟩ := at_T64 HR0_3.out x37_2 p207 q207
       cases e207
       replace hx207_0 := hx_ HB hx207_0
       replace hx207_1 := hx_ HB hx207_1
       have HR207_1 := aM hi207_1
       have HC207_1 := aM hl207_1
       clear hi207_1 hl207_1
       replace p207 := eq_true p207
       replace q207 := eq_true q207
       go_wp2_with (first | ((with_reducible refine gd_ 9 rfl ?_); refine be_ #[.bool false, .slice none 0 0] 64 ?_; intro gb208 hg w28 BK208 hb; have GW208 := ge_ HB hg; have GE208 := ge_ HB hg; have NB202_208 := nl_ BK202 hg; have NB208_202 := ng_ BK202 hg; replace BK202 := bb_ BK202 hb; replace HB := bs_ HB hb; clear hb hg; have hnb29 := NB208_202.out; have hnc29 := NB202_208.out; obtain ⟨hcz30_0, hcz30_1, hfz30_0, hfz30_1⟩ := bc2_ BK208))
       first | go_ret | refine ⟨_, results_tmp rfl _ _ _, ?_⟩
       exact ⟨by first | rfl | (simp [errW_none, errW_some] <;> rfl) | (simp only [← hji26]; first | rfl | (simp [errW_none, errW_some] <;> rfl)) | (simp [*, errW_none, errW_some] <;> rfl), by repeat (first | (with_reducible first | exact HB.out | apply blA | apply blN | apply blD | refine bS ?_ GE202.out | refine bS ?_ GE208.out) | exact HB.out)⟩
     rw [if_neg c27] at H
     have c27b0 : decide (100 < x37_2) = false := decide_eq_false c27
     clear c27
     by_cases c31 : (wrap64 (x3_2 + (ji26))) > 3000
     · rw [if_pos c31] at H
       have c31b0 : decide (3000 < (wrap64 (x3_2 + (ji26)))) = true := decide_eq_true c31
       clear c31
       obtain rfl := Option.some.inj H
       have p207 : 0 ≤ (x37_2 : Int) := od_
       have q207 : x37_2 < (l0_3.length : Int) := od_
       obtain ⟨ad207, A207_1, c207_1, e207, hx207_0, hx207_1, hl207_1, hi207_1⟩ := at_T64 HR0_3.out x37_2 p207 q207
       cases e207
       replace hx207_0 := hx_ HB hx207_0
       replace hx207_1 := hx_ HB hx207_1
       have HR207_1 := aM hi207_1
       have HC207_1 := aM hl207_1
       clear hi207_1 hl207_1
       replace p207 := eq_true p207
       replace q207 := eq_true q207
       go_wp2_with (first | ((with_reducible refine gd_ 9 rfl ?_); refine be_ #[.bool false, .slice none 0 0] 64 ?_; intro gb208 hg w32 BK208 hb; have GW208 := ge_ HB hg; have GE208 := ge_ HB hg; have NB202_208 := nl_ BK202 hg; have NB208_202 := ng_ BK202 hg; replace BK202 := bb_ BK202 hb; replace HB := bs_ HB hb; clear hb hg; have hnb33 := NB208_202.out; have hnc33 := NB202_208.out; obtain ⟨hcz34_0, hcz34_1, hfz34_0, hfz34_1⟩ := bc2_ BK208))
       first | go_ret | refine ⟨_, results_tmp rfl _ _ _, ?_⟩
       exact ⟨by first | rfl | (simp [errW_none, errW_some] <;> rfl) | (simp only [← hji26]; first | rfl | (simp [errW_none, errW_some] <;> rfl)) | (simp [*, errW_none, errW_some] <;> rfl), by repeat (first | (with_reducible first | exact HB.out | apply blA | apply blN | apply blD | refine bS ?_ GE202.out | refine bS ?_ GE208.out) | exact HB.out)⟩
     rw [if_neg c31] at H
     have c31b0 : decide (3000 < (wrap64 (x3_2 + (ji26)))) = false := decide_eq_false c31
     clear c31
     have H' := aM H
     clear H
     have p207 : 0 ≤ (x37_2 : Int) := od_
     have q207 : x37_2 < (l0_3.length : Int) := od_
     obtain ⟨ad207, A207_1, c207_1, e207, hx207_0, hx207_1, hl207_1, hi207_1⟩ := at_T64 HR0_3.out x37_2 p207 q207
     cases e207
     replace hx207_0 := hx_ HB hx207_0
     replace hx207_1 := hx_ HB hx207_1
     have HR207_1 := aM hi207_1
     have HC207_1 := aM hl207_1
     clear hi207_1 hl207_1
     replace p207 := eq_true p207
     replace q207 := eq_true q207
     go_wp2_with (first | ((with_reducible refine gd_ 9 rfl ?_); refine be_ #[.bool false, .slice none 0 0] 64 ?_; intro gb208 hg w35 BK208 hb; have GW208 := ge_ HB hg; have GE208 := ge_ HB hg; have NB202_208 := nl_ BK202 hg; have NB208_202 := ng_ BK202 hg; replace BK202 := bb_ BK202 hb; replace HB := bs_ HB hb; clear hb hg; have hnb36 := NB208_202.out; have hnc36 := NB202_208.out; obtain ⟨hcz37_0, hcz37_1, hfz37_0, hfz37_1⟩ := bc2_ BK208))
     go_roundg k2
     case measure => have := HK1.out; have := HK2.out; omega
     case rel => exact ⟨(wrap64 (x3_2 + (ji26))), (wrap64 (x37_2 + 1)), (by first | rfl | (simp; done) | (simp only [← hji26] <;> (first | rfl | simp)) | (simp [*]; done)), rf_, H', ⟨by have := HK1.out; have := HK2.out; omega⟩, ⟨by (with_reducible repeat (first | apply bkN | apply bkD | apply bkA)); refine blk_far ?_ NB202_208.out _; (with_reducible repeat (first | apply bkN | apply bkD | apply bkA)); refine blk_far ?_ NB202_208.out _; (with_reducible repeat (first | apply bkN | apply bkD | apply bkA)); exact BK202.out⟩, ⟨bw_ HB.out⟩⟩
def r3_Great.f (a0_0 : Int) (a0_1 : Int) (l0_2 : List Int) (l0_3 : List Int) (a0_4 : Int) (a0_5 : Int) (a0_6 : Int) (a0_7 : Int) : Option (Bool) := if (l0_2.length : Int) > 1000 then (some true) else (some (decide ((l0_3.length : Int) > 1000)))
set_option maxHeartbeats 8000000 in
set_option maxRecDepth 100000 in
theorem r3_Great.calls (a0_0 : Int) (a0_1 : Int) (A0_2 : Option Addr) (c0_2 : Nat) (l0_2 : List Int) (A0_3 : Option Addr) (c0_3 : Nat) (l0_3 : List Int) (a0_4 : Int) (a0_5 : Int) (a0_6 : Int) (a0_7 : Int) (r : Bool) (w : World) (hr0_2 : Kd.C (Kd.int .u32) w A0_2 l0_2.length l0_2) (hc0_2 : l0_2.length ≤ c0_2) (hr0_3 : Kd.C (Kd.int .u32) w A0_3 l0_3.length l0_3) (hc0_3 : l0_3.length ≤ c0_3) (h : r3_Great.f a0_0 a0_1 l0_2 l0_3 a0_4 a0_5 a0_6 a0_7 = some r) :
 Calls Try.prog 29 #[.agg #[.int .u32 a0_0, .int .i64 a0_1, .slice A0_2 l0_2.length c0_2, .slice A0_3 l0_3.length c0_3, .int .u32 a0_4, .int .u32 a0_5, .int .i64 a0_6, .int .u32 a0_7]] w fun e w' => e = .returned (.bool r) ∧ Below w.heap.size w w' := by
 have hu50 := Try.underlying50
 have HR0_2 := aM hr0_2
 have HC0_2 := aM hc0_2
 clear hr0_2 hc0_2
 have HR0_3 := aM hr0_3
 have HC0_3 := aM hc0_3
 clear hr0_3 hc0_3
 have HB := aM (Below.refl w.heap.size w)
 unfold r3_Great.f at h
 have H := h
 clear h
 by_cases c2 : (l0_2.length : Int) > 1000
 · rw [if_pos c2] at H
   have c2b0 : decide (1000 < (l0_2.length : Int)) = true := decide_eq_true c2
   have c2b1 : decide (1000 < l0_2.length) = true := decide_eq_true (by omega)
   clear c2
   obtain rfl := Option.some.inj H
   go_enter Try.func29, Try.ntmps29
   go_wp2_with (first | ((with_reducible refine gd_ 1 rfl ?_); (try (refine gate_guard (by rfl) ?_; dsimp only)); refine be_ #[.int .u32 a0_0, .int .i64 a0_1, .slice A0_2 l0_2.length c0_2, .slice A0_3 l0_3.length c0_3, .int .u32 a0_4, .int .u32 a0_5, .int .i64 a0_6, .int .u32 a0_7] 50 ?_; intro gb209 hg w3 BK209 hb; have GW209 := ge_ HB hg; have GE209 := ge_ HB hg; replace HB := bs_ HB hb; clear hb hg; obtain ⟨hcz4_0, hcz4_1, hcz4_2, hcz4_3, hcz4_4, hcz4_5, hcz4_6, hcz4_7, hfz4_0, hfz4_1, hfz4_2, hfz4_3, hfz4_4, hfz4_5, hfz4_6, hfz4_7⟩ := bc8_ BK209))
   first | go_ret | refine ⟨_, results_tmp rfl _ _ _, ?_⟩
   exact fin_ HB
 rw [if_neg c2] at H
 have c2b0 : decide (1000 < (l0_2.length : Int)) = false := decide_eq_false c2
 have c2b1 : decide (1000 < l0_2.length) = false := decide_eq_false (by omega)
 clear c2
 obtain rfl := Option.some.inj H
 go_enter Try.func29, Try.ntmps29
 go_wp2_with (first | ((with_reducible refine gd_ 1 rfl ?_); (try (refine gate_guard (by rfl) ?_; dsimp only)); refine be_ #[.int .u32 a0_0, .int .i64 a0_1, .slice A0_2 l0_2.length c0_2, .slice A0_3 l0_3.length c0_3, .int .u32 a0_4, .int .u32 a0_5, .int .i64 a0_6, .int .u32 a0_7] 50 ?_; intro gb209 hg w5 BK209 hb; have GW209 := ge_ HB hg; have GE209 := ge_ HB hg; replace HB := bs_ HB hb; clear hb hg; obtain ⟨hcz6_0, hcz6_1, hcz6_2, hcz6_3, hcz6_4, hcz6_5, hcz6_6, hcz6_7, hfz6_0, hfz6_1, hfz6_2, hfz6_3, hfz6_4, hfz6_5, hfz6_6, hfz6_7⟩ := bc8_ BK209))
 first | go_ret | refine ⟨_, results_tmp rfl _ _ _, ?_⟩
 exact fin_ HB
end Go.Proofs.Ytlkjfjlmjgkheaa.H
