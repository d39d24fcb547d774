import Derived.Test.YtlkjfjlmjgkheaaHx0
namespace Go.Proofs.Ytlkjfjlmjgkheaa.H
open Go.RowKit Go.Proofs.YtlkjfjlmjgkheaaW.PrintWords Go.Proofs.YtlkjfjlmjgkheaaW.PrintLast Go.Proofs.YtlkjfjlmjgkheaaW.PrintMore
attribute [local go_sem] max2_int min2_int max_two min_two max_three min_three max_four min_four
set_option linter.unusedVariables false
set_option linter.unusedSimpArgs false
mutual
def r5_Size.l0 : Nat → Int → Int → List (S25) → Int → Int → Option (Int × Int)
 | 0, _, _, _, _, _ => none
 | k + 1, x4, x5, x11, x12, x13 => if x13 < x12 then (if 0 ≤ x13 then (if x13 < (x11.length : Int) then ((r5_Size.f k ((rd_T25 x11 x13).f0) ((rd_T25 x11 x13).f1) ((rd_T25 x11 x13).f2)).bind fun bt200 => (r5_Size.l0 k (mn (wrap64 (x4 + bt200.1)) 1000000) (mx x5 bt200.2) x11 x12 (wrap64 (x13 + 1)))) else (none)) else (none)) else (some (x4, wrap64 (x5 + 1)))
def r5_Size.f : Nat → Int → List (S66) → List (S25) → Option (Int × Int)
 | 0, _, _, _ => none
 | k + 1, a0_0, l0_1, l0_2 => r5_Size.l0 k 1 0 l0_2 (l0_2.length : Int) 0
end
set_option maxHeartbeats 8000000 in
set_option maxRecDepth 100000 in
theorem r5_Size.calls (k : Nat) : ∀ (a0_0 : Int) (A0_1 : Option Addr) (c0_1 : Nat) (l0_1 : List (S66)) (A0_2 : Option Addr) (c0_2 : Nat) (l0_2 : List (S25)) (r1 : Int) (r2 : Int) (w : World) (hr0_1 : Kd.C k66 w A0_1 l0_1.length l0_1) (hc0_1 : l0_1.length ≤ c0_1) (hr0_2 : Kd.C k25 w A0_2 l0_2.length l0_2) (hc0_2 : l0_2.length ≤ c0_2) (h : r5_Size.f k a0_0 l0_1 l0_2 = some (r1, r2)),
 Calls Try.prog 24 #[.agg #[.int .i64 a0_0, .slice A0_1 l0_1.length c0_1, .slice A0_2 l0_2.length c0_2]] w fun e w' => e = .returned (.tuple #[.int .i64 r1, .int .i64 r2]) ∧ Below w.heap.size w w' := by
 induction k using Nat.strongRecOn with
 | _ k ih =>
 intro a0_0 A0_1 c0_1 l0_1 A0_2 c0_2 l0_2 r1 r2 w hr0_1 hc0_1 hr0_2 hc0_2 h
 cases k with
 | zero => exact absurd h (by simp [r5_Size.f])
 | succ k =>
 simp only [r5_Size.f] at h
 have hu25 := Try.underlying25
 have HR0_1 := aM hr0_1
 have HC0_1 := aM hc0_1
 clear hr0_1 hc0_1
 have HR0_2 := aM hr0_2
 have HC0_2 := aM hc0_2
 clear hr0_2 hc0_2
 have HB := aM (Below.refl w.heap.size w)
 have H : (r5_Size.l0 k 1 0 l0_2 (l0_2.length : Int) 0) = some (r1, r2) := h
 clear h
 have H' := aM H
 clear H
 go_enter Try.func24, Try.ntmps24
 go_wp2_with (first | ((with_reducible refine gate_dst (N := 1) rfl ?_); refine box_event ?hg (N := 1) ?hd (cs := #[.int .i64 a0_0, .slice A0_1 l0_1.length c0_1, .slice A0_2 l0_2.length c0_2]) (t := 25) ?hr ?_; (case hd => rfl); (case hg => rfl); (case hr => first | (go_simp; done) | (go_simp; rfl)); intro gb197 hg w2 hbox hb; have n0_ := aM (below_step (bw_ HB.out) hb); have n1_ := aM (hbox); have n2_ := aM ((by rw [hg]; exact (below_size (bw_ HB.out)) : w.heap.size ≤ gb197)); have n3_ := aM ((by rw [hg]; exact (below_size (bw_ HB.out)) : w.heap.size ≤ gb197)); clear HB; have HB := n0_; have BK197 := n1_; have GW197 := n2_; have GE197 := n3_; clear n0_ n1_ n2_ n3_; clear hb hbox hg; have hcz3_0 : w2.cell? ⟨gb197, 0, none⟩ = some (.int .i64 a0_0) := (blk_cell BK197.out 0).trans rfl; have hcz3_1 : w2.cell? ⟨gb197, 1, none⟩ = some (.slice A0_1 l0_1.length c0_1) := (blk_cell BK197.out 1).trans rfl; have hcz3_2 : w2.cell? ⟨gb197, 2, none⟩ = some (.slice A0_2 l0_2.length c0_2) := (blk_cell BK197.out 2).trans rfl; have hfz3_0 := bF BK197.out 0; have hfz3_1 := bF BK197.out 1; have hfz3_2 := bF BK197.out 2))
 go_loopg [4, 5, 13] k (fun kq v4 v5 v13 w' => ∃ (x4_1 : Int) (x5_1 : Int) (x13_1 : Int), v4 = .int .i64 x4_1 ∧ v5 = .int .i64 x5_1 ∧ v13 = .int .i64 x13_1 ∧ Aside0 (r5_Size.l0 kq x4_1 x5_1 l0_2 (l0_2.length : Int) x13_1 = some (r1, r2)) ∧ Aside0 (kq ≤ k) ∧ Aside0 (w'.heap[gb197]? = some (.cells #[.int .i64 a0_0, (.slice A0_1 l0_1.length c0_1), (.slice A0_2 l0_2.length c0_2)] 25 (0, 0))) ∧ Aside0 (Below w.heap.size w w'))
 case atStart => exact ⟨(1), (0), (0), (by first | rfl | (simp; done) | (simp [*]; done)), (by first | rfl | (simp; done) | (simp [*]; done)), (by first | rfl | (simp; done) | (simp [*]; done)), H', ⟨Nat.le_refl _⟩, ⟨by (with_reducible repeat (first | apply bkN | apply bkD | apply bkA)); exact BK197.out⟩, ⟨by repeat (first | (with_reducible first | exact HB.out | apply blA | apply blN | apply blD | refine bS ?_ GE197.out) | exact HB.out)⟩⟩
 case round =>
  clear H'
  obtain ⟨x4_1, x5_1, x13_1, rfl, rfl, rfl, HA, HK1, BK197, HB⟩ := hrel
  cases gk with
  | zero => exact absurd HA.out (by simp [r5_Size.l0])
  | succ k1 =>
   have H := HA.out
   clear HA
   simp only [r5_Size.l0] at H
   by_cases c4 : x13_1 < (l0_2.length : Int)
   · rw [if_pos c4] at H
     have c4b0 : decide (x13_1 < (l0_2.length : Int)) = true := decide_eq_true c4
     clear c4
     by_cases c5 : 0 ≤ x13_1
     · rw [if_pos c5] at H
       have c5b0 : decide (0 ≤ x13_1) = true := decide_eq_true c5
       clear c5
       by_cases c6 : x13_1 < (l0_2.length : Int)
       · rw [if_pos c6] at H
         have c6b0 : decide (x13_1 < (l0_2.length : Int)) = true := decide_eq_true c6
         clear c6
         replace H := Option.bind_eq_some_iff.mp H
         obtain ⟨⟨t200, t201⟩, A70, H⟩ := H
         replace H : (r5_Size.l0 k1 (mn (wrap64 (x4_1 + t200)) 1000000) (mx x5_1 t201) l0_2 (l0_2.length : Int) (wrap64 (x13_1 + 1))) = some (r1, r2) := H
         have A7 := aM A70
         clear A70
         obtain ⟨ji8, hji8⟩ : ∃ j_ : Int, (mn (wrap64 (x4_1 + t200)) 1000000) = j_ := ⟨_, rfl⟩
         replace H : (r5_Size.l0 k1 ji8 (mx x5_1 t201) l0_2 (l0_2.length : Int) (wrap64 (x13_1 + 1))) = some (r1, r2) := by first | (rw [hji8] at H; exact H) | (simp only [hji8] at H ⊢; exact H)
         (try rw [hji8] at A7)
         have hji8_ : (if 1000000 < (wrap64 (x4_1 + t200)) then 1000000 else (wrap64 (x4_1 + t200))) = ji8 := hji8
         obtain ⟨ji9, hji9⟩ : ∃ j_ : Int, (mx x5_1 t201) = j_ := ⟨_, rfl⟩
         replace H : (r5_Size.l0 k1 ji8 ji9 l0_2 (l0_2.length : Int) (wrap64 (x13_1 + 1))) = some (r1, r2) := by first | (rw [hji9] at H; exact H) | (simp only [hji9] at H ⊢; exact H)
         (try rw [hji9] at A7)
         have hji9_ : (if x5_1 < t201 then t201 else x5_1) = ji9 := hji9
         have H' := aM H
         clear H
         have p198 : 0 ≤ (x13_1 : Int) := of_decide_eq_true (by first | (with_reducible assumption) | assumption)
         have q198 : x13_1 < (l0_2.length : Int) := of_decide_eq_true (by first | (with_reducible assumption) | assumption)
         obtain ⟨ad198, A198_1, c198_1, A198_2, c198_2, e198, hx198_0, hx198_1, hx198_2, hl198_1, hi198_1, hl198_2, hi198_2⟩ := at_T25 HR0_2.out x13_1 p198 q198
         cases e198
         replace hx198_0 := (HB.out.cell (World.block_lt_of_cell? w _ hx198_0)).trans hx198_0
         replace hx198_1 := (HB.out.cell (World.block_lt_of_cell? w _ hx198_1)).trans hx198_1
         replace hx198_2 := (HB.out.cell (World.block_lt_of_cell? w _ hx198_2)).trans hx198_2
         have HR198_1 := aM hi198_1
         have HC198_1 := aM hl198_1
         clear hi198_1 hl198_1
         have HR198_2 := aM hi198_2
         have HC198_2 := aM hl198_2
         clear hi198_2 hl198_2
         replace p198 := eq_true p198
         replace q198 := eq_true q198
         go_wp2_with (first | ((with_reducible refine gate_dst (N := 7) rfl ?_); refine box_event ?hg (N := 7) ?hd (cs := #[.int .i64 0, .slice none 0 0, .slice none 0 0]) (t := 25) ?hr ?_; (case hd => rfl); (case hg => rfl); (case hr => first | (go_simp; done) | (go_simp; rfl)); intro gb199 hg w10 hbox hb; have n0_ := aM (blk_below (g := gb197) (o := .cells #[.int .i64 a0_0, .slice A0_1 l0_1.length c0_1, .slice (some ad198) l0_2.length c0_2] 25 (0, 0)) (up_ BK197.out) hb); have n1_ := aM (below_step (bw_ HB.out) hb); have n2_ := aM (hbox); have n3_ := aM ((by rw [hg]; exact (below_size (bw_ HB.out)) : w.heap.size ≤ gb199)); have n4_ := aM ((by rw [hg]; exact (below_size (bw_ HB.out)) : w.heap.size ≤ gb199)); have n5_ := aM ((by rw [hg]; exact Nat.ne_of_lt (blk_lt (g := gb197) (o := .cells #[.int .i64 a0_0, .slice A0_1 l0_1.length c0_1, .slice (some ad198) l0_2.length c0_2] 25 (0, 0)) (up_ BK197.out)) : gb197 ≠ gb199)); have n6_ := aM ((by rw [hg]; exact Nat.ne_of_gt (blk_lt (g := gb197) (o := .cells #[.int .i64 a0_0, .slice A0_1 l0_1.length c0_1, .slice (some ad198) l0_2.length c0_2] 25 (0, 0)) (up_ BK197.out)) : gb199 ≠ gb197)); clear BK197; clear HB; have BK197 := n0_; have HB := n1_; have BK199 := n2_; have GW199 := n3_; have GE199 := n4_; have NB197_199 := n5_; have NB199_197 := n6_; clear n0_ n1_ n2_ n3_ n4_ n5_ n6_; clear hb hbox hg; have hnb11 := NB199_197.out; have hnc11 := NB197_199.out; have hcz12_0 : w10.cell? ⟨gb199, 0, none⟩ = some (.int .i64 0) := (blk_cell BK199.out 0).trans rfl; have hcz12_1 : w10.cell? ⟨gb199, 1, none⟩ = some (.slice none 0 0) := (blk_cell BK199.out 1).trans rfl; have hcz12_2 : w10.cell? ⟨gb199, 2, none⟩ = some (.slice none 0 0) := (blk_cell BK199.out 2).trans rfl; have hfz12_0 := bF BK199.out 0; have hfz12_1 := bF BK199.out 1; have hfz12_2 := bF BK199.out 2) | ((with_reducible refine gate_callee (f := 24) rfl ?_); refine goesL_ (some 19) rfl rfl Try.func24 (by kernel_rfl) rfl #[.agg #[.int .i64 ((rd_T25 l0_2 x13_1).f0), .slice A198_1 ((rd_T25 l0_2 x13_1).f1).length c198_1, .slice A198_2 ((rd_T25 l0_2 x13_1).f2).length c198_2]] rfl (by (try simp only [List.map_toArray, List.map_cons, List.map_nil]); first | done | rfl | (simp only [List.length_drop, List.length_take]; rfl)) ?_; (with_reducible refine (ih k1 (by have := HK1.out; omega) ((rd_T25 l0_2 x13_1).f0) _ _ ((rd_T25 l0_2 x13_1).f1) _ _ ((rd_T25 l0_2 x13_1).f2) t200 t201 _ ?side1 ?side2 ?side3 ?side4 A7.out).mono ?_); (case side1 => exact Kd.C_below HR198_1.out (bw_ HB.out)); (case side2 => exact HC198_1.out); (case side3 => exact Kd.C_below HR198_2.out (bw_ HB.out)); (case side4 => exact HC198_2.out); rintro e w13 ⟨rfl, hb⟩; refine ⟨_, rfl, ?_⟩; have n0_ := aM (blk_below (g := gb197) (o := .cells #[.int .i64 a0_0, .slice A0_1 l0_1.length c0_1, .slice (some ad198) l0_2.length c0_2] 25 (0, 0)) (by (with_reducible repeat (first | apply bkN | apply bkD | apply bkA)); refine blk_far ?_ NB197_199.out _; (with_reducible repeat (first | apply bkN | apply bkD | apply bkA)); refine blk_far ?_ NB197_199.out _; (with_reducible repeat (first | apply bkN | apply bkD | apply bkA)); refine blk_far ?_ NB197_199.out _; (with_reducible repeat (first | apply bkN | apply bkD | apply bkA)); exact BK197.out) hb); have n1_ := aM (blk_below (g := gb199) (o := .cells #[.int .i64 ((rd_T25 l0_2 x13_1).f0), .slice A198_1 ((rd_T25 l0_2 x13_1).f1).length c198_1, .slice A198_2 ((rd_T25 l0_2 x13_1).f2).length c198_2] 25 (0, 0)) (by (with_reducible repeat (first | apply bkN | apply bkD | apply bkA)); refine blk_put (cs := #[.int .i64 ((rd_T25 l0_2 x13_1).f0), .slice A198_1 ((rd_T25 l0_2 x13_1).f1).length c198_1, .slice none 0 0]) ?_ 2 _ rfl; (with_reducible repeat (first | apply bkN | apply bkD | apply bkA)); refine blk_put (cs := #[.int .i64 ((rd_T25 l0_2 x13_1).f0), .slice none 0 0, .slice none 0 0]) ?_ 1 _ rfl; (with_reducible repeat (first | apply bkN | apply bkD | apply bkA)); refine blk_put (cs := #[.int .i64 0, .slice none 0 0, .slice none 0 0]) ?_ 0 _ rfl; (with_reducible repeat (first | apply bkN | apply bkD | apply bkA)); exact BK199.out) hb); have n2_ := aM (below_step (bw_ HB.out) hb); clear BK197; clear BK199; clear HB; have BK197 := n0_; have BK199 := n1_; have HB := n2_; clear n0_ n1_ n2_; (try clear hb); (try clear hb2); (try clear hk); (try clear hi)))
         go_roundg k1
         case measure => have := HK1.out; omega
         case rel => exact ⟨(ji8), (ji9), (wrap64 (x13_1 + 1)), (by first | rfl | (simp; done) | (simp only [← hji8] <;> (first | rfl | simp)) | (simp [*]; done)), (by first | rfl | (simp; done) | (simp only [← hji9] <;> (first | rfl | simp)) | (simp [*]; done)), (by first | rfl | (simp; done) | (simp [*]; done)), H', ⟨by have := HK1.out; omega⟩, ⟨by (with_reducible repeat (first | apply bkN | apply bkD | apply bkA)); exact BK197.out⟩, ⟨by repeat (first | (with_reducible first | exact HB.out | apply blA | apply blN | apply blD | refine bS ?_ GE197.out | refine bS ?_ GE199.out) | exact HB.out)⟩⟩
       · rw [if_neg c6] at H
         exact absurd H (by simp)
     · rw [if_neg c5] at H
       exact absurd H (by simp)
   · rw [if_neg c4] at H
     have c4b0 : decide (x13_1 < (l0_2.length : Int)) = false := decide_eq_false c4
     clear c4
     simp only [Option.some.injEq, Prod.mk.injEq] at H
     obtain ⟨rfl, rfl⟩ := H
     go_wp2
     first | go_ret2 | refine ⟨_, results_tmp2 rfl _ _ _, ?_⟩
     exact ⟨by first | rfl | (simp [errW_none, errW_some] <;> rfl) | (simp [*, errW_none, errW_some] <;> rfl), by repeat (first | (with_reducible first | exact HB.out | apply blA | apply blN | apply blD | refine bS ?_ GE197.out) | exact HB.out)⟩
mutual
def dragomanref11_Great.l0 : Nat → Int → List (S61) → Int → Int → Int → List (S83) → List (S61) → List (S64) → Int → Int → Option (Bool)
 | 0, _, _, _, _, _, _, _, _, _, _ => none
 | k + 1, x3, x11, x12, x13, x203000, x203001, x203002, x203003, x203004, x203005 => if x13 < x12 then (if 0 ≤ x13 then (if x13 < (x11.length : Int) then ((r5_Size.f k ((rd_T61 x11 x13).f1.f0) ((rd_T61 x11 x13).f1.f1) ((rd_T61 x11 x13).f1.f2)).bind fun bt205 => (if x13 > 100 then (some true) else (if (wrap64 (x3 + bt205.1)) > 3000 then (some true) else (dragomanref11_Great.l0 k (wrap64 (x3 + bt205.1)) x11 x12 (wrap64 (x13 + 1)) x203000 x203001 x203002 x203003 x203004 x203005)))) else (none)) else (none)) else (dragomanref11_Great.l1 k 0 x203003 (x203003.length : Int) 0 x203000 x203001 x203002 x203003 x203004 x203005)
def dragomanref11_Great.l1 : Nat → Int → List (S64) → Int → Int → Int → List (S83) → List (S61) → List (S64) → Int → Int → Option (Bool)
 | 0, _, _, _, _, _, _, _, _, _, _ => none
 | k + 1, x3, x35, x36, x37, x203000, x203001, x203002, x203003, x203004, x203005 => if x37 < x36 then (if 0 ≤ x37 then (if x37 < (x35.length : Int) then (if x37 > 100 then (some true) else (if (wrap64 (x3 + (mn (((rd_T64 x35 x37).f1).length : Int) 10000))) > 3000 then (some true) else (dragomanref11_Great.l1 k (wrap64 (x3 + (mn (((rd_T64 x35 x37).f1).length : Int) 10000))) x35 x36 (wrap64 (x37 + 1)) x203000 x203001 x203002 x203003 x203004 x203005))) else (none)) else (none)) else (some (decide ((x203001.length : Int) > 3000)))
end
def dragomanref11_Great.f (k : Nat) (a0_0 : Int) (l0_1 : List (S83)) (l0_2 : List (S61)) (l0_3 : List (S64)) (a0_4 : Int) (a0_5 : Int) : Option (Bool) := dragomanref11_Great.l0 k 0 l0_2 (l0_2.length : Int) 0 a0_0 l0_1 l0_2 l0_3 a0_4 a0_5
set_option maxHeartbeats 8000000 in
set_option maxRecDepth 100000 in
theorem dragomanref11_Great.calls (k : Nat) (a0_0 : Int) (A0_1 : Option Addr) (c0_1 : Nat) (l0_1 : List (S83)) (A0_2 : Option Addr) (c0_2 : Nat) (l0_2 : List (S61)) (A0_3 : Option Addr) (c0_3 : Nat) (l0_3 : List (S64)) (a0_4 : Int) (a0_5 : Int) (r : Bool) (w : World) (hr0_1 : Kd.C k83 w A0_1 l0_1.length l0_1) (hc0_1 : l0_1.length ≤ c0_1) (hr0_2 : Kd.C k61 w A0_2 l0_2.length l0_2) (hc0_2 : l0_2.length ≤ c0_2) (hr0_3 : Kd.C k64 w A0_3 l0_3.length l0_3) (hc0_3 : l0_3.length ≤ c0_3) (h : dragomanref11_Great.f k a0_0 l0_1 l0_2 l0_3 a0_4 a0_5 = some r) :
 Calls Try.prog 28 #[.agg #[.int .i64 a0_0, .slice A0_1 l0_1.length c0_1, .slice A0_2 l0_2.length c0_2, .slice A0_3 l0_3.length c0_3, .int .u32 a0_4, .int .u32 a0_5]] w fun e w' => e = .returned (.bool r) ∧ Below w.heap.size w w' := by
 have hu46 := Try.underlying46
 have hu61 := Try.underlying61
 have hu25 := Try.underlying25
 have hu64 := Try.underlying64
 have HR0_1 := aM hr0_1
 have HC0_1 := aM hc0_1
 clear hr0_1 hc0_1
 have HR0_2 := aM hr0_2
 have HC0_2 := aM hc0_2
 clear hr0_2 hc0_2
 have HR0_3 := aM hr0_3
 have HC0_3 := aM hc0_3
 clear hr0_3 hc0_3
 have HB := aM (Below.refl w.heap.size w)
 have H : (dragomanref11_Great.l0 k 0 l0_2 (l0_2.length : Int) 0 a0_0 l0_1 l0_2 l0_3 a0_4 a0_5) = some r := h
 clear h
 have H' := aM H
 clear H
 go_enter Try.func28, Try.ntmps28
 go_wp2_with (first | ((with_reducible refine gate_dst (N := 1) rfl ?_); refine box_event ?hg (N := 1) ?hd (cs := #[.int .i64 a0_0, .slice A0_1 l0_1.length c0_1, .slice A0_2 l0_2.length c0_2, .slice A0_3 l0_3.length c0_3, .int .u32 a0_4, .int .u32 a0_5]) (t := 46) ?hr ?_; (case hd => rfl); (case hg => rfl); (case hr => first | (go_simp; done) | (go_simp; rfl)); intro gb202 hg w2 hbox hb; have n0_ := aM (below_step (bw_ HB.out) hb); have n1_ := aM (hbox); have n2_ := aM ((by rw [hg]; exact (below_size (bw_ HB.out)) : w.heap.size ≤ gb202)); have n3_ := aM ((by rw [hg]; exact (below_size (bw_ HB.out)) : w.heap.size ≤ gb202)); clear HB; have HB := n0_; have BK202 := n1_; have GW202 := n2_; have GE202 := n3_; clear n0_ n1_ n2_ n3_; clear hb hbox hg; have hcz3_0 : w2.cell? ⟨gb202, 0, none⟩ = some (.int .i64 a0_0) := (blk_cell BK202.out 0).trans rfl; have hcz3_1 : w2.cell? ⟨gb202, 1, none⟩ = some (.slice A0_1 l0_1.length c0_1) := (blk_cell BK202.out 1).trans rfl; have hcz3_2 : w2.cell? ⟨gb202, 2, none⟩ = some (.slice A0_2 l0_2.length c0_2) := (blk_cell BK202.out 2).trans rfl; have hcz3_3 : w2.cell? ⟨gb202, 3, none⟩ = some (.slice A0_3 l0_3.length c0_3) := (blk_cell BK202.out 3).trans rfl; have hcz3_4 : w2.cell? ⟨gb202, 4, none⟩ = some (.int .u32 a0_4) := (blk_cell BK202.out 4).trans rfl; have hcz3_5 : w2.cell? ⟨gb202, 5, none⟩ = some (.int .u32 a0_5) := (blk_cell BK202.out 5).trans rfl; have hfz3_0 := bF BK202.out 0; have hfz3_1 := bF BK202.out 1; have hfz3_2 := bF BK202.out 2; have hfz3_3 := bF BK202.out 3; have hfz3_4 := bF BK202.out 4; have hfz3_5 := bF BK202.out 5))
 go_loopg [3, 13] k (fun kq v3 v13 w' => ∃ (x3_1 : Int) (x13_1 : Int), v3 = .int .i64 x3_1 ∧ v13 = .int .i64 x13_1 ∧ Aside0 (dragomanref11_Great.l0 kq x3_1 l0_2 (l0_2.length : Int) x13_1 a0_0 l0_1 l0_2 l0_3 a0_4 a0_5 = some r) ∧ Aside0 (kq ≤ k) ∧ Aside0 (w'.heap[gb202]? = some (.cells #[.int .i64 a0_0, (.slice A0_1 l0_1.length c0_1), (.slice A0_2 l0_2.length c0_2), (.slice A0_3 l0_3.length c0_3), .int .u32 a0_4, .int .u32 a0_5] 46 (0, 0))) ∧ Aside0 (Below w.heap.size w w'))
 case atStart => exact ⟨(0), (0), (by first | rfl | (simp; done) | (simp [*]; done)), (by first | rfl | (simp; done) | (simp [*]; done)), H', ⟨Nat.le_refl _⟩, ⟨by (with_reducible repeat (first | apply bkN | apply bkD | apply bkA)); exact BK202.out⟩, ⟨by repeat (first | (with_reducible first | exact HB.out | apply blA | apply blN | apply blD | refine bS ?_ GE202.out) | exact HB.out)⟩⟩
 case round =>
  clear H'
  obtain ⟨x3_1, x13_1, rfl, rfl, HA, HK1, BK202, HB⟩ := hrel
  cases gk with
  | zero => exact absurd HA.out (by simp [dragomanref11_Great.l0])
  | succ k1 =>
   have H := HA.out
   clear HA
   simp only [dragomanref11_Great.l0] at H
   by_cases c4 : x13_1 < (l0_2.length : Int)
   · rw [if_pos c4] at H
     have c4b0 : decide (x13_1 < (l0_2.length : Int)) = true := decide_eq_true c4
     clear c4
     by_cases c5 : 0 ≤ x13_1
     · rw [if_pos c5] at H
       have c5b0 : decide (0 ≤ x13_1) = true := decide_eq_true c5
       clear c5
       by_cases c6 : x13_1 < (l0_2.length : Int)
       · rw [if_pos c6] at H
         have c6b0 : decide (x13_1 < (l0_2.length : Int)) = true := decide_eq_true c6
         clear c6
         replace H := Option.bind_eq_some_iff.mp H
         obtain ⟨⟨t205, t206⟩, A70, H⟩ := H
         replace H : (if x13_1 > 100 then (some true) else (if (wrap64 (x3_1 + t205)) > 3000 then (some true) else (dragomanref11_Great.l0 k1 (wrap64 (x3_1 + t205)) l0_2 (l0_2.length : Int) (wrap64 (x13_1 + 1)) a0_0 l0_1 l0_2 l0_3 a0_4 a0_5))) = some r := H
         have A7 := aM A70
         clear A70
         by_cases c8 : x13_1 > 100
         · rw [if_pos c8] at H
           have c8b0 : decide (100 < x13_1) = true := decide_eq_true c8
           clear c8
           obtain rfl := Option.some.inj H
           have p203 : 0 ≤ (x13_1 : Int) := of_decide_eq_true (by first | (with_reducible assumption) | assumption)
           have q203 : x13_1 < (l0_2.length : Int) := of_decide_eq_true (by first | (with_reducible assumption) | assumption)
           obtain ⟨ad203, A203_2, c203_2, A203_3, c203_3, e203, hx203_0, hx203_1, hx203_2, hx203_3, hl203_2, hi203_2, hl203_3, hi203_3⟩ := at_T61 HR0_2.out x13_1 p203 q203
           cases e203
           replace hx203_0 := (HB.out.cell (World.block_lt_of_cell? w _ hx203_0)).trans hx203_0
           replace hx203_1 := (HB.out.cell (World.block_lt_of_cell? w _ hx203_1)).trans hx203_1
           replace hx203_2 := (HB.out.cell (World.block_lt_of_cell? w _ hx203_2)).trans hx203_2
           replace hx203_3 := (HB.out.cell (World.block_lt_of_cell? w _ hx203_3)).trans hx203_3
           have HR203_2 := aM hi203_2
           have HC203_2 := aM hl203_2
           clear hi203_2 hl203_2
           have HR203_3 := aM hi203_3
           have HC203_3 := aM hl203_3
           clear hi203_3 hl203_3
           replace p203 := eq_true p203
           replace q203 := eq_true q203
           go_wp2_with (first | ((with_reducible refine gate_dst (N := 5) rfl ?_); refine box_event ?hg (N := 5) ?hd (cs := #[.bool false, .int .i64 0, .slice none 0 0, .slice none 0 0]) (t := 61) ?hr ?_; (case hd => rfl); (case hg => rfl); (case hr => first | (go_simp; done) | (go_simp; rfl)); intro gb204 hg w9 hbox hb; have n0_ := aM (blk_below (g := gb202) (o := .cells #[.int .i64 a0_0, .slice A0_1 l0_1.length c0_1, .slice (some ad203) l0_2.length c0_2, .slice A0_3 l0_3.length c0_3, .int .u32 a0_4, .int .u32 a0_5] 46 (0, 0)) (up_ BK202.out) hb); have n1_ := aM (below_step (bw_ HB.out) hb); have n2_ := aM (hbox); have n3_ := aM ((by rw [hg]; exact (below_size (bw_ HB.out)) : w.heap.size ≤ gb204)); have n4_ := aM ((by rw [hg]; exact (below_size (bw_ HB.out)) : w.heap.size ≤ gb204)); have n5_ := aM ((by rw [hg]; exact Nat.ne_of_lt (blk_lt (g := gb202) (o := .cells #[.int .i64 a0_0, .slice A0_1 l0_1.length c0_1, .slice (some ad203) l0_2.length c0_2, .slice A0_3 l0_3.length c0_3, .int .u32 a0_4, .int .u32 a0_5] 46 (0, 0)) (up_ BK202.out)) : gb202 ≠ gb204)); have n6_ := aM ((by rw [hg]; exact Nat.ne_of_gt (blk_lt (g := gb202) (o := .cells #[.int .i64 a0_0, .slice A0_1 l0_1.length c0_1, .slice (some ad203) l0_2.length c0_2, .slice A0_3 l0_3.length c0_3, .int .u32 a0_4, .int .u32 a0_5] 46 (0, 0)) (up_ BK202.out)) : gb204 ≠ gb202)); clear BK202; clear HB; have BK202 := n0_; have HB := n1_; have BK204 := n2_; have GW204 := n3_; have GE204 := n4_; have NB202_204 := n5_; have NB204_202 := n6_; clear n0_ n1_ n2_ n3_ n4_ n5_ n6_; clear hb hbox hg; have hnb10 := NB204_202.out; have hnc10 := NB202_204.out; have hcz11_0 : w9.cell? ⟨gb204, 0, none⟩ = some (.bool false) := (blk_cell BK204.out 0).trans rfl; have hcz11_1 : w9.cell? ⟨gb204, 1, none⟩ = some (.int .i64 0) := (blk_cell BK204.out 1).trans rfl; have hcz11_2 : w9.cell? ⟨gb204, 2, none⟩ = some (.slice none 0 0) := (blk_cell BK204.out 2).trans rfl; have hcz11_3 : w9.cell? ⟨gb204, 3, none⟩ = some (.slice none 0 0) := (blk_cell BK204.out 3).trans rfl; have hfz11_0 := bF BK204.out 0; have hfz11_1 := bF BK204.out 1; have hfz11_2 := bF BK204.out 2; have hfz11_3 := bF BK204.out 3) | ((with_reducible refine gate_callee (f := 24) rfl ?_); refine goesL_ (some 21) rfl rfl Try.func24 (by kernel_rfl) rfl #[.agg #[.int .i64 ((rd_T61 l0_2 x13_1).f1.f0), .slice A203_2 ((rd_T61 l0_2 x13_1).f1.f1).length c203_2, .slice A203_3 ((rd_T61 l0_2 x13_1).f1.f2).length c203_3]] rfl (by (try simp only [List.map_toArray, List.map_cons, List.map_nil]); first | done | rfl | (simp only [List.length_drop, List.length_take]; rfl)) ?_; (with_reducible refine (r5_Size.calls k1 ((rd_T61 l0_2 x13_1).f1.f0) _ _ ((rd_T61 l0_2 x13_1).f1.f1) _ _ ((rd_T61 l0_2 x13_1).f1.f2) t205 t206 _ ?side1 ?side2 ?side3 ?side4 A7.out).mono ?_); (case side1 => exact Kd.C_below HR203_2.out (bw_ HB.out)); (case side2 => exact HC203_2.out); (case side3 => exact Kd.C_below HR203_3.out (bw_ HB.out)); (case side4 => exact HC203_3.out); rintro e w12 ⟨rfl, hb⟩; refine ⟨_, rfl, ?_⟩; have n0_ := aM (blk_below (g := gb202) (o := .cells #[.int .i64 a0_0, .slice A0_1 l0_1.length c0_1, .slice (some ad203) l0_2.length c0_2, .slice A0_3 l0_3.length c0_3, .int .u32 a0_4, .int .u32 a0_5] 46 (0, 0)) (by (with_reducible repeat (first | apply bkN | apply bkD | apply bkA)); refine blk_far ?_ NB202_204.out _; (with_reducible repeat (first | apply bkN | apply bkD | apply bkA)); refine blk_far ?_ NB202_204.out _; (with_reducible repeat (first | apply bkN | apply bkD | apply bkA)); refine blk_far ?_ NB202_204.out _; (with_reducible repeat (first | apply bkN | apply bkD | apply bkA)); refine blk_far ?_ NB202_204.out _; (with_reducible repeat (first | apply bkN | apply bkD | apply bkA)); exact BK202.out) hb); have n1_ := aM (blk_below (g := gb204) (o := .cells #[.bool ((rd_T61 l0_2 x13_1).f0), .int .i64 ((rd_T61 l0_2 x13_1).f1.f0), .slice A203_2 ((rd_T61 l0_2 x13_1).f1.f1).length c203_2, .slice A203_3 ((rd_T61 l0_2 x13_1).f1.f2).length c203_3] 61 (0, 0)) (by (with_reducible repeat (first | apply bkN | apply bkD | apply bkA)); refine blk_put (cs := #[.bool ((rd_T61 l0_2 x13_1).f0), .int .i64 ((rd_T61 l0_2 x13_1).f1.f0), .slice A203_2 ((rd_T61 l0_2 x13_1).f1.f1).length c203_2, .slice none 0 0]) ?_ 3 _ rfl; (with_reducible repeat (first | apply bkN | apply bkD | apply bkA)); refine blk_put (cs := #[.bool ((rd_T61 l0_2 x13_1).f0), .int .i64 ((rd_T61 l0_2 x13_1).f1.f0), .slice none 0 0, .slice none 0 0]) ?_ 2 _ rfl; (with_reducible repeat (first | apply bkN | apply bkD | apply bkA)); refine blk_put (cs := #[.bool ((rd_T61 l0_2 x13_1).f0), .int .i64 0, .slice none 0 0, .slice none 0 0]) ?_ 1 _ rfl; (with_reducible repeat (first | apply bkN | apply bkD | apply bkA)); refine blk_put (cs := #[.bool false, .int .i64 0, .slice none 0 0, .slice none 0 0]) ?_ 0 _ rfl; (with_reducible repeat (first | apply bkN | apply bkD | apply bkA)); exact BK204.out) hb); have n2_ := aM (below_step (bw_ HB.out) hb); clear BK202; clear BK204; clear HB; have BK202 := n0_; have BK204 := n1_; have HB := n2_; clear n0_ n1_ n2_; (try clear hb); (try clear hb2); (try clear hk); (try clear hi)))
           first | go_ret | refine ⟨_, results_tmp rfl _ _ _, ?_⟩
           exact ⟨by first | rfl | (simp [errW_none, errW_some] <;> rfl) | (simp [*, errW_none, errW_some] <;> rfl), by repeat (first | (with_reducible first | exact HB.out | apply blA | apply blN | apply blD | refine bS ?_ GE202.out | refine bS ?_ GE204.out) | exact HB.out)⟩
         · rw [if_neg c8] at H
           have c8b0 : decide (100 < x13_1) = false := decide_eq_false c8
           clear c8
           by_cases c13 : (wrap64 (x3_1 + t205)) > 3000
           · rw [if_pos c13] at H
             have c13b0 : decide (3000 < (wrap64 (x3_1 + t205))) = true := decide_eq_true c13
             clear c13
             obtain rfl := Option.some.inj H
             have p203 : 0 ≤ (x13_1 : Int) := of_decide_eq_true (by first | (with_reducible assumption) | assumption)
             have q203 : x13_1 < (l0_2.length : Int) := of_decide_eq_true (by first | (with_reducible assumption) | assumption)
             obtain ⟨ad203, A203_2, c203_2, A203_3, c203_3, e203, hx203_0, hx203_1, hx203_2, hx203_3, hl203_2, hi203_2, hl203_3, hi203_3⟩ := at_T61 HR0_2.out x13_1 p203 q203
             cases e203
             replace hx203_0 := (HB.out.cell (World.block_lt_of_cell? w _ hx203_0)).trans hx203_0
             replace hx203_1 := (HB.out.cell (World.block_lt_of_cell? w _ hx203_1)).trans hx203_1
             replace hx203_2 := (HB.out.cell (World.block_lt_of_cell? w _ hx203_2)).trans hx203_2
             replace hx203_3 := (HB.out.cell (World.block_lt_of_cell? w _ hx203_3)).trans hx203_3
             have HR203_2 := aM hi203_2
             have HC203_2 := aM hl203_2
             clear hi203_2 hl203_2
             have HR203_3 := aM hi203_3
             have HC203_3 := aM hl203_3
             clear hi203_3 hl203_3
             replace p203 := eq_true p203
             replace q203 := eq_true q203
             go_wp2_with (first | ((with_reducible refine gate_dst (N := 5) rfl ?_); refine box_event ?hg (N := 5) ?hd (cs := #[.bool false, .int .i64 0, .slice none 0 0, .slice none 0 0]) (t := 61) ?hr ?_; (case hd => rfl); (case hg => rfl); (case hr => first | (go_simp; done) | (go_simp; rfl)); intro gb204 hg w14 hbox hb; have n0_ := aM (blk_below (g := gb202) (o := .cells #[.int .i64 a0_0, .slice A0_1 l0_1.length c0_1, .slice (some ad203) l0_2.length c0_2, .slice A0_3 l0_3.length c0_3, .int .u32 a0_4, .int .u32 a0_5] 46 (0, 0)) (up_ BK202.out) hb); have n1_ := aM (below_step (bw_ HB.out) hb); have n2_ := aM (hbox); have n3_ := aM ((by rw [hg]; exact (below_size (bw_ HB.out)) : w.heap.size ≤ gb204)); have n4_ := aM ((by rw [hg]; exact (below_size (bw_ HB.out)) : w.heap.size ≤ gb204)); have n5_ := aM ((by rw [hg]; exact Nat.ne_of_lt (blk_lt (g := gb202) (o := .cells #[.int .i64 a0_0, .slice A0_1 l0_1.length c0_1, .slice (some ad203) l0_2.length c0_2, .slice A0_3 l0_3.length c0_3, .int .u32 a0_4, .int .u32 a0_5] 46 (0, 0)) (up_ BK202.out)) : gb202 ≠ gb204)); have n6_ := aM ((by rw [hg]; exact Nat.ne_of_gt (blk_lt (g := gb202) (o := .cells #[.int .i64 a0_0, .slice A0_1 l0_1.length c0_1, .slice (some ad203) l0_2.length c0_2, .slice A0_3 l0_3.length c0_3, .int .u32 a0_4, .int .u32 a0_5] 46 (0, 0)) (up_ BK202.out)) : gb204 ≠ gb202)); clear BK202; clear HB; have BK202 := n0_; have HB := n1_; have BK204 := n2_; have GW204 := n3_; have GE204 := n4_; have NB202_204 := n5_; have NB204_202 := n6_; clear n0_ n1_ n2_ n3_ n4_ n5_ n6_; clear hb hbox hg; have hnb15 := NB204_202.out; have hnc15 := NB202_204.out; have hcz16_0 : w14.cell? ⟨gb204, 0, none⟩ = some (.bool false) := (blk_cell BK204.out 0).trans rfl; have hcz16_1 : w14.cell? ⟨gb204, 1, none⟩ = some (.int .i64 0) := (blk_cell BK204.out 1).trans rfl; have hcz16_2 : w14.cell? ⟨gb204, 2, none⟩ = some (.slice none 0 0) := (blk_cell BK204.out 2).trans rfl; have hcz16_3 : w14.cell? ⟨gb204, 3, none⟩ = some (.slice none 0 0) := (blk_cell BK204.out 3).trans rfl; have hfz16_0 := bF BK204.out 0; have hfz16_1 := bF BK204.out 1; have hfz16_2 := bF BK204.out 2; have hfz16_3 := bF BK204.out 3) | ((with_reducible refine gate_callee (f := 24) rfl ?_); refine goesL_ (some 21) rfl rfl Try.func24 (by kernel_rfl) rfl #[.agg #[.int .i64 ((rd_T61 l0_2 x13_1).f1.f0), .slice A203_2 ((rd_T61 l0_2 x13_1).f1.f1).length c203_2, .slice A203_3 ((rd_T61 l0_2 x13_1).f1.f2).length c203_3]] rfl (by (try simp only [List.map_toArray, List.map_cons, List.map_nil]); first | done | rfl | (simp only [List.length_drop, List.length_take]; rfl)) ?_; (with_reducible refine (r5_Size.calls k1 ((rd_T61 l0_2 x13_1).f1.f0) _ _ ((rd_T61 l0_2 x13_1).f1.f1) _ _ ((rd_T61 l0_2 x13_1).f1.f2) t205 t206 _ ?side1 ?side2 ?side3 ?side4 A7.out).mono ?_); (case side1 => exact Kd.C_below HR203_2.out (bw_ HB.out)); (case side2 => exact HC203_2.out); (case side3 => exact Kd.C_below HR203_3.out (bw_ HB.out)); (case side4 => exact HC203_3.out); rintro e w17 ⟨rfl, hb⟩; refine ⟨_, rfl, ?_⟩; have n0_ := aM (blk_below (g := gb202) (o := .cells #[.int .i64 a0_0, .slice A0_1 l0_1.length c0_1, .slice (some ad203) l0_2.length c0_2, .slice A0_3 l0_3.length c0_3, .int .u32 a0_4, .int .u32 a0_5] 46 (0, 0)) (by (with_reducible repeat (first | apply bkN | apply bkD | apply bkA)); refine blk_far ?_ NB202_204.out _; (with_reducible repeat (first | apply bkN | apply bkD | apply bkA)); refine blk_far ?_ NB202_204.out _; (with_reducible repeat (first | apply bkN | apply bkD | apply bkA)); refine blk_far ?_ NB202_204.out _; (with_reducible repeat (first | apply bkN | apply bkD | apply bkA)); refine blk_far ?_ NB202_204.out _; (with_reducible repeat (first | apply bkN | apply bkD | apply bkA)); exact BK202.out) hb); have n1_ := aM (blk_below (g := gb204) (o := .cells #[.bool ((rd_T61 l0_2 x13_1).f0), .int .i64 ((rd_T61 l0_2 x13_1).f1.f0), .slice A203_2 ((rd_T61 l0_2 x13_1).f1.f1).length c203_2, .slice A203_3 ((rd_T61 l0_2 x13_1).f1.f2).length c203_3] 61 (0, 0)) (by (with_reducible repeat (first | apply bkN | apply bkD | apply bkA)); refine blk_put (cs := #[.bool ((rd_T61 l0_2 x13_1).f0), .int .i64 ((rd_T61 l0_2 x13_1).f1.f0), .slice A203_2 ((rd_T61 l0_2 x13_1).f1.f1).length c203_2, .slice none 0 0]) ?_ 3 _ rfl; (with_reducible repeat (first | apply bkN | apply bkD | apply bkA)); refine blk_put (cs := #[.bool ((rd_T61 l0_2 x13_1).f0), .int .i64 ((rd_T61 l0_2 x13_1).f1.f0), .slice none 0 0, .slice none 0 0]) ?_ 2 _ rfl; (with_reducible repeat (first | apply bkN | apply bkD | apply bkA)); refine blk_put (cs := #[.bool ((rd_T61 l0_2 x13_1).f0), .int .i64 0, .slice none 0 0, .slice none 0 0]) ?_ 1 _ rfl; (with_reducible repeat (first | apply bkN | apply bkD | apply bkA)); refine blk_put (cs := #[.bool false, .int .i64 0, .slice none 0 0, .slice none 0 0]) ?_ 0 _ rfl; (with_reducible repeat (first | apply bkN | apply bkD | apply bkA)); exact BK204.out) hb); have n2_ := aM (below_step (bw_ HB.out) hb); clear BK202; clear BK204; clear HB; have BK202 := n0_; have BK204 := n1_; have HB := n2_; clear n0_ n1_ n2_; (try clear hb); (try clear hb2); (try clear hk); (try clear hi)))
             first | go_ret | refine ⟨_, results_tmp rfl _ _ _, ?_⟩
             exact ⟨by first | rfl | (simp [errW_none, errW_some] <;> rfl) | (simp [*, errW_none, errW_some] <;> rfl), by repeat (first | (with_reducible first | exact HB.out | apply blA | apply blN | apply blD | refine bS ?_ GE202.out | refine bS ?_ GE204.out) | exact HB.out)⟩
           · rw [if_neg c13] at H
             have c13b0 : decide (3000 < (wrap64 (x3_1 + t205))) = false := decide_eq_false c13
             clear c13
             have H' := aM H
             clear H
             have p203 : 0 ≤ (x13_1 : Int) := of_decide_eq_true (by first | (with_reducible assumption) | assumption)
             have q203 : x13_1 < (l0_2.length : Int) := of_decide_eq_true (by first | (with_reducible assumption) | assumption)
             obtain ⟨ad203, A203_2, c203_2, A203_3, c203_3, e203, hx203_0, hx203_1, hx203_2, hx203_3, hl203_2, hi203_2, hl203_3, hi203_3⟩ := at_T61 HR0_2.out x13_1 p203 q203
             cases e203
             replace hx203_0 := (HB.out.cell (World.block_lt_of_cell? w _ hx203_0)).trans hx203_0
             replace hx203_1 := (HB.out.cell (World.block_lt_of_cell? w _ hx203_1)).trans hx203_1
             replace hx203_2 := (HB.out.cell (World.block_lt_of_cell? w _ hx203_2)).trans hx203_2
             replace hx203_3 := (HB.out.cell (World.block_lt_of_cell? w _ hx203_3)).trans hx203_3
             have HR203_2 := aM hi203_2
             have HC203_2 := aM hl203_2
             clear hi203_2 hl203_2
             have HR203_3 := aM hi203_3
             have HC203_3 := aM hl203_3
             clear hi203_3 hl203_3
             replace p203 := eq_true p203
             replace q203 := eq_true q203
             go_wp2_with (first | ((with_reducible refine gate_dst (N := 5) rfl ?_); refine box_event ?hg (N := 5) ?hd (cs := #[.bool false, .int .i64 0, .slice none 0 0, .slice none 0 0]) (t := 61) ?hr ?_; (case hd => rfl); (case hg => rfl); (case hr => first | (go_simp; done) | (go_simp; rfl)); intro gb204 hg w18 hbox hb; have n0_ := aM (blk_below (g := gb202) (o := .cells #[.int .i64 a0_0, .slice A0_1 l0_1.length c0_1, .slice (some ad203) l0_2.length c0_2, .slice A0_3 l0_3.length c0_3, .int .u32 a0_4, .int .u32 a0_5] 46 (0, 0)) (up_ BK202.out) hb); have n1_ := aM (below_step (bw_ HB.out) hb); have n2_ := aM (hbox); have n3_ := aM ((by rw [hg]; exact (below_size (bw_ HB.out)) : w.heap.size ≤ gb204)); have n4_ := aM ((by rw [hg]; exact (below_size (bw_ HB.out)) : w.heap.size ≤ gb204)); have n5_ := aM ((by rw [hg]; exact Nat.ne_of_lt (blk_lt (g := gb202) (o := .cells #[.int .i64 a0_0, .slice A0_1 l0_1.length c0_1, .slice (some ad203) l0_2.length c0_2, .slice A0_3 l0_3.length c0_3, .int .u32 a0_4, .int .u32 a0_5] 46 (0, 0)) (up_ BK202.out)) : gb202 ≠ gb204)); have n6_ := aM ((by rw [hg]; exact Nat.ne_of_gt (blk_lt (g := gb202) (o := .cells #[.int .i64 a0_0, .slice A0_1 l0_1.length c0_1, .slice (some ad203) l0_2.length c0_2, .slice A0_3 l0_3.length c0_3, .int .u32 a0_4, .int .u32 a0_5] 46 (0, 0)) (up_ BK202.out)) : gb204 ≠ gb202)); clear BK202; clear HB; have BK202 := n0_; have HB := n1_; have BK204 := n2_; have GW204 := n3_; have GE204 := n4_; have NB202_204 := n5_; have NB204_202 := n6_; clear n0_ n1_ n2_ n3_ n4_ n5_ n6_; clear hb hbox hg; have hnb19 := NB204_202.out; have hnc19 := NB202_204.out; have hcz20_0 : w18.cell? ⟨gb204, 0, none⟩ = some (.bool false) := (blk_cell BK204.out 0).trans rfl; have hcz20_1 : w18.cell? ⟨gb204, 1, none⟩ = some (.int .i64 0) := (blk_cell BK204.out 1).trans rfl; have hcz20_2 : w18.cell? ⟨gb204, 2, none⟩ = some (.slice none 0 0) := (blk_cell BK204.out 2).trans rfl; have hcz20_3 : w18.cell? ⟨gb204, 3, none⟩ = some (.slice none 0 0) := (blk_cell BK204.out 3).trans rfl; have hfz20_0 := bF BK204.out 0; have hfz20_1 := bF BK204.out 1; have hfz20_2 := bF BK204.out 2; have hfz20_3 := bF BK204.out 3) | ((with_reducible refine gate_callee (f := 24) rfl ?_); refine goesL_ (some 21) rfl rfl Try.func24 (by kernel_rfl) rfl #[.agg #[.int .i64 ((rd_T61 l0_2 x13_1).f1.f0), .slice A203_2 ((rd_T61 l0_2 x13_1).f1.f1).length c203_2, .slice A203_3 ((rd_T61 l0_2 x13_1).f1.f2).length c203_3]] rfl (by (try simp only [List.map_toArray, List.map_cons, List.map_nil]); first | done | rfl | (simp only [List.length_drop, List.length_take]; rfl)) ?_; (with_reducible refine (r5_Size.calls k1 ((rd_T61 l0_2 x13_1).f1.f0) _ _ ((rd_T61 l0_2 x13_1).f1.f1) _ _ ((rd_T61 l0_2 x13_1).f1.f2) t205 t206 _ ?side1 ?side2 ?side3 ?side4 A7.out).mono ?_); (case side1 => exact Kd.C_below HR203_2.out (bw_ HB.out)); (case side2 => exact HC203_2.out); (case side3 => exact Kd.C_below HR203_3.out (bw_ HB.out)); (case side4 => exact HC203_3.out); rintro e w21 ⟨rfl, hb⟩; refine ⟨_, rfl, ?_⟩; have n0_ := aM (blk_below (g := gb202) (o := .cells #[.int .i64 a0_0, .slice A0_1 l0_1.length c0_1, .slice (some ad203) l0_2.length c0_2, .slice A0_3 l0_3.length c0_3, .int .u32 a0_4, .int .u32 a0_5] 46 (0, 0)) (by (with_reducible repeat (first | apply bkN | apply bkD | apply bkA)); refine blk_far ?_ NB202_204.out _; (with_reducible repeat (first | apply bkN | apply bkD | apply bkA)); refine blk_far ?_ NB202_204.out _; (with_reducible repeat (first | apply bkN | apply bkD | apply bkA)); refine blk_far ?_ NB202_204.out _; (with_reducible repeat (first | apply bkN | apply bkD | apply bkA)); refine blk_far ?_ NB202_204.out _; (with_reducible repeat (first | apply bkN | apply bkD | apply bkA)); exact BK202.out) hb); have n1_ := aM (blk_below (g := gb204) (o := .cells #[.bool ((rd_T61 l0_2 x13_1).f0), .int .i64 ((rd_T61 l0_2 x13_1).f1.f0), .slice A203_2 ((rd_T61 l0_2 x13_1).f1.f1).length c203_2, .slice A203_3 ((rd_T61 l0_2 x13_1).f1.f2).length c203_3] 61 (0, 0)) (by (with_reducible repeat (first | apply bkN | apply bkD | apply bkA)); refine blk_put (cs := #[.bool ((rd_T61 l0_2 x13_1).f0), .int .i64 ((rd_T61 l0_2 x13_1).f1.f0), .slice A203_2 ((rd_T61 l0_2 x13_1).f1.f1).length c203_2, .slice none 0 0]) ?_ 3 _ rfl; (with_reducible repeat (first | apply bkN | apply bkD | apply bkA)); refine blk_put (cs := #[.bool ((rd_T61 l0_2 x13_1).f0), .int .i64 ((rd_T61 l0_2 x13_1).f1.f0), .slice none 0 0, .slice none 0 0]) ?_ 2 _ rfl; (with_reducible repeat (first | apply bkN | apply bkD | apply bkA)); refine blk_put (cs := #[.bool ((rd_T61 l0_2 x13_1).f0), .int .i64 0, .slice none 0 0, .slice none 0 0]) ?_ 1 _ rfl; (with_reducible repeat (first | apply bkN | apply bkD | apply bkA)); refine blk_put (cs := #[.bool false, .int .i64 0, .slice none 0 0, .slice none 0 0]) ?_ 0 _ rfl; (with_reducible repeat (first | apply bkN | apply bkD | apply bkA)); exact BK204.out) hb); have n2_ := aM (below_step (bw_ HB.out) hb); clear BK202; clear BK204; clear HB; have BK202 := n0_; have BK204 := n1_; have HB := n2_; clear n0_ n1_ n2_; (try clear hb); (try clear hb2); (try clear hk); (try clear hi)))
             go_roundg k1
             case measure => have := HK1.out; omega
             case rel => exact ⟨(wrap64 (x3_1 + t205)), (wrap64 (x13_1 + 1)), (by first | rfl | (simp; done) | (simp [*]; done)), (by first | rfl | (simp; done) | (simp [*]; done)), H', ⟨by have := HK1.out; omega⟩, ⟨by (with_reducible repeat (first | apply bkN | apply bkD | apply bkA)); exact BK202.out⟩, ⟨by repeat (first | (with_reducible first | exact HB.out | apply blA | apply blN | apply blD | refine bS ?_ GE202.out | refine bS ?_ GE204.out) | exact HB.out)⟩⟩
       · rw [if_neg c6] at H
         exact absurd H (by simp)
     · rw [if_neg c5] at H
       exact absurd H (by simp)
   · rw [if_neg c4] at H
     have c4b0 : decide (x13_1 < (l0_2.length : Int)) = false := decide_eq_false c4
     clear c4
     have H' := aM H
     clear H
     have hcz22_0 : wr.cell? ⟨gb202, 0, none⟩ = some (.int .i64 a0_0) := (blk_cell BK202.out 0).trans rfl
     have hcz22_1 : wr.cell? ⟨gb202, 1, none⟩ = some (.slice A0_1 l0_1.length c0_1) := (blk_cell BK202.out 1).trans rfl
     have hcz22_2 : wr.cell? ⟨gb202, 2, none⟩ = some (.slice A0_2 l0_2.length c0_2) := (blk_cell BK202.out 2).trans rfl
     have hcz22_3 : wr.cell? ⟨gb202, 3, none⟩ = some (.slice A0_3 l0_3.length c0_3) := (blk_cell BK202.out 3).trans rfl
     have hcz22_4 : wr.cell? ⟨gb202, 4, none⟩ = some (.int .u32 a0_4) := (blk_cell BK202.out 4).trans rfl
     have hcz22_5 : wr.cell? ⟨gb202, 5, none⟩ = some (.int .u32 a0_5) := (blk_cell BK202.out 5).trans rfl
     have hfz22_0 := bF BK202.out 0
     have hfz22_1 := bF BK202.out 1
     have hfz22_2 := bF BK202.out 2
     have hfz22_3 := bF BK202.out 3
     have hfz22_4 := bF BK202.out 4
     have hfz22_5 := bF BK202.out 5
     go_wp2
     go_loopg [3, 37] k1 (fun kq v3 v37 w' => ∃ (x3_2 : Int) (x37_2 : Int), v3 = .int .i64 x3_2 ∧ v37 = .int .i64 x37_2 ∧ Aside0 (dragomanref11_Great.l1 kq x3_2 l0_3 (l0_3.length : Int) x37_2 a0_0 l0_1 l0_2 l0_3 a0_4 a0_5 = some r) ∧ Aside0 (kq ≤ k1) ∧ Aside0 (w'.heap[gb202]? = some (.cells #[.int .i64 a0_0, (.slice A0_1 l0_1.length c0_1), (.slice A0_2 l0_2.length c0_2), (.slice A0_3 l0_3.length c0_3), .int .u32 a0_4, .int .u32 a0_5] 46 (0, 0))) ∧ Aside0 (Below w.heap.size w w'))
     case atStart => exact ⟨(0), (0), (by first | rfl | (simp; done) | (simp [*]; done)), (by first | rfl | (simp; done) | (simp [*]; done)), H', ⟨Nat.le_refl _⟩, ⟨by (with_reducible repeat (first | apply bkN | apply bkD | apply bkA)); exact BK202.out⟩, ⟨by repeat (first | (with_reducible first | exact HB.out | apply blA | apply blN | apply blD | refine bS ?_ GE202.out) | exact HB.out)⟩⟩
     case round =>
      clear H'
      obtain ⟨x3_2, x37_2, rfl, rfl, HA, HK2, BK202, HB⟩ := hrel
      cases gk with
      | zero => exact absurd HA.out (by simp [dragomanref11_Great.l1])
      | succ k2 =>
       have H := HA.out
       clear HA
       simp only [dragomanref11_Great.l1] at H
       by_cases c23 : x37_2 < (l0_3.length : Int)
       · rw [if_pos c23] at H
         have c23b0 : decide (x37_2 < (l0_3.length : Int)) = true := decide_eq_true c23
         clear c23
         by_cases c24 : 0 ≤ x37_2
         · rw [if_pos c24] at H
           have c24b0 : decide (0 ≤ x37_2) = true := decide_eq_true c24
           clear c24
           by_cases c25 : x37_2 < (l0_3.length : Int)
           · rw [if_pos c25] at H
             have c25b0 : decide (x37_2 < (l0_3.length : Int)) = true := decide_eq_true c25
             clear c25
             obtain ⟨ji26, hji26⟩ : ∃ j_ : Int, (mn (((rd_T64 l0_3 x37_2).f1).length : Int) 10000) = j_ := ⟨_, rfl⟩
             replace H : (if x37_2 > 100 then (some true) else (if (wrap64 (x3_2 + (ji26))) > 3000 then (some true) else (dragomanref11_Great.l1 k2 (wrap64 (x3_2 + (ji26))) l0_3 (l0_3.length : Int) (wrap64 (x37_2 + 1)) a0_0 l0_1 l0_2 l0_3 a0_4 a0_5))) = some r := by first | (rw [hji26] at H; exact H) | (simp only [hji26] at H ⊢; exact H)
             have hji26_ : (if 10000 < (((rd_T64 l0_3 x37_2).f1).length : Int) then 10000 else (((rd_T64 l0_3 x37_2).f1).length : Int)) = ji26 := hji26
             by_cases c27 : x37_2 > 100
             · rw [if_pos c27] at H
               have c27b0 : decide (100 < x37_2) = true := decide_eq_true c27
               clear c27
               obtain rfl := Option.some.inj H
               have p207 : 0 ≤ (x37_2 : Int) := of_decide_eq_true (by first | (with_reducible assumption) | assumption)
               have q207 : x37_2 < (l0_3.length : Int) := of_decide_eq_true (by first | (with_reducible assumption) | assumption)
               obtain ⟨ad207, A207_1, c207_1, e207, hx207_0, hx207_1, hl207_1, hi207_1⟩ := at_T64 HR0_3.out x37_2 p207 q207
               cases e207
               replace hx207_0 := (HB.out.cell (World.block_lt_of_cell? w _ hx207_0)).trans hx207_0
               replace hx207_1 := (HB.out.cell (World.block_lt_of_cell? w _ hx207_1)).trans hx207_1
               have HR207_1 := aM hi207_1
               have HC207_1 := aM hl207_1
               clear hi207_1 hl207_1
               replace p207 := eq_true p207
               replace q207 := eq_true q207
               go_wp2_with (first | ((with_reducible refine gate_dst (N := 9) rfl ?_); refine box_event ?hg (N := 9) ?hd (cs := #[.bool false, .slice none 0 0]) (t := 64) ?hr ?_; (case hd => rfl); (case hg => rfl); (case hr => first | (go_simp; done) | (go_simp; rfl)); intro gb208 hg w28 hbox hb; have n0_ := aM (blk_below (g := gb202) (o := .cells #[.int .i64 a0_0, .slice A0_1 l0_1.length c0_1, .slice A0_2 l0_2.length c0_2, .slice (some ad207) l0_3.length c0_3, .int .u32 a0_4, .int .u32 a0_5] 46 (0, 0)) (up_ BK202.out) hb); have n1_ := aM (below_step (bw_ HB.out) hb); have n2_ := aM (hbox); have n3_ := aM ((by rw [hg]; exact (below_size (bw_ HB.out)) : w.heap.size ≤ gb208)); have n4_ := aM ((by rw [hg]; exact (below_size (bw_ HB.out)) : w.heap.size ≤ gb208)); have n5_ := aM ((by rw [hg]; exact Nat.ne_of_lt (blk_lt (g := gb202) (o := .cells #[.int .i64 a0_0, .slice A0_1 l0_1.length c0_1, .slice A0_2 l0_2.length c0_2, .slice (some ad207) l0_3.length c0_3, .int .u32 a0_4, .int .u32 a0_5] 46 (0, 0)) (up_ BK202.out)) : gb202 ≠ gb208)); have n6_ := aM ((by rw [hg]; exact Nat.ne_of_gt (blk_lt (g := gb202) (o := .cells #[.int .i64 a0_0, .slice A0_1 l0_1.length c0_1, .slice A0_2 l0_2.length c0_2, .slice (some ad207) l0_3.length c0_3, .int .u32 a0_4, .int .u32 a0_5] 46 (0, 0)) (up_ BK202.out)) : gb208 ≠ gb202)); clear BK202; clear HB; have BK202 := n0_; have HB := n1_; have BK208 := n2_; have GW208 := n3_; have GE208 := n4_; have NB202_208 := n5_; have NB208_202 := n6_; clear n0_ n1_ n2_ n3_ n4_ n5_ n6_; clear hb hbox hg; have hnb29 := NB208_202.out; have hnc29 := NB202_208.out; have hcz30_0 : w28.cell? ⟨gb208, 0, none⟩ = some (.bool false) := (blk_cell BK208.out 0).trans rfl; have hcz30_1 : w28.cell? ⟨gb208, 1, none⟩ = some (.slice none 0 0) := (blk_cell BK208.out 1).trans rfl; have hfz30_0 := bF BK208.out 0; have hfz30_1 := bF BK208.out 1))
               first | go_ret | refine ⟨_, results_tmp rfl _ _ _, ?_⟩
               exact ⟨by first | rfl | (simp [errW_none, errW_some] <;> rfl) | (simp only [← hji26]; first | rfl | (simp [errW_none, errW_some] <;> rfl)) | (simp [*, errW_none, errW_some] <;> rfl), by repeat (first | (with_reducible first | exact HB.out | apply blA | apply blN | apply blD | refine bS ?_ GE202.out | refine bS ?_ GE208.out) | exact HB.out)⟩
             · rw [if_neg c27] at H
               have c27b0 : decide (100 < x37_2) = false := decide_eq_false c27
               clear c27
               by_cases c31 : (wrap64 (x3_2 + (ji26))) > 3000
               · rw [if_pos c31] at H
                 have c31b0 : decide (3000 < (wrap64 (x3_2 + (ji26)))) = true := decide_eq_true c31
                 clear c31
                 obtain rfl := Option.some.inj H
                 have p207 : 0 ≤ (x37_2 : Int) := of_decide_eq_true (by first | (with_reducible assumption) | assumption)
                 have q207 : x37_2 < (l0_3.length : Int) := of_decide_eq_true (by first | (with_reducible assumption) | assumption)
                 obtain ⟨ad207, A207_1, c207_1, e207, hx207_0, hx207_1, hl207_1, hi207_1⟩ := at_T64 HR0_3.out x37_2 p207 q207
                 cases e207
                 replace hx207_0 := (HB.out.cell (World.block_lt_of_cell? w _ hx207_0)).trans hx207_0
                 replace hx207_1 := (HB.out.cell (World.block_lt_of_cell? w _ hx207_1)).trans hx207_1
                 have HR207_1 := aM hi207_1
                 have HC207_1 := aM hl207_1
                 clear hi207_1 hl207_1
                 replace p207 := eq_true p207
                 replace q207 := eq_true q207
                 go_wp2_with (first | ((with_reducible refine gate_dst (N := 9) rfl ?_); refine box_event ?hg (N := 9) ?hd (cs := #[.bool false, .slice none 0 0]) (t := 64) ?hr ?_; (case hd => rfl); (case hg => rfl); (case hr => first | (go_simp; done) | (go_simp; rfl)); intro gb208 hg w32 hbox hb; have n0_ := aM (blk_below (g := gb202) (o := .cells #[.int .i64 a0_0, .slice A0_1 l0_1.length c0_1, .slice A0_2 l0_2.length c0_2, .slice (some ad207) l0_3.length c0_3, .int .u32 a0_4, .int .u32 a0_5] 46 (0, 0)) (up_ BK202.out) hb); have n1_ := aM (below_step (bw_ HB.out) hb); have n2_ := aM (hbox); have n3_ := aM ((by rw [hg]; exact (below_size (bw_ HB.out)) : w.heap.size ≤ gb208)); have n4_ := aM ((by rw [hg]; exact (below_size (bw_ HB.out)) : w.heap.size ≤ gb208)); have n5_ := aM ((by rw [hg]; exact Nat.ne_of_lt (blk_lt (g := gb202) (o := .cells #[.int .i64 a0_0, .slice A0_1 l0_1.length c0_1, .slice A0_2 l0_2.length c0_2, .slice (some ad207) l0_3.length c0_3, .int .u32 a0_4, .int .u32 a0_5] 46 (0, 0)) (up_ BK202.out)) : gb202 ≠ gb208)); have n6_ := aM ((by rw [hg]; exact Nat.ne_of_gt (blk_lt (g := gb202) (o := .cells #[.int .i64 a0_0, .slice A0_1 l0_1.length c0_1, .slice A0_2 l0_2.length c0_2, .slice (some ad207) l0_3.length c0_3, .int .u32 a0_4, .int .u32 a0_5] 46 (0, 0)) (up_ BK202.out)) : gb208 ≠ gb202)); clear BK202; clear HB; have BK202 := n0_; have HB := n1_; have BK208 := n2_; have GW208 := n3_; have GE208 := n4_; have NB202_208 := n5_; have NB208_202 := n6_; clear n0_ n1_ n2_ n3_ n4_ n5_ n6_; clear hb hbox hg; have hnb33 := NB208_202.out; have hnc33 := NB202_208.out; have hcz34_0 : w32.cell? ⟨gb208, 0, none⟩ = some (.bool false) := (blk_cell BK208.out 0).trans rfl; have hcz34_1 : w32.cell? ⟨gb208, 1, none⟩ = some (.slice none 0 0) := (blk_cell BK208.out 1).trans rfl; have hfz34_0 := bF BK208.out 0; have hfz34_1 := bF BK208.out 1))
                 first | go_ret | refine ⟨_, results_tmp rfl _ _ _, ?_⟩
                 exact ⟨by first | rfl | (simp [errW_none, errW_some] <;> rfl) | (simp only [← hji26]; first | rfl | (simp [errW_none, errW_some] <;> rfl)) | (simp [*, errW_none, errW_some] <;> rfl), by repeat (first | (with_reducible first | exact HB.out | apply blA | apply blN | apply blD | refine bS ?_ GE202.out | refine bS ?_ GE208.out) | exact HB.out)⟩
               · rw [if_neg c31] at H
                 have c31b0 : decide (3000 < (wrap64 (x3_2 + (ji26)))) = false := decide_eq_false c31
                 clear c31
                 have H' := aM H
                 clear H
                 have p207 : 0 ≤ (x37_2 : Int) := of_decide_eq_true (by first | (with_reducible assumption) | assumption)
                 have q207 : x37_2 < (l0_3.length : Int) := of_decide_eq_true (by first | (with_reducible assumption) | assumption)
                 obtain ⟨ad207, A207_1, c207_1, e207, hx207_0, hx207_1, hl207_1, hi207_1⟩ := at_T64 HR0_3.out x37_2 p207 q207
                 cases e207
                 replace hx207_0 := (HB.out.cell (World.block_lt_of_cell? w _ hx207_0)).trans hx207_0
                 replace hx207_1 := (HB.out.cell (World.block_lt_of_cell? w _ hx207_1)).trans hx207_1
                 have HR207_1 := aM hi207_1
                 have HC207_1 := aM hl207_1
                 clear hi207_1 hl207_1
                 replace p207 := eq_true p207
                 replace q207 := eq_true q207
                 go_wp2_with (first | ((with_reducible refine gate_dst (N := 9) rfl ?_); refine box_event ?hg (N := 9) ?hd (cs := #[.bool false, .slice none 0 0]) (t := 64) ?hr ?_; (case hd => rfl); (case hg => rfl); (case hr => first | (go_simp; done) | (go_simp; rfl)); intro gb208 hg w35 hbox hb; have n0_ := aM (blk_below (g := gb202) (o := .cells #[.int .i64 a0_0, .slice A0_1 l0_1.length c0_1, .slice A0_2 l0_2.length c0_2, .slice (some ad207) l0_3.length c0_3, .int .u32 a0_4, .int .u32 a0_5] 46 (0, 0)) (up_ BK202.out) hb); have n1_ := aM (below_step (bw_ HB.out) hb); have n2_ := aM (hbox); have n3_ := aM ((by rw [hg]; exact (below_size (bw_ HB.out)) : w.heap.size ≤ gb208)); have n4_ := aM ((by rw [hg]; exact (below_size (bw_ HB.out)) : w.heap.size ≤ gb208)); have n5_ := aM ((by rw [hg]; exact Nat.ne_of_lt (blk_lt (g := gb202) (o := .cells #[.int .i64 a0_0, .slice A0_1 l0_1.length c0_1, .slice A0_2 l0_2.length c0_2, .slice (some ad207) l0_3.length c0_3, .int .u32 a0_4, .int .u32 a0_5] 46 (0, 0)) (up_ BK202.out)) : gb202 ≠ gb208)); have n6_ := aM ((by rw [hg]; exact Nat.ne_of_gt (blk_lt (g := gb202) (o := .cells #[.int .i64 a0_0, .slice A0_1 l0_1.length c0_1, .slice A0_2 l0_2.length c0_2, .slice (some ad207) l0_3.length c0_3, .int .u32 a0_4, .int .u32 a0_5] 46 (0, 0)) (up_ BK202.out)) : gb208 ≠ gb202)); clear BK202; clear HB; have BK202 := n0_; have HB := n1_; have BK208 := n2_; have GW208 := n3_; have GE208 := n4_; have NB202_208 := n5_; have NB208_202 := n6_; clear n0_ n1_ n2_ n3_ n4_ n5_ n6_; clear hb hbox hg; have hnb36 := NB208_202.out; have hnc36 := NB202_208.out; have hcz37_0 : w35.cell? ⟨gb208, 0, none⟩ = some (.bool false) := (blk_cell BK208.out 0).trans rfl; have hcz37_1 : w35.cell? ⟨gb208, 1, none⟩ = some (.slice none 0 0) := (blk_cell BK208.out 1).trans rfl; have hfz37_0 := bF BK208.out 0; have hfz37_1 := bF BK208.out 1))
                 go_roundg k2
                 case measure => have := HK1.out; have := HK2.out; omega
                 case rel => exact ⟨(wrap64 (x3_2 + (ji26))), (wrap64 (x37_2 + 1)), (by first | rfl | (simp; done) | (simp only [← hji26] <;> (first | rfl | simp)) | (simp [*]; done)), (by first | rfl | (simp; done) | (simp [*]; done)), H', ⟨by have := HK1.out; have := HK2.out; omega⟩, ⟨by (with_reducible repeat (first | apply bkN | apply bkD | apply bkA)); refine blk_far ?_ NB202_208.out _; (with_reducible repeat (first | apply bkN | apply bkD | apply bkA)); refine blk_far ?_ NB202_208.out _; (with_reducible repeat (first | apply bkN | apply bkD | apply bkA)); exact BK202.out⟩, ⟨by repeat (first | (with_reducible first | exact HB.out | apply blA | apply blN | apply blD | refine bS ?_ GE202.out | refine bS ?_ GE208.out) | exact HB.out)⟩⟩
           · rw [if_neg c25] at H
             exact absurd H (by simp)
         · rw [if_neg c24] at H
           exact absurd H (by simp)
       · rw [if_neg c23] at H
         have c23b0 : decide (x37_2 < (l0_3.length : Int)) = false := decide_eq_false c23
         clear c23
         obtain rfl := Option.some.inj H
         have hcz38_0 : wr.cell? ⟨gb202, 0, none⟩ = some (.int .i64 a0_0) := (blk_cell BK202.out 0).trans rfl
         have hcz38_1 : wr.cell? ⟨gb202, 1, none⟩ = some (.slice A0_1 l0_1.length c0_1) := (blk_cell BK202.out 1).trans rfl
         have hcz38_2 : wr.cell? ⟨gb202, 2, none⟩ = some (.slice A0_2 l0_2.length c0_2) := (blk_cell BK202.out 2).trans rfl
         have hcz38_3 : wr.cell? ⟨gb202, 3, none⟩ = some (.slice A0_3 l0_3.length c0_3) := (blk_cell BK202.out 3).trans rfl
         have hcz38_4 : wr.cell? ⟨gb202, 4, none⟩ = some (.int .u32 a0_4) := (blk_cell BK202.out 4).trans rfl
         have hcz38_5 : wr.cell? ⟨gb202, 5, none⟩ = some (.int .u32 a0_5) := (blk_cell BK202.out 5).trans rfl
         have hfz38_0 := bF BK202.out 0
         have hfz38_1 := bF BK202.out 1
         have hfz38_2 := bF BK202.out 2
         have hfz38_3 := bF BK202.out 3
         have hfz38_4 := bF BK202.out 4
         have hfz38_5 := bF BK202.out 5
         go_wp2
         first | go_ret | refine ⟨_, results_tmp rfl _ _ _, ?_⟩
         exact ⟨by first | rfl | (simp [errW_none, errW_some] <;> rfl) | (simp [*, errW_none, errW_some] <;> rfl), by repeat (first | (with_reducible first | exact HB.out | apply blA | apply blN | apply blD | refine bS ?_ GE202.out) | exact HB.out)⟩
def r3_Great.f (a0_0 : Int) (a0_1 : Int) (l0_2 : List Int) (l0_3 : List Int) (a0_4 : Int) (a0_5 : Int) (a0_6 : Int) (a0_7 : Int) : Option (Bool) := if (l0_2.length : Int) > 1000 then (some true) else (some (decide ((l0_3.length : Int) > 1000)))
set_option maxHeartbeats 8000000 in
set_option maxRecDepth 100000 in
theorem r3_Great.calls (a0_0 : Int) (a0_1 : Int) (A0_2 : Option Addr) (c0_2 : Nat) (l0_2 : List Int) (A0_3 : Option Addr) (c0_3 : Nat) (l0_3 : List Int) (a0_4 : Int) (a0_5 : Int) (a0_6 : Int) (a0_7 : Int) (r : Bool) (w : World) (hr0_2 : Kd.C (Kd.int .u32) w A0_2 l0_2.length l0_2) (hc0_2 : l0_2.length ≤ c0_2) (hr0_3 : Kd.C (Kd.int .u32) w A0_3 l0_3.length l0_3) (hc0_3 : l0_3.length ≤ c0_3) (h : r3_Great.f a0_0 a0_1 l0_2 l0_3 a0_4 a0_5 a0_6 a0_7 = some r) :
 Calls Try.prog 29 #[.agg #[.int .u32 a0_0, .int .i64 a0_1, .slice A0_2 l0_2.length c0_2, .slice A0_3 l0_3.length c0_3, .int .u32 a0_4, .int .u32 a0_5, .int .i64 a0_6, .int .u32 a0_7]] w fun e w' => e = .returned (.bool r) ∧ Below w.heap.size w w' := by
 have hu50 := Try.underlying50
 have HR0_2 := aM hr0_2
 have HC0_2 := aM hc0_2
 clear hr0_2 hc0_2
 have HR0_3 := aM hr0_3
 have HC0_3 := aM hc0_3
 clear hr0_3 hc0_3
 have HB := aM (Below.refl w.heap.size w)
 have H : (if (l0_2.length : Int) > 1000 then (some true) else (some (decide ((l0_3.length : Int) > 1000)))) = some r := h
 clear h
 by_cases c2 : (l0_2.length : Int) > 1000
 · rw [if_pos c2] at H
   have c2b0 : decide (1000 < (l0_2.length : Int)) = true := decide_eq_true c2
   have c2b1 : decide (1000 < l0_2.length) = true := decide_eq_true (by omega)
   clear c2
   obtain rfl := Option.some.inj H
   go_enter Try.func29, Try.ntmps29
   go_wp2_with (first | ((with_reducible refine gate_dst (N := 1) rfl ?_); (try (refine gate_guard (by rfl) ?_; dsimp only)); refine box_event ?hg (N := 1) ?hd (cs := #[.int .u32 a0_0, .int .i64 a0_1, .slice A0_2 l0_2.length c0_2, .slice A0_3 l0_3.length c0_3, .int .u32 a0_4, .int .u32 a0_5, .int .i64 a0_6, .int .u32 a0_7]) (t := 50) ?hr ?_; (case hd => rfl); (case hg => rfl); (case hr => first | (go_simp; done) | (go_simp; rfl)); intro gb209 hg w3 hbox hb; have n0_ := aM (below_step (bw_ HB.out) hb); have n1_ := aM (hbox); have n2_ := aM ((by rw [hg]; exact (below_size (bw_ HB.out)) : w.heap.size ≤ gb209)); have n3_ := aM ((by rw [hg]; exact (below_size (bw_ HB.out)) : w.heap.size ≤ gb209)); clear HB; have HB := n0_; have BK209 := n1_; have GW209 := n2_; have GE209 := n3_; clear n0_ n1_ n2_ n3_; clear hb hbox hg; have hcz4_0 : w3.cell? ⟨gb209, 0, none⟩ = some (.int .u32 a0_0) := (blk_cell BK209.out 0).trans rfl; have hcz4_1 : w3.cell? ⟨gb209, 1, none⟩ = some (.int .i64 a0_1) := (blk_cell BK209.out 1).trans rfl; have hcz4_2 : w3.cell? ⟨gb209, 2, none⟩ = some (.slice A0_2 l0_2.length c0_2) := (blk_cell BK209.out 2).trans rfl; have hcz4_3 : w3.cell? ⟨gb209, 3, none⟩ = some (.slice A0_3 l0_3.length c0_3) := (blk_cell BK209.out 3).trans rfl; have hcz4_4 : w3.cell? ⟨gb209, 4, none⟩ = some (.int .u32 a0_4) := (blk_cell BK209.out 4).trans rfl; have hcz4_5 : w3.cell? ⟨gb209, 5, none⟩ = some (.int .u32 a0_5) := (blk_cell BK209.out 5).trans rfl; have hcz4_6 : w3.cell? ⟨gb209, 6, none⟩ = some (.int .i64 a0_6) := (blk_cell BK209.out 6).trans rfl; have hcz4_7 : w3.cell? ⟨gb209, 7, none⟩ = some (.int .u32 a0_7) := (blk_cell BK209.out 7).trans rfl; have hfz4_0 := bF BK209.out 0; have hfz4_1 := bF BK209.out 1; have hfz4_2 := bF BK209.out 2; have hfz4_3 := bF BK209.out 3; have hfz4_4 := bF BK209.out 4; have hfz4_5 := bF BK209.out 5; have hfz4_6 := bF BK209.out 6; have hfz4_7 := bF BK209.out 7))
   first | go_ret | refine ⟨_, results_tmp rfl _ _ _, ?_⟩
   exact ⟨by first | rfl | (simp [errW_none, errW_some] <;> rfl) | (simp [*, errW_none, errW_some] <;> rfl), by repeat (first | (with_reducible first | exact HB.out | apply blA | apply blN | apply blD | refine bS ?_ GE209.out) | exact HB.out)⟩
 · rw [if_neg c2] at H
   have c2b0 : decide (1000 < (l0_2.length : Int)) = false := decide_eq_false c2
   have c2b1 : decide (1000 < l0_2.length) = false := decide_eq_false (by omega)
   clear c2
   obtain rfl := Option.some.inj H
   go_enter Try.func29, Try.ntmps29
   go_wp2_with (first | ((with_reducible refine gate_dst (N := 1) rfl ?_); (try (refine gate_guard (by rfl) ?_; dsimp only)); refine box_event ?hg (N := 1) ?hd (cs := #[.int .u32 a0_0, .int .i64 a0_1, .slice A0_2 l0_2.length c0_2, .slice A0_3 l0_3.length c0_3, .int .u32 a0_4, .int .u32 a0_5, .int .i64 a0_6, .int .u32 a0_7]) (t := 50) ?hr ?_; (case hd => rfl); (case hg => rfl); (case hr => first | (go_simp; done) | (go_simp; rfl)); intro gb209 hg w5 hbox hb; have n0_ := aM (below_step (bw_ HB.out) hb); have n1_ := aM (hbox); have n2_ := aM ((by rw [hg]; exact (below_size (bw_ HB.out)) : w.heap.size ≤ gb209)); have n3_ := aM ((by rw [hg]; exact (below_size (bw_ HB.out)) : w.heap.size ≤ gb209)); clear HB; have HB := n0_; have BK209 := n1_; have GW209 := n2_; have GE209 := n3_; clear n0_ n1_ n2_ n3_; clear hb hbox hg; have hcz6_0 : w5.cell? ⟨gb209, 0, none⟩ = some (.int .u32 a0_0) := (blk_cell BK209.out 0).trans rfl; have hcz6_1 : w5.cell? ⟨gb209, 1, none⟩ = some (.int .i64 a0_1) := (blk_cell BK209.out 1).trans rfl; have hcz6_2 : w5.cell? ⟨gb209, 2, none⟩ = some (.slice A0_2 l0_2.length c0_2) := (blk_cell BK209.out 2).trans rfl; have hcz6_3 : w5.cell? ⟨gb209, 3, none⟩ = some (.slice A0_3 l0_3.length c0_3) := (blk_cell BK209.out 3).trans rfl; have hcz6_4 : w5.cell? ⟨gb209, 4, none⟩ = some (.int .u32 a0_4) := (blk_cell BK209.out 4).trans rfl; have hcz6_5 : w5.cell? ⟨gb209, 5, none⟩ = some (.int .u32 a0_5) := (blk_cell BK209.out 5).trans rfl; have hcz6_6 : w5.cell? ⟨gb209, 6, none⟩ = some (.int .i64 a0_6) := (blk_cell BK209.out 6).trans rfl; have hcz6_7 : w5.cell? ⟨gb209, 7, none⟩ = some (.int .u32 a0_7) := (blk_cell BK209.out 7).trans rfl; have hfz6_0 := bF BK209.out 0; have hfz6_1 := bF BK209.out 1; have hfz6_2 := bF BK209.out 2; have hfz6_3 := bF BK209.out 3; have hfz6_4 := bF BK209.out 4; have hfz6_5 := bF BK209.out 5; have hfz6_6 := bF BK209.out 6; have hfz6_7 := bF BK209.out 7))
   first | go_ret | refine ⟨_, results_tmp rfl _ _ _, ?_⟩
   exact ⟨by first | rfl | (simp [errW_none, errW_some] <;> rfl) | (simp [*, errW_none, errW_some] <;> rfl), by repeat (first | (with_reducible first | exact HB.out | apply blA | apply blN | apply blD | refine bS ?_ GE209.out) | exact HB.out)⟩
end Go.Proofs.Ytlkjfjlmjgkheaa.H
