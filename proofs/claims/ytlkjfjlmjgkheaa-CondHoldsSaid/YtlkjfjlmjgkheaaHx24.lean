import Derived.Test.YtlkjfjlmjgkheaaHx0
namespace Go.Proofs.Ytlkjfjlmjgkheaa.H
open Go.RowKit Go.Proofs.YtlkjfjlmjgkheaaW.PrintWords Go.Proofs.YtlkjfjlmjgkheaaW.PrintLast Go.Proofs.YtlkjfjlmjgkheaaW.PrintMore
attribute [local go_sem] max2_int min2_int max_two min_two max_three min_three max_four min_four
set_option linter.unusedVariables false
set_option linter.unusedSimpArgs false
def r1_In.l0 : Nat → Int → List (S66) → Int → Int → Option (Bool)
 | 0, _, _, _, _ => none
 | k + 1, x1, x7, x8, x9 => if x9 < x8 then (if 0 ≤ x9 then (if x9 < (x7.length : Int) then (if ((rd_T66 x7 x9).f0) ≤ x1 then (if x1 ≤ ((rd_T66 x7 x9).f1) then (some true) else (r1_In.l0 k x1 x7 x8 (wrap64 (x9 + 1)))) else (r1_In.l0 k x1 x7 x8 (wrap64 (x9 + 1)))) else (none)) else (none)) else (some false)
def r1_In.f (k : Nat) (l0 : List (S66)) (a1 : Int) : Option (Bool) := r1_In.l0 k a1 l0 (l0.length : Int) 0
set_option maxHeartbeats 8000000 in
set_option maxRecDepth 100000 in
theorem r1_In.calls (k : Nat) (A0 : Option Addr) (c0 : Nat) (l0 : List (S66)) (a1 : Int) (r : Bool) (w : World) (hr0 : Kd.C k66 w A0 l0.length l0) (hc0 : l0.length ≤ c0) (h : r1_In.f k l0 a1 = some r) :
 Calls Try.prog 101 #[.slice A0 l0.length c0, .int .u32 a1] w fun e w' => e = .returned (.bool r) ∧ Below w.heap.size w w' := by
 have hu66 := Try.underlying66
 have HR0 := aM hr0
 have HC0 := aM hc0
 clear hr0 hc0
 have HB := aM (Below.refl w.heap.size w)
 have H : (r1_In.l0 k a1 l0 (l0.length : Int) 0) = some r := h
 clear h
 have H' := aM H
 clear H
 go_enter Try.func101, Try.ntmps101
 go_wp2
 go_loopg [9] k (fun kq v9 w' => ∃ (x9_1 : Int), v9 = .int .i64 x9_1 ∧ Aside0 (r1_In.l0 kq a1 l0 (l0.length : Int) x9_1 = some r) ∧ Aside0 (kq ≤ k) ∧ Aside0 (Below w.heap.size w w'))
 case atStart => exact ⟨(0), rf_, H', ⟨Nat.le_refl _⟩, ⟨bw_ HB.out⟩⟩
 case round =>
  clear H'
  obtain ⟨x9_1, rfl, HA, HK1, HB⟩ := hrel
  cases gk with
  | zero => exact absurd HA.out (by simp [r1_In.l0])
  | succ k1 =>
   have H := HA.out
   clear HA
   simp only [r1_In.l0] at H
   by_cases c3 : x9_1 < (l0.length : Int)
   rotate_left
   · rw [if_neg c3] at H
     replace c3 := decide_eq_false c3
     obtain rfl := Option.some.inj H
     go_wp2
     first | go_ret | refine ⟨_, results_tmp rfl _ _ _, ?_⟩
     exact fin_ HB
   rw [if_pos c3] at H
   replace c3 := decide_eq_true c3
   obtain ⟨c4, H⟩ := ifd_ H
   obtain ⟨c5, H⟩ := ifd_ H
   by_cases c6 : ((rd_T66 l0 x9_1).f0) ≤ a1
   rotate_left
   · rw [if_neg c6] at H
     replace c6 := decide_eq_false c6
     have H' := aM H
     clear H
     have p305 : 0 ≤ (x9_1 : Int) := od_
     have q305 : x9_1 < (l0.length : Int) := od_
     obtain ⟨ad305, e305, hx305_0, hx305_1⟩ := at_T66 (Kd.C_below HR0.out HB.out) x9_1 p305 q305
     cases e305
     replace p305 := eq_true p305
     replace q305 := eq_true q305
     go_wp2_with (first | ((with_reducible refine gd_ 6 rfl ?_); refine be_ #[.int .u32 0, .int .u32 0] 66 ?_; intro gb306 hg w12 BK306 hb; have GW306 := ge_ HB hg; have GE306 := ge_ HB hg; replace HB := bs_ HB hb; clear hb hg; obtain ⟨hcz13_0, hcz13_1, hfz13_0, hfz13_1⟩ := bc2_ BK306))
     go_roundg k1
     case measure => have := HK1.out; omega
     case rel => exact ⟨(wrap64 (x9_1 + 1)), rf_, H', ⟨by have := HK1.out; omega⟩, ⟨bw_ HB.out⟩⟩
   rw [if_pos c6] at H
   replace c6 := decide_eq_true c6
   by_cases c7 : a1 ≤ ((rd_T66 l0 x9_1).f1)
   · rw [if_pos c7] at H
     replace c7 := decide_eq_true c7
     obtain rfl := Option.some.inj H
     have p305 : 0 ≤ (x9_1 : Int) := od_
     have q305 : x9_1 < (l0.length : Int) := od_
     obtain ⟨ad305, e305, hx305_0, hx305_1⟩ := at_T66 (Kd.C_below HR0.out HB.out) x9_1 p305 q305
     cases e305
     replace p305 := eq_true p305
     replace q305 := eq_true q305
     go_wp2_with (first | ((with_reducible refine gd_ 6 rfl ?_); refine be_ #[.int .u32 0, .int .u32 0] 66 ?_; intro gb306 hg w8 BK306 hb; have GW306 := ge_ HB hg; have GE306 := ge_ HB hg; replace HB := bs_ HB hb; clear hb hg; obtain ⟨hcz9_0, hcz9_1, hfz9_0, hfz9_1⟩ := bc2_ BK306))
     first | go_ret | refine ⟨_, results_tmp rfl _ _ _, ?_⟩
     exact fin_ HB
   rw [if_neg c7] at H
   replace c7 := decide_eq_false c7
   have H' := aM H
   clear H
   have p305 : 0 ≤ (x9_1 : Int) := od_
   have q305 : x9_1 < (l0.length : Int) := od_
   obtain ⟨ad305, e305, hx305_0, hx305_1⟩ := at_T66 (Kd.C_below HR0.out HB.out) x9_1 p305 q305
   cases e305
   replace p305 := eq_true p305
   replace q305 := eq_true q305
   go_wp2_with (first | ((with_reducible refine gd_ 6 rfl ?_); refine be_ #[.int .u32 0, .int .u32 0] 66 ?_; intro gb306 hg w10 BK306 hb; have GW306 := ge_ HB hg; have GE306 := ge_ HB hg; replace HB := bs_ HB hb; clear hb hg; obtain ⟨hcz11_0, hcz11_1, hfz11_0, hfz11_1⟩ := bc2_ BK306))
   go_roundg k1
   case measure => have := HK1.out; omega
   case rel => exact ⟨(wrap64 (x9_1 + 1)), rf_, H', ⟨by have := HK1.out; omega⟩, ⟨bw_ HB.out⟩⟩
end Go.Proofs.Ytlkjfjlmjgkheaa.H
namespace Go.Proofs.Ytlkjfjlmjgkheaa.H
open Go.RowKit Go.Proofs.YtlkjfjlmjgkheaaW.PrintWords Go.Proofs.YtlkjfjlmjgkheaaW.PrintLast Go.Proofs.YtlkjfjlmjgkheaaW.PrintMore
attribute [local go_sem] max2_int min2_int max_two min_two max_three min_three max_four min_four
set_option linter.unusedVariables false
set_option linter.unusedSimpArgs false
mutual
def r5_ends.l0 : Nat → List Bool → List Bool → List Int → Int → Int → Int → List (S66) → List (S25) → Option (List Bool)
 | 0, _, _, _, _, _, _, _, _ => none
 | k + 1, x2, x7, x26, x27, x28, x308000, x308001, x308002 => if x28 < x27 then (if 0 ≤ x28 then (if x28 < (x26.length : Int) then (if x28 < (x2.length : Int) then (if rdOf false x2 x28 = true then ((r1_In.f k x308001 (rd x26 x28)).bind fun t313 => (if t313 = true then (if 0 ≤ (wrap64 (x28 + 1)) then (if (wrap64 (x28 + 1)) < (x7.length : Int) then (r5_ends.l0 k x2 (x7.set ((wrap64 (x28 + 1)) : Int).toNat true) x26 x27 (wrap64 (x28 + 1)) x308000 x308001 x308002) else (none)) else (none)) else (r5_ends.l0 k x2 x7 x26 x27 (wrap64 (x28 + 1)) x308000 x308001 x308002))) else (r5_ends.l0 k x2 x7 x26 x27 (wrap64 (x28 + 1)) x308000 x308001 x308002)) else (none)) else (none)) else (none)) else (some x7)
def r5_ends.l1 : Nat → List Int → List Bool → List (S25) → Int → Int → Option (List Bool)
 | 0, _, _, _, _, _ => none
 | k + 1, x1, x7, x54, x55, x56 => if x56 < x55 then (if 0 ≤ x56 then (if x56 < (x54.length : Int) then ((r5_ends.f k ((rd_T25 x54 x56).f0) ((rd_T25 x54 x56).f1) ((rd_T25 x54 x56).f2) x1 x7).bind fun t320 => (r5_ends.l1 k x1 t320 x54 x55 (wrap64 (x56 + 1)))) else (none)) else (none)) else (some x7)
def r5_ends.l2 : Nat → List Int → List Bool → List Bool → List (S25) → Int → Int → Option (List Bool)
 | 0, _, _, _, _, _, _ => none
 | k + 1, x1, x2, x7, x68, x69, x70 => if x70 < x69 then (if 0 ≤ x70 then (if x70 < (x68.length : Int) then ((r5_ends.f k ((rd_T25 x68 x70).f0) ((rd_T25 x68 x70).f1) ((rd_T25 x68 x70).f2) x1 x2).bind fun t325 => (r5_ends.l3 k x1 x2 x7 x68 x69 x70 t325 (t325.length : Int) 0)) else (none)) else (none)) else (some x7)
def r5_ends.l3 : Nat → List Int → List Bool → List Bool → List (S25) → Int → Int → List Bool → Int → Int → Option (List Bool)
 | 0, _, _, _, _, _, _, _, _, _ => none
 | k + 1, x1, x2, x7, x68, x69, x70, x77, x78, x79 => if x79 < x78 then (if 0 ≤ x79 then (if x79 < (x77.length : Int) then (if x79 < (x7.length : Int) then (if rdOf false x7 x79 = true then (r5_ends.l3 k x1 x2 (x7.set (x79 : Int).toNat true) x68 x69 x70 x77 x78 (wrap64 (x79 + 1))) else (r5_ends.l3 k x1 x2 (x7.set (x79 : Int).toNat (rdOf false x77 x79)) x68 x69 x70 x77 x78 (wrap64 (x79 + 1)))) else (none)) else (none)) else (none)) else (r5_ends.l2 k x1 x2 x7 x68 x69 (wrap64 (x70 + 1)))
def r5_ends.l4 : Nat → List Int → List Bool → Bool → Int → List (S66) → List (S25) → Option (List Bool)
 | 0, _, _, _, _, _, _ => none
 | k + 1, x1, x7, x16, x308000, x308001, x308002 => if x16 = true then (if 0 < (x308002.length : Int) then ((r5_ends.f k ((rd_T25 x308002 0).f0) ((rd_T25 x308002 0).f1) ((rd_T25 x308002 0).f2) x1 x7).bind fun t336 => (r5_ends.l5 k x1 x7 false t336 (t336.length : Int) 0 x308000 x308001 x308002)) else (none)) else (some x7)
def r5_ends.l5 : Nat → List Int → List Bool → Bool → List Bool → Int → Int → Int → List (S66) → List (S25) → Option (List Bool)
 | 0, _, _, _, _, _, _, _, _, _ => none
 | k + 1, x1, x7, x16, x108, x109, x110, x308000, x308001, x308002 => if x110 < x109 then (if 0 ≤ x110 then (if x110 < (x108.length : Int) then (if rdOf false x108 x110 = true then (if x110 < (x7.length : Int) then (if rdOf false x7 x110 = true then (r5_ends.l5 k x1 x7 x16 x108 x109 (wrap64 (x110 + 1)) x308000 x308001 x308002) else (r5_ends.l5 k x1 (x7.set (x110 : Int).toNat true) true x108 x109 (wrap64 (x110 + 1)) x308000 x308001 x308002)) else (none)) else (r5_ends.l5 k x1 x7 x16 x108 x109 (wrap64 (x110 + 1)) x308000 x308001 x308002)) else (none)) else (none)) else (r5_ends.l4 k x1 x7 x16 x308000 x308001 x308002)
def r5_ends.f : Nat → Int → List (S66) → List (S25) → List Int → List Bool → Option (List Bool)
 | 0, _, _, _, _, _ => none
 | k + 1, a0_0, l0_1, l0_2, l1, l2 => if 0 ≤ (l2.length : Int) then (if ((l2.length : Int) : Int).toNat ≤ 281474976710656 then ((some (List.replicate ((l2.length : Int) : Int).toNat false : List Bool)).bind fun y308 => (if a0_0 = 1 then (r5_ends.l0 k l2 y308 l1 (l1.length : Int) 0 a0_0 l0_1 l0_2) else (if a0_0 = 2 then (r5_ends.l1 k l1 (l2.take (min l2.length y308.length) ++ y308.drop (min l2.length y308.length)) l0_2 (l0_2.length : Int) 0) else (if a0_0 = 3 then (r5_ends.l2 k l1 l2 y308 l0_2 (l0_2.length : Int) 0) else (if a0_0 = 4 then (r5_ends.l4 k l1 (l2.take (min l2.length y308.length) ++ y308.drop (min l2.length y308.length)) true a0_0 l0_1 l0_2) else (some y308)))))) else (none)) else (none)
end
set_option maxHeartbeats 8000000 in
set_option maxRecDepth 100000 in
theorem r5_ends.calls (k : Nat) : ∀ (a0_0 : Int) (A0_1 : Option Addr) (c0_1 : Nat) (l0_1 : List (S66)) (A0_2 : Option Addr) (c0_2 : Nat) (l0_2 : List (S25)) (A1 : Option Addr) (c1 : Nat) (l1 : List Int) (A2 : Option Addr) (c2 : Nat) (l2 : List Bool) (r : List Bool) (w : World) (hr0_1 : Kd.C k66 w A0_1 l0_1.length l0_1) (hc0_1 : l0_1.length ≤ c0_1) (hr0_2 : Kd.C k25 w A0_2 l0_2.length l0_2) (hc0_2 : l0_2.length ≤ c0_2) (hr1 : Kd.C (Kd.int .u32) w A1 l1.length l1) (hc1 : l1.length ≤ c1) (hr2 : Kd.C Kd.bool w A2 l2.length l2) (hc2 : l2.length ≤ c2) (h : r5_ends.f k a0_0 l0_1 l0_2 l1 l2 = some r),
 Calls Try.prog 83 #[.agg #[.int .i64 a0_0, .slice A0_1 l0_1.length c0_1, .slice A0_2 l0_2.length c0_2], .slice A1 l1.length c1, .slice A2 l2.length c2] w fun e w' => ∃ v0_ : Value, e = .returned (v0_) ∧ Kd.R Kd.bool 4 w' w.heap.size (fun _ => True) v0_ r ∧ Below w.heap.size w w' := by
 induction k using Nat.strongRecOn with
 | _ k ih =>
 intro a0_0 A0_1 c0_1 l0_1 A0_2 c0_2 l0_2 A1 c1 l1 A2 c2 l2 r w hr0_1 hc0_1 hr0_2 hc0_2 hr1 hc1 hr2 hc2 h
 cases k with
 | zero => exact absurd h (by simp [r5_ends.f])
 | succ k =>
 simp only [r5_ends.f] at h
 have hu25 := Try.underlying25
 have HR0_1 := aM hr0_1
 have HC0_1 := aM hc0_1
 clear hr0_1 hc0_1
 have HR0_2 := aM hr0_2
 have HC0_2 := aM hc0_2
 clear hr0_2 hc0_2
 have HR1 := aM hr1
 have HC1 := aM hc1
 clear hr1 hc1
 have HR2 := aM hr2
 have HC2 := aM hc2
 clear hr2 hc2
 have HB := aM (Below.refl w.heap.size w)
 have H : (if 0 ≤ (l2.length : Int) then (if ((l2.length : Int) : Int).toNat ≤ 281474976710656 then ((some (List.replicate ((l2.length : Int) : Int).toNat false : List Bool)).bind fun y308 => (if a0_0 = 1 then (r5_ends.l0 k l2 y308 l1 (l1.length : Int) 0 a0_0 l0_1 l0_2) else (if a0_0 = 2 then (r5_ends.l1 k l1 (l2.take (min l2.length y308.length) ++ y308.drop (min l2.length y308.length)) l0_2 (l0_2.length : Int) 0) else (if a0_0 = 3 then (r5_ends.l2 k l1 l2 y308 l0_2 (l0_2.length : Int) 0) else (if a0_0 = 4 then (r5_ends.l4 k l1 (l2.take (min l2.length y308.length) ++ y308.drop (min l2.length y308.length)) true a0_0 l0_1 l0_2) else (some y308)))))) else (none)) else (none)) = some r := h
 clear h
 have c4 := ifn_ H
 rw [if_pos c4] at H
 have c4b0 := eq_true c4
 have c4b1 : decide (0 ≤ (l2.length : Int)) = true := decide_eq_true c4
 clear c4
 have c5 := ifn_ H
 rw [if_pos c5] at H
 have c5b0 := eq_true c5
 have c5b1 : decide (((l2.length : Int) : Int).toNat ≤ 281474976710656) = true := decide_eq_true c5
 clear c5
 obtain ⟨y308, hy308⟩ : ∃ y_ : List Bool, y_ = (List.replicate ((l2.length : Int) : Int).toNat false) := ⟨_, rfl⟩
 replace H : (if a0_0 = 1 then (r5_ends.l0 k l2 y308 l1 (l1.length : Int) 0 a0_0 l0_1 l0_2) else (if a0_0 = 2 then (r5_ends.l1 k l1 (l2.take (min l2.length y308.length) ++ y308.drop (min l2.length y308.length)) l0_2 (l0_2.length : Int) 0) else (if a0_0 = 3 then (r5_ends.l2 k l1 l2 y308 l0_2 (l0_2.length : Int) 0) else (if a0_0 = 4 then (r5_ends.l4 k l1 (l2.take (min l2.length y308.length) ++ y308.drop (min l2.length y308.length)) true a0_0 l0_1 l0_2) else (some y308))))) = some r := by first | (rw [hy308]; with_reducible exact H) | (have H2_ := (Option.bind_some _ _).symm.trans H; rw [hy308]; with_reducible exact H2_) | (have H2_ := (Option.bind_some _ _).symm.trans H; with_reducible exact H2_) | with_reducible exact H | (rw [hy308]; exact H) | exact H
 have Ny308 := aM hy308
 clear hy308
 by_cases c6 : a0_0 = 1
 · rw [if_pos c6] at H
   have c6b0 : (a0_0 == 1) = true := beq_iff_eq.mpr c6
   have c6b1 : (a0_0 != 1) = false := bne_eq_false_iff_eq.mpr c6
   clear c6
   have H' := aM H
   clear H
   go_enter Try.func83, Try.ntmps83
   go_wp2_with (first | ((with_reducible refine gd_ 3 rfl ?_); refine be_ #[.int .i64 a0_0, .slice A0_1 l0_1.length c0_1, .slice A0_2 l0_2.length c0_2] 25 ?_; intro gb307 hg w7 BK307 hb; have GW307 := ge_ HB hg; have GE307 := ge_ HB hg; replace HB := bs_ HB hb; clear hb hg) | ((with_reducible refine gd_ 21 rfl ?_); refine Kd.R_make Kd.bool _ 4 rfl (N := 21) rfl 108 _ _ rfl (l2.length : Int) rfl rfl Try.underlying108 (.bool false) 1 info4 rfl (by decide) (by omega) false (ok := fun _ => True) (okp := fun _ => True) rfl (fun _ hk => hk) trivial (of_decide_eq_true (by first | (with_reducible assumption) | assumption)) (Nat.le_trans (Nat.mul_le_mul_right _ (of_decide_eq_true (by first | (with_reducible assumption) | assumption) : (l2.length : Int).toNat ≤ 281474976710656)) (by omega)) (Below.refl _ _) (Nat.le_refl _) ?_; intro v309 w8 ho9 hb hg_ hnew_; clear hg_ hnew_; (first | rw [← Ny308.out] at ho9 | (simp only [Int.reduceToNat] at ho9; rw [← Ny308.out] at ho9)); have HO310 := aM (Kd.R_lower ho9 (below_size (bw_ HB.out))); replace BK307 := bb_ BK307 hb; replace HB := bs_ HB hb; clear hb ho9; obtain ⟨hcz10_0, hcz10_1, hcz10_2, hfz10_0, hfz10_1, hfz10_2⟩ := bc3_ BK307))
   go_loopg [28] k (fun kq v28 w' => ∃ (x7_1 : List Bool) (x28_1 : Int), v28 = .int .i64 x28_1 ∧ Aside0 (r5_ends.l0 kq l2 x7_1 l1 (l1.length : Int) x28_1 a0_0 l0_1 l0_2 = some r) ∧ Aside0 (kq ≤ k) ∧ Aside0 (Kd.R Kd.bool 4 w' w.heap.size (fun _ => True) v309 x7_1) ∧ Aside0 (w'.heap[gb307]? = some (.cells #[.int .i64 a0_0, (.slice A0_1 l0_1.length c0_1), (.slice A0_2 l0_2.length c0_2)] 25 (0, 0))) ∧ Aside0 (Below w.heap.size w w'))
   case atStart => exact ⟨(y308), (0), rf_, H', ⟨Nat.le_refl _⟩, ⟨by (with_reducible repeat (first | apply kA | apply kN | apply kD)); exact HO310.out⟩, ⟨ub_ BK307.out⟩, ⟨bw_ HB.out⟩⟩
   case round =>
    clear H'
    obtain ⟨x7_1, x28_1, rfl, HA, HK1, HO_7, BK307, HB⟩ := hrel
    cases gk with
    | zero => exact absurd HA.out (by simp [r5_ends.l0])
    | succ k1 =>
     have H := HA.out
     clear HA
     simp only [r5_ends.l0] at H
     by_cases c11 : x28_1 < (l1.length : Int)
     rotate_left
     · rw [if_neg c11] at H
       have c11b0 : decide (x28_1 < (l1.length : Int)) = false := decide_eq_false c11
       clear c11
       obtain rfl := Option.some.inj H
       go_wp2
       first | go_ret | refine ⟨_, results_tmp rfl _ _ _, ?_⟩
       exact ⟨_, by first | rfl | (simp [errW_none, errW_some] <;> rfl) | (simp [*, errW_none, errW_some] <;> rfl), by (with_reducible repeat (first | apply kA | apply kN | apply kD)); exact HO_7.out, by repeat (first | (with_reducible first | exact HB.out | apply blA | apply blN | apply blD | refine bS ?_ GE307.out) | exact HB.out)⟩
     rw [if_pos c11] at H
     have c11b0 : decide (x28_1 < (l1.length : Int)) = true := decide_eq_true c11
     clear c11
     have c12 := ifn_ H
     rw [if_pos c12] at H
     have c12b0 : decide (0 ≤ x28_1) = true := decide_eq_true c12
     clear c12
     have c13 := ifn_ H
     rw [if_pos c13] at H
     have c13b0 : decide (x28_1 < (l1.length : Int)) = true := decide_eq_true c13
     clear c13
     have c14 := ifn_ H
     rw [if_pos c14] at H
     have c14b0 : decide (x28_1 < (l2.length : Int)) = true := decide_eq_true c14
     clear c14
     obtain ⟨bq15, hbq15⟩ : ∃ b_ : Bool, b_ = (rdOf false l2 x28_1) := ⟨_, rfl⟩
     replace H : (if bq15 = true then ((r1_In.f k1 l0_1 (rd l1 x28_1)).bind fun t313 => (if t313 = true then (if 0 ≤ (wrap64 (x28_1 + 1)) then (if (wrap64 (x28_1 + 1)) < (x7_1.length : Int) then (r5_ends.l0 k1 l2 (x7_1.set ((wrap64 (x28_1 + 1)) : Int).toNat true) l1 (l1.length : Int) (wrap64 (x28_1 + 1)) a0_0 l0_1 l0_2) else (none)) else (none)) else (r5_ends.l0 k1 l2 x7_1 l1 (l1.length : Int) (wrap64 (x28_1 + 1)) a0_0 l0_1 l0_2))) else (r5_ends.l0 k1 l2 x7_1 l1 (l1.length : Int) (wrap64 (x28_1 + 1)) a0_0 l0_1 l0_2)) = some r := by rw [← hbq15] at H; exact H
     have Nbq15 := aM hbq15
     clear hbq15
     by_cases c16 : bq15 = true
     rotate_left
     · replace c16 := Bool.eq_false_iff.mpr c16
       subst c16
       rw [if_neg (show ¬ (false = true) by decide)] at H
       have H' := aM H
       clear H
       have p311 : 0 ≤ (x28_1 : Int) := od_
       have q311 : x28_1 < (l1.length : Int) := od_
       obtain ⟨ad311, e311, hx311_0⟩ := Kd.at_int HR1.out x28_1 p311 q311
       cases e311
       replace hx311_0 := hx_ HB hx311_0
       replace p311 := eq_true p311
       replace q311 := eq_true q311
       have p312 : 0 ≤ (x28_1 : Int) := od_
       have q312 : x28_1 < (l2.length : Int) := od_
       obtain ⟨ad312, e312, hx312_0⟩ := Kd.at_bool HR2.out x28_1 p312 q312
       (try rw [← Nbq15.out] at hx312_0)
       cases e312
       replace hx312_0 := hx_ HB hx312_0
       replace p312 := eq_true p312
       replace q312 := eq_true q312
       go_wp2
       go_roundg k1
       case measure => have := HK1.out; omega
       case rel => exact ⟨(x7_1), (wrap64 (x28_1 + 1)), rf_, H', ⟨by have := HK1.out; omega⟩, ⟨by (with_reducible repeat (first | apply kA | apply kN | apply kD)); exact HO_7.out⟩, ⟨ub_ BK307.out⟩, ⟨bw_ HB.out⟩⟩
     subst c16
     rw [if_pos rfl] at H
     obtain ⟨t313, A17, H⟩ := bnd_ H
     by_cases c18 : t313 = true
     rotate_left
     · replace c18 := Bool.eq_false_iff.mpr c18
       subst c18
       rw [if_neg (show ¬ (false = true) by decide)] at H
       have H' := aM H
       clear H
       have p311 : 0 ≤ (x28_1 : Int) := od_
       have q311 : x28_1 < (l1.length : Int) := od_
       obtain ⟨ad311, e311, hx311_0⟩ := Kd.at_int HR1.out x28_1 p311 q311
       cases e311
       replace hx311_0 := hx_ HB hx311_0
       replace p311 := eq_true p311
       replace q311 := eq_true q311
       have p312 : 0 ≤ (x28_1 : Int) := od_
       have q312 : x28_1 < (l2.length : Int) := od_
       obtain ⟨ad312, e312, hx312_0⟩ := Kd.at_bool HR2.out x28_1 p312 q312
       (try rw [← Nbq15.out] at hx312_0)
       cases e312
       replace hx312_0 := hx_ HB hx312_0
       replace p312 := eq_true p312
       replace q312 := eq_true q312
       obtain ⟨hcz27_0, hcz27_1, hcz27_2, hfz27_0, hfz27_1, hfz27_2⟩ := bc3_ BK307
       go_wp2_with (first | (go_at_call 101; (with_reducible refine (r1_In.calls k1 _ _ l0_1 (rd l1 x28_1) false _ ?side1 ?side2 A17.out).mono ?_); (case side1 => exact cB_ HR0_1 HB); (case side2 => exact HC0_1.out); rintro e w28 ⟨rfl, hb⟩; replace HO_7 := aM (Kd.R_below (uk_ HO_7.out) hb); replace BK307 := bb_ BK307 hb; replace HB := bs_ HB hb; clear hb))
       go_roundg k1
       case measure => have := HK1.out; omega
       case rel => exact ⟨(x7_1), (wrap64 (x28_1 + 1)), rf_, H', ⟨by have := HK1.out; omega⟩, ⟨by (with_reducible repeat (first | apply kA | apply kN | apply kD)); exact HO_7.out⟩, ⟨ub_ BK307.out⟩, ⟨bw_ HB.out⟩⟩
     subst c18
     rw [if_pos rfl] at H
     obtain ⟨ji19, hji19⟩ : ∃ j_ : Int, (wrap64 (x28_1 + 1)) = j_ := ⟨_, rfl⟩
     replace H : (if 0 ≤ (ji19) then (if (ji19) < (x7_1.length : Int) then (r5_ends.l0 k1 l2 (x7_1.set ((ji19) : Int).toNat true) l1 (l1.length : Int) ji19 a0_0 l0_1 l0_2) else (none)) else (none)) = some r := by first | (rw [hji19] at H; exact H) | (simp only [hji19] at H ⊢; exact H)
     (try rw [hji19] at A17)
     have hji19w : (IntKind.i64.wrap (x28_1 + 1)) = ji19 := (i64_w _).trans hji19
     have c20 := ifn_ H
     rw [if_pos c20] at H
     have c20b0 : decide (0 ≤ (ji19)) = true := decide_eq_true c20
     clear c20
     have c21 := ifn_ H
     rw [if_pos c21] at H
     have c21b0 : decide ((ji19) < (x7_1.length : Int)) = true := decide_eq_true c21
     clear c21
     obtain ⟨y314, hy314⟩ : ∃ y_ : List Bool, y_ = (x7_1.set ((ji19) : Int).toNat true) := ⟨_, rfl⟩
     replace H : (r5_ends.l0 k1 l2 y314 l1 (l1.length : Int) ji19 a0_0 l0_1 l0_2) = some r := by first | (rw [hy314]; with_reducible exact H) | (have H2_ := (Option.bind_some _ _).symm.trans H; rw [hy314]; with_reducible exact H2_) | (have H2_ := (Option.bind_some _ _).symm.trans H; with_reducible exact H2_) | with_reducible exact H | (rw [hy314]; exact H) | exact H
     have Ny314 := aM hy314
     clear hy314
     have H' := aM H
     clear H
     have p311 : 0 ≤ (x28_1 : Int) := od_
     have q311 : x28_1 < (l1.length : Int) := od_
     obtain ⟨ad311, e311, hx311_0⟩ := Kd.at_int HR1.out x28_1 p311 q311
     cases e311
     replace hx311_0 := hx_ HB hx311_0
     replace p311 := eq_true p311
     replace q311 := eq_true q311
     have p312 : 0 ≤ (x28_1 : Int) := od_
     have q312 : x28_1 < (l2.length : Int) := od_
     obtain ⟨ad312, e312, hx312_0⟩ := Kd.at_bool HR2.out x28_1 p312 q312
     (try rw [← Nbq15.out] at hx312_0)
     cases e312
     replace hx312_0 := hx_ HB hx312_0
     replace p312 := eq_true p312
     replace q312 := eq_true q312
     obtain ⟨hcz23_0, hcz23_1, hcz23_2, hfz23_0, hfz23_1, hfz23_2⟩ := bc3_ BK307
     go_wp2_with (first | (go_at_call 101; (with_reducible refine (r1_In.calls k1 _ _ l0_1 (rd l1 x28_1) true _ ?side1 ?side2 A17.out).mono ?_); (case side1 => exact cB_ HR0_1 HB); (case side2 => exact HC0_1.out); rintro e w24 ⟨rfl, hb⟩; replace HO_7 := aM (Kd.R_below (uk_ HO_7.out) hb); replace BK307 := bb_ BK307 hb; replace HB := bs_ HB hb; clear hb; have p22 : 0 ≤ ((ji19) : Int) := od_; have q22 : ((ji19) : Int) < ((x7_1.length : Int) : Int) := od_; obtain ⟨go22, co22, eo22, gb22, gl22, cl22, HG22⟩ := Kd.R_form HO_7.out (by omega); (first | cases eo22 | (injection eo22 with ea_ en_ ec_; (first | subst ea_ | (injection ea_ with ea_; subst ea_)); subst ec_; clear en_)); have GB22 := aM gb22; have GG22 := aM HG22; clear gb22 gl22 HG22; obtain ⟨hx22_0, hf22_0⟩ := Kd.R_celln false HO_7.out ((ji19) : Int) p22 q22; replace p22 := eq_true p22; replace q22 := eq_true q22; obtain ⟨hy25_, hz25_⟩ := Kd.R_celln false HO_7.out ((ji19) : Int) (of_decide_eq_true (by first | (with_reducible assumption) | assumption)) (of_decide_eq_true (by first | (with_reducible assumption) | assumption)); have HP25 := Kd.R_putg HO_7.out ((ji19) : Int) true) | ((with_reducible refine gate_store (t := 4) (p := 46) rfl ?_); refine store_event (t := 4) (p := 46) (v := ?vo_w26) (w1 := (w24.setCell ⟨go22, ((ji19) : Int).toNat, none⟩ (.bool true))) ?hg ?ho ?hn ?hr ?_; (case ho => rfl); (case hg => rfl); (case hn => rfl); (case hr => first | (go_simp; done) | (go_simp; rfl)); intro w26 hw; have hg : w24.grownBy w26 (some go22) := (by rw [hw]; exact HP25.2); have hp_ : Kd.R Kd.bool 4 w26 w.heap.size (fun _ => True) (.slice (some ⟨go22, 0, none⟩) x7_1.length co22) y314 := (by rw [hw, Ny314.out]; exact HP25.1); clear HP25; replace BK307 := aM (blk_grown (g := gb307) (o := .cells #[.int .i64 a0_0, .slice A0_1 l0_1.length c0_1, .slice A0_2 l0_2.length c0_2] 25 (0, 0)) (ub_ BK307.out) hg (Kd.R_ne HO_7.out BK307.out (by decide))); replace HO_7 := aM hp_; replace HB := aM ((by rw [hw]; exact below_set (HB.out) GB22.out : Below w.heap.size w w26)); clear hg hw hp_))
     go_roundg k1
     case measure => have := HK1.out; omega
     case rel => exact ⟨(y314), (ji19), (by first | rfl | (simp; done) | (simp only [← hji19] <;> (first | rfl | simp)) | (simp [*]; done)), H', ⟨by have := HK1.out; omega⟩, ⟨by (with_reducible repeat (first | apply kA | apply kN | apply kD)); exact HO_7.out⟩, ⟨ub_ BK307.out⟩, ⟨bw_ HB.out⟩⟩
 rw [if_neg c6] at H
 have c6b0 : (a0_0 == 1) = false := beq_eq_false_iff_ne.mpr c6
 have c6b1 : (a0_0 != 1) = true := bne_iff_ne.mpr c6
 by_cases c29 : a0_0 = 2
 · rw [if_pos c29] at H
   have c29b0 : (a0_0 == 2) = true := beq_iff_eq.mpr c29
   have c29b1 : (a0_0 != 2) = false := bne_eq_false_iff_eq.mpr c29
   clear c29
   obtain ⟨y315, hy315⟩ : ∃ y_ : List Bool, y_ = (l2.take (min l2.length y308.length) ++ y308.drop (min l2.length y308.length)) := ⟨_, rfl⟩
   replace H : (r5_ends.l1 k l1 y315 l0_2 (l0_2.length : Int) 0) = some r := by first | (rw [hy315]; with_reducible exact H) | (have H2_ := (Option.bind_some _ _).symm.trans H; rw [hy315]; with_reducible exact H2_) | (have H2_ := (Option.bind_some _ _).symm.trans H; with_reducible exact H2_) | with_reducible exact H | (rw [hy315]; exact H) | exact H
   have Ny315 := aM hy315
   clear hy315
   have H' := aM H
   clear H
   go_enter Try.func83, Try.ntmps83
   go_wp2_with (first | ((with_reducible refine gd_ 3 rfl ?_); refine be_ #[.int .i64 a0_0, .slice A0_1 l0_1.length c0_1, .slice A0_2 l0_2.length c0_2] 25 ?_; intro gb307 hg w30 BK307 hb; have GW307 := ge_ HB hg; have GE307 := ge_ HB hg; replace HB := bs_ HB hb; clear hb hg) | ((with_reducible refine gd_ 21 rfl ?_); refine Kd.R_make Kd.bool _ 4 rfl (N := 21) rfl 108 _ _ rfl (l2.length : Int) rfl rfl Try.underlying108 (.bool false) 1 info4 rfl (by decide) (by omega) false (ok := fun _ => True) (okp := fun _ => True) rfl (fun _ hk => hk) trivial (of_decide_eq_true (by first | (with_reducible assumption) | assumption)) (Nat.le_trans (Nat.mul_le_mul_right _ (of_decide_eq_true (by first | (with_reducible assumption) | assumption) : (l2.length : Int).toNat ≤ 281474976710656)) (by omega)) (Below.refl _ _) (Nat.le_refl _) ?_; intro v309 w31 ho32 hb hg_ hnew_; clear hg_ hnew_; (first | rw [← Ny308.out] at ho32 | (simp only [Int.reduceToNat] at ho32; rw [← Ny308.out] at ho32)); have HO310 := aM (Kd.R_lower ho32 (below_size (bw_ HB.out))); replace BK307 := bb_ BK307 hb; replace HB := bs_ HB hb; clear hb ho32; obtain ⟨hcz33_0, hcz33_1, hcz33_2, hfz33_0, hfz33_1, hfz33_2⟩ := bc3_ BK307; obtain ⟨Ao35, co35, eo35⟩ := Kd.R_slice HO310.out; subst eo35) | ((with_reducible refine gate_builtin (b := .copy) (xs := #[.tmp 50, .tmp 51]) rfl ?_); refine Kd.R_copy (enc := Value.bool) (h1 := fun _ => rfl) false (w0 := w) w.heap.size rfl (.tmp 50) (.tmp 51) 108 108 4 rfl Try.underlying108 (by kernel_rfl) (.slice Ao35 y308.length co35) y308 l2 _ _ _ (fun _ => True) rfl rfl ?aO ?aR ?aB ?aS ?_; (case aR => exact cB_ HR2 HB); (case aB => exact (bw_ HB.out)); (case aO => exact (uk_ HO310.out)); (case aS => exact (below_size (bw_ HB.out))); intro w34 ho hb hg; have hat := (Or.inl rfl : ((.slice Ao35 y308.length co35) : Value).ownBlock = ((.slice Ao35 y308.length co35) : Value).ownBlock ∨ ∃ b_, ((.slice Ao35 y308.length co35) : Value).ownBlock = some b_ ∧ 0 ≤ b_); rw [← Ny315.out] at ho; have HO317 := aM ho; replace BK307 := aM (blk_grown (g := gb307) (o := .cells #[.int .i64 a0_0, .slice A0_1 l0_1.length c0_1, .slice A0_2 l0_2.length c0_2] 25 (0, 0)) (ub_ BK307.out) hg (Kd.R_ne HO310.out BK307.out (by decide))); replace HB := aM hb; clear HO310; clear ho hb hg hat; obtain ⟨hcz36_0, hcz36_1, hcz36_2, hfz36_0, hfz36_1, hfz36_2⟩ := bc3_ BK307))
   go_loopg [7, 56] k (fun kq v7 v56 w' => ∃ (x7_1 : List Bool) (x56_1 : Int), v56 = .int .i64 x56_1 ∧ Aside0 (r5_ends.l1 kq l1 x7_1 l0_2 (l0_2.length : Int) x56_1 = some r) ∧ Aside0 (kq ≤ k) ∧ Aside0 (Kd.R Kd.bool 4 w' w.heap.size (fun _ => True) v7 x7_1) ∧ Aside0 (w'.heap[gb307]? = some (.cells #[.int .i64 a0_0, (.slice A0_1 l0_1.length c0_1), (.slice A0_2 l0_2.length c0_2)] 25 (0, 0))) ∧ Aside0 (Below w.heap.size w w'))
   case atStart => exact ⟨(y315), (0), rf_, H', ⟨Nat.le_refl _⟩, ⟨by (with_reducible repeat (first | apply kA | apply kN | apply kD)); exact HO317.out⟩, ⟨ub_ BK307.out⟩, ⟨bw_ HB.out⟩⟩
   case round =>
    clear H'
    obtain ⟨x7_1, x56_1, rfl, HA, HK1, HO_7, BK307, HB⟩ := hrel
    cases gk with
    | zero => exact absurd HA.out (by simp [r5_ends.l1])
    | succ k1 =>
     have H := HA.out
     clear HA
     simp only [r5_ends.l1] at H
     by_cases c37 : x56_1 < (l0_2.length : Int)
     rotate_left
     · rw [if_neg c37] at H
       have c37b0 : decide (x56_1 < (l0_2.length : Int)) = false := decide_eq_false c37
       clear c37
       obtain rfl := Option.some.inj H
       go_wp2
       first | go_ret | refine ⟨_, results_tmp rfl _ _ _, ?_⟩
       exact ⟨_, by first | rfl | (simp [errW_none, errW_some] <;> rfl) | (simp [*, errW_none, errW_some] <;> rfl), by (with_reducible repeat (first | apply kA | apply kN | apply kD)); exact HO_7.out, by repeat (first | (with_reducible first | exact HB.out | apply blA | apply blN | apply blD | refine bS ?_ GE307.out) | exact HB.out)⟩
     rw [if_pos c37] at H
     have c37b0 : decide (x56_1 < (l0_2.length : Int)) = true := decide_eq_true c37
     clear c37
     have c38 := ifn_ H
     rw [if_pos c38] at H
     have c38b0 : decide (0 ≤ x56_1) = true := decide_eq_true c38
     clear c38
     have c39 := ifn_ H
     rw [if_pos c39] at H
     have c39b0 : decide (x56_1 < (l0_2.length : Int)) = true := decide_eq_true c39
     clear c39
     obtain ⟨t320, A40, H⟩ := bnd_ H
     have H' := aM H
     clear H
     have p318 : 0 ≤ (x56_1 : Int) := od_
     have q318 : x56_1 < (l0_2.length : Int) := od_
     obtain ⟨ad318, A318_1, c318_1, A318_2, c318_2, e318, hx318_0, hx318_1, hx318_2, hl318_1, hi318_1, hl318_2, hi318_2⟩ := at_T25 HR0_2.out x56_1 p318 q318
     cases e318
     replace hx318_0 := hx_ HB hx318_0
     replace hx318_1 := hx_ HB hx318_1
     replace hx318_2 := hx_ HB hx318_2
     have HR318_1 := aM hi318_1
     have HC318_1 := aM hl318_1
     clear hi318_1 hl318_1
     have HR318_2 := aM hi318_2
     have HC318_2 := aM hl318_2
     clear hi318_2 hl318_2
     replace p318 := eq_true p318
     replace q318 := eq_true q318
     go_wp2_with (first | ((with_reducible refine gd_ 11 rfl ?_); refine be_ #[.int .i64 0, .slice none 0 0, .slice none 0 0] 25 ?_; intro gb319 hg w41 BK319 hb; have GW319 := ge_ HB hg; have GE319 := ge_ HB hg; have NB307_319 := nl_ BK307 hg; have NB319_307 := ng_ BK307 hg; replace HO_7 := aM (Kd.R_below (uk_ HO_7.out) hb); replace BK307 := bb_ BK307 hb; replace HB := bs_ HB hb; clear hb hg; have hnb42 := NB319_307.out; have hnc42 := NB307_319.out; obtain ⟨hcz43_0, hcz43_1, hcz43_2, hfz43_0, hfz43_1, hfz43_2⟩ := bc3_ BK319; obtain ⟨Ao44, co44, eo44⟩ := Kd.R_slice HO_7.out; subst eo44) | ((with_reducible refine gf_ 83 rfl ?_); refine gL_ (some 63) rfl rfl Try.func83 #[.agg #[.int .i64 ((rd_T25 l0_2 x56_1).f0), .slice A318_1 ((rd_T25 l0_2 x56_1).f1).length c318_1, .slice A318_2 ((rd_T25 l0_2 x56_1).f2).length c318_2], .slice A1 l1.length c1, .slice Ao44 x7_1.length co44] rfl ?_; (with_reducible refine (ih k1 (by have := HK1.out; omega) ((rd_T25 l0_2 x56_1).f0) _ _ ((rd_T25 l0_2 x56_1).f1) _ _ ((rd_T25 l0_2 x56_1).f2) _ _ l1 _ _ x7_1 t320 _ ?side1 ?side2 ?side3 ?side4 ?side5 ?side6 ?side7 ?side8 A40.out).mono ?_); (case side1 => exact cB_ HR318_1 HB); (case side2 => exact HC318_1.out); (case side3 => exact cB_ HR318_2 HB); (case side4 => exact HC318_2.out); (case side5 => exact cB_ HR1 HB); (case side6 => exact HC1.out); (case side7 => refine (Kd.R_reads' (e := 4) (base := w.heap.size) (ok := fun k_ => True) (n := x7_1.length) (c := co44) ?_).2.2; exact (by (with_reducible repeat (first | apply kA | apply kN | apply kD)); exact (Kd.R_mono (Kd.R_far (p := ⟨gb319, 2, none⟩) (Kd.R_far (p := ⟨gb319, 1, none⟩) (Kd.R_far (p := ⟨gb319, 0, none⟩) (Kd.R_types HO_7.out BK319.out (by decide)) (fun _ hk => hk.2) (.int .i64 ((rd_T25 l0_2 x56_1).f0))) (fun _ hk => hk.2) (.slice A318_1 ((rd_T25 l0_2 x56_1).f1).length c318_1)) (fun _ hk => hk.2) (.slice A318_2 ((rd_T25 l0_2 x56_1).f2).length c318_2)) (fun _ h_ => h_.1)))); (case side8 => exact (Kd.R_reads' HO_7.out).2.1); rintro e w45 ⟨v321, rfl, ho0, hb⟩; refine ⟨_, rfl, ?_⟩; have HO322 := aM (Kd.R_lower (Kd.R_new' ho0 (Kd.R_lt (by (with_reducible repeat (first | apply kA | apply kN | apply kD)); exact (Kd.R_mono (Kd.R_far (p := ⟨gb319, 2, none⟩) (Kd.R_far (p := ⟨gb319, 1, none⟩) (Kd.R_far (p := ⟨gb319, 0, none⟩) (Kd.R_types HO_7.out BK319.out (by decide)) (fun _ hk => hk.2) (.int .i64 ((rd_T25 l0_2 x56_1).f0))) (fun _ hk => hk.2) (.slice A318_1 ((rd_T25 l0_2 x56_1).f1).length c318_1)) (fun _ hk => hk.2) (.slice A318_2 ((rd_T25 l0_2 x56_1).f2).length c318_2)) (fun _ h_ => h_.1))))) (below_size (bw_ HB.out))); replace HO_7 := aM (Kd.R_elder' (by (with_reducible repeat (first | apply kA | apply kN | apply kD)); exact (Kd.R_mono (Kd.R_far (p := ⟨gb319, 2, none⟩) (Kd.R_far (p := ⟨gb319, 1, none⟩) (Kd.R_far (p := ⟨gb319, 0, none⟩) (Kd.R_types HO_7.out BK319.out (by decide)) (fun _ hk => hk.2) (.int .i64 ((rd_T25 l0_2 x56_1).f0))) (fun _ hk => hk.2) (.slice A318_1 ((rd_T25 l0_2 x56_1).f1).length c318_1)) (fun _ hk => hk.2) (.slice A318_2 ((rd_T25 l0_2 x56_1).f2).length c318_2)) (fun _ h_ => h_.1))) (Kd.R_base ho0) hb); replace BK307 := bb_ BK307 hb; replace BK319 := bp_ (.cells #[.int .i64 ((rd_T25 l0_2 x56_1).f0), .slice A318_1 ((rd_T25 l0_2 x56_1).f1).length c318_1, .slice A318_2 ((rd_T25 l0_2 x56_1).f2).length c318_2] 25 (0, 0)) BK319 hb; replace HB := bs_ HB hb; (try clear hb); (try clear hb2); (try clear hk); (try clear hi); (try clear ho0)))
     go_roundg k1
     case measure => have := HK1.out; omega
     case rel => exact ⟨(t320), (wrap64 (x56_1 + 1)), rf_, H', ⟨by have := HK1.out; omega⟩, ⟨by (with_reducible repeat (first | apply kA | apply kN | apply kD)); exact Kd.R_mono HO322.out (fun _ hk => trivial)⟩, ⟨ub_ BK307.out⟩, ⟨bw_ HB.out⟩⟩
 rw [if_neg c29] at H
 have c29b0 : (a0_0 == 2) = false := beq_eq_false_iff_ne.mpr c29
 have c29b1 : (a0_0 != 2) = true := bne_iff_ne.mpr c29
 by_cases c46 : a0_0 = 3
 · rw [if_pos c46] at H
   have c46b0 : (a0_0 == 3) = true := beq_iff_eq.mpr c46
   have c46b1 : (a0_0 != 3) = false := bne_eq_false_iff_eq.mpr c46
   clear c46
   have H' := aM H
   clear H
   go_enter Try.func83, Try.ntmps83
   go_wp2_with (first | ((with_reducible refine gd_ 3 rfl ?_); refine be_ #[.int .i64 a0_0, .slice A0_1 l0_1.length c0_1, .slice A0_2 l0_2.length c0_2] 25 ?_; intro gb307 hg w47 BK307 hb; have GW307 := ge_ HB hg; have GE307 := ge_ HB hg; replace HB := bs_ HB hb; clear hb hg) | ((with_reducible refine gd_ 21 rfl ?_); refine Kd.R_make Kd.bool _ 4 rfl (N := 21) rfl 108 _ _ rfl (l2.length : Int) rfl rfl Try.underlying108 (.bool false) 1 info4 rfl (by decide) (by omega) false (ok := fun _ => True) (okp := fun _ => True) rfl (fun _ hk => hk) trivial (of_decide_eq_true (by first | (with_reducible assumption) | assumption)) (Nat.le_trans (Nat.mul_le_mul_right _ (of_decide_eq_true (by first | (with_reducible assumption) | assumption) : (l2.length : Int).toNat ≤ 281474976710656)) (by omega)) (Below.refl _ _) (Nat.le_refl _) ?_; intro v309 w48 ho49 hb hg_ hnew_; clear hg_ hnew_; (first | rw [← Ny308.out] at ho49 | (simp only [Int.reduceToNat] at ho49; rw [← Ny308.out] at ho49)); have HO310 := aM (Kd.R_lower ho49 (below_size (bw_ HB.out))); replace BK307 := bb_ BK307 hb; replace HB := bs_ HB hb; clear hb ho49; obtain ⟨hcz50_0, hcz50_1, hcz50_2, hfz50_0, hfz50_1, hfz50_2⟩ := bc3_ BK307))
   go_loopg [70] k (fun kq v70 w' => ∃ (x7_1 : List Bool) (x70_1 : Int), v70 = .int .i64 x70_1 ∧ Aside0 (r5_ends.l2 kq l1 l2 x7_1 l0_2 (l0_2.length : Int) x70_1 = some r) ∧ Aside0 (kq ≤ k) ∧ Aside0 (Kd.R Kd.bool 4 w' w.heap.size (fun _ => True) v309 x7_1) ∧ Aside0 (w'.heap[gb307]? = some (.cells #[.int .i64 a0_0, (.slice A0_1 l0_1.length c0_1), (.slice A0_2 l0_2.length c0_2)] 25 (0, 0))) ∧ Aside0 (Below w.heap.size w w'))
   case atStart => exact ⟨(y308), (0), rf_, H', ⟨Nat.le_refl _⟩, ⟨by (with_reducible repeat (first | apply kA | apply kN | apply kD)); exact HO310.out⟩, ⟨ub_ BK307.out⟩, ⟨bw_ HB.out⟩⟩
   case round =>
    clear H'
    obtain ⟨x7_1, x70_1, rfl, HA, HK1, HO_7, BK307, HB⟩ := hrel
    cases gk with
    | zero => exact absurd HA.out (by simp [r5_ends.l2])
    | succ k1 =>
     have H := HA.out
     clear HA
     simp only [r5_ends.l2] at H
     by_cases c51 : x70_1 < (l0_2.length : Int)
     rotate_left
     · rw [if_neg c51] at H
       have c51b0 : decide (x70_1 < (l0_2.length : Int)) = false := decide_eq_false c51
       clear c51
       obtain rfl := Option.some.inj H
       go_wp2
       first | go_ret | refine ⟨_, results_tmp rfl _ _ _, ?_⟩
       exact ⟨_, by first | rfl | (simp [errW_none, errW_some] <;> rfl) | (simp [*, errW_none, errW_some] <;> rfl), by (with_reducible repeat (first | apply kA | apply kN | apply kD)); exact HO_7.out, by repeat (first | (with_reducible first | exact HB.out | apply blA | apply blN | apply blD | refine bS ?_ GE307.out) | exact HB.out)⟩
     rw [if_pos c51] at H
     have c51b0 : decide (x70_1 < (l0_2.length : Int)) = true := decide_eq_true c51
     clear c51
     have c52 := ifn_ H
     rw [if_pos c52] at H
     have c52b0 : decide (0 ≤ x70_1) = true := decide_eq_true c52
     clear c52
     have c53 := ifn_ H
     rw [if_pos c53] at H
     have c53b0 : decide (x70_1 < (l0_2.length : Int)) = true := decide_eq_true c53
     clear c53
     obtain ⟨t325, A54, H⟩ := bnd_ H
     have H' := aM H
     clear H
     have p323 : 0 ≤ (x70_1 : Int) := od_
     have q323 : x70_1 < (l0_2.length : Int) := od_
     obtain ⟨ad323, A323_1, c323_1, A323_2, c323_2, e323, hx323_0, hx323_1, hx323_2, hl323_1, hi323_1, hl323_2, hi323_2⟩ := at_T25 HR0_2.out x70_1 p323 q323
     cases e323
     replace hx323_0 := hx_ HB hx323_0
     replace hx323_1 := hx_ HB hx323_1
     replace hx323_2 := hx_ HB hx323_2
     have HR323_1 := aM hi323_1
     have HC323_1 := aM hl323_1
     clear hi323_1 hl323_1
     have HR323_2 := aM hi323_2
     have HC323_2 := aM hl323_2
     clear hi323_2 hl323_2
     replace p323 := eq_true p323
     replace q323 := eq_true q323
     go_wp2_with (first | ((with_reducible refine gd_ 13 rfl ?_); refine be_ #[.int .i64 0, .slice none 0 0, .slice none 0 0] 25 ?_; intro gb324 hg w55 BK324 hb; have GW324 := ge_ HB hg; have GE324 := ge_ HB hg; have NB307_324 := nl_ BK307 hg; have NB324_307 := ng_ BK307 hg; replace HO_7 := aM (Kd.R_below (uk_ HO_7.out) hb); replace BK307 := bb_ BK307 hb; replace HB := bs_ HB hb; clear hb hg; have hnb56 := NB324_307.out; have hnc56 := NB307_324.out; obtain ⟨hcz57_0, hcz57_1, hcz57_2, hfz57_0, hfz57_1, hfz57_2⟩ := bc3_ BK324) | ((with_reducible refine gf_ 83 rfl ?_); refine gL_ (some 77) rfl rfl Try.func83 #[.agg #[.int .i64 ((rd_T25 l0_2 x70_1).f0), .slice A323_1 ((rd_T25 l0_2 x70_1).f1).length c323_1, .slice A323_2 ((rd_T25 l0_2 x70_1).f2).length c323_2], .slice A1 l1.length c1, .slice A2 l2.length c2] rfl ?_; (with_reducible refine (ih k1 (by have := HK1.out; omega) ((rd_T25 l0_2 x70_1).f0) _ _ ((rd_T25 l0_2 x70_1).f1) _ _ ((rd_T25 l0_2 x70_1).f2) _ _ l1 _ _ l2 t325 _ ?side1 ?side2 ?side3 ?side4 ?side5 ?side6 ?side7 ?side8 A54.out).mono ?_); (case side1 => exact cB_ HR323_1 HB); (case side2 => exact HC323_1.out); (case side3 => exact cB_ HR323_2 HB); (case side4 => exact HC323_2.out); (case side5 => exact cB_ HR1 HB); (case side6 => exact HC1.out); (case side7 => exact cB_ HR2 HB); (case side8 => exact HC2.out); rintro e w58 ⟨v326, rfl, ho0, hb⟩; refine ⟨_, rfl, ?_⟩; have HO327 := aM (Kd.R_lower (Kd.R_new' ho0 (Kd.R_lt (by (with_reducible repeat (first | apply kA | apply kN | apply kD)); exact (Kd.R_mono (Kd.R_far (p := ⟨gb324, 2, none⟩) (Kd.R_far (p := ⟨gb324, 1, none⟩) (Kd.R_far (p := ⟨gb324, 0, none⟩) (Kd.R_types HO_7.out BK324.out (by decide)) (fun _ hk => hk.2) (.int .i64 ((rd_T25 l0_2 x70_1).f0))) (fun _ hk => hk.2) (.slice A323_1 ((rd_T25 l0_2 x70_1).f1).length c323_1)) (fun _ hk => hk.2) (.slice A323_2 ((rd_T25 l0_2 x70_1).f2).length c323_2)) (fun _ h_ => h_.1))))) (below_size (bw_ HB.out))); replace HO_7 := aM (Kd.R_elder' (by (with_reducible repeat (first | apply kA | apply kN | apply kD)); exact (Kd.R_mono (Kd.R_far (p := ⟨gb324, 2, none⟩) (Kd.R_far (p := ⟨gb324, 1, none⟩) (Kd.R_far (p := ⟨gb324, 0, none⟩) (Kd.R_types HO_7.out BK324.out (by decide)) (fun _ hk => hk.2) (.int .i64 ((rd_T25 l0_2 x70_1).f0))) (fun _ hk => hk.2) (.slice A323_1 ((rd_T25 l0_2 x70_1).f1).length c323_1)) (fun _ hk => hk.2) (.slice A323_2 ((rd_T25 l0_2 x70_1).f2).length c323_2)) (fun _ h_ => h_.1))) (Kd.R_base ho0) hb); replace BK307 := bb_ BK307 hb; replace BK324 := bp_ (.cells #[.int .i64 ((rd_T25 l0_2 x70_1).f0), .slice A323_1 ((rd_T25 l0_2 x70_1).f1).length c323_1, .slice A323_2 ((rd_T25 l0_2 x70_1).f2).length c323_2] 25 (0, 0)) BK324 hb; replace HB := bs_ HB hb; (try clear hb); (try clear hb2); (try clear hk); (try clear hi); (try clear ho0); obtain ⟨Ao59, co59, eo59⟩ := Kd.R_slice HO327.out; subst eo59))
     go_loopg [79] k1 (fun kq v79 w' => ∃ (x7_2 : List Bool) (x79_2 : Int), v79 = .int .i64 x79_2 ∧ Aside0 (r5_ends.l3 kq l1 l2 x7_2 l0_2 (l0_2.length : Int) x70_1 t325 (t325.length : Int) x79_2 = some r) ∧ Aside0 (kq ≤ k1) ∧ Aside0 (Kd.R Kd.bool 4 w' w.heap.size (fun k_ => some k_ ≠ ((.slice Ao59 t325.length co59) : Value).ownBlock) v309 x7_2) ∧ Aside0 (Kd.R Kd.bool 4 w' w.heap.size (fun k_ => some k_ ≠ (v309 : Value).ownBlock) (.slice Ao59 t325.length co59) t325) ∧ Aside0 (w'.heap[gb307]? = some (.cells #[.int .i64 a0_0, (.slice A0_1 l0_1.length c0_1), (.slice (some ad323) l0_2.length c0_2)] 25 (0, 0))) ∧ Aside0 (w'.heap[gb324]? = some (.cells #[.int .i64 ((rd_T25 l0_2 x70_1).f0), (.slice A323_1 ((rd_T25 l0_2 x70_1).f1).length c323_1), (.slice A323_2 ((rd_T25 l0_2 x70_1).f2).length c323_2)] 25 (0, 0))) ∧ Aside0 (Below w.heap.size w w'))
     case atStart => exact ⟨(x7_1), (0), rf_, H', ⟨Nat.le_refl _⟩, ⟨by (with_reducible repeat (first | apply kA | apply kN | apply kD)); exact Kd.R_mono HO_7.out (fun _ hk => hk.2)⟩, ⟨by (with_reducible repeat (first | apply kA | apply kN | apply kD)); exact Kd.R_mono HO327.out (fun _ hk => hk.2)⟩, ⟨ub_ BK307.out⟩, ⟨ub_ BK324.out⟩, ⟨bw_ HB.out⟩⟩
     case round =>
      clear H'
      obtain ⟨x7_2, x79_2, rfl, HA, HK2, HO_7, HO_77, BK307, BK324, HB⟩ := hrel
      cases gk with
      | zero => exact absurd HA.out (by simp [r5_ends.l3])
      | succ k2 =>
       have H := HA.out
       clear HA
       simp only [r5_ends.l3] at H
       by_cases c60 : x79_2 < (t325.length : Int)
       rotate_left
       · rw [if_neg c60] at H
         have c60b0 : decide (x79_2 < (t325.length : Int)) = false := decide_eq_false c60
         clear c60
         have H' := aM H
         clear H
         go_wp2
         go_roundg k2
         case measure => have := HK1.out; have := HK2.out; omega
         case rel => exact ⟨(x7_2), (wrap64 (x70_1 + 1)), rf_, H', ⟨by have := HK1.out; have := HK2.out; omega⟩, ⟨by (with_reducible repeat (first | apply kA | apply kN | apply kD)); exact Kd.R_mono HO_7.out (fun _ hk => trivial)⟩, ⟨ub_ BK307.out⟩, ⟨bw_ HB.out⟩⟩
       rw [if_pos c60] at H
       have c60b0 : decide (x79_2 < (t325.length : Int)) = true := decide_eq_true c60
       clear c60
       have c61 := ifn_ H
       rw [if_pos c61] at H
       have c61b0 : decide (0 ≤ x79_2) = true := decide_eq_true c61
       clear c61
       have c62 := ifn_ H
       rw [if_pos c62] at H
       have c62b0 : decide (x79_2 < (t325.length : Int)) = true := decide_eq_true c62
       clear c62
       have c63 := ifn_ H
       rw [if_pos c63] at H
       have c63b0 : decide (x79_2 < (x7_2.length : Int)) = true := decide_eq_true c63
       clear c63
       obtain ⟨bq64, hbq64⟩ : ∃ b_ : Bool, b_ = (rdOf false x7_2 x79_2) := ⟨_, rfl⟩
       replace H : (if bq64 = true then (r5_ends.l3 k2 l1 l2 (x7_2.set (x79_2 : Int).toNat true) l0_2 (l0_2.length : Int) x70_1 t325 (t325.length : Int) (wrap64 (x79_2 + 1))) else (r5_ends.l3 k2 l1 l2 (x7_2.set (x79_2 : Int).toNat (rdOf false t325 x79_2)) l0_2 (l0_2.length : Int) x70_1 t325 (t325.length : Int) (wrap64 (x79_2 + 1)))) = some r := by rw [← hbq64] at H; exact H
       have Nbq64 := aM hbq64
       clear hbq64
       by_cases c65 : bq64 = true
       · subst c65
         rw [if_pos rfl] at H
         obtain ⟨y330, hy330⟩ : ∃ y_ : List Bool, y_ = (x7_2.set (x79_2 : Int).toNat true) := ⟨_, rfl⟩
         replace H : (r5_ends.l3 k2 l1 l2 y330 l0_2 (l0_2.length : Int) x70_1 t325 (t325.length : Int) (wrap64 (x79_2 + 1))) = some r := by first | (rw [hy330]; with_reducible exact H) | (have H2_ := (Option.bind_some _ _).symm.trans H; rw [hy330]; with_reducible exact H2_) | (have H2_ := (Option.bind_some _ _).symm.trans H; with_reducible exact H2_) | with_reducible exact H | (rw [hy330]; exact H) | exact H
         have Ny330 := aM hy330
         clear hy330
         have H' := aM H
         clear H
         have p328 : 0 ≤ (x79_2 : Int) := od_
         have q328 : x79_2 < (t325.length : Int) := od_
         obtain ⟨ad328, e328, hx328_0⟩ := Kd.at_bool (Kd.R_reads' HO_77.out).2.2 x79_2 p328 q328
         (try rw [← Nbq64.out] at hx328_0)
         cases e328
         replace p328 := eq_true p328
         replace q328 := eq_true q328
         obtain ⟨Ao67, co67, eo67⟩ := Kd.R_slice HO_7.out
         subst eo67
         have p329 : 0 ≤ (x79_2 : Int) := od_
         have q329 : x79_2 < (x7_2.length : Int) := od_
         obtain ⟨ad329, e329, hx329_0⟩ := Kd.at_bool (Kd.R_reads' HO_7.out).2.2 x79_2 p329 q329
         (try rw [← Nbq64.out] at hx329_0)
         cases e329
         replace p329 := eq_true p329
         replace q329 := eq_true q329
         have p66 : 0 ≤ (x79_2 : Int) := od_
         have q66 : (x79_2 : Int) < ((x7_2.length : Int) : Int) := od_
         obtain ⟨go66, co66, eo66, gb66, gl66, cl66, HG66⟩ := Kd.R_form HO_7.out (by omega)
         (first | cases eo66 | (injection eo66 with ea_ en_ ec_; (first | subst ea_ | (injection ea_ with ea_; subst ea_)); subst ec_; clear en_))
         have GB66 := aM gb66
         have GG66 := aM HG66
         clear gb66 gl66 HG66
         (first | simp only [add_plain] at hx329_0 | skip)
         obtain ⟨hx66_0, hf66_0⟩ := Kd.R_celln false HO_7.out (x79_2 : Int) p66 q66
         replace p66 := eq_true p66
         replace q66 := eq_true q66
         have HP68 := Kd.R_putg HO_7.out (x79_2 : Int) true
         go_wp2_with (first | ((with_reducible refine gate_store (t := 4) (p := 93) rfl ?_); refine store_event (t := 4) (p := 93) (v := ?vo_w69) (w1 := (wr.setCell ⟨go66, (x79_2 : Int).toNat, none⟩ (.bool true))) ?hg ?ho ?hn ?hr ?_; (case ho => rfl); (case hg => rfl); (case hn => rfl); (case hr => first | (go_simp; done) | (go_simp; rfl)); intro w69 hw; have hg : wr.grownBy w69 (some go66) := (by rw [hw]; exact HP68.2); have hp_ : Kd.R Kd.bool 4 w69 w.heap.size (fun k_ => some k_ ≠ (.slice (some ad328) t325.length co59 : Value).ownBlock) (.slice (some ⟨go66, 0, none⟩) x7_2.length co67) y330 := (by rw [hw, Ny330.out]; exact HP68.1); clear HP68; replace HO_77 := aM (Kd.R_after (v := (.slice (some ⟨go66, 0, none⟩) x7_2.length co67)) (v1 := (.slice (some ⟨go66, 0, none⟩) x7_2.length co67)) (ok := (fun _ => True)) (by (with_reducible repeat (first | apply kA | apply kN | apply kD)); exact Kd.R_mono HO_77.out (fun _ hk => ⟨trivial, hk⟩)) hg (.inl rfl)); replace BK307 := aM (blk_grown (g := gb307) (o := .cells #[.int .i64 a0_0, .slice A0_1 l0_1.length c0_1, .slice (some ad323) l0_2.length c0_2] 25 (0, 0)) (ub_ BK307.out) hg (Kd.R_ne HO_7.out BK307.out (by decide))); replace BK324 := aM (blk_grown (g := gb324) (o := .cells #[.int .i64 ((rd_T25 l0_2 x70_1).f0), .slice A323_1 ((rd_T25 l0_2 x70_1).f1).length c323_1, .slice A323_2 ((rd_T25 l0_2 x70_1).f2).length c323_2] 25 (0, 0)) (ub_ BK324.out) hg (Kd.R_ne HO_7.out BK324.out (by decide))); replace HO_7 := aM hp_; replace HB := aM ((by rw [hw]; exact below_set (HB.out) GB66.out : Below w.heap.size w w69)); clear hg hw hp_))
         go_roundg k2
         case measure => have := HK1.out; have := HK2.out; omega
         case rel => exact ⟨(y330), (wrap64 (x79_2 + 1)), rf_, H', ⟨by have := HK1.out; have := HK2.out; omega⟩, ⟨by (with_reducible repeat (first | apply kA | apply kN | apply kD)); exact HO_7.out⟩, ⟨by (with_reducible repeat (first | apply kA | apply kN | apply kD)); exact Kd.R_mono HO_77.out (fun _ hk => hk.2)⟩, ⟨ub_ BK307.out⟩, ⟨ub_ BK324.out⟩, ⟨bw_ HB.out⟩⟩
       replace c65 := Bool.eq_false_iff.mpr c65
       subst c65
       rw [if_neg (show ¬ (false = true) by decide)] at H
       obtain ⟨y331, hy331⟩ : ∃ y_ : List Bool, y_ = (x7_2.set (x79_2 : Int).toNat (rdOf false t325 x79_2)) := ⟨_, rfl⟩
       replace H : (r5_ends.l3 k2 l1 l2 y331 l0_2 (l0_2.length : Int) x70_1 t325 (t325.length : Int) (wrap64 (x79_2 + 1))) = some r := by first | (rw [hy331]; with_reducible exact H) | (have H2_ := (Option.bind_some _ _).symm.trans H; rw [hy331]; with_reducible exact H2_) | (have H2_ := (Option.bind_some _ _).symm.trans H; with_reducible exact H2_) | with_reducible exact H | (rw [hy331]; exact H) | exact H
       have Ny331 := aM hy331
       clear hy331
       have H' := aM H
       clear H
       have p328 : 0 ≤ (x79_2 : Int) := od_
       have q328 : x79_2 < (t325.length : Int) := od_
       obtain ⟨ad328, e328, hx328_0⟩ := Kd.at_bool (Kd.R_reads' HO_77.out).2.2 x79_2 p328 q328
       (try rw [← Nbq64.out] at hx328_0)
       cases e328
       replace p328 := eq_true p328
       replace q328 := eq_true q328
       obtain ⟨Ao71, co71, eo71⟩ := Kd.R_slice HO_7.out
       subst eo71
       have p329 : 0 ≤ (x79_2 : Int) := od_
       have q329 : x79_2 < (x7_2.length : Int) := od_
       obtain ⟨ad329, e329, hx329_0⟩ := Kd.at_bool (Kd.R_reads' HO_7.out).2.2 x79_2 p329 q329
       (try rw [← Nbq64.out] at hx329_0)
       cases e329
       replace p329 := eq_true p329
       replace q329 := eq_true q329
       have p70 : 0 ≤ (x79_2 : Int) := od_
       have q70 : (x79_2 : Int) < ((x7_2.length : Int) : Int) := od_
       obtain ⟨go70, co70, eo70, gb70, gl70, cl70, HG70⟩ := Kd.R_form HO_7.out (by omega)
       (first | cases eo70 | (injection eo70 with ea_ en_ ec_; (first | subst ea_ | (injection ea_ with ea_; subst ea_)); subst ec_; clear en_))
       have GB70 := aM gb70
       have GG70 := aM HG70
       clear gb70 gl70 HG70
       (first | simp only [add_plain] at hx329_0 | skip)
       obtain ⟨hx70_0, hf70_0⟩ := Kd.R_celln false HO_7.out (x79_2 : Int) p70 q70
       replace p70 := eq_true p70
       replace q70 := eq_true q70
       have HP72 := Kd.R_putg HO_7.out (x79_2 : Int) (rdOf false t325 x79_2)
       go_wp2_with (first | ((with_reducible refine gate_store (t := 4) (p := 93) rfl ?_); refine store_event (t := 4) (p := 93) (v := ?vo_w73) (w1 := (wr.setCell ⟨go70, (x79_2 : Int).toNat, none⟩ (.bool (rdOf false t325 x79_2)))) ?hg ?ho ?hn ?hr ?_; (case ho => rfl); (case hg => rfl); (case hn => rfl); (case hr => first | (go_simp; done) | (go_simp; rfl)); intro w73 hw; have hg : wr.grownBy w73 (some go70) := (by rw [hw]; exact HP72.2); have hp_ : Kd.R Kd.bool 4 w73 w.heap.size (fun k_ => some k_ ≠ (.slice (some ad328) t325.length co59 : Value).ownBlock) (.slice (some ⟨go70, 0, none⟩) x7_2.length co71) y331 := (by rw [hw, Ny331.out]; exact HP72.1); clear HP72; replace HO_77 := aM (Kd.R_after (v := (.slice (some ⟨go70, 0, none⟩) x7_2.length co71)) (v1 := (.slice (some ⟨go70, 0, none⟩) x7_2.length co71)) (ok := (fun _ => True)) (by (with_reducible repeat (first | apply kA | apply kN | apply kD)); exact Kd.R_mono HO_77.out (fun _ hk => ⟨trivial, hk⟩)) hg (.inl rfl)); replace BK307 := aM (blk_grown (g := gb307) (o := .cells #[.int .i64 a0_0, .slice A0_1 l0_1.length c0_1, .slice (some ad323) l0_2.length c0_2] 25 (0, 0)) (ub_ BK307.out) hg (Kd.R_ne HO_7.out BK307.out (by decide))); replace BK324 := aM (blk_grown (g := gb324) (o := .cells #[.int .i64 ((rd_T25 l0_2 x70_1).f0), .slice A323_1 ((rd_T25 l0_2 x70_1).f1).length c323_1, .slice A323_2 ((rd_T25 l0_2 x70_1).f2).length c323_2] 25 (0, 0)) (ub_ BK324.out) hg (Kd.R_ne HO_7.out BK324.out (by decide))); replace HO_7 := aM hp_; replace HB := aM ((by rw [hw]; exact below_set (HB.out) GB70.out : Below w.heap.size w w73)); clear hg hw hp_))
       go_roundg k2
       case measure => have := HK1.out; have := HK2.out; omega
       case rel => exact ⟨(y331), (wrap64 (x79_2 + 1)), rf_, H', ⟨by have := HK1.out; have := HK2.out; omega⟩, ⟨by (with_reducible repeat (first | apply kA | apply kN | apply kD)); exact HO_7.out⟩, ⟨by (with_reducible repeat (first | apply kA | apply kN | apply kD)); exact Kd.R_mono HO_77.out (fun _ hk => hk.2)⟩, ⟨ub_ BK307.out⟩, ⟨ub_ BK324.out⟩, ⟨bw_ HB.out⟩⟩
 rw [if_neg c46] at H
 have c46b0 : (a0_0 == 3) = false := beq_eq_false_iff_ne.mpr c46
 have c46b1 : (a0_0 != 3) = true := bne_iff_ne.mpr c46
 by_cases c74 : a0_0 = 4
 rotate_left
 · rw [if_neg c74] at H
   have c74b0 : (a0_0 == 4) = false := beq_eq_false_iff_ne.mpr c74
   have c74b1 : (a0_0 != 4) = true := bne_iff_ne.mpr c74
   obtain rfl := Option.some.inj H
   go_enter Try.func83, Try.ntmps83
   go_wp2_with (first | ((with_reducible refine gd_ 3 rfl ?_); refine be_ #[.int .i64 a0_0, .slice A0_1 l0_1.length c0_1, .slice A0_2 l0_2.length c0_2] 25 ?_; intro gb307 hg w98 BK307 hb; have GW307 := ge_ HB hg; have GE307 := ge_ HB hg; replace HB := bs_ HB hb; clear hb hg) | ((with_reducible refine gd_ 21 rfl ?_); refine Kd.R_make Kd.bool _ 4 rfl (N := 21) rfl 108 _ _ rfl (l2.length : Int) rfl rfl Try.underlying108 (.bool false) 1 info4 rfl (by decide) (by omega) false (ok := fun _ => True) (okp := fun _ => True) rfl (fun _ hk => hk) trivial (of_decide_eq_true (by first | (with_reducible assumption) | assumption)) (Nat.le_trans (Nat.mul_le_mul_right _ (of_decide_eq_true (by first | (with_reducible assumption) | assumption) : (l2.length : Int).toNat ≤ 281474976710656)) (by omega)) (Below.refl _ _) (Nat.le_refl _) ?_; intro v309 w99 ho100 hb hg_ hnew_; clear hg_ hnew_; (first | rw [← Ny308.out] at ho100 | (simp only [Int.reduceToNat] at ho100; rw [← Ny308.out] at ho100)); have HO310 := aM (Kd.R_lower ho100 (below_size (bw_ HB.out))); replace BK307 := bb_ BK307 hb; replace HB := bs_ HB hb; clear hb ho100; obtain ⟨hcz101_0, hcz101_1, hcz101_2, hfz101_0, hfz101_1, hfz101_2⟩ := bc3_ BK307))
   first | go_ret | refine ⟨_, results_tmp rfl _ _ _, ?_⟩
   exact ⟨_, by first | rfl | (simp [errW_none, errW_some] <;> rfl) | (simp [*, errW_none, errW_some] <;> rfl), by (with_reducible repeat (first | apply kA | apply kN | apply kD)); exact HO310.out, by repeat (first | (with_reducible first | exact HB.out | apply blA | apply blN | apply blD | refine bS ?_ GE307.out) | exact HB.out)⟩
 rw [if_pos c74] at H
 have c74b0 : (a0_0 == 4) = true := beq_iff_eq.mpr c74
 have c74b1 : (a0_0 != 4) = false := bne_eq_false_iff_eq.mpr c74
 clear c74
 obtain ⟨y332, hy332⟩ : ∃ y_ : List Bool, y_ = (l2.take (min l2.length y308.length) ++ y308.drop (min l2.length y308.length)) := ⟨_, rfl⟩
 replace H : (r5_ends.l4 k l1 y332 true a0_0 l0_1 l0_2) = some r := by first | (rw [hy332]; with_reducible exact H) | (have H2_ := (Option.bind_some _ _).symm.trans H; rw [hy332]; with_reducible exact H2_) | (have H2_ := (Option.bind_some _ _).symm.trans H; with_reducible exact H2_) | with_reducible exact H | (rw [hy332]; exact H) | exact H
 have Ny332 := aM hy332
 clear hy332
 have H' := aM H
 clear H
 go_enter Try.func83, Try.ntmps83
 go_wp2_with (first | ((with_reducible refine gd_ 3 rfl ?_); refine be_ #[.int .i64 a0_0, .slice A0_1 l0_1.length c0_1, .slice A0_2 l0_2.length c0_2] 25 ?_; intro gb307 hg w75 BK307 hb; have GW307 := ge_ HB hg; have GE307 := ge_ HB hg; replace HB := bs_ HB hb; clear hb hg) | ((with_reducible refine gd_ 21 rfl ?_); refine Kd.R_make Kd.bool _ 4 rfl (N := 21) rfl 108 _ _ rfl (l2.length : Int) rfl rfl Try.underlying108 (.bool false) 1 info4 rfl (by decide) (by omega) false (ok := fun _ => True) (okp := fun _ => True) rfl (fun _ hk => hk) trivial (of_decide_eq_true (by first | (with_reducible assumption) | assumption)) (Nat.le_trans (Nat.mul_le_mul_right _ (of_decide_eq_true (by first | (with_reducible assumption) | assumption) : (l2.length : Int).toNat ≤ 281474976710656)) (by omega)) (Below.refl _ _) (Nat.le_refl _) ?_; intro v309 w76 ho77 hb hg_ hnew_; clear hg_ hnew_; (first | rw [← Ny308.out] at ho77 | (simp only [Int.reduceToNat] at ho77; rw [← Ny308.out] at ho77)); have HO310 := aM (Kd.R_lower ho77 (below_size (bw_ HB.out))); replace BK307 := bb_ BK307 hb; replace HB := bs_ HB hb; clear hb ho77; obtain ⟨hcz78_0, hcz78_1, hcz78_2, hfz78_0, hfz78_1, hfz78_2⟩ := bc3_ BK307; obtain ⟨Ao80, co80, eo80⟩ := Kd.R_slice HO310.out; subst eo80) | ((with_reducible refine gate_builtin (b := .copy) (xs := #[.tmp 98, .tmp 99]) rfl ?_); refine Kd.R_copy (enc := Value.bool) (h1 := fun _ => rfl) false (w0 := w) w.heap.size rfl (.tmp 98) (.tmp 99) 108 108 4 rfl Try.underlying108 (by kernel_rfl) (.slice Ao80 y308.length co80) y308 l2 _ _ _ (fun _ => True) rfl rfl ?aO ?aR ?aB ?aS ?_; (case aR => exact cB_ HR2 HB); (case aB => exact (bw_ HB.out)); (case aO => exact (uk_ HO310.out)); (case aS => exact (below_size (bw_ HB.out))); intro w79 ho hb hg; have hat := (Or.inl rfl : ((.slice Ao80 y308.length co80) : Value).ownBlock = ((.slice Ao80 y308.length co80) : Value).ownBlock ∨ ∃ b_, ((.slice Ao80 y308.length co80) : Value).ownBlock = some b_ ∧ 0 ≤ b_); rw [← Ny332.out] at ho; have HO334 := aM ho; replace BK307 := aM (blk_grown (g := gb307) (o := .cells #[.int .i64 a0_0, .slice A0_1 l0_1.length c0_1, .slice A0_2 l0_2.length c0_2] 25 (0, 0)) (ub_ BK307.out) hg (Kd.R_ne HO310.out BK307.out (by decide))); replace HB := aM hb; clear HO310; clear ho hb hg hat))
 go_loopg [16] k (fun kq v16 w' => ∃ (x7_1 : List Bool) (x16_1 : Bool), v16 = .bool x16_1 ∧ Aside0 (r5_ends.l4 kq l1 x7_1 x16_1 a0_0 l0_1 l0_2 = some r) ∧ Aside0 (kq ≤ k) ∧ Aside0 (Kd.R Kd.bool 4 w' w.heap.size (fun _ => True) (.slice Ao80 y308.length co80) x7_1) ∧ Aside0 (w'.heap[gb307]? = some (.cells #[.int .i64 a0_0, (.slice A0_1 l0_1.length c0_1), (.slice A0_2 l0_2.length c0_2)] 25 (0, 0))) ∧ Aside0 (Below w.heap.size w w'))
 case atStart => exact ⟨(y332), (true), rf_, H', ⟨Nat.le_refl _⟩, ⟨by (with_reducible repeat (first | apply kA | apply kN | apply kD)); exact HO334.out⟩, ⟨ub_ BK307.out⟩, ⟨bw_ HB.out⟩⟩
 case round =>
  clear H'
  obtain ⟨x7_1, x16_1, rfl, HA, HK1, HO_7, BK307, HB⟩ := hrel
  have hl7_1 := (Kd.R_reads' HO_7.out).1
  rw [hl7_1] at HO_7
  (try simp only [hl7_1])
  (try simp only [hl7_1] at BK307)
  cases gk with
  | zero => exact absurd HA.out (by simp [r5_ends.l4])
  | succ k1 =>
   have H := HA.out
   clear HA
   simp only [r5_ends.l4] at H
   by_cases c81 : x16_1 = true
   rotate_left
   · replace c81 := Bool.eq_false_iff.mpr c81
     subst c81
     rw [if_neg (show ¬ (false = true) by decide)] at H
     obtain rfl := Option.some.inj H
     go_wp2
     first | go_ret | refine ⟨_, results_tmp rfl _ _ _, ?_⟩
     exact ⟨_, by first | rfl | (simp [errW_none, errW_some] <;> rfl) | (simp [*, errW_none, errW_some] <;> rfl), by (with_reducible repeat (first | apply kA | apply kN | apply kD)); exact HO_7.out, by repeat (first | (with_reducible first | exact HB.out | apply blA | apply blN | apply blD | refine bS ?_ GE307.out) | exact HB.out)⟩
   subst c81
   rw [if_pos rfl] at H
   have c82 := ifn_ H
   rw [if_pos c82] at H
   have c82b0 : decide (0 < (l0_2.length : Int)) = true := decide_eq_true c82
   have c82b1 : decide (0 < l0_2.length) = true := decide_eq_true (by omega)
   have c82b9 := c82b0
   (try simp only [hl7_1] at c82b9)
   clear c82
   obtain ⟨t336, A83, H⟩ := bnd_ H
   have H' := aM H
   clear H
   obtain ⟨hcz84_0, hcz84_1, hcz84_2, hfz84_0, hfz84_1, hfz84_2⟩ := bc3_ BK307
   have p335 : 0 ≤ (0 : Int) := (by omega)
   have q335 : 0 < (l0_2.length : Int) := od_
   obtain ⟨ad335, A335_1, c335_1, A335_2, c335_2, e335, hx335_0, hx335_1, hx335_2, hl335_1, hi335_1, hl335_2, hi335_2⟩ := at_T25 HR0_2.out 0 p335 q335
   cases e335
   have qi335 : (0 < l0_2.length) = True := eq_true (by omega)
   (try rw [show ((0 : Int)).toNat = 0 from rfl] at hx335_0)
   (try rw [show 0 * 3 = 0 from rfl] at hx335_0)
   (try rw [Addr.add_zero'] at hx335_0)
   (try rw [show ((0 : Int)).toNat = 0 from rfl] at hx335_1)
   (try rw [show 0 * 3 = 0 from rfl] at hx335_1)
   (try rw [Addr.add_zero'] at hx335_1)
   (try rw [show ((0 : Int)).toNat = 0 from rfl] at hx335_2)
   (try rw [show 0 * 3 = 0 from rfl] at hx335_2)
   (try rw [Addr.add_zero'] at hx335_2)
   replace hx335_0 := hx_ HB hx335_0
   replace hx335_1 := hx_ HB hx335_1
   replace hx335_2 := hx_ HB hx335_2
   have HR335_1 := aM hi335_1
   have HC335_1 := aM hl335_1
   clear hi335_1 hl335_1
   have HR335_2 := aM hi335_2
   have HC335_2 := aM hl335_2
   clear hi335_2 hl335_2
   replace p335 := eq_true p335
   replace q335 := eq_true q335
   go_wp2_with (first | ((with_reducible refine gf_ 83 rfl ?_); refine gL_ (some 108) rfl rfl Try.func83 #[.agg #[.int .i64 ((rd_T25 l0_2 0).f0), .slice A335_1 ((rd_T25 l0_2 0).f1).length c335_1, .slice A335_2 ((rd_T25 l0_2 0).f2).length c335_2], .slice A1 l1.length c1, .slice Ao80 x7_1.length co80] rfl ?_; (with_reducible refine (ih k1 (by have := HK1.out; omega) ((rd_T25 l0_2 0).f0) _ _ ((rd_T25 l0_2 0).f1) _ _ ((rd_T25 l0_2 0).f2) _ _ l1 _ _ x7_1 t336 _ ?side1 ?side2 ?side3 ?side4 ?side5 ?side6 ?side7 ?side8 A83.out).mono ?_); (case side1 => exact cB_ HR335_1 HB); (case side2 => exact HC335_1.out); (case side3 => exact cB_ HR335_2 HB); (case side4 => exact HC335_2.out); (case side5 => exact cB_ HR1 HB); (case side6 => exact HC1.out); (case side7 => exact uc_ (Kd.R_reads' HO_7.out).2.2); (case side8 => exact (Kd.R_reads' HO_7.out).2.1); rintro e w85 ⟨v337, rfl, ho0, hb⟩; refine ⟨_, rfl, ?_⟩; have HO338 := aM (Kd.R_lower (Kd.R_new' ho0 (Kd.R_lt (uk_ HO_7.out))) (below_size (bw_ HB.out))); replace HO_7 := aM (Kd.R_elder' (uk_ HO_7.out) (Kd.R_base ho0) hb); replace BK307 := bb_ BK307 hb; replace HB := bs_ HB hb; (try clear hb); (try clear hb2); (try clear hk); (try clear hi); (try clear ho0); obtain ⟨Ao86, co86, eo86⟩ := Kd.R_slice HO338.out; subst eo86))
   go_loopg [16, 110] k1 (fun kq v16 v110 w' => ∃ (x7_2 : List Bool) (x16_2 : Bool) (x110_2 : Int), v16 = .bool x16_2 ∧ v110 = .int .i64 x110_2 ∧ Aside0 (r5_ends.l5 kq l1 x7_2 x16_2 t336 (t336.length : Int) x110_2 a0_0 l0_1 l0_2 = some r) ∧ Aside0 (kq ≤ k1) ∧ Aside0 (Kd.R Kd.bool 4 w' w.heap.size (fun k_ => some k_ ≠ ((.slice Ao86 t336.length co86) : Value).ownBlock) (.slice Ao80 x7_1.length co80) x7_2) ∧ Aside0 (Kd.R Kd.bool 4 w' w.heap.size (fun k_ => some k_ ≠ ((.slice Ao80 x7_1.length co80) : Value).ownBlock) (.slice Ao86 t336.length co86) t336) ∧ Aside0 (w'.heap[gb307]? = some (.cells #[.int .i64 a0_0, (.slice A0_1 l0_1.length c0_1), (.slice (some ad335) l0_2.length c0_2)] 25 (0, 0))) ∧ Aside0 (Below w.heap.size w w'))
   case atStart => exact ⟨(x7_1), (false), (0), rf_, rf_, H', ⟨Nat.le_refl _⟩, ⟨by (try simp only [hl7_1]); (with_reducible repeat (first | apply kA | apply kN | apply kD)); exact Kd.R_mono HO_7.out (fun _ hk => hk.2)⟩, ⟨by (try simp only [hl7_1]); (with_reducible repeat (first | apply kA | apply kN | apply kD)); exact Kd.R_mono HO338.out (fun _ hk => hk.2)⟩, ⟨by (try simp only [hl7_1]); (with_reducible repeat (first | apply bkN | apply bkD | apply bkA)); exact BK307.out⟩, ⟨bw_ HB.out⟩⟩
   case round =>
    clear H'
    obtain ⟨x7_2, x16_2, x110_2, rfl, rfl, HA, HK2, HO_7, HO_108, BK307, HB⟩ := hrel
    have hl7_2 := (Kd.R_reads' HO_7.out).1
    rw [hl7_2] at HO_7
    (try simp only [hl7_2])
    (try simp only [hl7_2] at BK307)
    (try simp only [hl7_2] at HO_108)
    cases gk with
    | zero => exact absurd HA.out (by simp [r5_ends.l5])
    | succ k2 =>
     have H := HA.out
     clear HA
     simp only [r5_ends.l5] at H
     by_cases c87 : x110_2 < (t336.length : Int)
     rotate_left
     · rw [if_neg c87] at H
       have c87b0 : decide (x110_2 < (t336.length : Int)) = false := decide_eq_false c87
       have c87b9 := c87b0
       (try simp only [hl7_1, hl7_2] at c87b9)
       clear c87
       have H' := aM H
       clear H
       go_wp2
       (try simp only [← hl7_1, ← hl7_2])
       go_roundg k2
       case measure => have := HK1.out; have := HK2.out; omega
       case rel => exact ⟨(x7_2), (x16_2), rf_, H', ⟨by have := HK1.out; have := HK2.out; omega⟩, ⟨by (try simp only [hl7_1]); (try simp only [hl7_2]); (with_reducible repeat (first | apply kA | apply kN | apply kD)); exact Kd.R_mono HO_7.out (fun _ hk => trivial)⟩, ⟨by (try simp only [hl7_1]); (try simp only [hl7_2]); (with_reducible repeat (first | apply bkN | apply bkD | apply bkA)); exact BK307.out⟩, ⟨bw_ HB.out⟩⟩
     rw [if_pos c87] at H
     have c87b0 : decide (x110_2 < (t336.length : Int)) = true := decide_eq_true c87
     have c87b9 := c87b0
     (try simp only [hl7_1, hl7_2] at c87b9)
     clear c87
     obtain ⟨c88, H⟩ := ifd_ H
     have c89 := ifn_ H
     rw [if_pos c89] at H
     have c89b0 : decide (x110_2 < (t336.length : Int)) = true := decide_eq_true c89
     have c89b9 := c89b0
     (try simp only [hl7_1, hl7_2] at c89b9)
     clear c89
     obtain ⟨bq90, hbq90⟩ : ∃ b_ : Bool, b_ = (rdOf false t336 x110_2) := ⟨_, rfl⟩
     replace H : (if bq90 = true then (if x110_2 < (x7_2.length : Int) then (if rdOf false x7_2 x110_2 = true then (r5_ends.l5 k2 l1 x7_2 x16_2 t336 (t336.length : Int) (wrap64 (x110_2 + 1)) a0_0 l0_1 l0_2) else (r5_ends.l5 k2 l1 (x7_2.set (x110_2 : Int).toNat true) true t336 (t336.length : Int) (wrap64 (x110_2 + 1)) a0_0 l0_1 l0_2)) else (none)) else (r5_ends.l5 k2 l1 x7_2 x16_2 t336 (t336.length : Int) (wrap64 (x110_2 + 1)) a0_0 l0_1 l0_2)) = some r := by rw [← hbq90] at H; exact H
     have Nbq90 := aM hbq90
     clear hbq90
     by_cases c91 : bq90 = true
     rotate_left
     · replace c91 := Bool.eq_false_iff.mpr c91
       subst c91
       rw [if_neg (show ¬ (false = true) by decide)] at H
       have H' := aM H
       clear H
       have p339 : 0 ≤ (x110_2 : Int) := od_
       have q339 : x110_2 < (t336.length : Int) := od_
       obtain ⟨ad339, e339, hx339_0⟩ := Kd.at_bool (Kd.R_reads' HO_108.out).2.2 x110_2 p339 q339
       (try rw [← Nbq90.out] at hx339_0)
       cases e339
       replace p339 := eq_true p339
       replace q339 := eq_true q339
       go_wp2
       (try simp only [← hl7_2])
       go_roundg k2
       case measure => have := HK1.out; have := HK2.out; omega
       case rel => exact ⟨(x7_2), (x16_2), (wrap64 (x110_2 + 1)), rf_, rf_, H', ⟨by have := HK1.out; have := HK2.out; omega⟩, ⟨by (try simp only [hl7_1]); (try simp only [hl7_2]); (with_reducible repeat (first | apply kA | apply kN | apply kD)); exact HO_7.out⟩, ⟨by (try simp only [hl7_1]); (try simp only [hl7_2]); (with_reducible repeat (first | apply kA | apply kN | apply kD)); exact HO_108.out⟩, ⟨by (try simp only [hl7_1]); (try simp only [hl7_2]); (with_reducible repeat (first | apply bkN | apply bkD | apply bkA)); exact BK307.out⟩, ⟨bw_ HB.out⟩⟩
     subst c91
     rw [if_pos rfl] at H
     have c92 := ifn_ H
     rw [if_pos c92] at H
     have c92b0 : decide (x110_2 < (x7_2.length : Int)) = true := decide_eq_true c92
     have c92b9 := c92b0
     (try simp only [hl7_1, hl7_2] at c92b9)
     clear c92
     obtain ⟨bq93, hbq93⟩ : ∃ b_ : Bool, b_ = (rdOf false x7_2 x110_2) := ⟨_, rfl⟩
     replace H : (if bq93 = true then (r5_ends.l5 k2 l1 x7_2 x16_2 t336 (t336.length : Int) (wrap64 (x110_2 + 1)) a0_0 l0_1 l0_2) else (r5_ends.l5 k2 l1 (x7_2.set (x110_2 : Int).toNat true) true t336 (t336.length : Int) (wrap64 (x110_2 + 1)) a0_0 l0_1 l0_2)) = some r := by rw [← hbq93] at H; exact H
     have Nbq93 := aM hbq93
     clear hbq93
     by_cases c94 : bq93 = true
     · subst c94
       rw [if_pos rfl] at H
       have H' := aM H
       clear H
       have p339 : 0 ≤ (x110_2 : Int) := od_
       have q339 : x110_2 < (t336.length : Int) := od_
       obtain ⟨ad339, e339, hx339_0⟩ := Kd.at_bool (Kd.R_reads' HO_108.out).2.2 x110_2 p339 q339
       (try rw [← Nbq90.out] at hx339_0)
       (try rw [← Nbq93.out] at hx339_0)
       cases e339
       replace p339 := eq_true p339
       replace q339 := eq_true q339
       have p340 : 0 ≤ (x110_2 : Int) := od_
       have q340 : x110_2 < (x7_2.length : Int) := od_
       obtain ⟨ad340, e340, hx340_0⟩ := Kd.at_bool (Kd.R_reads' HO_7.out).2.2 x110_2 p340 q340
       (try rw [← Nbq90.out] at hx340_0)
       (try rw [← Nbq93.out] at hx340_0)
       cases e340
       replace p340 := eq_true p340
       replace q340 := eq_true q340
       go_wp2
       (try simp only [← hl7_2])
       go_roundg k2
       case measure => have := HK1.out; have := HK2.out; omega
       case rel => exact ⟨(x7_2), (x16_2), (wrap64 (x110_2 + 1)), rf_, rf_, H', ⟨by have := HK1.out; have := HK2.out; omega⟩, ⟨by (try simp only [hl7_1]); (try simp only [hl7_2]); (with_reducible repeat (first | apply kA | apply kN | apply kD)); exact HO_7.out⟩, ⟨by (try simp only [hl7_1]); (try simp only [hl7_2]); (with_reducible repeat (first | apply kA | apply kN | apply kD)); exact HO_108.out⟩, ⟨by (try simp only [hl7_1]); (try simp only [hl7_2]); (with_reducible repeat (first | apply bkN | apply bkD | apply bkA)); exact BK307.out⟩, ⟨bw_ HB.out⟩⟩
     replace c94 := Bool.eq_false_iff.mpr c94
     subst c94
     rw [if_neg (show ¬ (false = true) by decide)] at H
     obtain ⟨y341, hy341⟩ : ∃ y_ : List Bool, y_ = (x7_2.set (x110_2 : Int).toNat true) := ⟨_, rfl⟩
     replace H : (r5_ends.l5 k2 l1 y341 true t336 (t336.length : Int) (wrap64 (x110_2 + 1)) a0_0 l0_1 l0_2) = some r := by first | (rw [hy341]; with_reducible exact H) | (have H2_ := (Option.bind_some _ _).symm.trans H; rw [hy341]; with_reducible exact H2_) | (have H2_ := (Option.bind_some _ _).symm.trans H; with_reducible exact H2_) | with_reducible exact H | (rw [hy341]; exact H) | exact H
     have Ny341 := aM hy341
     clear hy341
     have H' := aM H
     clear H
     have p339 : 0 ≤ (x110_2 : Int) := od_
     have q339 : x110_2 < (t336.length : Int) := od_
     obtain ⟨ad339, e339, hx339_0⟩ := Kd.at_bool (Kd.R_reads' HO_108.out).2.2 x110_2 p339 q339
     (try rw [← Nbq90.out] at hx339_0)
     (try rw [← Nbq93.out] at hx339_0)
     cases e339
     replace p339 := eq_true p339
     replace q339 := eq_true q339
     have p340 : 0 ≤ (x110_2 : Int) := od_
     have q340 : x110_2 < (x7_2.length : Int) := od_
     obtain ⟨ad340, e340, hx340_0⟩ := Kd.at_bool (Kd.R_reads' HO_7.out).2.2 x110_2 p340 q340
     (try rw [← Nbq90.out] at hx340_0)
     (try rw [← Nbq93.out] at hx340_0)
     cases e340
     replace p340 := eq_true p340
     replace q340 := eq_true q340
     have p95 : 0 ≤ (x110_2 : Int) := od_
     have q95 : (x110_2 : Int) < ((x7_2.length : Int) : Int) := od_
     obtain ⟨go95, co95, eo95, gb95, gl95, cl95, HG95⟩ := Kd.R_form HO_7.out (by omega)
     (first | cases eo95 | (injection eo95 with ea_ en_ ec_; (first | subst ea_ | (injection ea_ with ea_; subst ea_)); subst ec_; clear en_))
     have GB95 := aM gb95
     have GG95 := aM HG95
     clear gb95 gl95 HG95
     (first | simp only [add_plain] at hx340_0 | skip)
     obtain ⟨hx95_0, hf95_0⟩ := Kd.R_celln false HO_7.out (x110_2 : Int) p95 q95
     replace p95 := eq_true p95
     replace q95 := eq_true q95
     have HP96 := Kd.R_putg HO_7.out (x110_2 : Int) true
     go_wp2_with (first | ((with_reducible refine gate_store (t := 4) (p := 125) rfl ?_); refine store_event (t := 4) (p := 125) (v := ?vo_w97) (w1 := (wr.setCell ⟨go95, (x110_2 : Int).toNat, none⟩ (.bool true))) ?hg ?ho ?hn ?hr ?_; (case ho => rfl); (case hg => rfl); (case hn => rfl); (case hr => first | (go_simp; done) | (go_simp; rfl)); intro w97 hw; have hg : wr.grownBy w97 (some go95) := (by rw [hw]; exact HP96.2); have hp_ : Kd.R Kd.bool 4 w97 w.heap.size (fun k_ => some k_ ≠ (.slice (some ad339) t336.length co86 : Value).ownBlock) (.slice (some ⟨go95, 0, none⟩) x7_2.length co80) y341 := (by rw [hw, Ny341.out]; exact HP96.1); clear HP96; replace HO_108 := aM (Kd.R_after (v := (.slice (some ⟨go95, 0, none⟩) x7_2.length co80)) (v1 := (.slice (some ⟨go95, 0, none⟩) x7_2.length co80)) (ok := (fun _ => True)) (by (with_reducible repeat (first | apply kA | apply kN | apply kD)); exact Kd.R_mono HO_108.out (fun _ hk => ⟨trivial, hk⟩)) hg (.inl rfl)); replace BK307 := aM (blk_grown (g := gb307) (o := .cells #[.int .i64 a0_0, .slice A0_1 l0_1.length c0_1, .slice (some ad335) l0_2.length c0_2] 25 (0, 0)) (ub_ BK307.out) hg (Kd.R_ne HO_7.out BK307.out (by decide))); replace HO_7 := aM hp_; replace HB := aM ((by rw [hw]; exact below_set (HB.out) GB95.out : Below w.heap.size w w97)); clear hg hw hp_))
     (try simp only [← hl7_2])
     go_roundg k2
     case measure => have := HK1.out; have := HK2.out; omega
     case rel => exact ⟨(y341), (true), (wrap64 (x110_2 + 1)), rf_, rf_, H', ⟨by have := HK1.out; have := HK2.out; omega⟩, ⟨by (try simp only [hl7_1]); (try simp only [hl7_2]); (with_reducible repeat (first | apply kA | apply kN | apply kD)); exact HO_7.out⟩, ⟨by (try simp only [hl7_1]); (try simp only [hl7_2]); (with_reducible repeat (first | apply kA | apply kN | apply kD)); exact Kd.R_mono HO_108.out (fun _ hk => hk.2)⟩, ⟨by (try simp only [hl7_1]); (try simp only [hl7_2]); (with_reducible repeat (first | apply bkN | apply bkD | apply bkA)); exact BK307.out⟩, ⟨bw_ HB.out⟩⟩
end Go.Proofs.Ytlkjfjlmjgkheaa.H
