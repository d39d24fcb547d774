import Derived.Test.YtlkjfjlmjgkheaaHx0
import Derived.Test.YtlkjfjlmjgkheaaHx21
import Derived.Test.YtlkjfjlmjgkheaaHx25
namespace Go.Proofs.Ytlkjfjlmjgkheaa.H
open Go.RowKit Go.Proofs.YtlkjfjlmjgkheaaW.PrintWords Go.Proofs.YtlkjfjlmjgkheaaW.PrintLast Go.Proofs.YtlkjfjlmjgkheaaW.PrintMore
attribute [local go_sem] max2_int min2_int max_two min_two max_three min_three max_four min_four
set_option linter.unusedVariables false
set_option linter.unusedSimpArgs false
mutual
def dragomanref11_all.l0 : Nat → List Int → List (S76) → Int → Int → Option (Bool)
 | 0, _, _, _, _ => none
 | k + 1, x1, x10, x11, x12 => if x12 < x11 then (if 0 ≤ x12 then (if x12 < (x10.length : Int) then (dragomanref11_all.l1 k x1 false x10 x11 x12 x1 (x1.length : Int) 0 ((rd_T76 x10 x12).f0) ((rd_T76 x10 x12).f1)) else (none)) else (none)) else (some true)
def dragomanref11_all.l1 : Nat → List Int → Bool → List (S76) → Int → Int → List Int → Int → Int → Int → Int → Option (Bool)
 | 0, _, _, _, _, _, _, _, _, _, _ => none
 | k + 1, x1, x7, x10, x11, x12, x16, x17, x18, x360000, x360001 => if x18 < x17 then (if 0 ≤ x18 then (if x18 < (x16.length : Int) then (if x7 = true then (dragomanref11_all.l1 k x1 true x10 x11 x12 x16 x17 (wrap64 (x18 + 1)) x360000 x360001) else ((r2_In.f x360000 x360001 (rd x16 x18)).bind fun t361 => (dragomanref11_all.l1 k x1 t361 x10 x11 x12 x16 x17 (wrap64 (x18 + 1)) x360000 x360001))) else (none)) else (none)) else (if x7 = true then (dragomanref11_all.l0 k x1 x10 x11 (wrap64 (x12 + 1))) else (some false))
end
def dragomanref11_all.f (k : Nat) (l0 : List (S76)) (l1 : List Int) : Option (Bool) := dragomanref11_all.l0 k l1 l0 (l0.length : Int) 0
set_option maxHeartbeats 8000000 in
set_option maxRecDepth 100000 in
theorem dragomanref11_all.calls (k : Nat) (A0 : Option Addr) (c0 : Nat) (l0 : List (S76)) (A1 : Option Addr) (c1 : Nat) (l1 : List Int) (r : Bool) (w : World) (hr0 : Kd.C k76 w A0 l0.length l0) (hc0 : l0.length ≤ c0) (hr1 : Kd.C (Kd.int .u32) w A1 l1.length l1) (hc1 : l1.length ≤ c1) (h : dragomanref11_all.f k l0 l1 = some r) :
 Calls Try.prog 78 #[.slice A0 l0.length c0, .slice A1 l1.length c1] w fun e w' => e = .returned (.bool r) ∧ Below w.heap.size w w' := by
 have hu76 := Try.underlying76
 have HR0 := aM hr0
 have HC0 := aM hc0
 clear hr0 hc0
 have HR1 := aM hr1
 have HC1 := aM hc1
 clear hr1 hc1
 have HB := aM (Below.refl w.heap.size w)
 have H : (dragomanref11_all.l0 k l1 l0 (l0.length : Int) 0) = some r := h
 clear h
 have H' := aM H
 clear H
 go_enter Try.func78, Try.ntmps78
 go_wp2
 go_loopg [12] k (fun kq v12 w' => ∃ (x12_1 : Int), v12 = .int .i64 x12_1 ∧ Aside0 (dragomanref11_all.l0 kq l1 l0 (l0.length : Int) x12_1 = some r) ∧ Aside0 (kq ≤ k) ∧ Aside0 (Below w.heap.size w w'))
 case atStart => exact ⟨(0), rf_, H', ⟨Nat.le_refl _⟩, ⟨bw_ HB.out⟩⟩
 case round =>
  clear H'
  obtain ⟨x12_1, rfl, HA, HK1, HB⟩ := hrel
  cases gk with
  | zero => exact absurd HA.out (by simp [dragomanref11_all.l0])
  | succ k1 =>
   have H := HA.out
   clear HA
   simp only [dragomanref11_all.l0] at H
   by_cases c3 : x12_1 < (l0.length : Int)
   rotate_left
   · rw [if_neg c3] at H
     have c3b0 : decide (x12_1 < (l0.length : Int)) = false := decide_eq_false c3
     clear c3
     obtain rfl := Option.some.inj H
     go_wp2
     first | go_ret | refine ⟨_, results_tmp rfl _ _ _, ?_⟩
     exact fin_ HB
   rw [if_pos c3] at H
   have c3b0 : decide (x12_1 < (l0.length : Int)) = true := decide_eq_true c3
   clear c3
   have c4 := ifn_ H
   rw [if_pos c4] at H
   have c4b0 : decide (0 ≤ x12_1) = true := decide_eq_true c4
   clear c4
   have c5 := ifn_ H
   rw [if_pos c5] at H
   have c5b0 : decide (x12_1 < (l0.length : Int)) = true := decide_eq_true c5
   clear c5
   have H' := aM H
   clear H
   have p358 : 0 ≤ (x12_1 : Int) := od_
   have q358 : x12_1 < (l0.length : Int) := od_
   obtain ⟨ad358, e358, hx358_0, hx358_1⟩ := at_T76 (Kd.C_below HR0.out HB.out) x12_1 p358 q358
   cases e358
   replace p358 := eq_true p358
   replace q358 := eq_true q358
   go_wp2_with (first | ((with_reducible refine gd_ 6 rfl ?_); refine be_ #[.int .u32 0, .int .u32 0] 76 ?_; intro gb359 hg w6 BK359 hb; have GW359 := ge_ HB hg; have GE359 := ge_ HB hg; replace HB := bs_ HB hb; clear hb hg; obtain ⟨hcz7_0, hcz7_1, hfz7_0, hfz7_1⟩ := bc2_ BK359))
   go_loopg [7, 18] k1 (fun kq v7 v18 w' => ∃ (x7_2 : Bool) (x18_2 : Int), v7 = .bool x7_2 ∧ v18 = .int .i64 x18_2 ∧ Aside0 (dragomanref11_all.l1 kq l1 x7_2 l0 (l0.length : Int) x12_1 l1 (l1.length : Int) x18_2 ((rd_T76 l0 x12_1).f0) ((rd_T76 l0 x12_1).f1) = some r) ∧ Aside0 (kq ≤ k1) ∧ Aside0 (w'.heap[gb359]? = some (.cells #[.int .u32 ((rd_T76 l0 x12_1).f0), .int .u32 ((rd_T76 l0 x12_1).f1)] 76 (0, 0))) ∧ Aside0 (Below w.heap.size w w'))
   case atStart => exact ⟨(false), (0), rf_, rf_, H', ⟨Nat.le_refl _⟩, ⟨by (with_reducible repeat (first | apply bkN | apply bkD | apply bkA)); refine blk_put (cs := #[.int .u32 ((rd_T76 l0 x12_1).f0), .int .u32 0]) ?_ 1 _ rfl; (with_reducible repeat (first | apply bkN | apply bkD | apply bkA)); refine blk_put (cs := #[.int .u32 0, .int .u32 0]) ?_ 0 _ rfl; (with_reducible repeat (first | apply bkN | apply bkD | apply bkA)); exact BK359.out⟩, ⟨bw_ HB.out⟩⟩
   case round =>
    clear H'
    obtain ⟨x7_2, x18_2, rfl, rfl, HA, HK2, BK359, HB⟩ := hrel
    cases gk with
    | zero => exact absurd HA.out (by simp [dragomanref11_all.l1])
    | succ k2 =>
     have H := HA.out
     clear HA
     simp only [dragomanref11_all.l1] at H
     by_cases c8 : x18_2 < (l1.length : Int)
     rotate_left
     · rw [if_neg c8] at H
       replace c8 := decide_eq_false c8
       by_cases c15 : x7_2 = true
       rotate_left
       · replace c15 := Bool.eq_false_iff.mpr c15
         subst c15
         rw [if_neg (show ¬ (false = true) by decide)] at H
         obtain rfl := Option.some.inj H
         go_wp2
         first | go_ret | refine ⟨_, results_tmp rfl _ _ _, ?_⟩
         exact fin_ HB
       subst c15
       rw [if_pos rfl] at H
       have H' := aM H
       clear H
       go_wp2
       go_roundg k2
       case measure => have := HK1.out; have := HK2.out; omega
       case rel => exact ⟨(wrap64 (x12_1 + 1)), rf_, H', ⟨by have := HK1.out; have := HK2.out; omega⟩, ⟨bw_ HB.out⟩⟩
     rw [if_pos c8] at H
     replace c8 := decide_eq_true c8
     obtain ⟨c9, H⟩ := ifd_ H
     obtain ⟨c10, H⟩ := ifd_ H
     by_cases c11 : x7_2 = true
     · subst c11
       rw [if_pos rfl] at H
       have H' := aM H
       clear H
       have p360 : 0 ≤ (x18_2 : Int) := od_
       have q360 : x18_2 < (l1.length : Int) := od_
       obtain ⟨ad360, e360, hx360_0⟩ := Kd.at_int HR1.out x18_2 p360 q360
       cases e360
       replace hx360_0 := hx_ HB hx360_0
       replace p360 := eq_true p360
       replace q360 := eq_true q360
       go_wp2
       go_roundg k2
       case measure => have := HK1.out; have := HK2.out; omega
       case rel => exact ⟨(true), (wrap64 (x18_2 + 1)), rf_, rf_, H', ⟨by have := HK1.out; have := HK2.out; omega⟩, ⟨ub_ BK359.out⟩, ⟨bw_ HB.out⟩⟩
     replace c11 := Bool.eq_false_iff.mpr c11
     subst c11
     rw [if_neg (show ¬ (false = true) by decide)] at H
     obtain ⟨t361, A12, H⟩ := bnd_ H
     have H' := aM H
     clear H
     have p360 : 0 ≤ (x18_2 : Int) := od_
     have q360 : x18_2 < (l1.length : Int) := od_
     obtain ⟨ad360, e360, hx360_0⟩ := Kd.at_int HR1.out x18_2 p360 q360
     cases e360
     replace hx360_0 := hx_ HB hx360_0
     replace p360 := eq_true p360
     replace q360 := eq_true q360
     obtain ⟨hcz13_0, hcz13_1, hfz13_0, hfz13_1⟩ := bc2_ BK359
     go_wp2_with (first | (go_at_call 97; (with_reducible refine (r2_In.calls ((rd_T76 l0 x12_1).f0) ((rd_T76 l0 x12_1).f1) (rd l1 x18_2) t361 _ A12.out).mono ?_); rintro e w14 ⟨rfl, hb⟩; replace BK359 := bb_ BK359 hb; replace HB := bs_ HB hb; clear hb))
     go_roundg k2
     case measure => have := HK1.out; have := HK2.out; omega
     case rel => exact ⟨(t361), (wrap64 (x18_2 + 1)), rf_, rf_, H', ⟨by have := HK1.out; have := HK2.out; omega⟩, ⟨ub_ BK359.out⟩, ⟨bw_ HB.out⟩⟩
def dragomanref11_TakesComms.l0 : Nat → List Int → List (S64) → Int → Int → Option (Bool)
 | 0, _, _, _, _ => none
 | k + 1, x1, x7, x8, x9 => if x9 < x8 then (if 0 ≤ x9 then (if x9 < (x7.length : Int) then ((dragomanref11_all.f k ((rd_T64 x7 x9).f1) x1).bind fun t364 => (if t364 = true then (some (!((rd_T64 x7 x9).f0))) else (dragomanref11_TakesComms.l0 k x1 x7 x8 (wrap64 (x9 + 1))))) else (none)) else (none)) else (some false)
def dragomanref11_TakesComms.f (k : Nat) (l0 : List (S64)) (l1 : List Int) : Option (Bool) := dragomanref11_TakesComms.l0 k l1 l0 (l0.length : Int) 0
set_option maxHeartbeats 8000000 in
set_option maxRecDepth 100000 in
theorem dragomanref11_TakesComms.calls (k : Nat) (A0 : Option Addr) (c0 : Nat) (l0 : List (S64)) (A1 : Option Addr) (c1 : Nat) (l1 : List Int) (r : Bool) (w : World) (hr0 : Kd.C k64 w A0 l0.length l0) (hc0 : l0.length ≤ c0) (hr1 : Kd.C (Kd.int .u32) w A1 l1.length l1) (hc1 : l1.length ≤ c1) (h : dragomanref11_TakesComms.f k l0 l1 = some r) :
 Calls Try.prog 41 #[.slice A0 l0.length c0, .slice A1 l1.length c1] w fun e w' => e = .returned (.bool r) ∧ Below w.heap.size w w' := by
 have hu64 := Try.underlying64
 have HR0 := aM hr0
 have HC0 := aM hc0
 clear hr0 hc0
 have HR1 := aM hr1
 have HC1 := aM hc1
 clear hr1 hc1
 have HB := aM (Below.refl w.heap.size w)
 have H : (dragomanref11_TakesComms.l0 k l1 l0 (l0.length : Int) 0) = some r := h
 clear h
 have H' := aM H
 clear H
 go_enter Try.func41, Try.ntmps41
 go_wp2
 go_loopg [9] k (fun kq v9 w' => ∃ (x9_1 : Int), v9 = .int .i64 x9_1 ∧ Aside0 (dragomanref11_TakesComms.l0 kq l1 l0 (l0.length : Int) x9_1 = some r) ∧ Aside0 (kq ≤ k) ∧ Aside0 (Below w.heap.size w w'))
 case atStart => exact ⟨(0), rf_, H', ⟨Nat.le_refl _⟩, ⟨bw_ HB.out⟩⟩
 case round =>
  clear H'
  obtain ⟨x9_1, rfl, HA, HK1, HB⟩ := hrel
  cases gk with
  | zero => exact absurd HA.out (by simp [dragomanref11_TakesComms.l0])
  | succ k1 =>
   have H := HA.out
   clear HA
   simp only [dragomanref11_TakesComms.l0] at H
   by_cases c3 : x9_1 < (l0.length : Int)
   rotate_left
   · rw [if_neg c3] at H
     replace c3 := decide_eq_false c3
     obtain rfl := Option.some.inj H
     go_wp2
     first | go_ret | refine ⟨_, results_tmp rfl _ _ _, ?_⟩
     exact fin_ HB
   rw [if_pos c3] at H
   replace c3 := decide_eq_true c3
   obtain ⟨c4, H⟩ := ifd_ H
   obtain ⟨c5, H⟩ := ifd_ H
   obtain ⟨t364, A6, H⟩ := bnd_ H
   by_cases c7 : t364 = true
   · subst c7
     rw [if_pos rfl] at H
     obtain rfl := Option.some.inj H
     have p362 : 0 ≤ (x9_1 : Int) := od_
     have q362 : x9_1 < (l0.length : Int) := od_
     obtain ⟨ad362, A362_1, c362_1, e362, hx362_0, hx362_1, hl362_1, hi362_1⟩ := at_T64 HR0.out x9_1 p362 q362
     cases e362
     replace hx362_0 := hx_ HB hx362_0
     replace hx362_1 := hx_ HB hx362_1
     have HR362_1 := aM hi362_1
     have HC362_1 := aM hl362_1
     clear hi362_1 hl362_1
     replace p362 := eq_true p362
     replace q362 := eq_true q362
     go_wp2_with (first | ((with_reducible refine gd_ 6 rfl ?_); refine be_ #[.bool false, .slice none 0 0] 64 ?_; intro gb363 hg w8 BK363 hb; have GW363 := ge_ HB hg; have GE363 := ge_ HB hg; replace HB := bs_ HB hb; clear hb hg; obtain ⟨hcz9_0, hcz9_1, hfz9_0, hfz9_1⟩ := bc2_ BK363) | ((with_reducible refine gf_ 78 rfl ?_); refine gL_ (some 16) rfl rfl Try.func78 #[.slice A362_1 ((rd_T64 l0 x9_1).f1).length c362_1, .slice A1 l1.length c1] rfl ?_; (with_reducible refine (dragomanref11_all.calls k1 _ _ ((rd_T64 l0 x9_1).f1) _ _ l1 true _ ?side1 ?side2 ?side3 ?side4 A6.out).mono ?_); (case side1 => exact cB_ HR362_1 HB); (case side2 => exact HC362_1.out); (case side3 => exact cB_ HR1 HB); (case side4 => exact HC1.out); rintro e w10 ⟨rfl, hb⟩; refine ⟨_, rfl, ?_⟩; replace BK363 := bp_ (.cells #[.bool ((rd_T64 l0 x9_1).f0), .slice A362_1 ((rd_T64 l0 x9_1).f1).length c362_1] 64 (0, 0)) BK363 hb; replace HB := bs_ HB hb; clear hb; obtain ⟨hcz11_0, hcz11_1, hfz11_0, hfz11_1⟩ := bc2_ BK363))
     first | go_ret | refine ⟨_, results_tmp rfl _ _ _, ?_⟩
     exact fin_ HB
   replace c7 := Bool.eq_false_iff.mpr c7
   subst c7
   rw [if_neg (show ¬ (false = true) by decide)] at H
   have H' := aM H
   clear H
   have p362 : 0 ≤ (x9_1 : Int) := od_
   have q362 : x9_1 < (l0.length : Int) := od_
   obtain ⟨ad362, A362_1, c362_1, e362, hx362_0, hx362_1, hl362_1, hi362_1⟩ := at_T64 HR0.out x9_1 p362 q362
   cases e362
   replace hx362_0 := hx_ HB hx362_0
   replace hx362_1 := hx_ HB hx362_1
   have HR362_1 := aM hi362_1
   have HC362_1 := aM hl362_1
   clear hi362_1 hl362_1
   replace p362 := eq_true p362
   replace q362 := eq_true q362
   go_wp2_with (first | ((with_reducible refine gd_ 6 rfl ?_); refine be_ #[.bool false, .slice none 0 0] 64 ?_; intro gb363 hg w12 BK363 hb; have GW363 := ge_ HB hg; have GE363 := ge_ HB hg; replace HB := bs_ HB hb; clear hb hg; obtain ⟨hcz13_0, hcz13_1, hfz13_0, hfz13_1⟩ := bc2_ BK363) | ((with_reducible refine gf_ 78 rfl ?_); refine gL_ (some 16) rfl rfl Try.func78 #[.slice A362_1 ((rd_T64 l0 x9_1).f1).length c362_1, .slice A1 l1.length c1] rfl ?_; (with_reducible refine (dragomanref11_all.calls k1 _ _ ((rd_T64 l0 x9_1).f1) _ _ l1 false _ ?side1 ?side2 ?side3 ?side4 A6.out).mono ?_); (case side1 => exact cB_ HR362_1 HB); (case side2 => exact HC362_1.out); (case side3 => exact cB_ HR1 HB); (case side4 => exact HC1.out); rintro e w14 ⟨rfl, hb⟩; refine ⟨_, rfl, ?_⟩; replace BK363 := bp_ (.cells #[.bool ((rd_T64 l0 x9_1).f0), .slice A362_1 ((rd_T64 l0 x9_1).f1).length c362_1] 64 (0, 0)) BK363 hb; replace HB := bs_ HB hb; clear hb))
   go_roundg k1
   case measure => have := HK1.out; omega
   case rel => exact ⟨(wrap64 (x9_1 + 1)), rf_, H', ⟨by have := HK1.out; omega⟩, ⟨bw_ HB.out⟩⟩
def r4_cut.f (k : Nat) (a0 : Int) (a1 : Int) : Option (Int) := (r3_Mask.f k a0 a1).bind fun bt365 => (some bt365.1)
set_option maxHeartbeats 8000000 in
set_option maxRecDepth 100000 in
theorem r4_cut.calls (k : Nat) (a0 : Int) (a1 : Int) (r : Int) (w : World) (h : r4_cut.f k a0 a1 = some r) :
 Calls Try.prog 104 #[.int .u32 a0, .int .i64 a1] w fun e w' => e = .returned (.int .u32 r) ∧ Below w.heap.size w w' := by
 have hu48 := Try.underlying48
 have HB := aM (Below.refl w.heap.size w)
 unfold r4_cut.f at h
 have H := h
 clear h
 obtain ⟨⟨t365, t366⟩, A3, H⟩ := bnd_ H
 dsimp only at H
 obtain rfl := Option.some.inj H
 go_enter Try.func104, Try.ntmps104
 go_wp2_with (first | ((with_reducible refine gf_ 102 rfl ?_); refine gL_ (some 8) rfl rfl Try.func102 #[.agg #[.int .u32 a0, .int .i64 a1]] rfl ?_; (with_reducible refine (r3_Mask.calls k a0 a1 t365 t366 _ A3.out).mono ?_); rintro e w4 ⟨rfl, hb⟩; refine ⟨_, rfl, ?_⟩; replace HB := bs_ HB hb; clear hb))
 simp [Instr.field, asAgg, part, go_sem, hu48]
 refine (‹∀ (a : Act) (w : World), wpList Try.prog _ _ _ a w → _› _ _ ?_)
 go_wp2
 first | go_ret | refine ⟨_, results_tmp rfl _ _ _, ?_⟩
 exact fin_ HB
end Go.Proofs.Ytlkjfjlmjgkheaa.H
namespace Go.Proofs.Ytlkjfjlmjgkheaa.H
open Go.RowKit Go.Proofs.YtlkjfjlmjgkheaaW.PrintWords Go.Proofs.YtlkjfjlmjgkheaaW.PrintLast Go.Proofs.YtlkjfjlmjgkheaaW.PrintMore
attribute [local go_sem] max2_int min2_int max_two min_two max_three min_three max_four min_four
set_option linter.unusedVariables false
set_option linter.unusedSimpArgs false
def r4_In.f (k : Nat) (a0_0 : Int) (a0_1 : Int) (a0_2 : Int) (a0_3 : Int) (a1_0 : Int) (a1_1 : Int) : Option (Bool) := (r4_Right.f k a0_0 a0_1 a0_2 a0_3).bind fun t369 => (if t369 = true then ((r3_Right.f k a1_0 a1_1).bind fun t370 => (if t370 = true then (if a1_1 ≥ a0_2 then (if a1_1 ≤ a0_3 then ((r4_cut.f k a1_0 a0_1).bind fun t371 => (some (t371 == a0_0))) else (some false)) else (some false)) else (some false))) else (some false))
def r4_In.T1 : Bool × List (List Nat × List Nat) := (true, [([], []), ([0], [0]), ([1, 1], [1]), ([2], [2]), ([3, 2, 2], [2, 3]), ([2, 4], [2, 4]), ([5, 4], [5]), ([6], [6]), ([7, 6], [6, 7]), ([6], [6]), ([9, 6], [6, 9]), ([8, 10, 6], [6, 8, 10]), ([6, 11], [6, 11]), ([12, 6], [12]), ([13], [13]), ([14, 13], [13, 14]), ([13], [13]), ([16, 13], [13, 16]), ([15, 17, 13], [13, 15, 17]), ([13, 18], [13, 18]), ([19, 13], [19]), ([20], [20]), ([21, 20], [20, 21]), ([20], [20]), ([23, 20], [20, 23]), ([24, 20], [20, 24]), ([22, 25, 20, 20], [20, 22, 25]), ([20], [20]), ([27, 20], [20, 27]), ([28, 20], [20, 28]), ([26, 29, 20], [20, 26, 29]), ([20, 30], [20, 30]), ([31, 26, 0, 1, 2, 3, 4, 5, 6, 7, 8, 9, 10, 11, 12, 13, 14, 15, 16, 17, 18, 19, 20, 21, 22, 23, 24, 25, 26, 27, 28, 29, 30, 31], [31])])
def r4_In.B1 : List Nat := [0, 1, 3, 7, 15, 31, 63, 127, 255, 127, 639, 2047, 4095, 8191, 16383, 32767, 16383, 81919, 262143, 524287, 1048575, 2097151, 4194303, 2097151, 10485759, 27262975, 67108863, 2097151, 136314879, 404750335, 1073741823, 2147483647, 4294967295]
theorem r4_In.tab1 : rtab .any (opsOf Try.f92 1) = r4_In.T1 := by kernel_rfl
theorem r4_In.bits1 : waitsOk r4_In.T1.2 r4_In.B1 = true := by kernel_rfl
set_option maxHeartbeats 8000000 in
set_option maxRecDepth 100000 in
theorem r4_In.calls (k : Nat) (a0_0 : Int) (a0_1 : Int) (a0_2 : Int) (a0_3 : Int) (a1_0 : Int) (a1_1 : Int) (r : Bool) (w : World) (h : r4_In.f k a0_0 a0_1 a0_2 a0_3 a1_0 a1_1 = some r) :
 Calls Try.prog 92 #[.agg #[.int .u32 a0_0, .int .i64 a0_1, .int .i64 a0_2, .int .i64 a0_3], .agg #[.int .u32 a1_0, .int .i64 a1_1]] w fun e w' => e = .returned (.bool r) ∧ Below w.heap.size w w' := by
 have hu81 := Try.underlying81
 have hu48 := Try.underlying48
 have HB := aM (Below.refl w.heap.size w)
 unfold r4_In.f at h
 have H := h
 clear h
 obtain ⟨t369, A3, H⟩ := bnd_ H
 by_cases c4 : t369 = true
 rotate_left
 · replace c4 := Bool.eq_false_iff.mpr c4
   subst c4
   rw [if_neg (show ¬ (false = true) by decide)] at H
   obtain rfl := Option.some.inj H
   go_enter Try.func92, Try.ntmps92
   try go_wp2_with (first | ((with_reducible refine gd_ 2 rfl ?_); refine be_ #[.int .u32 a0_0, .int .i64 a0_1, .int .i64 a0_2, .int .i64 a0_3] 81 ?_; intro gb367 hg w31 BK367 hb; have GW367 := ge_ HB hg; have GE367 := ge_ HB hg; replace HB := bs_ HB hb; clear hb hg) | ((with_reducible refine gd_ 3 rfl ?_); refine be_ #[.int .u32 a1_0, .int .i64 a1_1] 48 ?_; intro gb368 hg w32 BK368 hb; have GW368 := ge_ HB hg; have GE368 := ge_ HB hg; have NB367_368 := nl_ BK367 hg; have NB368_367 := ng_ BK367 hg; replace BK367 := bb_ BK367 hb; replace HB := bs_ HB hb; clear hb hg))
   replace BK367 := aM (blk_drew BK367.out)
   replace BK368 := aM (blk_drew BK368.out)
   replace HB := aM (below_drew1 HB.out)
   refine start_ (n := 33) (S := fun w' => w'.cell? ⟨gb367, 0, none⟩ = some (.int .u32 a0_0) ∧ w'.cell? ⟨gb367, 1, none⟩ = some (.int .i64 a0_1) ∧ w'.cell? ⟨gb367, 2, none⟩ = some (.int .i64 a0_2) ∧ w'.cell? ⟨gb367, 3, none⟩ = some (.int .i64 a0_3)) (ds := []) (tf 0 33) (by kernel_rfl) rfl rfl (bd4_ BK367) (fun hHeld => ?_); refine with_tabW r4_In.tab1 r4_In.bits1 (fun HT_ HW_ => ?_)
   generalize w32.drew = w33 at BK367 BK368 HB hHeld ⊢
   refine pT_ 0 (some 5) hHeld ?_
   refine pO_ 1 (some 6) (fun K hK => ?_)
   refine gO_ Try.func60 #[.agg #[.int .u32 a0_0, .int .i64 a0_1, .int .i64 a0_2, .int .i64 a0_3]] rfl rfl ?_
   with_reducible refine (r4_Right.calls k a0_0 a0_1 a0_2 a0_3 false _ A3.out).mono ?_
   rintro e w34 ⟨rfl, hb⟩
   refine ⟨_, rfl, ?_⟩
   replace BK367 := bb_ BK367 hb
   replace BK368 := bb_ BK368 hb
   replace HB := bs_ HB hb
   (try clear hb)
   (try clear hb2)
   (try clear hk)
   (try clear hi)
   refine hK.out _ _ (bd4_ BK367) (fun hHeld => ?_)
   clear hK K
   refine nO_ (some 6) ?_
   refine pA_ 2 (some 7) ?_
   refine pS_ 3 (some 8) ?_
   refine pS_ 4 (some 9) ?_
   refine pA_ 5 (some 10) ?_
   refine pA_ 6 (some 11) ?_
   refine pS_ 7 (some 12) ?_
   refine pS_ 8 (some 13) ?_
   refine pS_ 9 (some 14) ?_
   refine pS_ 10 (some 15) ?_
   refine pS_ 11 (some 16) ?_
   refine pA_ 12 (some 17) ?_
   refine pA_ 13 (some 18) ?_
   refine pS_ 14 (some 19) ?_
   refine pS_ 15 (some 20) ?_
   refine pS_ 16 (some 21) ?_
   refine pS_ 17 (some 22) ?_
   refine pS_ 18 (some 23) ?_
   refine pA_ 19 (some 24) ?_
   refine pA_ 20 (some 25) ?_
   refine pS_ 21 (some 26) ?_
   refine pS_ 22 (some 27) ?_
   refine pS_ 23 (some 28) ?_
   refine pS_ 24 (some 29) ?_
   refine pS_ 25 (some 30) ?_
   refine pS_ 26 (some 31) ?_
   refine pS_ 27 (some 32) ?_
   refine pS_ 28 (some 33) ?_
   refine pS_ 29 (some 34) ?_
   refine pS_ 30 (some 35) ?_
   refine pA_ 31 (some 36) ?_
   refine pA_ 32 (some 4) ?_
   refine done_ (done_of HT_.out (by kernel_rfl)) ?_
   try go_wp2
   first | go_ret | refine ⟨_, results_tmp rfl _ _ _, ?_⟩
   exact fin_ HB
 subst c4
 rw [if_pos rfl] at H
 obtain ⟨t370, A5, H⟩ := bnd_ H
 by_cases c6 : t370 = true
 rotate_left
 · replace c6 := Bool.eq_false_iff.mpr c6
   subst c6
   rw [if_neg (show ¬ (false = true) by decide)] at H
   obtain rfl := Option.some.inj H
   go_enter Try.func92, Try.ntmps92
   try go_wp2_with (first | ((with_reducible refine gd_ 2 rfl ?_); refine be_ #[.int .u32 a0_0, .int .i64 a0_1, .int .i64 a0_2, .int .i64 a0_3] 81 ?_; intro gb367 hg w26 BK367 hb; have GW367 := ge_ HB hg; have GE367 := ge_ HB hg; replace HB := bs_ HB hb; clear hb hg) | ((with_reducible refine gd_ 3 rfl ?_); refine be_ #[.int .u32 a1_0, .int .i64 a1_1] 48 ?_; intro gb368 hg w27 BK368 hb; have GW368 := ge_ HB hg; have GE368 := ge_ HB hg; have NB367_368 := nl_ BK367 hg; have NB368_367 := ng_ BK367 hg; replace BK367 := bb_ BK367 hb; replace HB := bs_ HB hb; clear hb hg))
   replace BK367 := aM (blk_drew BK367.out)
   replace BK368 := aM (blk_drew BK368.out)
   replace HB := aM (below_drew1 HB.out)
   refine start_ (n := 33) (S := fun w' => w'.cell? ⟨gb367, 0, none⟩ = some (.int .u32 a0_0) ∧ w'.cell? ⟨gb367, 1, none⟩ = some (.int .i64 a0_1) ∧ w'.cell? ⟨gb367, 2, none⟩ = some (.int .i64 a0_2) ∧ w'.cell? ⟨gb367, 3, none⟩ = some (.int .i64 a0_3) ∧ w'.cell? ⟨gb368, 0, none⟩ = some (.int .u32 a1_0) ∧ w'.cell? ⟨gb368, 1, none⟩ = some (.int .i64 a1_1)) (ds := []) (tf 0 33) (by kernel_rfl) rfl rfl ⟨(blk_cell BK367.out 0).trans rfl, (blk_cell BK367.out 1).trans rfl, (blk_cell BK367.out 2).trans rfl, (blk_cell BK367.out 3).trans rfl, (blk_cell BK368.out 0).trans rfl, (blk_cell BK368.out 1).trans rfl⟩ (fun hHeld => ?_); refine with_tabW r4_In.tab1 r4_In.bits1 (fun HT_ HW_ => ?_)
   generalize w27.drew = w28 at BK367 BK368 HB hHeld ⊢
   refine pT_ 0 (some 5) hHeld ?_
   refine pO_ 1 (some 6) (fun K hK => ?_)
   refine gO_ Try.func60 #[.agg #[.int .u32 a0_0, .int .i64 a0_1, .int .i64 a0_2, .int .i64 a0_3]] rfl rfl ?_
   with_reducible refine (r4_Right.calls k a0_0 a0_1 a0_2 a0_3 true _ A3.out).mono ?_
   rintro e w29 ⟨rfl, hb⟩
   refine ⟨_, rfl, ?_⟩
   replace BK367 := bb_ BK367 hb
   replace BK368 := bb_ BK368 hb
   replace HB := bs_ HB hb
   (try clear hb)
   (try clear hb2)
   (try clear hk)
   (try clear hi)
   refine hK.out _ _ ⟨(blk_cell BK367.out 0).trans rfl, (blk_cell BK367.out 1).trans rfl, (blk_cell BK367.out 2).trans rfl, (blk_cell BK367.out 3).trans rfl, (blk_cell BK368.out 0).trans rfl, (blk_cell BK368.out 1).trans rfl⟩ (fun hHeld => ?_)
   clear hK K
   refine nO_ (some 6) ?_
   refine pA_ 2 (some 7) ?_
   refine pT_ 3 (some 8) hHeld ?_
   refine pO_ 4 (some 9) (fun K hK => ?_)
   refine gO_ Try.func89 #[.agg #[.int .u32 a1_0, .int .i64 a1_1]] rfl rfl ?_
   with_reducible refine (r3_Right.calls k a1_0 a1_1 false _ A5.out).mono ?_
   rintro e w30 ⟨rfl, hb⟩
   refine ⟨_, rfl, ?_⟩
   replace BK367 := bb_ BK367 hb
   replace BK368 := bb_ BK368 hb
   replace HB := bs_ HB hb
   (try clear hb)
   (try clear hb2)
   (try clear hk)
   (try clear hi)
   refine hK.out _ _ ⟨(blk_cell BK367.out 0).trans rfl, (blk_cell BK367.out 1).trans rfl, (blk_cell BK367.out 2).trans rfl, (blk_cell BK367.out 3).trans rfl, (blk_cell BK368.out 0).trans rfl, (blk_cell BK368.out 1).trans rfl⟩ (fun hHeld => ?_)
   clear hK K
   refine nO_ (some 9) ?_
   refine pA_ 5 (some 10) ?_
   refine pA_ 6 (some 11) ?_
   refine pS_ 7 (some 12) ?_
   refine pS_ 8 (some 13) ?_
   refine pS_ 9 (some 14) ?_
   refine pS_ 10 (some 15) ?_
   refine pS_ 11 (some 16) ?_
   refine pA_ 12 (some 17) ?_
   refine pA_ 13 (some 18) ?_
   refine pS_ 14 (some 19) ?_
   refine pS_ 15 (some 20) ?_
   refine pS_ 16 (some 21) ?_
   refine pS_ 17 (some 22) ?_
   refine pS_ 18 (some 23) ?_
   refine pA_ 19 (some 24) ?_
   refine pA_ 20 (some 25) ?_
   refine pS_ 21 (some 26) ?_
   refine pS_ 22 (some 27) ?_
   refine pS_ 23 (some 28) ?_
   refine pS_ 24 (some 29) ?_
   refine pS_ 25 (some 30) ?_
   refine pS_ 26 (some 31) ?_
   refine pS_ 27 (some 32) ?_
   refine pS_ 28 (some 33) ?_
   refine pS_ 29 (some 34) ?_
   refine pS_ 30 (some 35) ?_
   refine pA_ 31 (some 36) ?_
   refine pA_ 32 (some 4) ?_
   refine done_ (done_of HT_.out (by kernel_rfl)) ?_
   try go_wp2
   first | go_ret | refine ⟨_, results_tmp rfl _ _ _, ?_⟩
   exact fin_ HB
 subst c6
 rw [if_pos rfl] at H
 by_cases c7 : a1_1 ≥ a0_2
 rotate_left
 · rw [if_neg c7] at H
   have c7b0 : decide (a0_2 ≤ a1_1) = false := decide_eq_false c7
   clear c7
   obtain rfl := Option.some.inj H
   go_enter Try.func92, Try.ntmps92
   try go_wp2_with (first | ((with_reducible refine gd_ 2 rfl ?_); refine be_ #[.int .u32 a0_0, .int .i64 a0_1, .int .i64 a0_2, .int .i64 a0_3] 81 ?_; intro gb367 hg w21 BK367 hb; have GW367 := ge_ HB hg; have GE367 := ge_ HB hg; replace HB := bs_ HB hb; clear hb hg) | ((with_reducible refine gd_ 3 rfl ?_); refine be_ #[.int .u32 a1_0, .int .i64 a1_1] 48 ?_; intro gb368 hg w22 BK368 hb; have GW368 := ge_ HB hg; have GE368 := ge_ HB hg; have NB367_368 := nl_ BK367 hg; have NB368_367 := ng_ BK367 hg; replace BK367 := bb_ BK367 hb; replace HB := bs_ HB hb; clear hb hg))
   replace BK367 := aM (blk_drew BK367.out)
   replace BK368 := aM (blk_drew BK368.out)
   replace HB := aM (below_drew1 HB.out)
   refine start_ (n := 33) (S := fun w' => w'.cell? ⟨gb367, 0, none⟩ = some (.int .u32 a0_0) ∧ w'.cell? ⟨gb367, 1, none⟩ = some (.int .i64 a0_1) ∧ w'.cell? ⟨gb367, 2, none⟩ = some (.int .i64 a0_2) ∧ w'.cell? ⟨gb367, 3, none⟩ = some (.int .i64 a0_3) ∧ w'.cell? ⟨gb368, 0, none⟩ = some (.int .u32 a1_0) ∧ w'.cell? ⟨gb368, 1, none⟩ = some (.int .i64 a1_1)) (ds := []) (tf 0 33) (by kernel_rfl) rfl rfl ⟨(blk_cell BK367.out 0).trans rfl, (blk_cell BK367.out 1).trans rfl, (blk_cell BK367.out 2).trans rfl, (blk_cell BK367.out 3).trans rfl, (blk_cell BK368.out 0).trans rfl, (blk_cell BK368.out 1).trans rfl⟩ (fun hHeld => ?_); refine with_tabW r4_In.tab1 r4_In.bits1 (fun HT_ HW_ => ?_)
   generalize w22.drew = w23 at BK367 BK368 HB hHeld ⊢
   refine pT_ 0 (some 5) hHeld ?_
   refine pO_ 1 (some 6) (fun K hK => ?_)
   refine gO_ Try.func60 #[.agg #[.int .u32 a0_0, .int .i64 a0_1, .int .i64 a0_2, .int .i64 a0_3]] rfl rfl ?_
   with_reducible refine (r4_Right.calls k a0_0 a0_1 a0_2 a0_3 true _ A3.out).mono ?_
   rintro e w24 ⟨rfl, hb⟩
   refine ⟨_, rfl, ?_⟩
   replace BK367 := bb_ BK367 hb
   replace BK368 := bb_ BK368 hb
   replace HB := bs_ HB hb
   (try clear hb)
   (try clear hb2)
   (try clear hk)
   (try clear hi)
   refine hK.out _ _ ⟨(blk_cell BK367.out 0).trans rfl, (blk_cell BK367.out 1).trans rfl, (blk_cell BK367.out 2).trans rfl, (blk_cell BK367.out 3).trans rfl, (blk_cell BK368.out 0).trans rfl, (blk_cell BK368.out 1).trans rfl⟩ (fun hHeld => ?_)
   clear hK K
   refine nO_ (some 6) ?_
   refine pA_ 2 (some 7) ?_
   refine pT_ 3 (some 8) hHeld ?_
   refine pO_ 4 (some 9) (fun K hK => ?_)
   refine gO_ Try.func89 #[.agg #[.int .u32 a1_0, .int .i64 a1_1]] rfl rfl ?_
   with_reducible refine (r3_Right.calls k a1_0 a1_1 true _ A5.out).mono ?_
   rintro e w25 ⟨rfl, hb⟩
   refine ⟨_, rfl, ?_⟩
   replace BK367 := bb_ BK367 hb
   replace BK368 := bb_ BK368 hb
   replace HB := bs_ HB hb
   (try clear hb)
   (try clear hb2)
   (try clear hk)
   (try clear hi)
   refine hK.out _ _ ⟨(blk_cell BK367.out 0).trans rfl, (blk_cell BK367.out 1).trans rfl, (blk_cell BK367.out 2).trans rfl, (blk_cell BK367.out 3).trans rfl, (blk_cell BK368.out 0).trans rfl, (blk_cell BK368.out 1).trans rfl⟩ (fun hHeld => ?_)
   clear hK K
   refine nO_ (some 9) ?_
   refine pA_ 5 (some 10) ?_
   refine pA_ 6 (some 11) ?_
   refine pA_ 7 (some 12) ?_
   refine pA_ 9 (some 14) ?_
   refine pT_ 8 (some 13) hHeld ?_
   refine pT_ 10 (some 15) hHeld ?_
   refine pA_ 11 (some 16) ?_
   refine pA_ 12 (some 17) ?_
   refine pA_ 13 (some 18) ?_
   refine pS_ 14 (some 19) ?_
   refine pS_ 15 (some 20) ?_
   refine pS_ 16 (some 21) ?_
   refine pS_ 17 (some 22) ?_
   refine pS_ 18 (some 23) ?_
   refine pA_ 19 (some 24) ?_
   refine pA_ 20 (some 25) ?_
   refine pS_ 21 (some 26) ?_
   refine pS_ 22 (some 27) ?_
   refine pS_ 23 (some 28) ?_
   refine pS_ 24 (some 29) ?_
   refine pS_ 25 (some 30) ?_
   refine pS_ 26 (some 31) ?_
   refine pS_ 27 (some 32) ?_
   refine pS_ 28 (some 33) ?_
   refine pS_ 29 (some 34) ?_
   refine pS_ 30 (some 35) ?_
   refine pA_ 31 (some 36) ?_
   refine pA_ 32 (some 4) ?_
   refine done_ (done_of HT_.out (by kernel_rfl)) ?_
   try go_wp2
   first | go_ret | refine ⟨_, results_tmp rfl _ _ _, ?_⟩
   exact fin_ HB
 rw [if_pos c7] at H
 have c7b0 : decide (a0_2 ≤ a1_1) = true := decide_eq_true c7
 clear c7
 by_cases c8 : a1_1 ≤ a0_3
 rotate_left
 · rw [if_neg c8] at H
   replace c8 := decide_eq_false c8
   obtain rfl := Option.some.inj H
   go_enter Try.func92, Try.ntmps92
   try go_wp2_with (first | ((with_reducible refine gd_ 2 rfl ?_); refine be_ #[.int .u32 a0_0, .int .i64 a0_1, .int .i64 a0_2, .int .i64 a0_3] 81 ?_; intro gb367 hg w16 BK367 hb; have GW367 := ge_ HB hg; have GE367 := ge_ HB hg; replace HB := bs_ HB hb; clear hb hg) | ((with_reducible refine gd_ 3 rfl ?_); refine be_ #[.int .u32 a1_0, .int .i64 a1_1] 48 ?_; intro gb368 hg w17 BK368 hb; have GW368 := ge_ HB hg; have GE368 := ge_ HB hg; have NB367_368 := nl_ BK367 hg; have NB368_367 := ng_ BK367 hg; replace BK367 := bb_ BK367 hb; replace HB := bs_ HB hb; clear hb hg))
   replace BK367 := aM (blk_drew BK367.out)
   replace BK368 := aM (blk_drew BK368.out)
   replace HB := aM (below_drew1 HB.out)
   refine start_ (n := 33) (S := fun w' => w'.cell? ⟨gb367, 0, none⟩ = some (.int .u32 a0_0) ∧ w'.cell? ⟨gb367, 1, none⟩ = some (.int .i64 a0_1) ∧ w'.cell? ⟨gb367, 2, none⟩ = some (.int .i64 a0_2) ∧ w'.cell? ⟨gb367, 3, none⟩ = some (.int .i64 a0_3) ∧ w'.cell? ⟨gb368, 0, none⟩ = some (.int .u32 a1_0) ∧ w'.cell? ⟨gb368, 1, none⟩ = some (.int .i64 a1_1)) (ds := []) (tf 0 33) (by kernel_rfl) rfl rfl ⟨(blk_cell BK367.out 0).trans rfl, (blk_cell BK367.out 1).trans rfl, (blk_cell BK367.out 2).trans rfl, (blk_cell BK367.out 3).trans rfl, (blk_cell BK368.out 0).trans rfl, (blk_cell BK368.out 1).trans rfl⟩ (fun hHeld => ?_); refine with_tabW r4_In.tab1 r4_In.bits1 (fun HT_ HW_ => ?_)
   generalize w17.drew = w18 at BK367 BK368 HB hHeld ⊢
   refine pT_ 0 (some 5) hHeld ?_
   refine pO_ 1 (some 6) (fun K hK => ?_)
   refine gO_ Try.func60 #[.agg #[.int .u32 a0_0, .int .i64 a0_1, .int .i64 a0_2, .int .i64 a0_3]] rfl rfl ?_
   with_reducible refine (r4_Right.calls k a0_0 a0_1 a0_2 a0_3 true _ A3.out).mono ?_
   rintro e w19 ⟨rfl, hb⟩
   refine ⟨_, rfl, ?_⟩
   replace BK367 := bb_ BK367 hb
   replace BK368 := bb_ BK368 hb
   replace HB := bs_ HB hb
   (try clear hb)
   (try clear hb2)
   (try clear hk)
   (try clear hi)
   refine hK.out _ _ ⟨(blk_cell BK367.out 0).trans rfl, (blk_cell BK367.out 1).trans rfl, (blk_cell BK367.out 2).trans rfl, (blk_cell BK367.out 3).trans rfl, (blk_cell BK368.out 0).trans rfl, (blk_cell BK368.out 1).trans rfl⟩ (fun hHeld => ?_)
   clear hK K
   refine nO_ (some 6) ?_
   refine pA_ 2 (some 7) ?_
   refine pT_ 3 (some 8) hHeld ?_
   refine pO_ 4 (some 9) (fun K hK => ?_)
   refine gO_ Try.func89 #[.agg #[.int .u32 a1_0, .int .i64 a1_1]] rfl rfl ?_
   with_reducible refine (r3_Right.calls k a1_0 a1_1 true _ A5.out).mono ?_
   rintro e w20 ⟨rfl, hb⟩
   refine ⟨_, rfl, ?_⟩
   replace BK367 := bb_ BK367 hb
   replace BK368 := bb_ BK368 hb
   replace HB := bs_ HB hb
   (try clear hb)
   (try clear hb2)
   (try clear hk)
   (try clear hi)
   refine hK.out _ _ ⟨(blk_cell BK367.out 0).trans rfl, (blk_cell BK367.out 1).trans rfl, (blk_cell BK367.out 2).trans rfl, (blk_cell BK367.out 3).trans rfl, (blk_cell BK368.out 0).trans rfl, (blk_cell BK368.out 1).trans rfl⟩ (fun hHeld => ?_)
   clear hK K
   refine nO_ (some 9) ?_
   refine pA_ 5 (some 10) ?_
   refine pA_ 6 (some 11) ?_
   refine pA_ 7 (some 12) ?_
   refine pA_ 9 (some 14) ?_
   refine pT_ 8 (some 13) hHeld ?_
   refine pT_ 10 (some 15) hHeld ?_
   refine pA_ 11 (some 16) ?_
   refine pA_ 12 (some 17) ?_
   refine pA_ 13 (some 18) ?_
   refine pA_ 14 (some 19) ?_
   refine pA_ 16 (some 21) ?_
   refine pT_ 15 (some 20) hHeld ?_
   refine pT_ 17 (some 22) hHeld ?_
   refine pA_ 18 (some 23) ?_
   refine pA_ 19 (some 24) ?_
   refine pA_ 20 (some 25) ?_
   refine pS_ 21 (some 26) ?_
   refine pS_ 22 (some 27) ?_
   refine pS_ 23 (some 28) ?_
   refine pS_ 24 (some 29) ?_
   refine pS_ 25 (some 30) ?_
   refine pS_ 26 (some 31) ?_
   refine pS_ 27 (some 32) ?_
   refine pS_ 28 (some 33) ?_
   refine pS_ 29 (some 34) ?_
   refine pS_ 30 (some 35) ?_
   refine pA_ 31 (some 36) ?_
   refine pA_ 32 (some 4) ?_
   refine done_ (done_of HT_.out (by kernel_rfl)) ?_
   try go_wp2
   first | go_ret | refine ⟨_, results_tmp rfl _ _ _, ?_⟩
   exact fin_ HB
 rw [if_pos c8] at H
 replace c8 := decide_eq_true c8
 obtain ⟨t371, A9, H⟩ := bnd_ H
 obtain rfl := Option.some.inj H
 go_enter Try.func92, Try.ntmps92
 try go_wp2_with (first | ((with_reducible refine gd_ 2 rfl ?_); refine be_ #[.int .u32 a0_0, .int .i64 a0_1, .int .i64 a0_2, .int .i64 a0_3] 81 ?_; intro gb367 hg w10 BK367 hb; have GW367 := ge_ HB hg; have GE367 := ge_ HB hg; replace HB := bs_ HB hb; clear hb hg) | ((with_reducible refine gd_ 3 rfl ?_); refine be_ #[.int .u32 a1_0, .int .i64 a1_1] 48 ?_; intro gb368 hg w11 BK368 hb; have GW368 := ge_ HB hg; have GE368 := ge_ HB hg; have NB367_368 := nl_ BK367 hg; have NB368_367 := ng_ BK367 hg; replace BK367 := bb_ BK367 hb; replace HB := bs_ HB hb; clear hb hg))
 replace BK367 := aM (blk_drew BK367.out)
 replace BK368 := aM (blk_drew BK368.out)
 replace HB := aM (below_drew1 HB.out)
 refine start_ (n := 33) (S := fun w' => w'.cell? ⟨gb367, 0, none⟩ = some (.int .u32 a0_0) ∧ w'.cell? ⟨gb367, 1, none⟩ = some (.int .i64 a0_1) ∧ w'.cell? ⟨gb367, 2, none⟩ = some (.int .i64 a0_2) ∧ w'.cell? ⟨gb367, 3, none⟩ = some (.int .i64 a0_3) ∧ w'.cell? ⟨gb368, 0, none⟩ = some (.int .u32 a1_0) ∧ w'.cell? ⟨gb368, 1, none⟩ = some (.int .i64 a1_1)) (ds := []) (tf 0 33) (by kernel_rfl) rfl rfl ⟨(blk_cell BK367.out 0).trans rfl, (blk_cell BK367.out 1).trans rfl, (blk_cell BK367.out 2).trans rfl, (blk_cell BK367.out 3).trans rfl, (blk_cell BK368.out 0).trans rfl, (blk_cell BK368.out 1).trans rfl⟩ (fun hHeld => ?_); refine with_tabW r4_In.tab1 r4_In.bits1 (fun HT_ HW_ => ?_)
 generalize w11.drew = w12 at BK367 BK368 HB hHeld ⊢
 refine pT_ 0 (some 5) hHeld ?_
 refine pO_ 1 (some 6) (fun K hK => ?_)
 refine gO_ Try.func60 #[.agg #[.int .u32 a0_0, .int .i64 a0_1, .int .i64 a0_2, .int .i64 a0_3]] rfl rfl ?_
 with_reducible refine (r4_Right.calls k a0_0 a0_1 a0_2 a0_3 true _ A3.out).mono ?_
 rintro e w13 ⟨rfl, hb⟩
 refine ⟨_, rfl, ?_⟩
 replace BK367 := bb_ BK367 hb
 replace BK368 := bb_ BK368 hb
 replace HB := bs_ HB hb
 (try clear hb)
 (try clear hb2)
 (try clear hk)
 (try clear hi)
 refine hK.out _ _ ⟨(blk_cell BK367.out 0).trans rfl, (blk_cell BK367.out 1).trans rfl, (blk_cell BK367.out 2).trans rfl, (blk_cell BK367.out 3).trans rfl, (blk_cell BK368.out 0).trans rfl, (blk_cell BK368.out 1).trans rfl⟩ (fun hHeld => ?_)
 clear hK K
 refine nO_ (some 6) ?_
 refine pA_ 2 (some 7) ?_
 refine pT_ 3 (some 8) hHeld ?_
 refine pO_ 4 (some 9) (fun K hK => ?_)
 refine gO_ Try.func89 #[.agg #[.int .u32 a1_0, .int .i64 a1_1]] rfl rfl ?_
 with_reducible refine (r3_Right.calls k a1_0 a1_1 true _ A5.out).mono ?_
 rintro e w14 ⟨rfl, hb⟩
 refine ⟨_, rfl, ?_⟩
 replace BK367 := bb_ BK367 hb
 replace BK368 := bb_ BK368 hb
 replace HB := bs_ HB hb
 (try clear hb)
 (try clear hb2)
 (try clear hk)
 (try clear hi)
 refine hK.out _ _ ⟨(blk_cell BK367.out 0).trans rfl, (blk_cell BK367.out 1).trans rfl, (blk_cell BK367.out 2).trans rfl, (blk_cell BK367.out 3).trans rfl, (blk_cell BK368.out 0).trans rfl, (blk_cell BK368.out 1).trans rfl⟩ (fun hHeld => ?_)
 clear hK K
 refine nO_ (some 9) ?_
 refine pA_ 5 (some 10) ?_
 refine pA_ 6 (some 11) ?_
 refine pA_ 7 (some 12) ?_
 refine pA_ 9 (some 14) ?_
 refine pT_ 8 (some 13) hHeld ?_
 refine pT_ 10 (some 15) hHeld ?_
 refine pA_ 11 (some 16) ?_
 refine pA_ 12 (some 17) ?_
 refine pA_ 13 (some 18) ?_
 refine pA_ 14 (some 19) ?_
 refine pA_ 16 (some 21) ?_
 refine pT_ 15 (some 20) hHeld ?_
 refine pT_ 17 (some 22) hHeld ?_
 refine pA_ 18 (some 23) ?_
 refine pA_ 19 (some 24) ?_
 refine pA_ 20 (some 25) ?_
 refine pA_ 21 (some 26) ?_
 refine pA_ 23 (some 28) ?_
 refine pA_ 24 (some 29) ?_
 refine pA_ 27 (some 32) ?_
 refine pA_ 28 (some 33) ?_
 refine pT_ 22 (some 27) hHeld ?_
 refine pT_ 25 (some 30) hHeld ?_
 refine pT_ 29 (some 34) hHeld ?_
 refine pO_ 26 (some 31) (fun K hK => ?_)
 refine gO_ Try.func104 #[.int .u32 a1_0, .int .i64 a0_1] rfl rfl ?_
 with_reducible refine (r4_cut.calls k a1_0 a0_1 t371 _ A9.out).mono ?_
 rintro e w15 ⟨rfl, hb⟩
 refine ⟨_, rfl, ?_⟩
 replace BK367 := bb_ BK367 hb
 replace BK368 := bb_ BK368 hb
 replace HB := bs_ HB hb
 (try clear hb)
 (try clear hb2)
 (try clear hk)
 (try clear hi)
 refine hK.out _ _ ⟨(blk_cell BK367.out 0).trans rfl, (blk_cell BK367.out 1).trans rfl, (blk_cell BK367.out 2).trans rfl, (blk_cell BK367.out 3).trans rfl, (blk_cell BK368.out 0).trans rfl, (blk_cell BK368.out 1).trans rfl⟩ (fun hHeld => ?_)
 clear hK K
 refine nO_ (some 31) ?_
 refine pA_ 30 (some 35) ?_
 refine pA_ 31 (some 36) ?_
 refine pA_ 32 (some 4) ?_
 refine done_ (done_of HT_.out (by kernel_rfl)) ?_
 try go_wp2
 first | go_ret | refine ⟨_, results_tmp rfl _ _ _, ?_⟩
 exact fin_ HB
end Go.Proofs.Ytlkjfjlmjgkheaa.H
