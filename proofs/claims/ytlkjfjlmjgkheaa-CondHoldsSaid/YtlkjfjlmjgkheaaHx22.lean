import Derived.Test.YtlkjfjlmjgkheaaHx0
import Derived.Test.YtlkjfjlmjgkheaaHx21
namespace Go.Proofs.Ytlkjfjlmjgkheaa.H
open Go.RowKit Go.Proofs.YtlkjfjlmjgkheaaW.PrintWords Go.Proofs.YtlkjfjlmjgkheaaW.PrintLast Go.Proofs.YtlkjfjlmjgkheaaW.PrintMore
attribute [local go_sem] max2_int min2_int max_two min_two max_three min_three max_four min_four
set_option linter.unusedVariables false
set_option linter.unusedSimpArgs false
mutual
def dragomanref11_Right.j0 : Nat → Int → Bool → Int → List (S83) → List (S61) → List (S64) → Int → Int → Option (Bool)
 | 0, _, _, _, _, _, _, _, _ => none
 | k + 1, x8, x9, x298000, x298001, x298002, x298003, x298004, x298005 => if x9 = true then (if (x298001.length : Int) > 64 then (some false) else (dragomanref11_Right.l0 k x298001 (x298001.length : Int) 0)) else (if x8 = 2 then (if (x298002.length : Int) > 64 then (some false) else (dragomanref11_Right.l1 k x298002 (x298002.length : Int) 0)) else (if x8 = 3 then ((dragomanref11_CommsRight.f k x298003).bind fun t304 => (some t304)) else (if x298000 ≥ 4 then (some (decide (x298000 ≤ 6))) else (some false))))
def dragomanref11_Right.l0 : Nat → List (S83) → Int → Int → Option (Bool)
 | 0, _, _, _ => none
 | k + 1, x17, x18, x19 => if x19 < x18 then (if 0 ≤ x19 then (if x19 < (x17.length : Int) then ((r4_Right.f k ((rd_T83 x17 x19).f1.f0.f0) ((rd_T83 x17 x19).f1.f0.f1) ((rd_T83 x17 x19).f1.f1) ((rd_T83 x17 x19).f1.f2)).bind fun t300 => (if t300 = true then (dragomanref11_Right.l0 k x17 x18 (wrap64 (x19 + 1))) else (some false))) else (none)) else (none)) else (some true)
def dragomanref11_Right.l1 : Nat → List (S61) → Int → Int → Option (Bool)
 | 0, _, _, _ => none
 | k + 1, x35, x36, x37 => if x37 < x36 then (if 0 ≤ x37 then (if x37 < (x35.length : Int) then ((r5_Right.f k ((rd_T61 x35 x37).f1.f0) ((rd_T61 x35 x37).f1.f1) ((rd_T61 x35 x37).f1.f2)).bind fun t303 => (if t303 = true then (dragomanref11_Right.l1 k x35 x36 (wrap64 (x37 + 1))) else (some false))) else (none)) else (none)) else (some true)
end
def dragomanref11_Right.f (k : Nat) (a0_0 : Int) (l0_1 : List (S83)) (l0_2 : List (S61)) (l0_3 : List (S64)) (a0_4 : Int) (a0_5 : Int) : Option (Bool) := if a0_0 = 1 then (dragomanref11_Right.j0 k a0_0 (a0_0 == 1) a0_0 l0_1 l0_2 l0_3 a0_4 a0_5) else (dragomanref11_Right.j0 k a0_0 (a0_0 == 7) a0_0 l0_1 l0_2 l0_3 a0_4 a0_5)
set_option maxHeartbeats 8000000 in
set_option maxRecDepth 100000 in
theorem dragomanref11_Right.calls (k : Nat) (a0_0 : Int) (A0_1 : Option Addr) (c0_1 : Nat) (l0_1 : List (S83)) (A0_2 : Option Addr) (c0_2 : Nat) (l0_2 : List (S61)) (A0_3 : Option Addr) (c0_3 : Nat) (l0_3 : List (S64)) (a0_4 : Int) (a0_5 : Int) (r : Bool) (w : World) (hr0_1 : Kd.C k83 w A0_1 l0_1.length l0_1) (hc0_1 : l0_1.length ≤ c0_1) (hr0_2 : Kd.C k61 w A0_2 l0_2.length l0_2) (hc0_2 : l0_2.length ≤ c0_2) (hr0_3 : Kd.C k64 w A0_3 l0_3.length l0_3) (hc0_3 : l0_3.length ≤ c0_3) (h : dragomanref11_Right.f k a0_0 l0_1 l0_2 l0_3 a0_4 a0_5 = some r) :
 Calls Try.prog 33 #[.agg #[.int .i64 a0_0, .slice A0_1 l0_1.length c0_1, .slice A0_2 l0_2.length c0_2, .slice A0_3 l0_3.length c0_3, .int .u32 a0_4, .int .u32 a0_5]] w fun e w' => e = .returned (.bool r) ∧ Below w.heap.size w w' := by
 have hu46 := Try.underlying46
 have hu83 := Try.underlying83
 have hu81 := Try.underlying81
 have hu61 := Try.underlying61
 have hu25 := Try.underlying25
 have HR0_1 := aM hr0_1
 have HC0_1 := aM hc0_1
 clear hr0_1 hc0_1
 have HR0_2 := aM hr0_2
 have HC0_2 := aM hc0_2
 clear hr0_2 hc0_2
 have HR0_3 := aM hr0_3
 have HC0_3 := aM hc0_3
 clear hr0_3 hc0_3
 have HB := aM (Below.refl w.heap.size w)
 have H : (if a0_0 = 1 then (dragomanref11_Right.j0 k a0_0 (a0_0 == 1) a0_0 l0_1 l0_2 l0_3 a0_4 a0_5) else (dragomanref11_Right.j0 k a0_0 (a0_0 == 7) a0_0 l0_1 l0_2 l0_3 a0_4 a0_5)) = some r := h
 clear h
 have HC2 := aM H
 clear H
 go_enter Try.func33, Try.ntmps33
 go_upto_if 9 with (first | ((with_reducible refine gate_dst (N := 1) rfl ?_); refine box_event ?hg (N := 1) ?hd (cs := #[.int .i64 a0_0, .slice A0_1 l0_1.length c0_1, .slice A0_2 l0_2.length c0_2, .slice A0_3 l0_3.length c0_3, .int .u32 a0_4, .int .u32 a0_5]) (t := 46) ?hr ?_; (case hd => rfl); (case hg => rfl); (case hr => first | (go_simp; done) | (go_simp; rfl)); intro gb297 hg w3 hbox hb; have n0_ := aM (below_step (by repeat (first | (with_reducible first | exact HB.out | apply blA | apply blN | apply blD) | exact HB.out)) hb); have n1_ := aM (hbox); have n2_ := aM ((by rw [hg]; exact (below_size (by repeat (first | (with_reducible first | exact HB.out | apply blA | apply blN | apply blD) | exact HB.out))) : w.heap.size ≤ gb297)); have n3_ := aM ((by rw [hg]; exact (below_size (by repeat (first | (with_reducible first | exact HB.out | apply blA | apply blN | apply blD) | exact HB.out))) : w.heap.size ≤ gb297)); clear HB; have HB := n0_; have BK297 := n1_; have GW297 := n2_; have GE297 := n3_; clear n0_ n1_ n2_ n3_; clear hb hbox hg; have hcz4_0 : w3.cell? ⟨gb297, 0, none⟩ = some (.int .i64 a0_0) := (blk_cell BK297.out 0).trans rfl; have hcz4_1 : w3.cell? ⟨gb297, 1, none⟩ = some (.slice A0_1 l0_1.length c0_1) := (blk_cell BK297.out 1).trans rfl; have hcz4_2 : w3.cell? ⟨gb297, 2, none⟩ = some (.slice A0_2 l0_2.length c0_2) := (blk_cell BK297.out 2).trans rfl; have hcz4_3 : w3.cell? ⟨gb297, 3, none⟩ = some (.slice A0_3 l0_3.length c0_3) := (blk_cell BK297.out 3).trans rfl; have hcz4_4 : w3.cell? ⟨gb297, 4, none⟩ = some (.int .u32 a0_4) := (blk_cell BK297.out 4).trans rfl; have hcz4_5 : w3.cell? ⟨gb297, 5, none⟩ = some (.int .u32 a0_5) := (blk_cell BK297.out 5).trans rfl; have hfz4_0 := bF BK297.out 0; have hfz4_1 := bF BK297.out 1; have hfz4_2 := bF BK297.out 2; have hfz4_3 := bF BK297.out 3; have hfz4_4 := bF BK297.out 4; have hfz4_5 := bF BK297.out 5))
 (try simp only [Act.put, sT, sZ, sS])
 go_cut [9] (fun v9 wc => ∃ (kq : Nat) (x9_1 : Bool), v9 = .bool x9_1 ∧ Aside0 (dragomanref11_Right.j0 kq a0_0 x9_1 a0_0 l0_1 l0_2 l0_3 a0_4 a0_5 = some r) ∧ Aside0 (kq ≤ k) ∧ Aside0 (wc.heap[gb297]? = some (.cells #[.int .i64 a0_0, (.slice A0_1 l0_1.length c0_1), (.slice A0_2 l0_2.length c0_2), (.slice A0_3 l0_3.length c0_3), .int .u32 a0_4, .int .u32 a0_5] 46 (0, 0))) ∧ Aside0 (Below w.heap.size w wc))
 case first =>
  have H := HC2.out
  clear HC2
  by_cases c5 : a0_0 = 1
  rotate_left
  · rw [if_neg c5] at H
    have c5b0 : (a0_0 == 1) = false := beq_eq_false_iff_ne.mpr c5
    have c5b1 : (a0_0 != 1) = true := bne_iff_ne.mpr c5
    (first | rw [c5b0] | (simp only [i64_w, i32_w]; rw [c5b0]) | rw [c5b1] | skip)
    have H' := aM H
    clear H
    go_wp2
    go_meet
    case rel => exact ⟨_, ((a0_0 == 7)), rf_, H', ⟨by first | omega | exact Nat.le_refl _⟩, ⟨ub_ BK297.out⟩, ⟨bw_ HB.out⟩⟩
  rw [if_pos c5] at H
  have c5b0 : (a0_0 == 1) = true := beq_iff_eq.mpr c5
  have c5b1 : (a0_0 != 1) = false := bne_eq_false_iff_eq.mpr c5
  clear c5
  (first | rw [c5b0] | (simp only [i64_w, i32_w]; rw [c5b0]) | rw [c5b1] | skip)
  have H' := aM H
  clear H
  go_wp2
  go_meet
  case rel => exact ⟨_, ((a0_0 == 1)), rf_, H', ⟨by first | omega | exact Nat.le_refl _⟩, ⟨ub_ BK297.out⟩, ⟨bw_ HB.out⟩⟩
 case rest =>
  clear HC2
  obtain ⟨kq, x9_1, rfl, HA, HJ1, BK297, HB⟩ := hcut
  cases kq with
  | zero => exact absurd HA.out (by simp [dragomanref11_Right.j0])
  | succ kj1 =>
   have H := HA.out
   clear HA
   simp only [dragomanref11_Right.j0] at H
   by_cases c6 : x9_1 = true
   · subst c6
     rw [if_pos rfl] at H
     by_cases c7 : (l0_1.length : Int) > 64
     · rw [if_pos c7] at H
       have c7b0 : decide (64 < (l0_1.length : Int)) = true := decide_eq_true c7
       have c7b1 : decide (64 < l0_1.length) = true := decide_eq_true (by omega)
       clear c7
       obtain rfl := Option.some.inj H
       obtain ⟨hcz8_0, hcz8_1, hcz8_2, hcz8_3, hcz8_4, hcz8_5, hfz8_0, hfz8_1, hfz8_2, hfz8_3, hfz8_4, hfz8_5⟩ := bc6_ BK297
       go_wp2
       first | go_ret | refine ⟨_, results_tmp rfl _ _ _, ?_⟩
       exact fin_ HB
     rw [if_neg c7] at H
     have c7b0 : decide (64 < (l0_1.length : Int)) = false := decide_eq_false c7
     have c7b1 : decide (64 < l0_1.length) = false := decide_eq_false (by omega)
     clear c7
     have H' := aM H
     clear H
     obtain ⟨hcz9_0, hcz9_1, hcz9_2, hcz9_3, hcz9_4, hcz9_5, hfz9_0, hfz9_1, hfz9_2, hfz9_3, hfz9_4, hfz9_5⟩ := bc6_ BK297
     go_wp2
     go_loopg [19] kj1 (fun kq v19 w' => ∃ (x19_2 : Int), v19 = .int .i64 x19_2 ∧ Aside0 (dragomanref11_Right.l0 kq l0_1 (l0_1.length : Int) x19_2 = some r) ∧ Aside0 (kq ≤ kj1) ∧ Aside0 (w'.heap[gb297]? = some (.cells #[.int .i64 a0_0, (.slice A0_1 l0_1.length c0_1), (.slice A0_2 l0_2.length c0_2), (.slice A0_3 l0_3.length c0_3), .int .u32 a0_4, .int .u32 a0_5] 46 (0, 0))) ∧ Aside0 (Below w.heap.size w w'))
     case atStart => exact ⟨(0), rf_, H', ⟨Nat.le_refl _⟩, ⟨ub_ BK297.out⟩, ⟨bw_ HB.out⟩⟩
     case round =>
      clear H'
      obtain ⟨x19_2, rfl, HA, HK2, BK297, HB⟩ := hrel
      cases gk with
      | zero => exact absurd HA.out (by simp [dragomanref11_Right.l0])
      | succ k2 =>
       have H := HA.out
       clear HA
       simp only [dragomanref11_Right.l0] at H
       by_cases c10 : x19_2 < (l0_1.length : Int)
       rotate_left
       · rw [if_neg c10] at H
         have c10b0 : decide (x19_2 < (l0_1.length : Int)) = false := decide_eq_false c10
         clear c10
         obtain rfl := Option.some.inj H
         go_wp2
         first | go_ret | refine ⟨_, results_tmp rfl _ _ _, ?_⟩
         exact fin_ HB
       rw [if_pos c10] at H
       have c10b0 : decide (x19_2 < (l0_1.length : Int)) = true := decide_eq_true c10
       clear c10
       have c11 := ifn_ H
       rw [if_pos c11] at H
       have c11b0 : decide (0 ≤ x19_2) = true := decide_eq_true c11
       clear c11
       have c12 := ifn_ H
       rw [if_pos c12] at H
       have c12b0 : decide (x19_2 < (l0_1.length : Int)) = true := decide_eq_true c12
       clear c12
       obtain ⟨t300, A13, H⟩ := bnd_ H
       by_cases c14 : t300 = true
       rotate_left
       · replace c14 := Bool.eq_false_iff.mpr c14
         subst c14
         rw [if_neg (show ¬ (false = true) by decide)] at H
         obtain rfl := Option.some.inj H
         have p298 : 0 ≤ (x19_2 : Int) := od_
         have q298 : x19_2 < (l0_1.length : Int) := od_
         obtain ⟨ad298, e298, hx298_0, hx298_1, hx298_2, hx298_3, hx298_4⟩ := at_T83 (Kd.C_below HR0_1.out HB.out) x19_2 p298 q298
         cases e298
         replace p298 := eq_true p298
         replace q298 := eq_true q298
         go_wp2_with (first | ((with_reducible refine gd_ 4 rfl ?_); refine be_ #[.bool false, .int .u32 0, .int .i64 0, .int .i64 0, .int .i64 0] 83 ?_; intro gb299 hg w19 BK299 hb; have GW299 := ge_ HB hg; have GE299 := ge_ HB hg; have NB297_299 := nl_ BK297 hg; have NB299_297 := ng_ BK297 hg; replace BK297 := bb_ BK297 hb; replace HB := bs_ HB hb; clear hb hg; have hnb20 := NB299_297.out; have hnc20 := NB297_299.out; obtain ⟨hcz21_0, hcz21_1, hcz21_2, hcz21_3, hcz21_4, hfz21_0, hfz21_1, hfz21_2, hfz21_3, hfz21_4⟩ := bc5_ BK299) | ((with_reducible refine gf_ 60 rfl ?_); refine gL_ (some 25) rfl rfl Try.func60 #[.agg #[.int .u32 ((rd_T83 l0_1 x19_2).f1.f0.f0), .int .i64 ((rd_T83 l0_1 x19_2).f1.f0.f1), .int .i64 ((rd_T83 l0_1 x19_2).f1.f1), .int .i64 ((rd_T83 l0_1 x19_2).f1.f2)]] rfl ?_; (with_reducible refine (r4_Right.calls k2 ((rd_T83 l0_1 x19_2).f1.f0.f0) ((rd_T83 l0_1 x19_2).f1.f0.f1) ((rd_T83 l0_1 x19_2).f1.f1) ((rd_T83 l0_1 x19_2).f1.f2) false _ A13.out).mono ?_); rintro e w22 ⟨rfl, hb⟩; refine ⟨_, rfl, ?_⟩; replace BK297 := bb_ BK297 hb; replace BK299 := bp_ (.cells #[.bool ((rd_T83 l0_1 x19_2).f0), .int .u32 ((rd_T83 l0_1 x19_2).f1.f0.f0), .int .i64 ((rd_T83 l0_1 x19_2).f1.f0.f1), .int .i64 ((rd_T83 l0_1 x19_2).f1.f1), .int .i64 ((rd_T83 l0_1 x19_2).f1.f2)] 83 (0, 0)) BK299 hb; replace HB := bs_ HB hb; clear hb))
         first | go_ret | refine ⟨_, results_tmp rfl _ _ _, ?_⟩
         exact fin_ HB
       subst c14
       rw [if_pos rfl] at H
       have H' := aM H
       clear H
       have p298 : 0 ≤ (x19_2 : Int) := od_
       have q298 : x19_2 < (l0_1.length : Int) := od_
       obtain ⟨ad298, e298, hx298_0, hx298_1, hx298_2, hx298_3, hx298_4⟩ := at_T83 (Kd.C_below HR0_1.out HB.out) x19_2 p298 q298
       cases e298
       replace p298 := eq_true p298
       replace q298 := eq_true q298
       go_wp2_with (first | ((with_reducible refine gd_ 4 rfl ?_); refine be_ #[.bool false, .int .u32 0, .int .i64 0, .int .i64 0, .int .i64 0] 83 ?_; intro gb299 hg w15 BK299 hb; have GW299 := ge_ HB hg; have GE299 := ge_ HB hg; have NB297_299 := nl_ BK297 hg; have NB299_297 := ng_ BK297 hg; replace BK297 := bb_ BK297 hb; replace HB := bs_ HB hb; clear hb hg; have hnb16 := NB299_297.out; have hnc16 := NB297_299.out; obtain ⟨hcz17_0, hcz17_1, hcz17_2, hcz17_3, hcz17_4, hfz17_0, hfz17_1, hfz17_2, hfz17_3, hfz17_4⟩ := bc5_ BK299) | ((with_reducible refine gf_ 60 rfl ?_); refine gL_ (some 25) rfl rfl Try.func60 #[.agg #[.int .u32 ((rd_T83 l0_1 x19_2).f1.f0.f0), .int .i64 ((rd_T83 l0_1 x19_2).f1.f0.f1), .int .i64 ((rd_T83 l0_1 x19_2).f1.f1), .int .i64 ((rd_T83 l0_1 x19_2).f1.f2)]] rfl ?_; (with_reducible refine (r4_Right.calls k2 ((rd_T83 l0_1 x19_2).f1.f0.f0) ((rd_T83 l0_1 x19_2).f1.f0.f1) ((rd_T83 l0_1 x19_2).f1.f1) ((rd_T83 l0_1 x19_2).f1.f2) true _ A13.out).mono ?_); rintro e w18 ⟨rfl, hb⟩; refine ⟨_, rfl, ?_⟩; replace BK297 := bb_ BK297 hb; replace BK299 := bp_ (.cells #[.bool ((rd_T83 l0_1 x19_2).f0), .int .u32 ((rd_T83 l0_1 x19_2).f1.f0.f0), .int .i64 ((rd_T83 l0_1 x19_2).f1.f0.f1), .int .i64 ((rd_T83 l0_1 x19_2).f1.f1), .int .i64 ((rd_T83 l0_1 x19_2).f1.f2)] 83 (0, 0)) BK299 hb; replace HB := bs_ HB hb; clear hb))
       go_roundg k2
       case measure => have := HJ1.out; have := HK2.out; omega
       case rel => exact ⟨(wrap64 (x19_2 + 1)), rf_, H', ⟨by have := HJ1.out; have := HK2.out; omega⟩, ⟨ub_ BK297.out⟩, ⟨bw_ HB.out⟩⟩
   replace c6 := Bool.eq_false_iff.mpr c6
   subst c6
   rw [if_neg (show ¬ (false = true) by decide)] at H
   by_cases c23 : a0_0 = 2
   rotate_left
   · rw [if_neg c23] at H
     have c23b0 : (a0_0 == 2) = false := beq_eq_false_iff_ne.mpr c23
     have c23b1 : (a0_0 != 2) = true := bne_iff_ne.mpr c23
     by_cases c40 : a0_0 = 3
     · rw [if_pos c40] at H
       have c40b0 : (a0_0 == 3) = true := beq_iff_eq.mpr c40
       have c40b1 : (a0_0 != 3) = false := bne_eq_false_iff_eq.mpr c40
       clear c40
       obtain ⟨t304, A41, H⟩ := bnd_ H
       obtain rfl := Option.some.inj H
       obtain ⟨hcz42_0, hcz42_1, hcz42_2, hcz42_3, hcz42_4, hcz42_5, hfz42_0, hfz42_1, hfz42_2, hfz42_3, hfz42_4, hfz42_5⟩ := bc6_ BK297
       go_wp2_with (first | ((with_reducible refine gf_ 61 rfl ?_); refine gL_ (some 50) rfl rfl Try.func61 #[.slice A0_3 l0_3.length c0_3] rfl ?_; (with_reducible refine (dragomanref11_CommsRight.calls kj1 _ _ l0_3 t304 _ ?side1 ?side2 A41.out).mono ?_); (case side1 => exact cB_ HR0_3 HB); (case side2 => exact HC0_3.out); rintro e w43 ⟨rfl, hb⟩; refine ⟨_, rfl, ?_⟩; replace BK297 := bb_ BK297 hb; replace HB := bs_ HB hb; clear hb))
       first | go_ret | refine ⟨_, results_tmp rfl _ _ _, ?_⟩
       exact fin_ HB
     rw [if_neg c40] at H
     have c40b0 : (a0_0 == 3) = false := beq_eq_false_iff_ne.mpr c40
     have c40b1 : (a0_0 != 3) = true := bne_iff_ne.mpr c40
     by_cases c44 : a0_0 ≥ 4
     · rw [if_pos c44] at H
       have c44b0 : decide (4 ≤ a0_0) = true := decide_eq_true c44
       clear c44
       obtain rfl := Option.some.inj H
       obtain ⟨hcz45_0, hcz45_1, hcz45_2, hcz45_3, hcz45_4, hcz45_5, hfz45_0, hfz45_1, hfz45_2, hfz45_3, hfz45_4, hfz45_5⟩ := bc6_ BK297
       go_wp2
       first | go_ret | refine ⟨_, results_tmp rfl _ _ _, ?_⟩
       exact fin_ HB
     rw [if_neg c44] at H
     have c44b0 : decide (4 ≤ a0_0) = false := decide_eq_false c44
     clear c44
     obtain rfl := Option.some.inj H
     obtain ⟨hcz46_0, hcz46_1, hcz46_2, hcz46_3, hcz46_4, hcz46_5, hfz46_0, hfz46_1, hfz46_2, hfz46_3, hfz46_4, hfz46_5⟩ := bc6_ BK297
     go_wp2
     first | go_ret | refine ⟨_, results_tmp rfl _ _ _, ?_⟩
     exact fin_ HB
   rw [if_pos c23] at H
   have c23b0 : (a0_0 == 2) = true := beq_iff_eq.mpr c23
   have c23b1 : (a0_0 != 2) = false := bne_eq_false_iff_eq.mpr c23
   clear c23
   by_cases c24 : (l0_2.length : Int) > 64
   · rw [if_pos c24] at H
     have c24b0 : decide (64 < (l0_2.length : Int)) = true := decide_eq_true c24
     have c24b1 : decide (64 < l0_2.length) = true := decide_eq_true (by omega)
     clear c24
     obtain rfl := Option.some.inj H
     obtain ⟨hcz25_0, hcz25_1, hcz25_2, hcz25_3, hcz25_4, hcz25_5, hfz25_0, hfz25_1, hfz25_2, hfz25_3, hfz25_4, hfz25_5⟩ := bc6_ BK297
     go_wp2
     first | go_ret | refine ⟨_, results_tmp rfl _ _ _, ?_⟩
     exact fin_ HB
   rw [if_neg c24] at H
   have c24b0 : decide (64 < (l0_2.length : Int)) = false := decide_eq_false c24
   have c24b1 : decide (64 < l0_2.length) = false := decide_eq_false (by omega)
   clear c24
   have H' := aM H
   clear H
   obtain ⟨hcz26_0, hcz26_1, hcz26_2, hcz26_3, hcz26_4, hcz26_5, hfz26_0, hfz26_1, hfz26_2, hfz26_3, hfz26_4, hfz26_5⟩ := bc6_ BK297
   go_wp2
   go_loopg [37] kj1 (fun kq v37 w' => ∃ (x37_2 : Int), v37 = .int .i64 x37_2 ∧ Aside0 (dragomanref11_Right.l1 kq l0_2 (l0_2.length : Int) x37_2 = some r) ∧ Aside0 (kq ≤ kj1) ∧ Aside0 (w'.heap[gb297]? = some (.cells #[.int .i64 a0_0, (.slice A0_1 l0_1.length c0_1), (.slice A0_2 l0_2.length c0_2), (.slice A0_3 l0_3.length c0_3), .int .u32 a0_4, .int .u32 a0_5] 46 (0, 0))) ∧ Aside0 (Below w.heap.size w w'))
   case atStart => exact ⟨(0), rf_, H', ⟨Nat.le_refl _⟩, ⟨ub_ BK297.out⟩, ⟨bw_ HB.out⟩⟩
   case round =>
    clear H'
    obtain ⟨x37_2, rfl, HA, HK2, BK297, HB⟩ := hrel
    cases gk with
    | zero => exact absurd HA.out (by simp [dragomanref11_Right.l1])
    | succ k2 =>
     have H := HA.out
     clear HA
     simp only [dragomanref11_Right.l1] at H
     by_cases c27 : x37_2 < (l0_2.length : Int)
     rotate_left
     · rw [if_neg c27] at H
       replace c27 := decide_eq_false c27
       obtain rfl := Option.some.inj H
       go_wp2
       first | go_ret | refine ⟨_, results_tmp rfl _ _ _, ?_⟩
       exact fin_ HB
     rw [if_pos c27] at H
     replace c27 := decide_eq_true c27
     obtain ⟨c28, H⟩ := ifd_ H
     obtain ⟨c29, H⟩ := ifd_ H
     obtain ⟨t303, A30, H⟩ := bnd_ H
     by_cases c31 : t303 = true
     rotate_left
     · replace c31 := Bool.eq_false_iff.mpr c31
       subst c31
       rw [if_neg (show ¬ (false = true) by decide)] at H
       obtain rfl := Option.some.inj H
       have p301 : 0 ≤ (x37_2 : Int) := od_
       have q301 : x37_2 < (l0_2.length : Int) := od_
       obtain ⟨ad301, A301_2, c301_2, A301_3, c301_3, e301, hx301_0, hx301_1, hx301_2, hx301_3, hl301_2, hi301_2, hl301_3, hi301_3⟩ := at_T61 HR0_2.out x37_2 p301 q301
       cases e301
       replace hx301_0 := hx_ HB hx301_0
       replace hx301_1 := hx_ HB hx301_1
       replace hx301_2 := hx_ HB hx301_2
       replace hx301_3 := hx_ HB hx301_3
       have HR301_2 := aM hi301_2
       have HC301_2 := aM hl301_2
       clear hi301_2 hl301_2
       have HR301_3 := aM hi301_3
       have HC301_3 := aM hl301_3
       clear hi301_3 hl301_3
       replace p301 := eq_true p301
       replace q301 := eq_true q301
       go_wp2_with (first | ((with_reducible refine gd_ 6 rfl ?_); refine be_ #[.bool false, .int .i64 0, .slice none 0 0, .slice none 0 0] 61 ?_; intro gb302 hg w36 BK302 hb; have GW302 := ge_ HB hg; have GE302 := ge_ HB hg; have NB297_302 := nl_ BK297 hg; have NB302_297 := ng_ BK297 hg; replace BK297 := bb_ BK297 hb; replace HB := bs_ HB hb; clear hb hg; have hnb37 := NB302_297.out; have hnc37 := NB297_302.out; obtain ⟨hcz38_0, hcz38_1, hcz38_2, hcz38_3, hfz38_0, hfz38_1, hfz38_2, hfz38_3⟩ := bc4_ BK302) | ((with_reducible refine gf_ 17 rfl ?_); refine gL_ (some 43) rfl rfl Try.func17 #[.agg #[.int .i64 ((rd_T61 l0_2 x37_2).f1.f0), .slice A301_2 ((rd_T61 l0_2 x37_2).f1.f1).length c301_2, .slice A301_3 ((rd_T61 l0_2 x37_2).f1.f2).length c301_3]] rfl ?_; (with_reducible refine (r5_Right.calls k2 ((rd_T61 l0_2 x37_2).f1.f0) _ _ ((rd_T61 l0_2 x37_2).f1.f1) _ _ ((rd_T61 l0_2 x37_2).f1.f2) false _ ?side1 ?side2 ?side3 ?side4 A30.out).mono ?_); (case side1 => exact cB_ HR301_2 HB); (case side2 => exact HC301_2.out); (case side3 => exact cB_ HR301_3 HB); (case side4 => exact HC301_3.out); rintro e w39 ⟨rfl, hb⟩; refine ⟨_, rfl, ?_⟩; replace BK297 := bb_ BK297 hb; replace BK302 := bp_ (.cells #[.bool ((rd_T61 l0_2 x37_2).f0), .int .i64 ((rd_T61 l0_2 x37_2).f1.f0), .slice A301_2 ((rd_T61 l0_2 x37_2).f1.f1).length c301_2, .slice A301_3 ((rd_T61 l0_2 x37_2).f1.f2).length c301_3] 61 (0, 0)) BK302 hb; replace HB := bs_ HB hb; clear hb))
       first | go_ret | refine ⟨_, results_tmp rfl _ _ _, ?_⟩
       exact fin_ HB
     subst c31
     rw [if_pos rfl] at H
     have H' := aM H
     clear H
     have p301 : 0 ≤ (x37_2 : Int) := od_
     have q301 : x37_2 < (l0_2.length : Int) := od_
     obtain ⟨ad301, A301_2, c301_2, A301_3, c301_3, e301, hx301_0, hx301_1, hx301_2, hx301_3, hl301_2, hi301_2, hl301_3, hi301_3⟩ := at_T61 HR0_2.out x37_2 p301 q301
     cases e301
     replace hx301_0 := hx_ HB hx301_0
     replace hx301_1 := hx_ HB hx301_1
     replace hx301_2 := hx_ HB hx301_2
     replace hx301_3 := hx_ HB hx301_3
     have HR301_2 := aM hi301_2
     have HC301_2 := aM hl301_2
     clear hi301_2 hl301_2
     have HR301_3 := aM hi301_3
     have HC301_3 := aM hl301_3
     clear hi301_3 hl301_3
     replace p301 := eq_true p301
     replace q301 := eq_true q301
     go_wp2_with (first | ((with_reducible refine gd_ 6 rfl ?_); refine be_ #[.bool false, .int .i64 0, .slice none 0 0, .slice none 0 0] 61 ?_; intro gb302 hg w32 BK302 hb; have GW302 := ge_ HB hg; have GE302 := ge_ HB hg; have NB297_302 := nl_ BK297 hg; have NB302_297 := ng_ BK297 hg; replace BK297 := bb_ BK297 hb; replace HB := bs_ HB hb; clear hb hg; have hnb33 := NB302_297.out; have hnc33 := NB297_302.out; obtain ⟨hcz34_0, hcz34_1, hcz34_2, hcz34_3, hfz34_0, hfz34_1, hfz34_2, hfz34_3⟩ := bc4_ BK302) | ((with_reducible refine gf_ 17 rfl ?_); refine gL_ (some 43) rfl rfl Try.func17 #[.agg #[.int .i64 ((rd_T61 l0_2 x37_2).f1.f0), .slice A301_2 ((rd_T61 l0_2 x37_2).f1.f1).length c301_2, .slice A301_3 ((rd_T61 l0_2 x37_2).f1.f2).length c301_3]] rfl ?_; (with_reducible refine (r5_Right.calls k2 ((rd_T61 l0_2 x37_2).f1.f0) _ _ ((rd_T61 l0_2 x37_2).f1.f1) _ _ ((rd_T61 l0_2 x37_2).f1.f2) true _ ?side1 ?side2 ?side3 ?side4 A30.out).mono ?_); (case side1 => exact cB_ HR301_2 HB); (case side2 => exact HC301_2.out); (case side3 => exact cB_ HR301_3 HB); (case side4 => exact HC301_3.out); rintro e w35 ⟨rfl, hb⟩; refine ⟨_, rfl, ?_⟩; replace BK297 := bb_ BK297 hb; replace BK302 := bp_ (.cells #[.bool ((rd_T61 l0_2 x37_2).f0), .int .i64 ((rd_T61 l0_2 x37_2).f1.f0), .slice A301_2 ((rd_T61 l0_2 x37_2).f1.f1).length c301_2, .slice A301_3 ((rd_T61 l0_2 x37_2).f1.f2).length c301_3] 61 (0, 0)) BK302 hb; replace HB := bs_ HB hb; clear hb))
     go_roundg k2
     case measure => have := HJ1.out; have := HK2.out; omega
     case rel => exact ⟨(wrap64 (x37_2 + 1)), rf_, H', ⟨by have := HJ1.out; have := HK2.out; omega⟩, ⟨ub_ BK297.out⟩, ⟨bw_ HB.out⟩⟩
end Go.Proofs.Ytlkjfjlmjgkheaa.H
