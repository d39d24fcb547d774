import Derived.Test.YtlkjfjlmjgkheaaHx0
import Derived.Test.YtlkjfjlmjgkheaaHx14
namespace Go.Proofs.Ytlkjfjlmjgkheaa.H
open Go.RowKit Go.Proofs.YtlkjfjlmjgkheaaW.PrintWords Go.Proofs.YtlkjfjlmjgkheaaW.PrintLast Go.Proofs.YtlkjfjlmjgkheaaW.PrintMore
attribute [local go_sem] max2_int min2_int max_two min_two max_three min_three max_four min_four
set_option linter.unusedVariables false
set_option linter.unusedSimpArgs false
mutual
def r5_ends.l0 : Nat → List Bool → List Bool → List Int → Int → Int → Int → List (S66) → List (S25) → Option (List Bool)
 | 0, _, _, _, _, _, _, _, _ => none
 | k + 1, x2, x7, x26, x27, x28, x221000, x221001, x221002 => if x28 < x27 then (if 0 ≤ x28 then (if x28 < (x26.length : Int) then (if x28 < (x2.length : Int) then (if rdOf false x2 x28 = true then ((r1_In.f k x221001 (rd x26 x28)).bind fun t226 => (if t226 = true then (if 0 ≤ (wrap64 (x28 + 1)) then (if (wrap64 (x28 + 1)) < (x7.length : Int) then (r5_ends.l0 k x2 (x7.set ((wrap64 (x28 + 1)) : Int).toNat true) x26 x27 (wrap64 (x28 + 1)) x221000 x221001 x221002) else (none)) else (none)) else (r5_ends.l0 k x2 x7 x26 x27 (wrap64 (x28 + 1)) x221000 x221001 x221002))) else (r5_ends.l0 k x2 x7 x26 x27 (wrap64 (x28 + 1)) x221000 x221001 x221002)) else (none)) else (none)) else (none)) else (some x7)
def r5_ends.l1 : Nat → List Int → List Bool → List (S25) → Int → Int → Option (List Bool)
 | 0, _, _, _, _, _ => none
 | k + 1, x1, x7, x54, x55, x56 => if x56 < x55 then (if 0 ≤ x56 then (if x56 < (x54.length : Int) then ((r5_ends.f k ((rd_T25 x54 x56).f0) ((rd_T25 x54 x56).f1) ((rd_T25 x54 x56).f2) x1 x7).bind fun t233 => (r5_ends.l1 k x1 t233 x54 x55 (wrap64 (x56 + 1)))) else (none)) else (none)) else (some x7)
def r5_ends.l2 : Nat → List Int → List Bool → List Bool → List (S25) → Int → Int → Option (List Bool)
 | 0, _, _, _, _, _, _ => none
 | k + 1, x1, x2, x7, x68, x69, x70 => if x70 < x69 then (if 0 ≤ x70 then (if x70 < (x68.length : Int) then ((r5_ends.f k ((rd_T25 x68 x70).f0) ((rd_T25 x68 x70).f1) ((rd_T25 x68 x70).f2) x1 x2).bind fun t238 => (r5_ends.l3 k x1 x2 x7 x68 x69 x70 t238 (t238.length : Int) 0)) else (none)) else (none)) else (some x7)
def r5_ends.l3 : Nat → List Int → List Bool → List Bool → List (S25) → Int → Int → List Bool → Int → Int → Option (List Bool)
 | 0, _, _, _, _, _, _, _, _, _ => none
 | k + 1, x1, x2, x7, x68, x69, x70, x77, x78, x79 => if x79 < x78 then (if 0 ≤ x79 then (if x79 < (x77.length : Int) then (if x79 < (x7.length : Int) then (if rdOf false x7 x79 = true then (r5_ends.l3 k x1 x2 (x7.set (x79 : Int).toNat true) x68 x69 x70 x77 x78 (wrap64 (x79 + 1))) else (r5_ends.l3 k x1 x2 (x7.set (x79 : Int).toNat (rdOf false x77 x79)) x68 x69 x70 x77 x78 (wrap64 (x79 + 1)))) else (none)) else (none)) else (none)) else (r5_ends.l2 k x1 x2 x7 x68 x69 (wrap64 (x70 + 1)))
def r5_ends.l4 : Nat → List Int → List Bool → Bool → Int → List (S66) → List (S25) → Option (List Bool)
 | 0, _, _, _, _, _, _ => none
 | k + 1, x1, x7, x16, x221000, x221001, x221002 => if x16 = true then (if 0 < (x221002.length : Int) then ((r5_ends.f k ((rd_T25 x221002 0).f0) ((rd_T25 x221002 0).f1) ((rd_T25 x221002 0).f2) x1 x7).bind fun t249 => (r5_ends.l5 k x1 x7 false t249 (t249.length : Int) 0 x221000 x221001 x221002)) else (none)) else (some x7)
def r5_ends.l5 : Nat → List Int → List Bool → Bool → List Bool → Int → Int → Int → List (S66) → List (S25) → Option (List Bool)
 | 0, _, _, _, _, _, _, _, _, _ => none
 | k + 1, x1, x7, x16, x108, x109, x110, x221000, x221001, x221002 => if x110 < x109 then (if 0 ≤ x110 then (if x110 < (x108.length : Int) then (if rdOf false x108 x110 = true then (if x110 < (x7.length : Int) then (if rdOf false x7 x110 = true then (r5_ends.l5 k x1 x7 x16 x108 x109 (wrap64 (x110 + 1)) x221000 x221001 x221002) else (r5_ends.l5 k x1 (x7.set (x110 : Int).toNat true) true x108 x109 (wrap64 (x110 + 1)) x221000 x221001 x221002)) else (none)) else (r5_ends.l5 k x1 x7 x16 x108 x109 (wrap64 (x110 + 1)) x221000 x221001 x221002)) else (none)) else (none)) else (r5_ends.l4 k x1 x7 x16 x221000 x221001 x221002)
def r5_ends.f : Nat → Int → List (S66) → List (S25) → List Int → List Bool → Option (List Bool)
 | 0, _, _, _, _, _ => none
 | k + 1, a0_0, l0_1, l0_2, l1, l2 => if 0 ≤ (l2.length : Int) then (if ((l2.length : Int) : Int).toNat ≤ 281474976710656 then ((some (List.replicate ((l2.length : Int) : Int).toNat false : List Bool)).bind fun y221 => (if a0_0 = 1 then (r5_ends.l0 k l2 y221 l1 (l1.length : Int) 0 a0_0 l0_1 l0_2) else (if a0_0 = 2 then (r5_ends.l1 k l1 (l2.take (min l2.length y221.length) ++ y221.drop (min l2.length y221.length)) l0_2 (l0_2.length : Int) 0) else (if a0_0 = 3 then (r5_ends.l2 k l1 l2 y221 l0_2 (l0_2.length : Int) 0) else (if a0_0 = 4 then (r5_ends.l4 k l1 (l2.take (min l2.length y221.length) ++ y221.drop (min l2.length y221.length)) true a0_0 l0_1 l0_2) else (some y221)))))) else (none)) else (none)
end
set_option maxHeartbeats 8000000 in
set_option maxRecDepth 100000 in
theorem r5_ends.calls (k : Nat) : ∀ (a0_0 : Int) (A0_1 : Option Addr) (c0_1 : Nat) (l0_1 : List (S66)) (A0_2 : Option Addr) (c0_2 : Nat) (l0_2 : List (S25)) (A1 : Option Addr) (c1 : Nat) (l1 : List Int) (A2 : Option Addr) (c2 : Nat) (l2 : List Bool) (r : List Bool) (w : World) (hr0_1 : Kd.C k66 w A0_1 l0_1.length l0_1) (hc0_1 : l0_1.length ≤ c0_1) (hr0_2 : Kd.C k25 w A0_2 l0_2.length l0_2) (hc0_2 : l0_2.length ≤ c0_2) (hr1 : Kd.C (Kd.int .u32) w A1 l1.length l1) (hc1 : l1.length ≤ c1) (hr2 : Kd.C Kd.bool w A2 l2.length l2) (hc2 : l2.length ≤ c2) (h : r5_ends.f k a0_0 l0_1 l0_2 l1 l2 = some r),
 Calls Try.prog 83 #[.agg #[.int .i64 a0_0, .slice A0_1 l0_1.length c0_1, .slice A0_2 l0_2.length c0_2], .slice A1 l1.length c1, .slice A2 l2.length c2] w fun e w' => ∃ v0_ : Value, e = .returned (v0_) ∧ Kd.R Kd.bool 4 w' w.heap.size (fun _ => True) v0_ r ∧ Below w.heap.size w w' := by
 induction k using Nat.strongRecOn with
 | _ k ih =>
 intro a0_0 A0_1 c0_1 l0_1 A0_2 c0_2 l0_2 A1 c1 l1 A2 c2 l2 r w hr0_1 hc0_1 hr0_2 hc0_2 hr1 hc1 hr2 hc2 h
 cases k with
 | zero => exact absurd h (by simp [r5_ends.f])
 | succ k =>
 simp only [r5_ends.f] at h
 have hu25 := Try.underlying25
 have HR0_1 := aM hr0_1
 have HC0_1 := aM hc0_1
 clear hr0_1 hc0_1
 have HR0_2 := aM hr0_2
 have HC0_2 := aM hc0_2
 clear hr0_2 hc0_2
 have HR1 := aM hr1
 have HC1 := aM hc1
 clear hr1 hc1
 have HR2 := aM hr2
 have HC2 := aM hc2
 clear hr2 hc2
 have HB := aM (Below.refl w.heap.size w)
 have H : (if 0 ≤ (l2.length : Int) then (if ((l2.length : Int) : Int).toNat ≤ 281474976710656 then ((some (List.replicate ((l2.length : Int) : Int).toNat false : List Bool)).bind fun y221 => (if a0_0 = 1 then (r5_ends.l0 k l2 y221 l1 (l1.length : Int) 0 a0_0 l0_1 l0_2) else (if a0_0 = 2 then (r5_ends.l1 k l1 (l2.take (min l2.length y221.length) ++ y221.drop (min l2.length y221.length)) l0_2 (l0_2.length : Int) 0) else (if a0_0 = 3 then (r5_ends.l2 k l1 l2 y221 l0_2 (l0_2.length : Int) 0) else (if a0_0 = 4 then (r5_ends.l4 k l1 (l2.take (min l2.length y221.length) ++ y221.drop (min l2.length y221.length)) true a0_0 l0_1 l0_2) else (some y221)))))) else (none)) else (none)) = some r := h
 clear h
 by_cases c4 : 0 ≤ (l2.length : Int)
 · rw [if_pos c4] at H
   have c4b0 := eq_true c4
   have c4b1 : decide (0 ≤ (l2.length : Int)) = true := decide_eq_true c4
   clear c4
   by_cases c5 : ((l2.length : Int) : Int).toNat ≤ 281474976710656
   · rw [if_pos c5] at H
     have c5b0 := eq_true c5
     have c5b1 : decide (((l2.length : Int) : Int).toNat ≤ 281474976710656) = true := decide_eq_true c5
     clear c5
     obtain ⟨y221, hy221⟩ : ∃ y_ : List Bool, y_ = (List.replicate ((l2.length : Int) : Int).toNat false) := ⟨_, rfl⟩
     replace H : (if a0_0 = 1 then (r5_ends.l0 k l2 y221 l1 (l1.length : Int) 0 a0_0 l0_1 l0_2) else (if a0_0 = 2 then (r5_ends.l1 k l1 (l2.take (min l2.length y221.length) ++ y221.drop (min l2.length y221.length)) l0_2 (l0_2.length : Int) 0) else (if a0_0 = 3 then (r5_ends.l2 k l1 l2 y221 l0_2 (l0_2.length : Int) 0) else (if a0_0 = 4 then (r5_ends.l4 k l1 (l2.take (min l2.length y221.length) ++ y221.drop (min l2.length y221.length)) true a0_0 l0_1 l0_2) else (some y221))))) = some r := by first | (rw [hy221]; with_reducible exact H) | (have H2_ := (Option.bind_some _ _).symm.trans H; rw [hy221]; with_reducible exact H2_) | (have H2_ := (Option.bind_some _ _).symm.trans H; with_reducible exact H2_) | with_reducible exact H | (rw [hy221]; exact H) | exact H
     have Ny221 := aM hy221
     clear hy221
     by_cases c6 : a0_0 = 1
     · rw [if_pos c6] at H
       have c6b0 : (a0_0 == 1) = true := beq_iff_eq.mpr c6
       have c6b1 : (a0_0 != 1) = false := bne_eq_false_iff_eq.mpr c6
       clear c6
       have H' := aM H
       clear H
       go_enter Try.func83, Try.ntmps83
       go_wp2_with (first | ((with_reducible refine gate_dst (N := 3) rfl ?_); refine box_event ?hg (N := 3) ?hd (cs := #[.int .i64 a0_0, .slice A0_1 l0_1.length c0_1, .slice A0_2 l0_2.length c0_2]) (t := 25) ?hr ?_; (case hd => rfl); (case hg => rfl); (case hr => first | (go_simp; done) | (go_simp; rfl)); intro gb220 hg w7 hbox hb; have n0_ := aM (below_step (by repeat (first | (with_reducible first | exact HB.out | apply blA | apply blN | apply blD) | exact HB.out)) hb); have n1_ := aM (hbox); have n2_ := aM ((by rw [hg]; exact (below_size (by repeat (first | (with_reducible first | exact HB.out | apply blA | apply blN | apply blD) | exact HB.out))) : w.heap.size ≤ gb220)); have n3_ := aM ((by rw [hg]; exact (below_size (by repeat (first | (with_reducible first | exact HB.out | apply blA | apply blN | apply blD) | exact HB.out))) : w.heap.size ≤ gb220)); clear HB; have HB := n0_; have BK220 := n1_; have GW220 := n2_; have GE220 := n3_; clear n0_ n1_ n2_ n3_; clear hb hbox hg) | ((with_reducible refine gate_dst (N := 21) rfl ?_); refine Kd.R_make Kd.bool _ 4 rfl (N := 21) rfl 108 _ _ rfl (l2.length : Int) rfl rfl Try.underlying108 (.bool false) 1 info4 rfl (by decide) (by omega) false (ok := fun _ => True) (okp := fun _ => True) rfl (fun _ hk => hk) trivial (of_decide_eq_true (by first | (with_reducible assumption) | assumption)) (Nat.le_trans (Nat.mul_le_mul_right _ (of_decide_eq_true (by first | (with_reducible assumption) | assumption) : (l2.length : Int).toNat ≤ 281474976710656)) (by omega)) (Below.refl _ _) (Nat.le_refl _) ?_; intro v222 w8 ho9 hb hg_ hnew_; clear hg_ hnew_; (first | rw [← Ny221.out] at ho9 | (simp only [Int.reduceToNat] at ho9; rw [← Ny221.out] at ho9)); have n0_ := aM (Kd.R_lower ho9 (below_size (by repeat (first | (with_reducible first | exact HB.out | apply blA | apply blN | apply blD | refine bS ?_ GE220.out) | exact HB.out)))); have n1_ := aM (blk_below (g := gb220) (o := .cells #[.int .i64 a0_0, .slice A0_1 l0_1.length c0_1, .slice A0_2 l0_2.length c0_2] 25 (0, 0)) (by (with_reducible repeat (first | apply bkN | apply bkD | apply bkA)); exact BK220.out) hb); have n2_ := aM (below_step (by repeat (first | (with_reducible first | exact HB.out | apply blA | apply blN | apply blD | refine bS ?_ GE220.out) | exact HB.out)) hb); clear BK220; clear HB; have HO223 := n0_; have BK220 := n1_; have HB := n2_; clear n0_ n1_ n2_; clear hb ho9; have hcz10_0 : w8.cell? ⟨gb220, 0, none⟩ = some (.int .i64 a0_0) := (blk_cell BK220.out 0).trans rfl; have hcz10_1 : w8.cell? ⟨gb220, 1, none⟩ = some (.slice A0_1 l0_1.length c0_1) := (blk_cell BK220.out 1).trans rfl; have hcz10_2 : w8.cell? ⟨gb220, 2, none⟩ = some (.slice A0_2 l0_2.length c0_2) := (blk_cell BK220.out 2).trans rfl; have hfz10_0 := bF BK220.out 0; have hfz10_1 := bF BK220.out 1; have hfz10_2 := bF BK220.out 2))
       go_loopg [28] k (fun kq v28 w' => ∃ (x7_1 : List Bool) (x28_1 : Int), v28 = .int .i64 x28_1 ∧ Aside0 (r5_ends.l0 kq l2 x7_1 l1 (l1.length : Int) x28_1 a0_0 l0_1 l0_2 = some r) ∧ Aside0 (kq ≤ k) ∧ Aside0 (Kd.R Kd.bool 4 w' w.heap.size (fun _ => True) v222 x7_1) ∧ Aside0 (w'.heap[gb220]? = some (.cells #[.int .i64 a0_0, (.slice A0_1 l0_1.length c0_1), (.slice A0_2 l0_2.length c0_2)] 25 (0, 0))) ∧ Aside0 (Below w.heap.size w w'))
       case atStart => exact ⟨(y221), (0), (by first | rfl | (simp; done) | (simp [*]; done)), H', ⟨Nat.le_refl _⟩, ⟨by (with_reducible repeat (first | apply kA | apply kN | apply kD)); exact HO223.out⟩, ⟨by (with_reducible repeat (first | apply bkN | apply bkD | apply bkA)); exact BK220.out⟩, ⟨by repeat (first | (with_reducible first | exact HB.out | apply blA | apply blN | apply blD | refine bS ?_ GE220.out) | exact HB.out)⟩⟩
       case round =>
        clear H'
        obtain ⟨x7_1, x28_1, rfl, HA, HK1, HO_7, BK220, HB⟩ := hrel
        cases gk with
        | zero => exact absurd HA.out (by simp [r5_ends.l0])
        | succ k1 =>
         have H := HA.out
         clear HA
         simp only [r5_ends.l0] at H
         by_cases c11 : x28_1 < (l1.length : Int)
         · rw [if_pos c11] at H
           have c11b0 : decide (x28_1 < (l1.length : Int)) = true := decide_eq_true c11
           clear c11
           by_cases c12 : 0 ≤ x28_1
           · rw [if_pos c12] at H
             have c12b0 : decide (0 ≤ x28_1) = true := decide_eq_true c12
             clear c12
             by_cases c13 : x28_1 < (l1.length : Int)
             · rw [if_pos c13] at H
               have c13b0 : decide (x28_1 < (l1.length : Int)) = true := decide_eq_true c13
               clear c13
               by_cases c14 : x28_1 < (l2.length : Int)
               · rw [if_pos c14] at H
                 have c14b0 : decide (x28_1 < (l2.length : Int)) = true := decide_eq_true c14
                 clear c14
                 obtain ⟨bq15, hbq15⟩ : ∃ b_ : Bool, b_ = (rdOf false l2 x28_1) := ⟨_, rfl⟩
                 replace H : (if bq15 = true then ((r1_In.f k1 l0_1 (rd l1 x28_1)).bind fun t226 => (if t226 = true then (if 0 ≤ (wrap64 (x28_1 + 1)) then (if (wrap64 (x28_1 + 1)) < (x7_1.length : Int) then (r5_ends.l0 k1 l2 (x7_1.set ((wrap64 (x28_1 + 1)) : Int).toNat true) l1 (l1.length : Int) (wrap64 (x28_1 + 1)) a0_0 l0_1 l0_2) else (none)) else (none)) else (r5_ends.l0 k1 l2 x7_1 l1 (l1.length : Int) (wrap64 (x28_1 + 1)) a0_0 l0_1 l0_2))) else (r5_ends.l0 k1 l2 x7_1 l1 (l1.length : Int) (wrap64 (x28_1 + 1)) a0_0 l0_1 l0_2)) = some r := by rw [← hbq15] at H; exact H
                 have Nbq15 := aM hbq15
                 clear hbq15
                 by_cases c16 : bq15 = true
                 · subst c16
                   have H1 : ((r1_In.f k1 l0_1 (rd l1 x28_1)).bind fun t226 => (if t226 = true then (if 0 ≤ (wrap64 (x28_1 + 1)) then (if (wrap64 (x28_1 + 1)) < (x7_1.length : Int) then (r5_ends.l0 k1 l2 (x7_1.set ((wrap64 (x28_1 + 1)) : Int).toNat true) l1 (l1.length : Int) (wrap64 (x28_1 + 1)) a0_0 l0_1 l0_2) else (none)) else (none)) else (r5_ends.l0 k1 l2 x7_1 l1 (l1.length : Int) (wrap64 (x28_1 + 1)) a0_0 l0_1 l0_2))) = some r := by rw [if_pos rfl] at H; exact H
                   clear H
                   have H := H1
                   clear H1
                   replace H := Option.bind_eq_some_iff.mp H
                   obtain ⟨t226, A170, H⟩ := H
                   replace H : (if t226 = true then (if 0 ≤ (wrap64 (x28_1 + 1)) then (if (wrap64 (x28_1 + 1)) < (x7_1.length : Int) then (r5_ends.l0 k1 l2 (x7_1.set ((wrap64 (x28_1 + 1)) : Int).toNat true) l1 (l1.length : Int) (wrap64 (x28_1 + 1)) a0_0 l0_1 l0_2) else (none)) else (none)) else (r5_ends.l0 k1 l2 x7_1 l1 (l1.length : Int) (wrap64 (x28_1 + 1)) a0_0 l0_1 l0_2)) = some r := H
                   have A17 := aM A170
                   clear A170
                   by_cases c18 : t226 = true
                   · subst c18
                     have H1 : (if 0 ≤ (wrap64 (x28_1 + 1)) then (if (wrap64 (x28_1 + 1)) < (x7_1.length : Int) then (r5_ends.l0 k1 l2 (x7_1.set ((wrap64 (x28_1 + 1)) : Int).toNat true) l1 (l1.length : Int) (wrap64 (x28_1 + 1)) a0_0 l0_1 l0_2) else (none)) else (none)) = some r := by rw [if_pos rfl] at H; exact H
                     clear H
                     have H := H1
                     clear H1
                     obtain ⟨ji19, hji19⟩ : ∃ j_ : Int, (wrap64 (x28_1 + 1)) = j_ := ⟨_, rfl⟩
                     replace H : (if 0 ≤ (ji19) then (if (ji19) < (x7_1.length : Int) then (r5_ends.l0 k1 l2 (x7_1.set ((ji19) : Int).toNat true) l1 (l1.length : Int) ji19 a0_0 l0_1 l0_2) else (none)) else (none)) = some r := by first | (rw [hji19] at H; exact H) | (simp only [hji19] at H ⊢; exact H)
                     (try rw [hji19] at A17)
                     have hji19w : (IntKind.i64.wrap (x28_1 + 1)) = ji19 := (i64_w _).trans hji19
                     by_cases c20 : 0 ≤ (ji19)
                     · rw [if_pos c20] at H
                       have c20b0 : decide (0 ≤ (ji19)) = true := decide_eq_true c20
                       clear c20
                       by_cases c21 : (ji19) < (x7_1.length : Int)
                       · rw [if_pos c21] at H
                         have c21b0 : decide ((ji19) < (x7_1.length : Int)) = true := decide_eq_true c21
                         clear c21
                         obtain ⟨y227, hy227⟩ : ∃ y_ : List Bool, y_ = (x7_1.set ((ji19) : Int).toNat true) := ⟨_, rfl⟩
                         replace H : (r5_ends.l0 k1 l2 y227 l1 (l1.length : Int) ji19 a0_0 l0_1 l0_2) = some r := by first | (rw [hy227]; with_reducible exact H) | (have H2_ := (Option.bind_some _ _).symm.trans H; rw [hy227]; with_reducible exact H2_) | (have H2_ := (Option.bind_some _ _).symm.trans H; with_reducible exact H2_) | with_reducible exact H | (rw [hy227]; exact H) | exact H
                         have Ny227 := aM hy227
                         clear hy227
                         have H' := aM H
                         clear H
                         have p224 : 0 ≤ (x28_1 : Int) := of_decide_eq_true (by first | (with_reducible assumption) | assumption)
                         have q224 : x28_1 < (l1.length : Int) := of_decide_eq_true (by first | (with_reducible assumption) | assumption)
                         obtain ⟨ad224, e224, hx224_0⟩ := Kd.at_int HR1.out x28_1 p224 q224
                         cases e224
                         replace hx224_0 := (HB.out.cell (World.block_lt_of_cell? w _ hx224_0)).trans hx224_0
                         replace p224 := eq_true p224
                         replace q224 := eq_true q224
                         have p225 : 0 ≤ (x28_1 : Int) := of_decide_eq_true (by first | (with_reducible assumption) | assumption)
                         have q225 : x28_1 < (l2.length : Int) := of_decide_eq_true (by first | (with_reducible assumption) | assumption)
                         obtain ⟨ad225, e225, hx225_0⟩ := Kd.at_bool HR2.out x28_1 p225 q225
                         (try rw [← Nbq15.out] at hx225_0)
                         cases e225
                         replace hx225_0 := (HB.out.cell (World.block_lt_of_cell? w _ hx225_0)).trans hx225_0
                         replace p225 := eq_true p225
                         replace q225 := eq_true q225
                         have hcz23_0 : wr.cell? ⟨gb220, 0, none⟩ = some (.int .i64 a0_0) := (blk_cell BK220.out 0).trans rfl
                         have hcz23_1 : wr.cell? ⟨gb220, 1, none⟩ = some (.slice A0_1 l0_1.length c0_1) := (blk_cell BK220.out 1).trans rfl
                         have hcz23_2 : wr.cell? ⟨gb220, 2, none⟩ = some (.slice A0_2 l0_2.length c0_2) := (blk_cell BK220.out 2).trans rfl
                         have hfz23_0 := bF BK220.out 0
                         have hfz23_1 := bF BK220.out 1
                         have hfz23_2 := bF BK220.out 2
                         go_wp2_with (first | (go_at_call 101; (with_reducible refine (r1_In.calls k1 _ _ l0_1 (rd l1 x28_1) true _ ?side1 ?side2 A17.out).mono ?_); (case side1 => repeat (first | exact (Kd.C_below HR0_1.out HB.out) | (with_reducible refine Kd.C_alloc ?_ _) | (with_reducible refine Kd.C_drewN ?_ _) | (with_reducible refine Kd.C_drew ?_))); (case side2 => exact HC0_1.out); rintro e w24 ⟨rfl, hb⟩; have n0_ := aM (Kd.R_below (by (with_reducible repeat (first | apply kA | apply kN | apply kD)); exact HO_7.out) hb); have n1_ := aM (blk_below (g := gb220) (o := .cells #[.int .i64 a0_0, .slice A0_1 l0_1.length c0_1, .slice A0_2 l0_2.length c0_2] 25 (0, 0)) (by (with_reducible repeat (first | apply bkN | apply bkD | apply bkA)); exact BK220.out) hb); have n2_ := aM (below_step (by repeat (first | (with_reducible first | exact HB.out | apply blA | apply blN | apply blD | refine bS ?_ GE220.out) | exact HB.out)) hb); clear HO_7; clear BK220; clear HB; have HO_7 := n0_; have BK220 := n1_; have HB := n2_; clear n0_ n1_ n2_; (try clear hb); (try clear hb2); (try clear hk); (try clear hi); have p22 : 0 ≤ ((ji19) : Int) := of_decide_eq_true (by first | (with_reducible assumption) | assumption); have q22 : ((ji19) : Int) < ((x7_1.length : Int) : Int) := of_decide_eq_true (by first | (with_reducible assumption) | assumption); obtain ⟨go22, co22, eo22, gb22, gl22, cl22, HG22⟩ := Kd.R_form HO_7.out (by omega); (first | cases eo22 | (injection eo22 with ea_ en_ ec_; (first | subst ea_ | (injection ea_ with ea_; subst ea_)); subst ec_; clear en_)); have GB22 := aM gb22; have GG22 := aM HG22; clear gb22 gl22 HG22; obtain ⟨hx22_0, hf22_0⟩ := Kd.R_celln false HO_7.out ((ji19) : Int) p22 q22; replace p22 := eq_true p22; replace q22 := eq_true q22; obtain ⟨hy25_, hz25_⟩ := Kd.R_celln false HO_7.out ((ji19) : Int) (of_decide_eq_true (by first | (with_reducible assumption) | assumption)) (of_decide_eq_true (by first | (with_reducible assumption) | assumption)); have HP25 := Kd.R_putg HO_7.out ((ji19) : Int) true) | ((with_reducible refine gate_store (t := 4) (p := 46) rfl ?_); refine store_event (t := 4) (p := 46) (v := ?vo_w26) (w1 := (w24.setCell ⟨go22, ((ji19) : Int).toNat, none⟩ (.bool true))) ?hg ?ho ?hn ?hr ?_; (case ho => rfl); (case hg => rfl); (case hn => rfl); (case hr => first | (go_simp; done) | (go_simp; rfl)); intro w26 hw; have hg : w24.grownBy w26 (some go22) := (by rw [hw]; exact HP25.2); have hp_ : Kd.R Kd.bool 4 w26 w.heap.size (fun _ => True) (.slice (some ⟨go22, 0, none⟩) x7_1.length co22) y227 := (by rw [hw, Ny227.out]; exact HP25.1); clear HP25; have n0_ := aM (hp_); have n1_ := aM (blk_grown (g := gb220) (o := .cells #[.int .i64 a0_0, .slice A0_1 l0_1.length c0_1, .slice A0_2 l0_2.length c0_2] 25 (0, 0)) (by (with_reducible repeat (first | apply bkN | apply bkD | apply bkA)); exact BK220.out) hg (Kd.R_ne HO_7.out BK220.out (by decide))); have n2_ := aM ((by rw [hw]; exact below_set (HB.out) GB22.out : Below w.heap.size w w26)); clear HO_7; clear BK220; clear HB; have HO_7 := n0_; have BK220 := n1_; have HB := n2_; clear n0_ n1_ n2_; clear hg hw hp_))
                         go_roundg k1
                         case measure => have := HK1.out; omega
                         case rel => exact ⟨(y227), (ji19), (by first | rfl | (simp; done) | (simp only [← hji19] <;> (first | rfl | simp)) | (simp [*]; done)), H', ⟨by have := HK1.out; omega⟩, ⟨by (with_reducible repeat (first | apply kA | apply kN | apply kD)); exact HO_7.out⟩, ⟨by (with_reducible repeat (first | apply bkN | apply bkD | apply bkA)); exact BK220.out⟩, ⟨by repeat (first | (with_reducible first | exact HB.out | apply blA | apply blN | apply blD | refine bS ?_ GE220.out) | exact HB.out)⟩⟩
                       · rw [if_neg c21] at H
                         exact absurd H (by simp)
                     · rw [if_neg c20] at H
                       exact absurd H (by simp)
                   · replace c18 := Bool.eq_false_iff.mpr c18
                     subst c18
                     have H1 : (r5_ends.l0 k1 l2 x7_1 l1 (l1.length : Int) (wrap64 (x28_1 + 1)) a0_0 l0_1 l0_2) = some r := by rw [if_neg (show ¬ (false = true) by decide)] at H; exact H
                     clear H
                     have H := H1
                     clear H1
                     have H' := aM H
                     clear H
                     have p224 : 0 ≤ (x28_1 : Int) := of_decide_eq_true (by first | (with_reducible assumption) | assumption)
                     have q224 : x28_1 < (l1.length : Int) := of_decide_eq_true (by first | (with_reducible assumption) | assumption)
                     obtain ⟨ad224, e224, hx224_0⟩ := Kd.at_int HR1.out x28_1 p224 q224
                     cases e224
                     replace hx224_0 := (HB.out.cell (World.block_lt_of_cell? w _ hx224_0)).trans hx224_0
                     replace p224 := eq_true p224
                     replace q224 := eq_true q224
                     have p225 : 0 ≤ (x28_1 : Int) := of_decide_eq_true (by first | (with_reducible assumption) | assumption)
                     have q225 : x28_1 < (l2.length : Int) := of_decide_eq_true (by first | (with_reducible assumption) | assumption)
                     obtain ⟨ad225, e225, hx225_0⟩ := Kd.at_bool HR2.out x28_1 p225 q225
                     (try rw [← Nbq15.out] at hx225_0)
                     cases e225
                     replace hx225_0 := (HB.out.cell (World.block_lt_of_cell? w _ hx225_0)).trans hx225_0
                     replace p225 := eq_true p225
                     replace q225 := eq_true q225
                     have hcz27_0 : wr.cell? ⟨gb220, 0, none⟩ = some (.int .i64 a0_0) := (blk_cell BK220.out 0).trans rfl
                     have hcz27_1 : wr.cell? ⟨gb220, 1, none⟩ = some (.slice A0_1 l0_1.length c0_1) := (blk_cell BK220.out 1).trans rfl
                     have hcz27_2 : wr.cell? ⟨gb220, 2, none⟩ = some (.slice A0_2 l0_2.length c0_2) := (blk_cell BK220.out 2).trans rfl
                     have hfz27_0 := bF BK220.out 0
                     have hfz27_1 := bF BK220.out 1
                     have hfz27_2 := bF BK220.out 2
                     go_wp2_with (first | (go_at_call 101; (with_reducible refine (r1_In.calls k1 _ _ l0_1 (rd l1 x28_1) false _ ?side1 ?side2 A17.out).mono ?_); (case side1 => repeat (first | exact (Kd.C_below HR0_1.out HB.out) | (with_reducible refine Kd.C_alloc ?_ _) | (with_reducible refine Kd.C_drewN ?_ _) | (with_reducible refine Kd.C_drew ?_))); (case side2 => exact HC0_1.out); rintro e w28 ⟨rfl, hb⟩; have n0_ := aM (Kd.R_below (by (with_reducible repeat (first | apply kA | apply kN | apply kD)); exact HO_7.out) hb); have n1_ := aM (blk_below (g := gb220) (o := .cells #[.int .i64 a0_0, .slice A0_1 l0_1.length c0_1, .slice A0_2 l0_2.length c0_2] 25 (0, 0)) (by (with_reducible repeat (first | apply bkN | apply bkD | apply bkA)); exact BK220.out) hb); have n2_ := aM (below_step (by repeat (first | (with_reducible first | exact HB.out | apply blA | apply blN | apply blD | refine bS ?_ GE220.out) | exact HB.out)) hb); clear HO_7; clear BK220; clear HB; have HO_7 := n0_; have BK220 := n1_; have HB := n2_; clear n0_ n1_ n2_; (try clear hb); (try clear hb2); (try clear hk); (try clear hi)))
                     go_roundg k1
                     case measure => have := HK1.out; omega
                     case rel => exact ⟨(x7_1), (wrap64 (x28_1 + 1)), (by first | rfl | (simp; done) | (simp [*]; done)), H', ⟨by have := HK1.out; omega⟩, ⟨by (with_reducible repeat (first | apply kA | apply kN | apply kD)); exact HO_7.out⟩, ⟨by (with_reducible repeat (first | apply bkN | apply bkD | apply bkA)); exact BK220.out⟩, ⟨by repeat (first | (with_reducible first | exact HB.out | apply blA | apply blN | apply blD | refine bS ?_ GE220.out) | exact HB.out)⟩⟩
                 · replace c16 := Bool.eq_false_iff.mpr c16
                   subst c16
                   have H1 : (r5_ends.l0 k1 l2 x7_1 l1 (l1.length : Int) (wrap64 (x28_1 + 1)) a0_0 l0_1 l0_2) = some r := by rw [if_neg (show ¬ (false = true) by decide)] at H; exact H
                   clear H
                   have H := H1
                   clear H1
                   have H' := aM H
                   clear H
                   have p224 : 0 ≤ (x28_1 : Int) := of_decide_eq_true (by first | (with_reducible assumption) | assumption)
                   have q224 : x28_1 < (l1.length : Int) := of_decide_eq_true (by first | (with_reducible assumption) | assumption)
                   obtain ⟨ad224, e224, hx224_0⟩ := Kd.at_int HR1.out x28_1 p224 q224
                   cases e224
                   replace hx224_0 := (HB.out.cell (World.block_lt_of_cell? w _ hx224_0)).trans hx224_0
                   replace p224 := eq_true p224
                   replace q224 := eq_true q224
                   have p225 : 0 ≤ (x28_1 : Int) := of_decide_eq_true (by first | (with_reducible assumption) | assumption)
                   have q225 : x28_1 < (l2.length : Int) := of_decide_eq_true (by first | (with_reducible assumption) | assumption)
                   obtain ⟨ad225, e225, hx225_0⟩ := Kd.at_bool HR2.out x28_1 p225 q225
                   (try rw [← Nbq15.out] at hx225_0)
                   cases e225
                   replace hx225_0 := (HB.out.cell (World.block_lt_of_cell? w _ hx225_0)).trans hx225_0
                   replace p225 := eq_true p225
                   replace q225 := eq_true q225
                   go_wp2
                   go_roundg k1
                   case measure => have := HK1.out; omega
                   case rel => exact ⟨(x7_1), (wrap64 (x28_1 + 1)), (by first | rfl | (simp; done) | (simp [*]; done)), H', ⟨by have := HK1.out; omega⟩, ⟨by (with_reducible repeat (first | apply kA | apply kN | apply kD)); exact HO_7.out⟩, ⟨by (with_reducible repeat (first | apply bkN | apply bkD | apply bkA)); exact BK220.out⟩, ⟨by repeat (first | (with_reducible first | exact HB.out | apply blA | apply blN | apply blD | refine bS ?_ GE220.out) | exact HB.out)⟩⟩
               · rw [if_neg c14] at H
                 exact absurd H (by simp)
             · rw [if_neg c13] at H
               exact absurd H (by simp)
           · rw [if_neg c12] at H
             exact absurd H (by simp)
         · rw [if_neg c11] at H
           have c11b0 : decide (x28_1 < (l1.length : Int)) = false := decide_eq_false c11
           clear c11
           obtain rfl := Option.some.inj H
           go_wp2
           first | go_ret | refine ⟨_, results_tmp rfl _ _ _, ?_⟩
           exact ⟨_, by first | rfl | (simp [errW_none, errW_some] <;> rfl) | (simp [*, errW_none, errW_some] <;> rfl), by (with_reducible repeat (first | apply kA | apply kN | apply kD)); exact HO_7.out, by repeat (first | (with_reducible first | exact HB.out | apply blA | apply blN | apply blD | refine bS ?_ GE220.out) | exact HB.out)⟩
     · rw [if_neg c6] at H
       have c6b0 : (a0_0 == 1) = false := beq_eq_false_iff_ne.mpr c6
       have c6b1 : (a0_0 != 1) = true := bne_iff_ne.mpr c6
       by_cases c29 : a0_0 = 2
       · rw [if_pos c29] at H
         have c29b0 : (a0_0 == 2) = true := beq_iff_eq.mpr c29
         have c29b1 : (a0_0 != 2) = false := bne_eq_false_iff_eq.mpr c29
         clear c29
         obtain ⟨y228, hy228⟩ : ∃ y_ : List Bool, y_ = (l2.take (min l2.length y221.length) ++ y221.drop (min l2.length y221.length)) := ⟨_, rfl⟩
         replace H : (r5_ends.l1 k l1 y228 l0_2 (l0_2.length : Int) 0) = some r := by first | (rw [hy228]; with_reducible exact H) | (have H2_ := (Option.bind_some _ _).symm.trans H; rw [hy228]; with_reducible exact H2_) | (have H2_ := (Option.bind_some _ _).symm.trans H; with_reducible exact H2_) | with_reducible exact H | (rw [hy228]; exact H) | exact H
         have Ny228 := aM hy228
         clear hy228
         have H' := aM H
         clear H
         go_enter Try.func83, Try.ntmps83
         go_wp2_with (first | ((with_reducible refine gate_dst (N := 3) rfl ?_); refine box_event ?hg (N := 3) ?hd (cs := #[.int .i64 a0_0, .slice A0_1 l0_1.length c0_1, .slice A0_2 l0_2.length c0_2]) (t := 25) ?hr ?_; (case hd => rfl); (case hg => rfl); (case hr => first | (go_simp; done) | (go_simp; rfl)); intro gb220 hg w30 hbox hb; have n0_ := aM (below_step (by repeat (first | (with_reducible first | exact HB.out | apply blA | apply blN | apply blD) | exact HB.out)) hb); have n1_ := aM (hbox); have n2_ := aM ((by rw [hg]; exact (below_size (by repeat (first | (with_reducible first | exact HB.out | apply blA | apply blN | apply blD) | exact HB.out))) : w.heap.size ≤ gb220)); have n3_ := aM ((by rw [hg]; exact (below_size (by repeat (first | (with_reducible first | exact HB.out | apply blA | apply blN | apply blD) | exact HB.out))) : w.heap.size ≤ gb220)); clear HB; have HB := n0_; have BK220 := n1_; have GW220 := n2_; have GE220 := n3_; clear n0_ n1_ n2_ n3_; clear hb hbox hg) | ((with_reducible refine gate_dst (N := 21) rfl ?_); refine Kd.R_make Kd.bool _ 4 rfl (N := 21) rfl 108 _ _ rfl (l2.length : Int) rfl rfl Try.underlying108 (.bool false) 1 info4 rfl (by decide) (by omega) false (ok := fun _ => True) (okp := fun _ => True) rfl (fun _ hk => hk) trivial (of_decide_eq_true (by first | (with_reducible assumption) | assumption)) (Nat.le_trans (Nat.mul_le_mul_right _ (of_decide_eq_true (by first | (with_reducible assumption) | assumption) : (l2.length : Int).toNat ≤ 281474976710656)) (by omega)) (Below.refl _ _) (Nat.le_refl _) ?_; intro v222 w31 ho32 hb hg_ hnew_; clear hg_ hnew_; (first | rw [← Ny221.out] at ho32 | (simp only [Int.reduceToNat] at ho32; rw [← Ny221.out] at ho32)); have n0_ := aM (Kd.R_lower ho32 (below_size (by repeat (first | (with_reducible first | exact HB.out | apply blA | apply blN | apply blD | refine bS ?_ GE220.out) | exact HB.out)))); have n1_ := aM (blk_below (g := gb220) (o := .cells #[.int .i64 a0_0, .slice A0_1 l0_1.length c0_1, .slice A0_2 l0_2.length c0_2] 25 (0, 0)) (by (with_reducible repeat (first | apply bkN | apply bkD | apply bkA)); exact BK220.out) hb); have n2_ := aM (below_step (by repeat (first | (with_reducible first | exact HB.out | apply blA | apply blN | apply blD | refine bS ?_ GE220.out) | exact HB.out)) hb); clear BK220; clear HB; have HO223 := n0_; have BK220 := n1_; have HB := n2_; clear n0_ n1_ n2_; clear hb ho32; have hcz33_0 : w31.cell? ⟨gb220, 0, none⟩ = some (.int .i64 a0_0) := (blk_cell BK220.out 0).trans rfl; have hcz33_1 : w31.cell? ⟨gb220, 1, none⟩ = some (.slice A0_1 l0_1.length c0_1) := (blk_cell BK220.out 1).trans rfl; have hcz33_2 : w31.cell? ⟨gb220, 2, none⟩ = some (.slice A0_2 l0_2.length c0_2) := (blk_cell BK220.out 2).trans rfl; have hfz33_0 := bF BK220.out 0; have hfz33_1 := bF BK220.out 1; have hfz33_2 := bF BK220.out 2; obtain ⟨Ao35, co35, eo35⟩ := Kd.R_slice HO223.out; subst eo35) | ((with_reducible refine gate_builtin (b := .copy) (xs := #[.tmp 50, .tmp 51]) rfl ?_); refine Kd.R_copy (enc := Value.bool) (h1 := fun _ => rfl) false (w0 := w) w.heap.size rfl (.tmp 50) (.tmp 51) 108 108 4 rfl Try.underlying108 (by kernel_rfl) (.slice Ao35 y221.length co35) y221 l2 _ _ _ (fun _ => True) rfl rfl ?aO ?aR ?aB ?aS ?_; (case aR => repeat (first | exact (Kd.C_below HR2.out HB.out) | (with_reducible refine Kd.C_alloc ?_ _) | (with_reducible refine Kd.C_drewN ?_ _) | (with_reducible refine Kd.C_drew ?_))); (case aB => exact (by repeat (first | (with_reducible first | exact HB.out | apply blA | apply blN | apply blD | refine bS ?_ GE220.out) | exact HB.out))); (case aO => exact (by (with_reducible repeat (first | apply kA | apply kN | apply kD)); exact HO223.out)); (case aS => exact (below_size (by repeat (first | (with_reducible first | exact HB.out | apply blA | apply blN | apply blD | refine bS ?_ GE220.out) | exact HB.out)))); intro w34 ho hb hg; have hat := (Or.inl rfl : ((.slice Ao35 y221.length co35) : Value).ownBlock = ((.slice Ao35 y221.length co35) : Value).ownBlock ∨ ∃ b_, ((.slice Ao35 y221.length co35) : Value).ownBlock = some b_ ∧ 0 ≤ b_); rw [← Ny228.out] at ho; have n0_ := aM (blk_grown (g := gb220) (o := .cells #[.int .i64 a0_0, .slice A0_1 l0_1.length c0_1, .slice A0_2 l0_2.length c0_2] 25 (0, 0)) (by (with_reducible repeat (first | apply bkN | apply bkD | apply bkA)); exact BK220.out) hg (Kd.R_ne HO223.out BK220.out (by decide))); have n1_ := aM (hb); have n2_ := aM (ho); clear BK220; clear HB; clear HO223; have BK220 := n0_; have HB := n1_; have HO230 := n2_; clear n0_ n1_ n2_; clear ho hb hg hat; have hcz36_0 : w34.cell? ⟨gb220, 0, none⟩ = some (.int .i64 a0_0) := (blk_cell BK220.out 0).trans rfl; have hcz36_1 : w34.cell? ⟨gb220, 1, none⟩ = some (.slice A0_1 l0_1.length c0_1) := (blk_cell BK220.out 1).trans rfl; have hcz36_2 : w34.cell? ⟨gb220, 2, none⟩ = some (.slice A0_2 l0_2.length c0_2) := (blk_cell BK220.out 2).trans rfl; have hfz36_0 := bF BK220.out 0; have hfz36_1 := bF BK220.out 1; have hfz36_2 := bF BK220.out 2))
         go_loopg [7, 56] k (fun kq v7 v56 w' => ∃ (x7_1 : List Bool) (x56_1 : Int), v56 = .int .i64 x56_1 ∧ Aside0 (r5_ends.l1 kq l1 x7_1 l0_2 (l0_2.length : Int) x56_1 = some r) ∧ Aside0 (kq ≤ k) ∧ Aside0 (Kd.R Kd.bool 4 w' w.heap.size (fun _ => True) v7 x7_1) ∧ Aside0 (w'.heap[gb220]? = some (.cells #[.int .i64 a0_0, (.slice A0_1 l0_1.length c0_1), (.slice A0_2 l0_2.length c0_2)] 25 (0, 0))) ∧ Aside0 (Below w.heap.size w w'))
         case atStart => exact ⟨(y228), (0), (by first | rfl | (simp; done) | (simp [*]; done)), H', ⟨Nat.le_refl _⟩, ⟨by (with_reducible repeat (first | apply kA | apply kN | apply kD)); exact HO230.out⟩, ⟨by (with_reducible repeat (first | apply bkN | apply bkD | apply bkA)); exact BK220.out⟩, ⟨by repeat (first | (with_reducible first | exact HB.out | apply blA | apply blN | apply blD | refine bS ?_ GE220.out) | exact HB.out)⟩⟩
         case round =>
          clear H'
          obtain ⟨x7_1, x56_1, rfl, HA, HK1, HO_7, BK220, HB⟩ := hrel
          cases gk with
          | zero => exact absurd HA.out (by simp [r5_ends.l1])
          | succ k1 =>
           have H := HA.out
           clear HA
           simp only [r5_ends.l1] at H
           by_cases c37 : x56_1 < (l0_2.length : Int)
           · rw [if_pos c37] at H
             have c37b0 : decide (x56_1 < (l0_2.length : Int)) = true := decide_eq_true c37
             clear c37
             by_cases c38 : 0 ≤ x56_1
             · rw [if_pos c38] at H
               have c38b0 : decide (0 ≤ x56_1) = true := decide_eq_true c38
               clear c38
               by_cases c39 : x56_1 < (l0_2.length : Int)
               · rw [if_pos c39] at H
                 have c39b0 : decide (x56_1 < (l0_2.length : Int)) = true := decide_eq_true c39
                 clear c39
                 replace H := Option.bind_eq_some_iff.mp H
                 obtain ⟨t233, A400, H⟩ := H
                 replace H : (r5_ends.l1 k1 l1 t233 l0_2 (l0_2.length : Int) (wrap64 (x56_1 + 1))) = some r := H
                 have A40 := aM A400
                 clear A400
                 have H' := aM H
                 clear H
                 have p231 : 0 ≤ (x56_1 : Int) := of_decide_eq_true (by first | (with_reducible assumption) | assumption)
                 have q231 : x56_1 < (l0_2.length : Int) := of_decide_eq_true (by first | (with_reducible assumption) | assumption)
                 obtain ⟨ad231, A231_1, c231_1, A231_2, c231_2, e231, hx231_0, hx231_1, hx231_2, hl231_1, hi231_1, hl231_2, hi231_2⟩ := at_T25 HR0_2.out x56_1 p231 q231
                 cases e231
                 replace hx231_0 := (HB.out.cell (World.block_lt_of_cell? w _ hx231_0)).trans hx231_0
                 replace hx231_1 := (HB.out.cell (World.block_lt_of_cell? w _ hx231_1)).trans hx231_1
                 replace hx231_2 := (HB.out.cell (World.block_lt_of_cell? w _ hx231_2)).trans hx231_2
                 have HR231_1 := aM hi231_1
                 have HC231_1 := aM hl231_1
                 clear hi231_1 hl231_1
                 have HR231_2 := aM hi231_2
                 have HC231_2 := aM hl231_2
                 clear hi231_2 hl231_2
                 replace p231 := eq_true p231
                 replace q231 := eq_true q231
                 go_wp2_with (first | ((with_reducible refine gate_dst (N := 11) rfl ?_); refine box_event ?hg (N := 11) ?hd (cs := #[.int .i64 0, .slice none 0 0, .slice none 0 0]) (t := 25) ?hr ?_; (case hd => rfl); (case hg => rfl); (case hr => first | (go_simp; done) | (go_simp; rfl)); intro gb232 hg w41 hbox hb; have n0_ := aM (Kd.R_below (by (with_reducible repeat (first | apply kA | apply kN | apply kD)); exact HO_7.out) hb); have n1_ := aM (blk_below (g := gb220) (o := .cells #[.int .i64 a0_0, .slice A0_1 l0_1.length c0_1, .slice (some ad231) l0_2.length c0_2] 25 (0, 0)) (by (with_reducible repeat (first | apply bkN | apply bkD | apply bkA)); exact BK220.out) hb); have n2_ := aM (below_step (by repeat (first | (with_reducible first | exact HB.out | apply blA | apply blN | apply blD | refine bS ?_ GE220.out) | exact HB.out)) hb); have n3_ := aM (hbox); have n4_ := aM ((by rw [hg]; exact (below_size (by repeat (first | (with_reducible first | exact HB.out | apply blA | apply blN | apply blD | refine bS ?_ GE220.out) | exact HB.out))) : w.heap.size ≤ gb232)); have n5_ := aM ((by rw [hg]; exact (below_size (by repeat (first | (with_reducible first | exact HB.out | apply blA | apply blN | apply blD | refine bS ?_ GE220.out) | exact HB.out))) : w.heap.size ≤ gb232)); have n6_ := aM ((by rw [hg]; exact Nat.ne_of_lt (blk_lt (g := gb220) (o := .cells #[.int .i64 a0_0, .slice A0_1 l0_1.length c0_1, .slice (some ad231) l0_2.length c0_2] 25 (0, 0)) (by (with_reducible repeat (first | apply bkN | apply bkD | apply bkA)); exact BK220.out)) : gb220 ≠ gb232)); have n7_ := aM ((by rw [hg]; exact Nat.ne_of_gt (blk_lt (g := gb220) (o := .cells #[.int .i64 a0_0, .slice A0_1 l0_1.length c0_1, .slice (some ad231) l0_2.length c0_2] 25 (0, 0)) (by (with_reducible repeat (first | apply bkN | apply bkD | apply bkA)); exact BK220.out)) : gb232 ≠ gb220)); clear HO_7; clear BK220; clear HB; have HO_7 := n0_; have BK220 := n1_; have HB := n2_; have BK232 := n3_; have GW232 := n4_; have GE232 := n5_; have NB220_232 := n6_; have NB232_220 := n7_; clear n0_ n1_ n2_ n3_ n4_ n5_ n6_ n7_; clear hb hbox hg; have hnb42 := NB232_220.out; have hnc42 := NB220_232.out; have hcz43_0 : w41.cell? ⟨gb232, 0, none⟩ = some (.int .i64 0) := (blk_cell BK232.out 0).trans rfl; have hcz43_1 : w41.cell? ⟨gb232, 1, none⟩ = some (.slice none 0 0) := (blk_cell BK232.out 1).trans rfl; have hcz43_2 : w41.cell? ⟨gb232, 2, none⟩ = some (.slice none 0 0) := (blk_cell BK232.out 2).trans rfl; have hfz43_0 := bF BK232.out 0; have hfz43_1 := bF BK232.out 1; have hfz43_2 := bF BK232.out 2; obtain ⟨Ao44, co44, eo44⟩ := Kd.R_slice HO_7.out; subst eo44) | ((with_reducible refine gate_callee (f := 83) rfl ?_); refine goesL_ (some 63) rfl rfl Try.func83 (by kernel_rfl) rfl #[.agg #[.int .i64 ((rd_T25 l0_2 x56_1).f0), .slice A231_1 ((rd_T25 l0_2 x56_1).f1).length c231_1, .slice A231_2 ((rd_T25 l0_2 x56_1).f2).length c231_2], .slice A1 l1.length c1, .slice Ao44 x7_1.length co44] rfl (by (try simp only [List.map_toArray, List.map_cons, List.map_nil]); first | done | rfl | (simp only [List.length_drop, List.length_take]; rfl)) ?_; (with_reducible refine (ih k1 (by have := HK1.out; omega) ((rd_T25 l0_2 x56_1).f0) _ _ ((rd_T25 l0_2 x56_1).f1) _ _ ((rd_T25 l0_2 x56_1).f2) _ _ l1 _ _ x7_1 t233 _ ?side1 ?side2 ?side3 ?side4 ?side5 ?side6 ?side7 ?side8 A40.out).mono ?_); (case side1 => exact Kd.C_below HR231_1.out (by repeat (first | (with_reducible first | exact HB.out | apply blA | apply blN | apply blD | refine bS ?_ GE220.out | refine bS ?_ GE232.out) | exact HB.out))); (case side2 => exact HC231_1.out); (case side3 => exact Kd.C_below HR231_2.out (by repeat (first | (with_reducible first | exact HB.out | apply blA | apply blN | apply blD | refine bS ?_ GE220.out | refine bS ?_ GE232.out) | exact HB.out))); (case side4 => exact HC231_2.out); (case side5 => exact Kd.C_below HR1.out (by repeat (first | (with_reducible first | exact HB.out | apply blA | apply blN | apply blD | refine bS ?_ GE220.out | refine bS ?_ GE232.out) | exact HB.out))); (case side6 => exact HC1.out); (case side7 => refine (Kd.R_reads' (e := 4) (base := w.heap.size) (ok := fun k_ => True) (n := x7_1.length) (c := co44) ?_).2.2; exact (by (with_reducible repeat (first | apply kA | apply kN | apply kD)); exact (Kd.R_mono (Kd.R_far (p := ⟨gb232, 2, none⟩) (Kd.R_far (p := ⟨gb232, 1, none⟩) (Kd.R_far (p := ⟨gb232, 0, none⟩) (Kd.R_types HO_7.out BK232.out (by decide)) (fun _ hk => hk.2) (.int .i64 ((rd_T25 l0_2 x56_1).f0))) (fun _ hk => hk.2) (.slice A231_1 ((rd_T25 l0_2 x56_1).f1).length c231_1)) (fun _ hk => hk.2) (.slice A231_2 ((rd_T25 l0_2 x56_1).f2).length c231_2)) (fun _ h_ => h_.1)))); (case side8 => exact (Kd.R_reads' HO_7.out).2.1); rintro e w45 ⟨v234, rfl, ho0, hb⟩; refine ⟨_, rfl, ?_⟩; have n0_ := aM (Kd.R_elder' (by (with_reducible repeat (first | apply kA | apply kN | apply kD)); exact (Kd.R_mono (Kd.R_far (p := ⟨gb232, 2, none⟩) (Kd.R_far (p := ⟨gb232, 1, none⟩) (Kd.R_far (p := ⟨gb232, 0, none⟩) (Kd.R_types HO_7.out BK232.out (by decide)) (fun _ hk => hk.2) (.int .i64 ((rd_T25 l0_2 x56_1).f0))) (fun _ hk => hk.2) (.slice A231_1 ((rd_T25 l0_2 x56_1).f1).length c231_1)) (fun _ hk => hk.2) (.slice A231_2 ((rd_T25 l0_2 x56_1).f2).length c231_2)) (fun _ h_ => h_.1))) (Kd.R_base ho0) hb); have n1_ := aM (Kd.R_lower (Kd.R_new' ho0 (Kd.R_lt (by (with_reducible repeat (first | apply kA | apply kN | apply kD)); exact (Kd.R_mono (Kd.R_far (p := ⟨gb232, 2, none⟩) (Kd.R_far (p := ⟨gb232, 1, none⟩) (Kd.R_far (p := ⟨gb232, 0, none⟩) (Kd.R_types HO_7.out BK232.out (by decide)) (fun _ hk => hk.2) (.int .i64 ((rd_T25 l0_2 x56_1).f0))) (fun _ hk => hk.2) (.slice A231_1 ((rd_T25 l0_2 x56_1).f1).length c231_1)) (fun _ hk => hk.2) (.slice A231_2 ((rd_T25 l0_2 x56_1).f2).length c231_2)) (fun _ h_ => h_.1))))) (below_size (by repeat (first | (with_reducible first | exact HB.out | apply blA | apply blN | apply blD | refine bS ?_ GE220.out | refine bS ?_ GE232.out) | exact HB.out)))); have n2_ := aM (blk_below (g := gb220) (o := .cells #[.int .i64 a0_0, .slice A0_1 l0_1.length c0_1, .slice (some ad231) l0_2.length c0_2] 25 (0, 0)) (by (with_reducible repeat (first | apply bkN | apply bkD | apply bkA)); refine blk_far ?_ NB220_232.out _; (with_reducible repeat (first | apply bkN | apply bkD | apply bkA)); refine blk_far ?_ NB220_232.out _; (with_reducible repeat (first | apply bkN | apply bkD | apply bkA)); refine blk_far ?_ NB220_232.out _; (with_reducible repeat (first | apply bkN | apply bkD | apply bkA)); exact BK220.out) hb); have n3_ := aM (blk_below (g := gb232) (o := .cells #[.int .i64 ((rd_T25 l0_2 x56_1).f0), .slice A231_1 ((rd_T25 l0_2 x56_1).f1).length c231_1, .slice A231_2 ((rd_T25 l0_2 x56_1).f2).length c231_2] 25 (0, 0)) (by (with_reducible repeat (first | apply bkN | apply bkD | apply bkA)); refine blk_put (cs := #[.int .i64 ((rd_T25 l0_2 x56_1).f0), .slice A231_1 ((rd_T25 l0_2 x56_1).f1).length c231_1, .slice none 0 0]) ?_ 2 _ rfl; (with_reducible repeat (first | apply bkN | apply bkD | apply bkA)); refine blk_put (cs := #[.int .i64 ((rd_T25 l0_2 x56_1).f0), .slice none 0 0, .slice none 0 0]) ?_ 1 _ rfl; (with_reducible repeat (first | apply bkN | apply bkD | apply bkA)); refine blk_put (cs := #[.int .i64 0, .slice none 0 0, .slice none 0 0]) ?_ 0 _ rfl; (with_reducible repeat (first | apply bkN | apply bkD | apply bkA)); exact BK232.out) hb); have n4_ := aM (below_step (by repeat (first | (with_reducible first | exact HB.out | apply blA | apply blN | apply blD | refine bS ?_ GE220.out | refine bS ?_ GE232.out) | exact HB.out)) hb); clear HO_7; clear BK220; clear BK232; clear HB; have HO_7 := n0_; have HO235 := n1_; have BK220 := n2_; have BK232 := n3_; have HB := n4_; clear n0_ n1_ n2_ n3_ n4_; (try clear hb); (try clear hb2); (try clear hk); (try clear hi); (try clear ho0)))
                 go_roundg k1
                 case measure => have := HK1.out; omega
                 case rel => exact ⟨(t233), (wrap64 (x56_1 + 1)), (by first | rfl | (simp; done) | (simp [*]; done)), H', ⟨by have := HK1.out; omega⟩, ⟨by (with_reducible repeat (first | apply kA | apply kN | apply kD)); exact Kd.R_mono HO235.out (fun _ hk => trivial)⟩, ⟨by (with_reducible repeat (first | apply bkN | apply bkD | apply bkA)); exact BK220.out⟩, ⟨by repeat (first | (with_reducible first | exact HB.out | apply blA | apply blN | apply blD | refine bS ?_ GE220.out | refine bS ?_ GE232.out) | exact HB.out)⟩⟩
               · rw [if_neg c39] at H
                 exact absurd H (by simp)
             · rw [if_neg c38] at H
               exact absurd H (by simp)
           · rw [if_neg c37] at H
             have c37b0 : decide (x56_1 < (l0_2.length : Int)) = false := decide_eq_false c37
             clear c37
             obtain rfl := Option.some.inj H
             go_wp2
             first | go_ret | refine ⟨_, results_tmp rfl _ _ _, ?_⟩
             exact ⟨_, by first | rfl | (simp [errW_none, errW_some] <;> rfl) | (simp [*, errW_none, errW_some] <;> rfl), by (with_reducible repeat (first | apply kA | apply kN | apply kD)); exact HO_7.out, by repeat (first | (with_reducible first | exact HB.out | apply blA | apply blN | apply blD | refine bS ?_ GE220.out) | exact HB.out)⟩
       · rw [if_neg c29] at H
         have c29b0 : (a0_0 == 2) = false := beq_eq_false_iff_ne.mpr c29
         have c29b1 : (a0_0 != 2) = true := bne_iff_ne.mpr c29
         by_cases c46 : a0_0 = 3
         · rw [if_pos c46] at H
           have c46b0 : (a0_0 == 3) = true := beq_iff_eq.mpr c46
           have c46b1 : (a0_0 != 3) = false := bne_eq_false_iff_eq.mpr c46
           clear c46
           have H' := aM H
           clear H
           go_enter Try.func83, Try.ntmps83
           go_wp2_with (first | ((with_reducible refine gate_dst (N := 3) rfl ?_); refine box_event ?hg (N := 3) ?hd (cs := #[.int .i64 a0_0, .slice A0_1 l0_1.length c0_1, .slice A0_2 l0_2.length c0_2]) (t := 25) ?hr ?_; (case hd => rfl); (case hg => rfl); (case hr => first | (go_simp; done) | (go_simp; rfl)); intro gb220 hg w47 hbox hb; have n0_ := aM (below_step (by repeat (first | (with_reducible first | exact HB.out | apply blA | apply blN | apply blD) | exact HB.out)) hb); have n1_ := aM (hbox); have n2_ := aM ((by rw [hg]; exact (below_size (by repeat (first | (with_reducible first | exact HB.out | apply blA | apply blN | apply blD) | exact HB.out))) : w.heap.size ≤ gb220)); have n3_ := aM ((by rw [hg]; exact (below_size (by repeat (first | (with_reducible first | exact HB.out | apply blA | apply blN | apply blD) | exact HB.out))) : w.heap.size ≤ gb220)); clear HB; have HB := n0_; have BK220 := n1_; have GW220 := n2_; have GE220 := n3_; clear n0_ n1_ n2_ n3_; clear hb hbox hg) | ((with_reducible refine gate_dst (N := 21) rfl ?_); refine Kd.R_make Kd.bool _ 4 rfl (N := 21) rfl 108 _ _ rfl (l2.length : Int) rfl rfl Try.underlying108 (.bool false) 1 info4 rfl (by decide) (by omega) false (ok := fun _ => True) (okp := fun _ => True) rfl (fun _ hk => hk) trivial (of_decide_eq_true (by first | (with_reducible assumption) | assumption)) (Nat.le_trans (Nat.mul_le_mul_right _ (of_decide_eq_true (by first | (with_reducible assumption) | assumption) : (l2.length : Int).toNat ≤ 281474976710656)) (by omega)) (Below.refl _ _) (Nat.le_refl _) ?_; intro v222 w48 ho49 hb hg_ hnew_; clear hg_ hnew_; (first | rw [← Ny221.out] at ho49 | (simp only [Int.reduceToNat] at ho49; rw [← Ny221.out] at ho49)); have n0_ := aM (Kd.R_lower ho49 (below_size (by repeat (first | (with_reducible first | exact HB.out | apply blA | apply blN | apply blD | refine bS ?_ GE220.out) | exact HB.out)))); have n1_ := aM (blk_below (g := gb220) (o := .cells #[.int .i64 a0_0, .slice A0_1 l0_1.length c0_1, .slice A0_2 l0_2.length c0_2] 25 (0, 0)) (by (with_reducible repeat (first | apply bkN | apply bkD | apply bkA)); exact BK220.out) hb); have n2_ := aM (below_step (by repeat (first | (with_reducible first | exact HB.out | apply blA | apply blN | apply blD | refine bS ?_ GE220.out) | exact HB.out)) hb); clear BK220; clear HB; have HO223 := n0_; have BK220 := n1_; have HB := n2_; clear n0_ n1_ n2_; clear hb ho49; have hcz50_0 : w48.cell? ⟨gb220, 0, none⟩ = some (.int .i64 a0_0) := (blk_cell BK220.out 0).trans rfl; have hcz50_1 : w48.cell? ⟨gb220, 1, none⟩ = some (.slice A0_1 l0_1.length c0_1) := (blk_cell BK220.out 1).trans rfl; have hcz50_2 : w48.cell? ⟨gb220, 2, none⟩ = some (.slice A0_2 l0_2.length c0_2) := (blk_cell BK220.out 2).trans rfl; have hfz50_0 := bF BK220.out 0; have hfz50_1 := bF BK220.out 1; have hfz50_2 := bF BK220.out 2))
           go_loopg [70] k (fun kq v70 w' => ∃ (x7_1 : List Bool) (x70_1 : Int), v70 = .int .i64 x70_1 ∧ Aside0 (r5_ends.l2 kq l1 l2 x7_1 l0_2 (l0_2.length : Int) x70_1 = some r) ∧ Aside0 (kq ≤ k) ∧ Aside0 (Kd.R Kd.bool 4 w' w.heap.size (fun _ => True) v222 x7_1) ∧ Aside0 (w'.heap[gb220]? = some (.cells #[.int .i64 a0_0, (.slice A0_1 l0_1.length c0_1), (.slice A0_2 l0_2.length c0_2)] 25 (0, 0))) ∧ Aside0 (Below w.heap.size w w'))
           case atStart => exact ⟨(y221), (0), (by first | rfl | (simp; done) | (simp [*]; done)), H', ⟨Nat.le_refl _⟩, ⟨by (with_reducible repeat (first | apply kA | apply kN | apply kD)); exact HO223.out⟩, ⟨by (with_reducible repeat (first | apply bkN | apply bkD | apply bkA)); exact BK220.out⟩, ⟨by repeat (first | (with_reducible first | exact HB.out | apply blA | apply blN | apply blD | refine bS ?_ GE220.out) | exact HB.out)⟩⟩
           case round =>
            clear H'
            obtain ⟨x7_1, x70_1, rfl, HA, HK1, HO_7, BK220, HB⟩ := hrel
            cases gk with
            | zero => exact absurd HA.out (by simp [r5_ends.l2])
            | succ k1 =>
             have H := HA.out
             clear HA
             simp only [r5_ends.l2] at H
             by_cases c51 : x70_1 < (l0_2.length : Int)
             · rw [if_pos c51] at H
               have c51b0 : decide (x70_1 < (l0_2.length : Int)) = true := decide_eq_true c51
               clear c51
               by_cases c52 : 0 ≤ x70_1
               · rw [if_pos c52] at H
                 have c52b0 : decide (0 ≤ x70_1) = true := decide_eq_true c52
                 clear c52
                 by_cases c53 : x70_1 < (l0_2.length : Int)
                 · rw [if_pos c53] at H
                   have c53b0 : decide (x70_1 < (l0_2.length : Int)) = true := decide_eq_true c53
                   clear c53
                   replace H := Option.bind_eq_some_iff.mp H
                   obtain ⟨t238, A540, H⟩ := H
                   replace H : (r5_ends.l3 k1 l1 l2 x7_1 l0_2 (l0_2.length : Int) x70_1 t238 (t238.length : Int) 0) = some r := H
                   have A54 := aM A540
                   clear A540
                   have H' := aM H
                   clear H
                   have p236 : 0 ≤ (x70_1 : Int) := of_decide_eq_true (by first | (with_reducible assumption) | assumption)
                   have q236 : x70_1 < (l0_2.length : Int) := of_decide_eq_true (by first | (with_reducible assumption) | assumption)
                   obtain ⟨ad236, A236_1, c236_1, A236_2, c236_2, e236, hx236_0, hx236_1, hx236_2, hl236_1, hi236_1, hl236_2, hi236_2⟩ := at_T25 HR0_2.out x70_1 p236 q236
                   cases e236
                   replace hx236_0 := (HB.out.cell (World.block_lt_of_cell? w _ hx236_0)).trans hx236_0
                   replace hx236_1 := (HB.out.cell (World.block_lt_of_cell? w _ hx236_1)).trans hx236_1
                   replace hx236_2 := (HB.out.cell (World.block_lt_of_cell? w _ hx236_2)).trans hx236_2
                   have HR236_1 := aM hi236_1
                   have HC236_1 := aM hl236_1
                   clear hi236_1 hl236_1
                   have HR236_2 := aM hi236_2
                   have HC236_2 := aM hl236_2
                   clear hi236_2 hl236_2
                   replace p236 := eq_true p236
                   replace q236 := eq_true q236
                   go_wp2_with (first | ((with_reducible refine gate_dst (N := 13) rfl ?_); refine box_event ?hg (N := 13) ?hd (cs := #[.int .i64 0, .slice none 0 0, .slice none 0 0]) (t := 25) ?hr ?_; (case hd => rfl); (case hg => rfl); (case hr => first | (go_simp; done) | (go_simp; rfl)); intro gb237 hg w55 hbox hb; have n0_ := aM (Kd.R_below (by (with_reducible repeat (first | apply kA | apply kN | apply kD)); exact HO_7.out) hb); have n1_ := aM (blk_below (g := gb220) (o := .cells #[.int .i64 a0_0, .slice A0_1 l0_1.length c0_1, .slice (some ad236) l0_2.length c0_2] 25 (0, 0)) (by (with_reducible repeat (first | apply bkN | apply bkD | apply bkA)); exact BK220.out) hb); have n2_ := aM (below_step (by repeat (first | (with_reducible first | exact HB.out | apply blA | apply blN | apply blD | refine bS ?_ GE220.out) | exact HB.out)) hb); have n3_ := aM (hbox); have n4_ := aM ((by rw [hg]; exact (below_size (by repeat (first | (with_reducible first | exact HB.out | apply blA | apply blN | apply blD | refine bS ?_ GE220.out) | exact HB.out))) : w.heap.size ≤ gb237)); have n5_ := aM ((by rw [hg]; exact (below_size (by repeat (first | (with_reducible first | exact HB.out | apply blA | apply blN | apply blD | refine bS ?_ GE220.out) | exact HB.out))) : w.heap.size ≤ gb237)); have n6_ := aM ((by rw [hg]; exact Nat.ne_of_lt (blk_lt (g := gb220) (o := .cells #[.int .i64 a0_0, .slice A0_1 l0_1.length c0_1, .slice (some ad236) l0_2.length c0_2] 25 (0, 0)) (by (with_reducible repeat (first | apply bkN | apply bkD | apply bkA)); exact BK220.out)) : gb220 ≠ gb237)); have n7_ := aM ((by rw [hg]; exact Nat.ne_of_gt (blk_lt (g := gb220) (o := .cells #[.int .i64 a0_0, .slice A0_1 l0_1.length c0_1, .slice (some ad236) l0_2.length c0_2] 25 (0, 0)) (by (with_reducible repeat (first | apply bkN | apply bkD | apply bkA)); exact BK220.out)) : gb237 ≠ gb220)); clear HO_7; clear BK220; clear HB; have HO_7 := n0_; have BK220 := n1_; have HB := n2_; have BK237 := n3_; have GW237 := n4_; have GE237 := n5_; have NB220_237 := n6_; have NB237_220 := n7_; clear n0_ n1_ n2_ n3_ n4_ n5_ n6_ n7_; clear hb hbox hg; have hnb56 := NB237_220.out; have hnc56 := NB220_237.out; have hcz57_0 : w55.cell? ⟨gb237, 0, none⟩ = some (.int .i64 0) := (blk_cell BK237.out 0).trans rfl; have hcz57_1 : w55.cell? ⟨gb237, 1, none⟩ = some (.slice none 0 0) := (blk_cell BK237.out 1).trans rfl; have hcz57_2 : w55.cell? ⟨gb237, 2, none⟩ = some (.slice none 0 0) := (blk_cell BK237.out 2).trans rfl; have hfz57_0 := bF BK237.out 0; have hfz57_1 := bF BK237.out 1; have hfz57_2 := bF BK237.out 2) | ((with_reducible refine gate_callee (f := 83) rfl ?_); refine goesL_ (some 77) rfl rfl Try.func83 (by kernel_rfl) rfl #[.agg #[.int .i64 ((rd_T25 l0_2 x70_1).f0), .slice A236_1 ((rd_T25 l0_2 x70_1).f1).length c236_1, .slice A236_2 ((rd_T25 l0_2 x70_1).f2).length c236_2], .slice A1 l1.length c1, .slice A2 l2.length c2] rfl (by (try simp only [List.map_toArray, List.map_cons, List.map_nil]); first | done | rfl | (simp only [List.length_drop, List.length_take]; rfl)) ?_; (with_reducible refine (ih k1 (by have := HK1.out; omega) ((rd_T25 l0_2 x70_1).f0) _ _ ((rd_T25 l0_2 x70_1).f1) _ _ ((rd_T25 l0_2 x70_1).f2) _ _ l1 _ _ l2 t238 _ ?side1 ?side2 ?side3 ?side4 ?side5 ?side6 ?side7 ?side8 A54.out).mono ?_); (case side1 => exact Kd.C_below HR236_1.out (by repeat (first | (with_reducible first | exact HB.out | apply blA | apply blN | apply blD | refine bS ?_ GE220.out | refine bS ?_ GE237.out) | exact HB.out))); (case side2 => exact HC236_1.out); (case side3 => exact Kd.C_below HR236_2.out (by repeat (first | (with_reducible first | exact HB.out | apply blA | apply blN | apply blD | refine bS ?_ GE220.out | refine bS ?_ GE237.out) | exact HB.out))); (case side4 => exact HC236_2.out); (case side5 => exact Kd.C_below HR1.out (by repeat (first | (with_reducible first | exact HB.out | apply blA | apply blN | apply blD | refine bS ?_ GE220.out | refine bS ?_ GE237.out) | exact HB.out))); (case side6 => exact HC1.out); (case side7 => exact Kd.C_below HR2.out (by repeat (first | (with_reducible first | exact HB.out | apply blA | apply blN | apply blD | refine bS ?_ GE220.out | refine bS ?_ GE237.out) | exact HB.out))); (case side8 => exact HC2.out); rintro e w58 ⟨v239, rfl, ho0, hb⟩; refine ⟨_, rfl, ?_⟩; have n0_ := aM (Kd.R_elder' (by (with_reducible repeat (first | apply kA | apply kN | apply kD)); exact (Kd.R_mono (Kd.R_far (p := ⟨gb237, 2, none⟩) (Kd.R_far (p := ⟨gb237, 1, none⟩) (Kd.R_far (p := ⟨gb237, 0, none⟩) (Kd.R_types HO_7.out BK237.out (by decide)) (fun _ hk => hk.2) (.int .i64 ((rd_T25 l0_2 x70_1).f0))) (fun _ hk => hk.2) (.slice A236_1 ((rd_T25 l0_2 x70_1).f1).length c236_1)) (fun _ hk => hk.2) (.slice A236_2 ((rd_T25 l0_2 x70_1).f2).length c236_2)) (fun _ h_ => h_.1))) (Kd.R_base ho0) hb); have n1_ := aM (Kd.R_lower (Kd.R_new' ho0 (Kd.R_lt (by (with_reducible repeat (first | apply kA | apply kN | apply kD)); exact (Kd.R_mono (Kd.R_far (p := ⟨gb237, 2, none⟩) (Kd.R_far (p := ⟨gb237, 1, none⟩) (Kd.R_far (p := ⟨gb237, 0, none⟩) (Kd.R_types HO_7.out BK237.out (by decide)) (fun _ hk => hk.2) (.int .i64 ((rd_T25 l0_2 x70_1).f0))) (fun _ hk => hk.2) (.slice A236_1 ((rd_T25 l0_2 x70_1).f1).length c236_1)) (fun _ hk => hk.2) (.slice A236_2 ((rd_T25 l0_2 x70_1).f2).length c236_2)) (fun _ h_ => h_.1))))) (below_size (by repeat (first | (with_reducible first | exact HB.out | apply blA | apply blN | apply blD | refine bS ?_ GE220.out | refine bS ?_ GE237.out) | exact HB.out)))); have n2_ := aM (blk_below (g := gb220) (o := .cells #[.int .i64 a0_0, .slice A0_1 l0_1.length c0_1, .slice (some ad236) l0_2.length c0_2] 25 (0, 0)) (by (with_reducible repeat (first | apply bkN | apply bkD | apply bkA)); refine blk_far ?_ NB220_237.out _; (with_reducible repeat (first | apply bkN | apply bkD | apply bkA)); refine blk_far ?_ NB220_237.out _; (with_reducible repeat (first | apply bkN | apply bkD | apply bkA)); refine blk_far ?_ NB220_237.out _; (with_reducible repeat (first | apply bkN | apply bkD | apply bkA)); exact BK220.out) hb); have n3_ := aM (blk_below (g := gb237) (o := .cells #[.int .i64 ((rd_T25 l0_2 x70_1).f0), .slice A236_1 ((rd_T25 l0_2 x70_1).f1).length c236_1, .slice A236_2 ((rd_T25 l0_2 x70_1).f2).length c236_2] 25 (0, 0)) (by (with_reducible repeat (first | apply bkN | apply bkD | apply bkA)); refine blk_put (cs := #[.int .i64 ((rd_T25 l0_2 x70_1).f0), .slice A236_1 ((rd_T25 l0_2 x70_1).f1).length c236_1, .slice none 0 0]) ?_ 2 _ rfl; (with_reducible repeat (first | apply bkN | apply bkD | apply bkA)); refine blk_put (cs := #[.int .i64 ((rd_T25 l0_2 x70_1).f0), .slice none 0 0, .slice none 0 0]) ?_ 1 _ rfl; (with_reducible repeat (first | apply bkN | apply bkD | apply bkA)); refine blk_put (cs := #[.int .i64 0, .slice none 0 0, .slice none 0 0]) ?_ 0 _ rfl; (with_reducible repeat (first | apply bkN | apply bkD | apply bkA)); exact BK237.out) hb); have n4_ := aM (below_step (by repeat (first | (with_reducible first | exact HB.out | apply blA | apply blN | apply blD | refine bS ?_ GE220.out | refine bS ?_ GE237.out) | exact HB.out)) hb); clear HO_7; clear BK220; clear BK237; clear HB; have HO_7 := n0_; have HO240 := n1_; have BK220 := n2_; have BK237 := n3_; have HB := n4_; clear n0_ n1_ n2_ n3_ n4_; (try clear hb); (try clear hb2); (try clear hk); (try clear hi); (try clear ho0); obtain ⟨Ao59, co59, eo59⟩ := Kd.R_slice HO240.out; subst eo59))
                   go_loopg [79] k1 (fun kq v79 w' => ∃ (x7_2 : List Bool) (x79_2 : Int), v79 = .int .i64 x79_2 ∧ Aside0 (r5_ends.l3 kq l1 l2 x7_2 l0_2 (l0_2.length : Int) x70_1 t238 (t238.length : Int) x79_2 = some r) ∧ Aside0 (kq ≤ k1) ∧ Aside0 (Kd.R Kd.bool 4 w' w.heap.size (fun k_ => some k_ ≠ ((.slice Ao59 t238.length co59) : Value).ownBlock) v222 x7_2) ∧ Aside0 (Kd.R Kd.bool 4 w' w.heap.size (fun k_ => some k_ ≠ (v222 : Value).ownBlock) (.slice Ao59 t238.length co59) t238) ∧ Aside0 (w'.heap[gb220]? = some (.cells #[.int .i64 a0_0, (.slice A0_1 l0_1.length c0_1), (.slice (some ad236) l0_2.length c0_2)] 25 (0, 0))) ∧ Aside0 (w'.heap[gb237]? = some (.cells #[.int .i64 ((rd_T25 l0_2 x70_1).f0), (.slice A236_1 ((rd_T25 l0_2 x70_1).f1).length c236_1), (.slice A236_2 ((rd_T25 l0_2 x70_1).f2).length c236_2)] 25 (0, 0))) ∧ Aside0 (Below w.heap.size w w'))
                   case atStart => exact ⟨(x7_1), (0), (by first | rfl | (simp; done) | (simp [*]; done)), H', ⟨Nat.le_refl _⟩, ⟨by (with_reducible repeat (first | apply kA | apply kN | apply kD)); exact Kd.R_mono HO_7.out (fun _ hk => hk.2)⟩, ⟨by (with_reducible repeat (first | apply kA | apply kN | apply kD)); exact Kd.R_mono HO240.out (fun _ hk => hk.2)⟩, ⟨by (with_reducible repeat (first | apply bkN | apply bkD | apply bkA)); exact BK220.out⟩, ⟨by (with_reducible repeat (first | apply bkN | apply bkD | apply bkA)); exact BK237.out⟩, ⟨by repeat (first | (with_reducible first | exact HB.out | apply blA | apply blN | apply blD | refine bS ?_ GE220.out | refine bS ?_ GE237.out) | exact HB.out)⟩⟩
                   case round =>
                    clear H'
                    obtain ⟨x7_2, x79_2, rfl, HA, HK2, HO_7, HO_77, BK220, BK237, HB⟩ := hrel
                    cases gk with
                    | zero => exact absurd HA.out (by simp [r5_ends.l3])
                    | succ k2 =>
                     have H := HA.out
                     clear HA
                     simp only [r5_ends.l3] at H
                     by_cases c60 : x79_2 < (t238.length : Int)
                     · rw [if_pos c60] at H
                       have c60b0 : decide (x79_2 < (t238.length : Int)) = true := decide_eq_true c60
                       clear c60
                       by_cases c61 : 0 ≤ x79_2
                       · rw [if_pos c61] at H
                         have c61b0 : decide (0 ≤ x79_2) = true := decide_eq_true c61
                         clear c61
                         by_cases c62 : x79_2 < (t238.length : Int)
                         · rw [if_pos c62] at H
                           have c62b0 : decide (x79_2 < (t238.length : Int)) = true := decide_eq_true c62
                           clear c62
                           by_cases c63 : x79_2 < (x7_2.length : Int)
                           · rw [if_pos c63] at H
                             have c63b0 : decide (x79_2 < (x7_2.length : Int)) = true := decide_eq_true c63
                             clear c63
                             obtain ⟨bq64, hbq64⟩ : ∃ b_ : Bool, b_ = (rdOf false x7_2 x79_2) := ⟨_, rfl⟩
                             replace H : (if bq64 = true then (r5_ends.l3 k2 l1 l2 (x7_2.set (x79_2 : Int).toNat true) l0_2 (l0_2.length : Int) x70_1 t238 (t238.length : Int) (wrap64 (x79_2 + 1))) else (r5_ends.l3 k2 l1 l2 (x7_2.set (x79_2 : Int).toNat (rdOf false t238 x79_2)) l0_2 (l0_2.length : Int) x70_1 t238 (t238.length : Int) (wrap64 (x79_2 + 1)))) = some r := by rw [← hbq64] at H; exact H
                             have Nbq64 := aM hbq64
                             clear hbq64
                             by_cases c65 : bq64 = true
                             · subst c65
                               have H1 : (r5_ends.l3 k2 l1 l2 (x7_2.set (x79_2 : Int).toNat true) l0_2 (l0_2.length : Int) x70_1 t238 (t238.length : Int) (wrap64 (x79_2 + 1))) = some r := by rw [if_pos rfl] at H; exact H
                               clear H
                               have H := H1
                               clear H1
                               obtain ⟨y243, hy243⟩ : ∃ y_ : List Bool, y_ = (x7_2.set (x79_2 : Int).toNat true) := ⟨_, rfl⟩
                               replace H : (r5_ends.l3 k2 l1 l2 y243 l0_2 (l0_2.length : Int) x70_1 t238 (t238.length : Int) (wrap64 (x79_2 + 1))) = some r := by first | (rw [hy243]; with_reducible exact H) | (have H2_ := (Option.bind_some _ _).symm.trans H; rw [hy243]; with_reducible exact H2_) | (have H2_ := (Option.bind_some _ _).symm.trans H; with_reducible exact H2_) | with_reducible exact H | (rw [hy243]; exact H) | exact H
                               have Ny243 := aM hy243
                               clear hy243
                               have H' := aM H
                               clear H
                               have p241 : 0 ≤ (x79_2 : Int) := of_decide_eq_true (by first | (with_reducible assumption) | assumption)
                               have q241 : x79_2 < (t238.length : Int) := of_decide_eq_true (by first | (with_reducible assumption) | assumption)
                               obtain ⟨ad241, e241, hx241_0⟩ := Kd.at_bool (Kd.R_reads' HO_77.out).2.2 x79_2 p241 q241
                               (try rw [← Nbq64.out] at hx241_0)
                               cases e241
                               replace p241 := eq_true p241
                               replace q241 := eq_true q241
                               obtain ⟨Ao67, co67, eo67⟩ := Kd.R_slice HO_7.out
                               subst eo67
                               have p242 : 0 ≤ (x79_2 : Int) := of_decide_eq_true (by first | (with_reducible assumption) | assumption)
                               have q242 : x79_2 < (x7_2.length : Int) := of_decide_eq_true (by first | (with_reducible assumption) | assumption)
                               obtain ⟨ad242, e242, hx242_0⟩ := Kd.at_bool (Kd.R_reads' HO_7.out).2.2 x79_2 p242 q242
                               (try rw [← Nbq64.out] at hx242_0)
                               cases e242
                               replace p242 := eq_true p242
                               replace q242 := eq_true q242
                               have p66 : 0 ≤ (x79_2 : Int) := of_decide_eq_true (by first | (with_reducible assumption) | assumption)
                               have q66 : (x79_2 : Int) < ((x7_2.length : Int) : Int) := of_decide_eq_true (by first | (with_reducible assumption) | assumption)
                               obtain ⟨go66, co66, eo66, gb66, gl66, cl66, HG66⟩ := Kd.R_form HO_7.out (by omega)
                               (first | cases eo66 | (injection eo66 with ea_ en_ ec_; (first | subst ea_ | (injection ea_ with ea_; subst ea_)); subst ec_; clear en_))
                               have GB66 := aM gb66
                               have GG66 := aM HG66
                               clear gb66 gl66 HG66
                               (first | simp only [add_plain] at hx242_0 | skip)
                               obtain ⟨hx66_0, hf66_0⟩ := Kd.R_celln false HO_7.out (x79_2 : Int) p66 q66
                               replace p66 := eq_true p66
                               replace q66 := eq_true q66
                               have HP68 := Kd.R_putg HO_7.out (x79_2 : Int) true
                               go_wp2_with (first | ((with_reducible refine gate_store (t := 4) (p := 93) rfl ?_); refine store_event (t := 4) (p := 93) (v := ?vo_w69) (w1 := (wr.setCell ⟨go66, (x79_2 : Int).toNat, none⟩ (.bool true))) ?hg ?ho ?hn ?hr ?_; (case ho => rfl); (case hg => rfl); (case hn => rfl); (case hr => first | (go_simp; done) | (go_simp; rfl)); intro w69 hw; have hg : wr.grownBy w69 (some go66) := (by rw [hw]; exact HP68.2); have hp_ : Kd.R Kd.bool 4 w69 w.heap.size (fun k_ => some k_ ≠ (.slice (some ad241) t238.length co59 : Value).ownBlock) (.slice (some ⟨go66, 0, none⟩) x7_2.length co67) y243 := (by rw [hw, Ny243.out]; exact HP68.1); clear HP68; have n0_ := aM (hp_); have n1_ := aM (Kd.R_after (v := (.slice (some ⟨go66, 0, none⟩) x7_2.length co67)) (v1 := (.slice (some ⟨go66, 0, none⟩) x7_2.length co67)) (ok := (fun _ => True)) (by (with_reducible repeat (first | apply kA | apply kN | apply kD)); exact Kd.R_mono HO_77.out (fun _ hk => ⟨trivial, hk⟩)) hg (.inl rfl)); have n2_ := aM (blk_grown (g := gb220) (o := .cells #[.int .i64 a0_0, .slice A0_1 l0_1.length c0_1, .slice (some ad236) l0_2.length c0_2] 25 (0, 0)) (by (with_reducible repeat (first | apply bkN | apply bkD | apply bkA)); exact BK220.out) hg (Kd.R_ne HO_7.out BK220.out (by decide))); have n3_ := aM (blk_grown (g := gb237) (o := .cells #[.int .i64 ((rd_T25 l0_2 x70_1).f0), .slice A236_1 ((rd_T25 l0_2 x70_1).f1).length c236_1, .slice A236_2 ((rd_T25 l0_2 x70_1).f2).length c236_2] 25 (0, 0)) (by (with_reducible repeat (first | apply bkN | apply bkD | apply bkA)); exact BK237.out) hg (Kd.R_ne HO_7.out BK237.out (by decide))); have n4_ := aM ((by rw [hw]; exact below_set (HB.out) GB66.out : Below w.heap.size w w69)); clear HO_7; clear HO_77; clear BK220; clear BK237; clear HB; have HO_7 := n0_; have HO_77 := n1_; have BK220 := n2_; have BK237 := n3_; have HB := n4_; clear n0_ n1_ n2_ n3_ n4_; clear hg hw hp_))
                               go_roundg k2
                               case measure => have := HK1.out; have := HK2.out; omega
                               case rel => exact ⟨(y243), (wrap64 (x79_2 + 1)), (by first | rfl | (simp; done) | (simp [*]; done)), H', ⟨by have := HK1.out; have := HK2.out; omega⟩, ⟨by (with_reducible repeat (first | apply kA | apply kN | apply kD)); exact HO_7.out⟩, ⟨by (with_reducible repeat (first | apply kA | apply kN | apply kD)); exact Kd.R_mono HO_77.out (fun _ hk => hk.2)⟩, ⟨by (with_reducible repeat (first | apply bkN | apply bkD | apply bkA)); exact BK220.out⟩, ⟨by (with_reducible repeat (first | apply bkN | apply bkD | apply bkA)); exact BK237.out⟩, ⟨by repeat (first | (with_reducible first | exact HB.out | apply blA | apply blN | apply blD | refine bS ?_ GE220.out | refine bS ?_ GE237.out) | exact HB.out)⟩⟩
                             · replace c65 := Bool.eq_false_iff.mpr c65
                               subst c65
                               have H1 : (r5_ends.l3 k2 l1 l2 (x7_2.set (x79_2 : Int).toNat (rdOf false t238 x79_2)) l0_2 (l0_2.length : Int) x70_1 t238 (t238.length : Int) (wrap64 (x79_2 + 1))) = some r := by rw [if_neg (show ¬ (false = true) by decide)] at H; exact H
                               clear H
                               have H := H1
                               clear H1
                               obtain ⟨y244, hy244⟩ : ∃ y_ : List Bool, y_ = (x7_2.set (x79_2 : Int).toNat (rdOf false t238 x79_2)) := ⟨_, rfl⟩
                               replace H : (r5_ends.l3 k2 l1 l2 y244 l0_2 (l0_2.length : Int) x70_1 t238 (t238.length : Int) (wrap64 (x79_2 + 1))) = some r := by first | (rw [hy244]; with_reducible exact H) | (have H2_ := (Option.bind_some _ _).symm.trans H; rw [hy244]; with_reducible exact H2_) | (have H2_ := (Option.bind_some _ _).symm.trans H; with_reducible exact H2_) | with_reducible exact H | (rw [hy244]; exact H) | exact H
                               have Ny244 := aM hy244
                               clear hy244
                               have H' := aM H
                               clear H
                               have p241 : 0 ≤ (x79_2 : Int) := of_decide_eq_true (by first | (with_reducible assumption) | assumption)
                               have q241 : x79_2 < (t238.length : Int) := of_decide_eq_true (by first | (with_reducible assumption) | assumption)
                               obtain ⟨ad241, e241, hx241_0⟩ := Kd.at_bool (Kd.R_reads' HO_77.out).2.2 x79_2 p241 q241
                               (try rw [← Nbq64.out] at hx241_0)
                               cases e241
                               replace p241 := eq_true p241
                               replace q241 := eq_true q241
                               obtain ⟨Ao71, co71, eo71⟩ := Kd.R_slice HO_7.out
                               subst eo71
                               have p242 : 0 ≤ (x79_2 : Int) := of_decide_eq_true (by first | (with_reducible assumption) | assumption)
                               have q242 : x79_2 < (x7_2.length : Int) := of_decide_eq_true (by first | (with_reducible assumption) | assumption)
                               obtain ⟨ad242, e242, hx242_0⟩ := Kd.at_bool (Kd.R_reads' HO_7.out).2.2 x79_2 p242 q242
                               (try rw [← Nbq64.out] at hx242_0)
                               cases e242
                               replace p242 := eq_true p242
                               replace q242 := eq_true q242
                               have p70 : 0 ≤ (x79_2 : Int) := of_decide_eq_true (by first | (with_reducible assumption) | assumption)
                               have q70 : (x79_2 : Int) < ((x7_2.length : Int) : Int) := of_decide_eq_true (by first | (with_reducible assumption) | assumption)
                               obtain ⟨go70, co70, eo70, gb70, gl70, cl70, HG70⟩ := Kd.R_form HO_7.out (by omega)
                               (first | cases eo70 | (injection eo70 with ea_ en_ ec_; (first | subst ea_ | (injection ea_ with ea_; subst ea_)); subst ec_; clear en_))
                               have GB70 := aM gb70
                               have GG70 := aM HG70
                               clear gb70 gl70 HG70
                               (first | simp only [add_plain] at hx242_0 | skip)
                               obtain ⟨hx70_0, hf70_0⟩ := Kd.R_celln false HO_7.out (x79_2 : Int) p70 q70
                               replace p70 := eq_true p70
                               replace q70 := eq_true q70
                               have HP72 := Kd.R_putg HO_7.out (x79_2 : Int) (rdOf false t238 x79_2)
                               go_wp2_with (first | ((with_reducible refine gate_store (t := 4) (p := 93) rfl ?_); refine store_event (t := 4) (p := 93) (v := ?vo_w73) (w1 := (wr.setCell ⟨go70, (x79_2 : Int).toNat, none⟩ (.bool (rdOf false t238 x79_2)))) ?hg ?ho ?hn ?hr ?_; (case ho => rfl); (case hg => rfl); (case hn => rfl); (case hr => first | (go_simp; done) | (go_simp; rfl)); intro w73 hw; have hg : wr.grownBy w73 (some go70) := (by rw [hw]; exact HP72.2); have hp_ : Kd.R Kd.bool 4 w73 w.heap.size (fun k_ => some k_ ≠ (.slice (some ad241) t238.length co59 : Value).ownBlock) (.slice (some ⟨go70, 0, none⟩) x7_2.length co71) y244 := (by rw [hw, Ny244.out]; exact HP72.1); clear HP72; have n0_ := aM (hp_); have n1_ := aM (Kd.R_after (v := (.slice (some ⟨go70, 0, none⟩) x7_2.length co71)) (v1 := (.slice (some ⟨go70, 0, none⟩) x7_2.length co71)) (ok := (fun _ => True)) (by (with_reducible repeat (first | apply kA | apply kN | apply kD)); exact Kd.R_mono HO_77.out (fun _ hk => ⟨trivial, hk⟩)) hg (.inl rfl)); have n2_ := aM (blk_grown (g := gb220) (o := .cells #[.int .i64 a0_0, .slice A0_1 l0_1.length c0_1, .slice (some ad236) l0_2.length c0_2] 25 (0, 0)) (by (with_reducible repeat (first | apply bkN | apply bkD | apply bkA)); exact BK220.out) hg (Kd.R_ne HO_7.out BK220.out (by decide))); have n3_ := aM (blk_grown (g := gb237) (o := .cells #[.int .i64 ((rd_T25 l0_2 x70_1).f0), .slice A236_1 ((rd_T25 l0_2 x70_1).f1).length c236_1, .slice A236_2 ((rd_T25 l0_2 x70_1).f2).length c236_2] 25 (0, 0)) (by (with_reducible repeat (first | apply bkN | apply bkD | apply bkA)); exact BK237.out) hg (Kd.R_ne HO_7.out BK237.out (by decide))); have n4_ := aM ((by rw [hw]; exact below_set (HB.out) GB70.out : Below w.heap.size w w73)); clear HO_7; clear HO_77; clear BK220; clear BK237; clear HB; have HO_7 := n0_; have HO_77 := n1_; have BK220 := n2_; have BK237 := n3_; have HB := n4_; clear n0_ n1_ n2_ n3_ n4_; clear hg hw hp_))
                               go_roundg k2
                               case measure => have := HK1.out; have := HK2.out; omega
                               case rel => exact ⟨(y244), (wrap64 (x79_2 + 1)), (by first | rfl | (simp; done) | (simp [*]; done)), H', ⟨by have := HK1.out; have := HK2.out; omega⟩, ⟨by (with_reducible repeat (first | apply kA | apply kN | apply kD)); exact HO_7.out⟩, ⟨by (with_reducible repeat (first | apply kA | apply kN | apply kD)); exact Kd.R_mono HO_77.out (fun _ hk => hk.2)⟩, ⟨by (with_reducible repeat (first | apply bkN | apply bkD | apply bkA)); exact BK220.out⟩, ⟨by (with_reducible repeat (first | apply bkN | apply bkD | apply bkA)); exact BK237.out⟩, ⟨by repeat (first | (with_reducible first | exact HB.out | apply blA | apply blN | apply blD | refine bS ?_ GE220.out | refine bS ?_ GE237.out) | exact HB.out)⟩⟩
                           · rw [if_neg c63] at H
                             exact absurd H (by simp)
                         · rw [if_neg c62] at H
                           exact absurd H (by simp)
                       · rw [if_neg c61] at H
                         exact absurd H (by simp)
                     · rw [if_neg c60] at H
                       have c60b0 : decide (x79_2 < (t238.length : Int)) = false := decide_eq_false c60
                       clear c60
                       have H' := aM H
                       clear H
                       go_wp2
                       go_roundg k2
                       case measure => have := HK1.out; have := HK2.out; omega
                       case rel => exact ⟨(x7_2), (wrap64 (x70_1 + 1)), (by first | rfl | (simp; done) | (simp [*]; done)), H', ⟨by have := HK1.out; have := HK2.out; omega⟩, ⟨by (with_reducible repeat (first | apply kA | apply kN | apply kD)); exact Kd.R_mono HO_7.out (fun _ hk => trivial)⟩, ⟨by (with_reducible repeat (first | apply bkN | apply bkD | apply bkA)); exact BK220.out⟩, ⟨by repeat (first | (with_reducible first | exact HB.out | apply blA | apply blN | apply blD | refine bS ?_ GE220.out | refine bS ?_ GE237.out) | exact HB.out)⟩⟩
                 · rw [if_neg c53] at H
                   exact absurd H (by simp)
               · rw [if_neg c52] at H
                 exact absurd H (by simp)
             · rw [if_neg c51] at H
               have c51b0 : decide (x70_1 < (l0_2.length : Int)) = false := decide_eq_false c51
               clear c51
               obtain rfl := Option.some.inj H
               go_wp2
               first | go_ret | refine ⟨_, results_tmp rfl _ _ _, ?_⟩
               exact ⟨_, by first | rfl | (simp [errW_none, errW_some] <;> rfl) | (simp [*, errW_none, errW_some] <;> rfl), by (with_reducible repeat (first | apply kA | apply kN | apply kD)); exact HO_7.out, by repeat (first | (with_reducible first | exact HB.out | apply blA | apply blN | apply blD | refine bS ?_ GE220.out) | exact HB.out)⟩
         · rw [if_neg c46] at H
           have c46b0 : (a0_0 == 3) = false := beq_eq_false_iff_ne.mpr c46
           have c46b1 : (a0_0 != 3) = true := bne_iff_ne.mpr c46
           by_cases c74 : a0_0 = 4
           · rw [if_pos c74] at H
             have c74b0 : (a0_0 == 4) = true := beq_iff_eq.mpr c74
             have c74b1 : (a0_0 != 4) = false := bne_eq_false_iff_eq.mpr c74
             clear c74
             obtain ⟨y245, hy245⟩ : ∃ y_ : List Bool, y_ = (l2.take (min l2.length y221.length) ++ y221.drop (min l2.length y221.length)) := ⟨_, rfl⟩
             replace H : (r5_ends.l4 k l1 y245 true a0_0 l0_1 l0_2) = some r := by first | (rw [hy245]; with_reducible exact H) | (have H2_ := (Option.bind_some _ _).symm.trans H; rw [hy245]; with_reducible exact H2_) | (have H2_ := (Option.bind_some _ _).symm.trans H; with_reducible exact H2_) | with_reducible exact H | (rw [hy245]; exact H) | exact H
             have Ny245 := aM hy245
             clear hy245
             have H' := aM H
             clear H
             go_enter Try.func83, Try.ntmps83
             go_wp2_with (first | ((with_reducible refine gate_dst (N := 3) rfl ?_); refine box_event ?hg (N := 3) ?hd (cs := #[.int .i64 a0_0, .slice A0_1 l0_1.length c0_1, .slice A0_2 l0_2.length c0_2]) (t := 25) ?hr ?_; (case hd => rfl); (case hg => rfl); (case hr => first | (go_simp; done) | (go_simp; rfl)); intro gb220 hg w75 hbox hb; have n0_ := aM (below_step (by repeat (first | (with_reducible first | exact HB.out | apply blA | apply blN | apply blD) | exact HB.out)) hb); have n1_ := aM (hbox); have n2_ := aM ((by rw [hg]; exact (below_size (by repeat (first | (with_reducible first | exact HB.out | apply blA | apply blN | apply blD) | exact HB.out))) : w.heap.size ≤ gb220)); have n3_ := aM ((by rw [hg]; exact (below_size (by repeat (first | (with_reducible first | exact HB.out | apply blA | apply blN | apply blD) | exact HB.out))) : w.heap.size ≤ gb220)); clear HB; have HB := n0_; have BK220 := n1_; have GW220 := n2_; have GE220 := n3_; clear n0_ n1_ n2_ n3_; clear hb hbox hg) | ((with_reducible refine gate_dst (N := 21) rfl ?_); refine Kd.R_make Kd.bool _ 4 rfl (N := 21) rfl 108 _ _ rfl (l2.length : Int) rfl rfl Try.underlying108 (.bool false) 1 info4 rfl (by decide) (by omega) false (ok := fun _ => True) (okp := fun _ => True) rfl (fun _ hk => hk) trivial (of_decide_eq_true (by first | (with_reducible assumption) | assumption)) (Nat.le_trans (Nat.mul_le_mul_right _ (of_decide_eq_true (by first | (with_reducible assumption) | assumption) : (l2.length : Int).toNat ≤ 281474976710656)) (by omega)) (Below.refl _ _) (Nat.le_refl _) ?_; intro v222 w76 ho77 hb hg_ hnew_; clear hg_ hnew_; (first | rw [← Ny221.out] at ho77 | (simp only [Int.reduceToNat] at ho77; rw [← Ny221.out] at ho77)); have n0_ := aM (Kd.R_lower ho77 (below_size (by repeat (first | (with_reducible first | exact HB.out | apply blA | apply blN | apply blD | refine bS ?_ GE220.out) | exact HB.out)))); have n1_ := aM (blk_below (g := gb220) (o := .cells #[.int .i64 a0_0, .slice A0_1 l0_1.length c0_1, .slice A0_2 l0_2.length c0_2] 25 (0, 0)) (by (with_reducible repeat (first | apply bkN | apply bkD | apply bkA)); exact BK220.out) hb); have n2_ := aM (below_step (by repeat (first | (with_reducible first | exact HB.out | apply blA | apply blN | apply blD | refine bS ?_ GE220.out) | exact HB.out)) hb); clear BK220; clear HB; have HO223 := n0_; have BK220 := n1_; have HB := n2_; clear n0_ n1_ n2_; clear hb ho77; have hcz78_0 : w76.cell? ⟨gb220, 0, none⟩ = some (.int .i64 a0_0) := (blk_cell BK220.out 0).trans rfl; have hcz78_1 : w76.cell? ⟨gb220, 1, none⟩ = some (.slice A0_1 l0_1.length c0_1) := (blk_cell BK220.out 1).trans rfl; have hcz78_2 : w76.cell? ⟨gb220, 2, none⟩ = some (.slice A0_2 l0_2.length c0_2) := (blk_cell BK220.out 2).trans rfl; have hfz78_0 := bF BK220.out 0; have hfz78_1 := bF BK220.out 1; have hfz78_2 := bF BK220.out 2; obtain ⟨Ao80, co80, eo80⟩ := Kd.R_slice HO223.out; subst eo80) | ((with_reducible refine gate_builtin (b := .copy) (xs := #[.tmp 98, .tmp 99]) rfl ?_); refine Kd.R_copy (enc := Value.bool) (h1 := fun _ => rfl) false (w0 := w) w.heap.size rfl (.tmp 98) (.tmp 99) 108 108 4 rfl Try.underlying108 (by kernel_rfl) (.slice Ao80 y221.length co80) y221 l2 _ _ _ (fun _ => True) rfl rfl ?aO ?aR ?aB ?aS ?_; (case aR => repeat (first | exact (Kd.C_below HR2.out HB.out) | (with_reducible refine Kd.C_alloc ?_ _) | (with_reducible refine Kd.C_drewN ?_ _) | (with_reducible refine Kd.C_drew ?_))); (case aB => exact (by repeat (first | (with_reducible first | exact HB.out | apply blA | apply blN | apply blD | refine bS ?_ GE220.out) | exact HB.out))); (case aO => exact (by (with_reducible repeat (first | apply kA | apply kN | apply kD)); exact HO223.out)); (case aS => exact (below_size (by repeat (first | (with_reducible first | exact HB.out | apply blA | apply blN | apply blD | refine bS ?_ GE220.out) | exact HB.out)))); intro w79 ho hb hg; have hat := (Or.inl rfl : ((.slice Ao80 y221.length co80) : Value).ownBlock = ((.slice Ao80 y221.length co80) : Value).ownBlock ∨ ∃ b_, ((.slice Ao80 y221.length co80) : Value).ownBlock = some b_ ∧ 0 ≤ b_); rw [← Ny245.out] at ho; have n0_ := aM (blk_grown (g := gb220) (o := .cells #[.int .i64 a0_0, .slice A0_1 l0_1.length c0_1, .slice A0_2 l0_2.length c0_2] 25 (0, 0)) (by (with_reducible repeat (first | apply bkN | apply bkD | apply bkA)); exact BK220.out) hg (Kd.R_ne HO223.out BK220.out (by decide))); have n1_ := aM (hb); have n2_ := aM (ho); clear BK220; clear HB; clear HO223; have BK220 := n0_; have HB := n1_; have HO247 := n2_; clear n0_ n1_ n2_; clear ho hb hg hat))
             go_loopg [16] k (fun kq v16 w' => ∃ (x7_1 : List Bool) (x16_1 : Bool), v16 = .bool x16_1 ∧ Aside0 (r5_ends.l4 kq l1 x7_1 x16_1 a0_0 l0_1 l0_2 = some r) ∧ Aside0 (kq ≤ k) ∧ Aside0 (Kd.R Kd.bool 4 w' w.heap.size (fun _ => True) (.slice Ao80 y221.length co80) x7_1) ∧ Aside0 (w'.heap[gb220]? = some (.cells #[.int .i64 a0_0, (.slice A0_1 l0_1.length c0_1), (.slice A0_2 l0_2.length c0_2)] 25 (0, 0))) ∧ Aside0 (Below w.heap.size w w'))
             case atStart => exact ⟨(y245), (true), (by first | rfl | (simp; done) | (simp [*]; done)), H', ⟨Nat.le_refl _⟩, ⟨by (with_reducible repeat (first | apply kA | apply kN | apply kD)); exact HO247.out⟩, ⟨by (with_reducible repeat (first | apply bkN | apply bkD | apply bkA)); exact BK220.out⟩, ⟨by repeat (first | (with_reducible first | exact HB.out | apply blA | apply blN | apply blD | refine bS ?_ GE220.out) | exact HB.out)⟩⟩
             case round =>
              clear H'
              obtain ⟨x7_1, x16_1, rfl, HA, HK1, HO_7, BK220, HB⟩ := hrel
              have hl7_1 := (Kd.R_reads' HO_7.out).1
              rw [hl7_1] at HO_7
              (try simp only [hl7_1])
              (try simp only [hl7_1] at BK220)
              cases gk with
              | zero => exact absurd HA.out (by simp [r5_ends.l4])
              | succ k1 =>
               have H := HA.out
               clear HA
               simp only [r5_ends.l4] at H
               by_cases c81 : x16_1 = true
               · subst c81
                 have H1 : (if 0 < (l0_2.length : Int) then ((r5_ends.f k1 ((rd_T25 l0_2 0).f0) ((rd_T25 l0_2 0).f1) ((rd_T25 l0_2 0).f2) l1 x7_1).bind fun t249 => (r5_ends.l5 k1 l1 x7_1 false t249 (t249.length : Int) 0 a0_0 l0_1 l0_2)) else (none)) = some r := by rw [if_pos rfl] at H; exact H
                 clear H
                 have H := H1
                 clear H1
                 by_cases c82 : 0 < (l0_2.length : Int)
                 · rw [if_pos c82] at H
                   have c82b0 : decide (0 < (l0_2.length : Int)) = true := decide_eq_true c82
                   have c82b1 : decide (0 < l0_2.length) = true := decide_eq_true (by omega)
                   have c82b9 := c82b0
                   (try simp only [hl7_1] at c82b9)
                   clear c82
                   replace H := Option.bind_eq_some_iff.mp H
                   obtain ⟨t249, A830, H⟩ := H
                   replace H : (r5_ends.l5 k1 l1 x7_1 false t249 (t249.length : Int) 0 a0_0 l0_1 l0_2) = some r := H
                   have A83 := aM A830
                   clear A830
                   have H' := aM H
                   clear H
                   have hcz84_0 : wr.cell? ⟨gb220, 0, none⟩ = some (.int .i64 a0_0) := (blk_cell BK220.out 0).trans rfl
                   have hcz84_1 : wr.cell? ⟨gb220, 1, none⟩ = some (.slice A0_1 l0_1.length c0_1) := (blk_cell BK220.out 1).trans rfl
                   have hcz84_2 : wr.cell? ⟨gb220, 2, none⟩ = some (.slice A0_2 l0_2.length c0_2) := (blk_cell BK220.out 2).trans rfl
                   have hfz84_0 := bF BK220.out 0
                   have hfz84_1 := bF BK220.out 1
                   have hfz84_2 := bF BK220.out 2
                   have p248 : 0 ≤ (0 : Int) := (by omega)
                   have q248 : 0 < (l0_2.length : Int) := of_decide_eq_true (by first | (with_reducible assumption) | assumption)
                   obtain ⟨ad248, A248_1, c248_1, A248_2, c248_2, e248, hx248_0, hx248_1, hx248_2, hl248_1, hi248_1, hl248_2, hi248_2⟩ := at_T25 HR0_2.out 0 p248 q248
                   cases e248
                   have qi248 : (0 < l0_2.length) = True := eq_true (by omega)
                   (try rw [show ((0 : Int)).toNat = 0 from rfl] at hx248_0)
                   (try rw [show 0 * 3 = 0 from rfl] at hx248_0)
                   (try rw [Addr.add_zero'] at hx248_0)
                   (try rw [show ((0 : Int)).toNat = 0 from rfl] at hx248_1)
                   (try rw [show 0 * 3 = 0 from rfl] at hx248_1)
                   (try rw [Addr.add_zero'] at hx248_1)
                   (try rw [show ((0 : Int)).toNat = 0 from rfl] at hx248_2)
                   (try rw [show 0 * 3 = 0 from rfl] at hx248_2)
                   (try rw [Addr.add_zero'] at hx248_2)
                   replace hx248_0 := (HB.out.cell (World.block_lt_of_cell? w _ hx248_0)).trans hx248_0
                   replace hx248_1 := (HB.out.cell (World.block_lt_of_cell? w _ hx248_1)).trans hx248_1
                   replace hx248_2 := (HB.out.cell (World.block_lt_of_cell? w _ hx248_2)).trans hx248_2
                   have HR248_1 := aM hi248_1
                   have HC248_1 := aM hl248_1
                   clear hi248_1 hl248_1
                   have HR248_2 := aM hi248_2
                   have HC248_2 := aM hl248_2
                   clear hi248_2 hl248_2
                   replace p248 := eq_true p248
                   replace q248 := eq_true q248
                   go_wp2_with (first | ((with_reducible refine gate_callee (f := 83) rfl ?_); refine goesL_ (some 108) rfl rfl Try.func83 (by kernel_rfl) rfl #[.agg #[.int .i64 ((rd_T25 l0_2 0).f0), .slice A248_1 ((rd_T25 l0_2 0).f1).length c248_1, .slice A248_2 ((rd_T25 l0_2 0).f2).length c248_2], .slice A1 l1.length c1, .slice Ao80 x7_1.length co80] rfl (by (try simp only [List.map_toArray, List.map_cons, List.map_nil]); first | done | rfl | (simp only [List.length_drop, List.length_take]; rfl)) ?_; (with_reducible refine (ih k1 (by have := HK1.out; omega) ((rd_T25 l0_2 0).f0) _ _ ((rd_T25 l0_2 0).f1) _ _ ((rd_T25 l0_2 0).f2) _ _ l1 _ _ x7_1 t249 _ ?side1 ?side2 ?side3 ?side4 ?side5 ?side6 ?side7 ?side8 A83.out).mono ?_); (case side1 => repeat (first | exact (Kd.C_below HR248_1.out HB.out) | (with_reducible refine Kd.C_alloc ?_ _) | (with_reducible refine Kd.C_drewN ?_ _) | (with_reducible refine Kd.C_drew ?_))); (case side2 => exact HC248_1.out); (case side3 => repeat (first | exact (Kd.C_below HR248_2.out HB.out) | (with_reducible refine Kd.C_alloc ?_ _) | (with_reducible refine Kd.C_drewN ?_ _) | (with_reducible refine Kd.C_drew ?_))); (case side4 => exact HC248_2.out); (case side5 => repeat (first | exact (Kd.C_below HR1.out HB.out) | (with_reducible refine Kd.C_alloc ?_ _) | (with_reducible refine Kd.C_drewN ?_ _) | (with_reducible refine Kd.C_drew ?_))); (case side6 => exact HC1.out); (case side7 => repeat (first | exact (Kd.R_reads' HO_7.out).2.2 | (with_reducible refine Kd.C_alloc ?_ _) | (with_reducible refine Kd.C_drewN ?_ _) | (with_reducible refine Kd.C_drew ?_))); (case side8 => exact (Kd.R_reads' HO_7.out).2.1); rintro e w85 ⟨v250, rfl, ho0, hb⟩; refine ⟨_, rfl, ?_⟩; have n0_ := aM (Kd.R_elder' (by (with_reducible repeat (first | apply kA | apply kN | apply kD)); exact HO_7.out) (Kd.R_base ho0) hb); have n1_ := aM (Kd.R_lower (Kd.R_new' ho0 (Kd.R_lt (by (with_reducible repeat (first | apply kA | apply kN | apply kD)); exact HO_7.out))) (below_size (by repeat (first | (with_reducible first | exact HB.out | apply blA | apply blN | apply blD | refine bS ?_ GE220.out) | exact HB.out)))); have n2_ := aM (blk_below (g := gb220) (o := .cells #[.int .i64 a0_0, .slice A0_1 l0_1.length c0_1, .slice (some ad248) l0_2.length c0_2] 25 (0, 0)) (by (with_reducible repeat (first | apply bkN | apply bkD | apply bkA)); exact BK220.out) hb); have n3_ := aM (below_step (by repeat (first | (with_reducible first | exact HB.out | apply blA | apply blN | apply blD | refine bS ?_ GE220.out) | exact HB.out)) hb); clear HO_7; clear BK220; clear HB; have HO_7 := n0_; have HO251 := n1_; have BK220 := n2_; have HB := n3_; clear n0_ n1_ n2_ n3_; (try clear hb); (try clear hb2); (try clear hk); (try clear hi); (try clear ho0); obtain ⟨Ao86, co86, eo86⟩ := Kd.R_slice HO251.out; subst eo86))
                   go_loopg [16, 110] k1 (fun kq v16 v110 w' => ∃ (x7_2 : List Bool) (x16_2 : Bool) (x110_2 : Int), v16 = .bool x16_2 ∧ v110 = .int .i64 x110_2 ∧ Aside0 (r5_ends.l5 kq l1 x7_2 x16_2 t249 (t249.length : Int) x110_2 a0_0 l0_1 l0_2 = some r) ∧ Aside0 (kq ≤ k1) ∧ Aside0 (Kd.R Kd.bool 4 w' w.heap.size (fun k_ => some k_ ≠ ((.slice Ao86 t249.length co86) : Value).ownBlock) (.slice Ao80 x7_1.length co80) x7_2) ∧ Aside0 (Kd.R Kd.bool 4 w' w.heap.size (fun k_ => some k_ ≠ ((.slice Ao80 x7_1.length co80) : Value).ownBlock) (.slice Ao86 t249.length co86) t249) ∧ Aside0 (w'.heap[gb220]? = some (.cells #[.int .i64 a0_0, (.slice A0_1 l0_1.length c0_1), (.slice (some ad248) l0_2.length c0_2)] 25 (0, 0))) ∧ Aside0 (Below w.heap.size w w'))
                   case atStart => exact ⟨(x7_1), (false), (0), (by first | rfl | (simp; done) | (simp [*]; done)), (by first | rfl | (simp; done) | (simp [*]; done)), H', ⟨Nat.le_refl _⟩, ⟨by (try simp only [hl7_1]); (with_reducible repeat (first | apply kA | apply kN | apply kD)); exact Kd.R_mono HO_7.out (fun _ hk => hk.2)⟩, ⟨by (try simp only [hl7_1]); (with_reducible repeat (first | apply kA | apply kN | apply kD)); exact Kd.R_mono HO251.out (fun _ hk => hk.2)⟩, ⟨by (try simp only [hl7_1]); (with_reducible repeat (first | apply bkN | apply bkD | apply bkA)); exact BK220.out⟩, ⟨by repeat (first | (with_reducible first | exact HB.out | apply blA | apply blN | apply blD | refine bS ?_ GE220.out) | exact HB.out)⟩⟩
                   case round =>
                    clear H'
                    obtain ⟨x7_2, x16_2, x110_2, rfl, rfl, HA, HK2, HO_7, HO_108, BK220, HB⟩ := hrel
                    have hl7_2 := (Kd.R_reads' HO_7.out).1
                    rw [hl7_2] at HO_7
                    (try simp only [hl7_2])
                    (try simp only [hl7_2] at BK220)
                    (try simp only [hl7_2] at HO_108)
                    cases gk with
                    | zero => exact absurd HA.out (by simp [r5_ends.l5])
                    | succ k2 =>
                     have H := HA.out
                     clear HA
                     simp only [r5_ends.l5] at H
                     by_cases c87 : x110_2 < (t249.length : Int)
                     · rw [if_pos c87] at H
                       have c87b0 : decide (x110_2 < (t249.length : Int)) = true := decide_eq_true c87
                       have c87b9 := c87b0
                       (try simp only [hl7_1, hl7_2] at c87b9)
                       clear c87
                       by_cases c88 : 0 ≤ x110_2
                       · rw [if_pos c88] at H
                         have c88b0 : decide (0 ≤ x110_2) = true := decide_eq_true c88
                         clear c88
                         by_cases c89 : x110_2 < (t249.length : Int)
                         · rw [if_pos c89] at H
                           have c89b0 : decide (x110_2 < (t249.length : Int)) = true := decide_eq_true c89
                           have c89b9 := c89b0
                           (try simp only [hl7_1, hl7_2] at c89b9)
                           clear c89
                           obtain ⟨bq90, hbq90⟩ : ∃ b_ : Bool, b_ = (rdOf false t249 x110_2) := ⟨_, rfl⟩
                           replace H : (if bq90 = true then (if x110_2 < (x7_2.length : Int) then (if rdOf false x7_2 x110_2 = true then (r5_ends.l5 k2 l1 x7_2 x16_2 t249 (t249.length : Int) (wrap64 (x110_2 + 1)) a0_0 l0_1 l0_2) else (r5_ends.l5 k2 l1 (x7_2.set (x110_2 : Int).toNat true) true t249 (t249.length : Int) (wrap64 (x110_2 + 1)) a0_0 l0_1 l0_2)) else (none)) else (r5_ends.l5 k2 l1 x7_2 x16_2 t249 (t249.length : Int) (wrap64 (x110_2 + 1)) a0_0 l0_1 l0_2)) = some r := by rw [← hbq90] at H; exact H
                           have Nbq90 := aM hbq90
                           clear hbq90
                           by_cases c91 : bq90 = true
                           · subst c91
                             have H1 : (if x110_2 < (x7_2.length : Int) then (if rdOf false x7_2 x110_2 = true then (r5_ends.l5 k2 l1 x7_2 x16_2 t249 (t249.length : Int) (wrap64 (x110_2 + 1)) a0_0 l0_1 l0_2) else (r5_ends.l5 k2 l1 (x7_2.set (x110_2 : Int).toNat true) true t249 (t249.length : Int) (wrap64 (x110_2 + 1)) a0_0 l0_1 l0_2)) else (none)) = some r := by rw [if_pos rfl] at H; exact H
                             clear H
                             have H := H1
                             clear H1
                             by_cases c92 : x110_2 < (x7_2.length : Int)
                             · rw [if_pos c92] at H
                               have c92b0 : decide (x110_2 < (x7_2.length : Int)) = true := decide_eq_true c92
                               have c92b9 := c92b0
                               (try simp only [hl7_1, hl7_2] at c92b9)
                               clear c92
                               obtain ⟨bq93, hbq93⟩ : ∃ b_ : Bool, b_ = (rdOf false x7_2 x110_2) := ⟨_, rfl⟩
                               replace H : (if bq93 = true then (r5_ends.l5 k2 l1 x7_2 x16_2 t249 (t249.length : Int) (wrap64 (x110_2 + 1)) a0_0 l0_1 l0_2) else (r5_ends.l5 k2 l1 (x7_2.set (x110_2 : Int).toNat true) true t249 (t249.length : Int) (wrap64 (x110_2 + 1)) a0_0 l0_1 l0_2)) = some r := by rw [← hbq93] at H; exact H
                               have Nbq93 := aM hbq93
                               clear hbq93
                               by_cases c94 : bq93 = true
                               · subst c94
                                 have H1 : (r5_ends.l5 k2 l1 x7_2 x16_2 t249 (t249.length : Int) (wrap64 (x110_2 + 1)) a0_0 l0_1 l0_2) = some r := by rw [if_pos rfl] at H; exact H
                                 clear H
                                 have H := H1
                                 clear H1
                                 have H' := aM H
                                 clear H
                                 have p252 : 0 ≤ (x110_2 : Int) := of_decide_eq_true (by first | (with_reducible assumption) | assumption)
                                 have q252 : x110_2 < (t249.length : Int) := of_decide_eq_true (by first | (with_reducible assumption) | assumption)
                                 obtain ⟨ad252, e252, hx252_0⟩ := Kd.at_bool (Kd.R_reads' HO_108.out).2.2 x110_2 p252 q252
                                 (try rw [← Nbq90.out] at hx252_0)
                                 (try rw [← Nbq93.out] at hx252_0)
                                 cases e252
                                 replace p252 := eq_true p252
                                 replace q252 := eq_true q252
                                 have p253 : 0 ≤ (x110_2 : Int) := of_decide_eq_true (by first | (with_reducible assumption) | assumption)
                                 have q253 : x110_2 < (x7_2.length : Int) := of_decide_eq_true (by first | (with_reducible assumption) | assumption)
                                 obtain ⟨ad253, e253, hx253_0⟩ := Kd.at_bool (Kd.R_reads' HO_7.out).2.2 x110_2 p253 q253
                                 (try rw [← Nbq90.out] at hx253_0)
                                 (try rw [← Nbq93.out] at hx253_0)
                                 cases e253
                                 replace p253 := eq_true p253
                                 replace q253 := eq_true q253
                                 go_wp2
                                 (try simp only [← hl7_2])
                                 go_roundg k2
                                 case measure => have := HK1.out; have := HK2.out; omega
                                 case rel => exact ⟨(x7_2), (x16_2), (wrap64 (x110_2 + 1)), (by first | rfl | (simp; done) | (simp [*]; done)), (by first | rfl | (simp; done) | (simp [*]; done)), H', ⟨by have := HK1.out; have := HK2.out; omega⟩, ⟨by (try simp only [hl7_1]); (try simp only [hl7_2]); (with_reducible repeat (first | apply kA | apply kN | apply kD)); exact HO_7.out⟩, ⟨by (try simp only [hl7_1]); (try simp only [hl7_2]); (with_reducible repeat (first | apply kA | apply kN | apply kD)); exact HO_108.out⟩, ⟨by (try simp only [hl7_1]); (try simp only [hl7_2]); (with_reducible repeat (first | apply bkN | apply bkD | apply bkA)); exact BK220.out⟩, ⟨by repeat (first | (with_reducible first | exact HB.out | apply blA | apply blN | apply blD | refine bS ?_ GE220.out) | exact HB.out)⟩⟩
                               · replace c94 := Bool.eq_false_iff.mpr c94
                                 subst c94
                                 have H1 : (r5_ends.l5 k2 l1 (x7_2.set (x110_2 : Int).toNat true) true t249 (t249.length : Int) (wrap64 (x110_2 + 1)) a0_0 l0_1 l0_2) = some r := by rw [if_neg (show ¬ (false = true) by decide)] at H; exact H
                                 clear H
                                 have H := H1
                                 clear H1
                                 obtain ⟨y254, hy254⟩ : ∃ y_ : List Bool, y_ = (x7_2.set (x110_2 : Int).toNat true) := ⟨_, rfl⟩
                                 replace H : (r5_ends.l5 k2 l1 y254 true t249 (t249.length : Int) (wrap64 (x110_2 + 1)) a0_0 l0_1 l0_2) = some r := by first | (rw [hy254]; with_reducible exact H) | (have H2_ := (Option.bind_some _ _).symm.trans H; rw [hy254]; with_reducible exact H2_) | (have H2_ := (Option.bind_some _ _).symm.trans H; with_reducible exact H2_) | with_reducible exact H | (rw [hy254]; exact H) | exact H
                                 have Ny254 := aM hy254
                                 clear hy254
                                 have H' := aM H
                                 clear H
                                 have p252 : 0 ≤ (x110_2 : Int) := of_decide_eq_true (by first | (with_reducible assumption) | assumption)
                                 have q252 : x110_2 < (t249.length : Int) := of_decide_eq_true (by first | (with_reducible assumption) | assumption)
                                 obtain ⟨ad252, e252, hx252_0⟩ := Kd.at_bool (Kd.R_reads' HO_108.out).2.2 x110_2 p252 q252
                                 (try rw [← Nbq90.out] at hx252_0)
                                 (try rw [← Nbq93.out] at hx252_0)
                                 cases e252
                                 replace p252 := eq_true p252
                                 replace q252 := eq_true q252
                                 have p253 : 0 ≤ (x110_2 : Int) := of_decide_eq_true (by first | (with_reducible assumption) | assumption)
                                 have q253 : x110_2 < (x7_2.length : Int) := of_decide_eq_true (by first | (with_reducible assumption) | assumption)
                                 obtain ⟨ad253, e253, hx253_0⟩ := Kd.at_bool (Kd.R_reads' HO_7.out).2.2 x110_2 p253 q253
                                 (try rw [← Nbq90.out] at hx253_0)
                                 (try rw [← Nbq93.out] at hx253_0)
                                 cases e253
                                 replace p253 := eq_true p253
                                 replace q253 := eq_true q253
                                 have p95 : 0 ≤ (x110_2 : Int) := of_decide_eq_true (by first | (with_reducible assumption) | assumption)
                                 have q95 : (x110_2 : Int) < ((x7_2.length : Int) : Int) := of_decide_eq_true (by first | (with_reducible assumption) | assumption)
                                 obtain ⟨go95, co95, eo95, gb95, gl95, cl95, HG95⟩ := Kd.R_form HO_7.out (by omega)
                                 (first | cases eo95 | (injection eo95 with ea_ en_ ec_; (first | subst ea_ | (injection ea_ with ea_; subst ea_)); subst ec_; clear en_))
                                 have GB95 := aM gb95
                                 have GG95 := aM HG95
                                 clear gb95 gl95 HG95
                                 (first | simp only [add_plain] at hx253_0 | skip)
                                 obtain ⟨hx95_0, hf95_0⟩ := Kd.R_celln false HO_7.out (x110_2 : Int) p95 q95
                                 replace p95 := eq_true p95
                                 replace q95 := eq_true q95
                                 have HP96 := Kd.R_putg HO_7.out (x110_2 : Int) true
                                 go_wp2_with (first | ((with_reducible refine gate_store (t := 4) (p := 125) rfl ?_); refine store_event (t := 4) (p := 125) (v := ?vo_w97) (w1 := (wr.setCell ⟨go95, (x110_2 : Int).toNat, none⟩ (.bool true))) ?hg ?ho ?hn ?hr ?_; (case ho => rfl); (case hg => rfl); (case hn => rfl); (case hr => first | (go_simp; done) | (go_simp; rfl)); intro w97 hw; have hg : wr.grownBy w97 (some go95) := (by rw [hw]; exact HP96.2); have hp_ : Kd.R Kd.bool 4 w97 w.heap.size (fun k_ => some k_ ≠ (.slice (some ad252) t249.length co86 : Value).ownBlock) (.slice (some ⟨go95, 0, none⟩) x7_2.length co80) y254 := (by rw [hw, Ny254.out]; exact HP96.1); clear HP96; have n0_ := aM (hp_); have n1_ := aM (Kd.R_after (v := (.slice (some ⟨go95, 0, none⟩) x7_2.length co80)) (v1 := (.slice (some ⟨go95, 0, none⟩) x7_2.length co80)) (ok := (fun _ => True)) (by (with_reducible repeat (first | apply kA | apply kN | apply kD)); exact Kd.R_mono HO_108.out (fun _ hk => ⟨trivial, hk⟩)) hg (.inl rfl)); have n2_ := aM (blk_grown (g := gb220) (o := .cells #[.int .i64 a0_0, .slice A0_1 l0_1.length c0_1, .slice (some ad248) l0_2.length c0_2] 25 (0, 0)) (by (with_reducible repeat (first | apply bkN | apply bkD | apply bkA)); exact BK220.out) hg (Kd.R_ne HO_7.out BK220.out (by decide))); have n3_ := aM ((by rw [hw]; exact below_set (HB.out) GB95.out : Below w.heap.size w w97)); clear HO_7; clear HO_108; clear BK220; clear HB; have HO_7 := n0_; have HO_108 := n1_; have BK220 := n2_; have HB := n3_; clear n0_ n1_ n2_ n3_; clear hg hw hp_))
                                 (try simp only [← hl7_2])
                                 go_roundg k2
                                 case measure => have := HK1.out; have := HK2.out; omega
                                 case rel => exact ⟨(y254), (true), (wrap64 (x110_2 + 1)), (by first | rfl | (simp; done) | (simp [*]; done)), (by first | rfl | (simp; done) | (simp [*]; done)), H', ⟨by have := HK1.out; have := HK2.out; omega⟩, ⟨by (try simp only [hl7_1]); (try simp only [hl7_2]); (with_reducible repeat (first | apply kA | apply kN | apply kD)); exact HO_7.out⟩, ⟨by (try simp only [hl7_1]); (try simp only [hl7_2]); (with_reducible repeat (first | apply kA | apply kN | apply kD)); exact Kd.R_mono HO_108.out (fun _ hk => hk.2)⟩, ⟨by (try simp only [hl7_1]); (try simp only [hl7_2]); (with_reducible repeat (first | apply bkN | apply bkD | apply bkA)); exact BK220.out⟩, ⟨by repeat (first | (with_reducible first | exact HB.out | apply blA | apply blN | apply blD | refine bS ?_ GE220.out) | exact HB.out)⟩⟩
                             · rw [if_neg c92] at H
                               exact absurd H (by simp)
                           · replace c91 := Bool.eq_false_iff.mpr c91
                             subst c91
                             have H1 : (r5_ends.l5 k2 l1 x7_2 x16_2 t249 (t249.length : Int) (wrap64 (x110_2 + 1)) a0_0 l0_1 l0_2) = some r := by rw [if_neg (show ¬ (false = true) by decide)] at H; exact H
                             clear H
                             have H := H1
                             clear H1
                             have H' := aM H
                             clear H
                             have p252 : 0 ≤ (x110_2 : Int) := of_decide_eq_true (by first | (with_reducible assumption) | assumption)
                             have q252 : x110_2 < (t249.length : Int) := of_decide_eq_true (by first | (with_reducible assumption) | assumption)
                             obtain ⟨ad252, e252, hx252_0⟩ := Kd.at_bool (Kd.R_reads' HO_108.out).2.2 x110_2 p252 q252
                             (try rw [← Nbq90.out] at hx252_0)
                             cases e252
                             replace p252 := eq_true p252
                             replace q252 := eq_true q252
                             go_wp2
                             (try simp only [← hl7_2])
                             go_roundg k2
                             case measure => have := HK1.out; have := HK2.out; omega
                             case rel => exact ⟨(x7_2), (x16_2), (wrap64 (x110_2 + 1)), (by first | rfl | (simp; done) | (simp [*]; done)), (by first | rfl | (simp; done) | (simp [*]; done)), H', ⟨by have := HK1.out; have := HK2.out; omega⟩, ⟨by (try simp only [hl7_1]); (try simp only [hl7_2]); (with_reducible repeat (first | apply kA | apply kN | apply kD)); exact HO_7.out⟩, ⟨by (try simp only [hl7_1]); (try simp only [hl7_2]); (with_reducible repeat (first | apply kA | apply kN | apply kD)); exact HO_108.out⟩, ⟨by (try simp only [hl7_1]); (try simp only [hl7_2]); (with_reducible repeat (first | apply bkN | apply bkD | apply bkA)); exact BK220.out⟩, ⟨by repeat (first | (with_reducible first | exact HB.out | apply blA | apply blN | apply blD | refine bS ?_ GE220.out) | exact HB.out)⟩⟩
                         · rw [if_neg c89] at H
                           exact absurd H (by simp)
                       · rw [if_neg c88] at H
                         exact absurd H (by simp)
                     · rw [if_neg c87] at H
                       have c87b0 : decide (x110_2 < (t249.length : Int)) = false := decide_eq_false c87
                       have c87b9 := c87b0
                       (try simp only [hl7_1, hl7_2] at c87b9)
                       clear c87
                       have H' := aM H
                       clear H
                       go_wp2
                       (try simp only [← hl7_1, ← hl7_2])
                       go_roundg k2
                       case measure => have := HK1.out; have := HK2.out; omega
                       case rel => exact ⟨(x7_2), (x16_2), (by first | rfl | (simp; done) | (simp [*]; done)), H', ⟨by have := HK1.out; have := HK2.out; omega⟩, ⟨by (try simp only [hl7_1]); (try simp only [hl7_2]); (with_reducible repeat (first | apply kA | apply kN | apply kD)); exact Kd.R_mono HO_7.out (fun _ hk => trivial)⟩, ⟨by (try simp only [hl7_1]); (try simp only [hl7_2]); (with_reducible repeat (first | apply bkN | apply bkD | apply bkA)); exact BK220.out⟩, ⟨by repeat (first | (with_reducible first | exact HB.out | apply blA | apply blN | apply blD | refine bS ?_ GE220.out) | exact HB.out)⟩⟩
                 · rw [if_neg c82] at H
                   exact absurd H (by simp)
               · replace c81 := Bool.eq_false_iff.mpr c81
                 subst c81
                 have H1 : (some x7_1) = some r := by rw [if_neg (show ¬ (false = true) by decide)] at H; exact H
                 clear H
                 have H := H1
                 clear H1
                 obtain rfl := Option.some.inj H
                 go_wp2
                 first | go_ret | refine ⟨_, results_tmp rfl _ _ _, ?_⟩
                 exact ⟨_, by first | rfl | (simp [errW_none, errW_some] <;> rfl) | (simp [*, errW_none, errW_some] <;> rfl), by (with_reducible repeat (first | apply kA | apply kN | apply kD)); exact HO_7.out, by repeat (first | (with_reducible first | exact HB.out | apply blA | apply blN | apply blD | refine bS ?_ GE220.out) | exact HB.out)⟩
           · rw [if_neg c74] at H
             have c74b0 : (a0_0 == 4) = false := beq_eq_false_iff_ne.mpr c74
             have c74b1 : (a0_0 != 4) = true := bne_iff_ne.mpr c74
             obtain rfl := Option.some.inj H
             go_enter Try.func83, Try.ntmps83
             go_wp2_with (first | ((with_reducible refine gate_dst (N := 3) rfl ?_); refine box_event ?hg (N := 3) ?hd (cs := #[.int .i64 a0_0, .slice A0_1 l0_1.length c0_1, .slice A0_2 l0_2.length c0_2]) (t := 25) ?hr ?_; (case hd => rfl); (case hg => rfl); (case hr => first | (go_simp; done) | (go_simp; rfl)); intro gb220 hg w98 hbox hb; have n0_ := aM (below_step (by repeat (first | (with_reducible first | exact HB.out | apply blA | apply blN | apply blD) | exact HB.out)) hb); have n1_ := aM (hbox); have n2_ := aM ((by rw [hg]; exact (below_size (by repeat (first | (with_reducible first | exact HB.out | apply blA | apply blN | apply blD) | exact HB.out))) : w.heap.size ≤ gb220)); have n3_ := aM ((by rw [hg]; exact (below_size (by repeat (first | (with_reducible first | exact HB.out | apply blA | apply blN | apply blD) | exact HB.out))) : w.heap.size ≤ gb220)); clear HB; have HB := n0_; have BK220 := n1_; have GW220 := n2_; have GE220 := n3_; clear n0_ n1_ n2_ n3_; clear hb hbox hg) | ((with_reducible refine gate_dst (N := 21) rfl ?_); refine Kd.R_make Kd.bool _ 4 rfl (N := 21) rfl 108 _ _ rfl (l2.length : Int) rfl rfl Try.underlying108 (.bool false) 1 info4 rfl (by decide) (by omega) false (ok := fun _ => True) (okp := fun _ => True) rfl (fun _ hk => hk) trivial (of_decide_eq_true (by first | (with_reducible assumption) | assumption)) (Nat.le_trans (Nat.mul_le_mul_right _ (of_decide_eq_true (by first | (with_reducible assumption) | assumption) : (l2.length : Int).toNat ≤ 281474976710656)) (by omega)) (Below.refl _ _) (Nat.le_refl _) ?_; intro v222 w99 ho100 hb hg_ hnew_; clear hg_ hnew_; (first | rw [← Ny221.out] at ho100 | (simp only [Int.reduceToNat] at ho100; rw [← Ny221.out] at ho100)); have n0_ := aM (Kd.R_lower ho100 (below_size (by repeat (first | (with_reducible first | exact HB.out | apply blA | apply blN | apply blD | refine bS ?_ GE220.out) | exact HB.out)))); have n1_ := aM (blk_below (g := gb220) (o := .cells #[.int .i64 a0_0, .slice A0_1 l0_1.length c0_1, .slice A0_2 l0_2.length c0_2] 25 (0, 0)) (by (with_reducible repeat (first | apply bkN | apply bkD | apply bkA)); exact BK220.out) hb); have n2_ := aM (below_step (by repeat (first | (with_reducible first | exact HB.out | apply blA | apply blN | apply blD | refine bS ?_ GE220.out) | exact HB.out)) hb); clear BK220; clear HB; have HO223 := n0_; have BK220 := n1_; have HB := n2_; clear n0_ n1_ n2_; clear hb ho100; have hcz101_0 : w99.cell? ⟨gb220, 0, none⟩ = some (.int .i64 a0_0) := (blk_cell BK220.out 0).trans rfl; have hcz101_1 : w99.cell? ⟨gb220, 1, none⟩ = some (.slice A0_1 l0_1.length c0_1) := (blk_cell BK220.out 1).trans rfl; have hcz101_2 : w99.cell? ⟨gb220, 2, none⟩ = some (.slice A0_2 l0_2.length c0_2) := (blk_cell BK220.out 2).trans rfl; have hfz101_0 := bF BK220.out 0; have hfz101_1 := bF BK220.out 1; have hfz101_2 := bF BK220.out 2))
             first | go_ret | refine ⟨_, results_tmp rfl _ _ _, ?_⟩
             exact ⟨_, by first | rfl | (simp [errW_none, errW_some] <;> rfl) | (simp [*, errW_none, errW_some] <;> rfl), by (with_reducible repeat (first | apply kA | apply kN | apply kD)); exact HO223.out, by repeat (first | (with_reducible first | exact HB.out | apply blA | apply blN | apply blD | refine bS ?_ GE220.out) | exact HB.out)⟩
   · rw [if_neg c5] at H
     exact absurd H (by simp)
 · rw [if_neg c4] at H
   exact absurd H (by simp)
end Go.Proofs.Ytlkjfjlmjgkheaa.H
