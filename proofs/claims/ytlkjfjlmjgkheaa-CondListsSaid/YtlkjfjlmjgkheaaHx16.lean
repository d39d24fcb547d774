import Derived.Test.YtlkjfjlmjgkheaaHx0
import Derived.Test.YtlkjfjlmjgkheaaHx14
import Derived.Test.YtlkjfjlmjgkheaaHx15
namespace Go.Proofs.Ytlkjfjlmjgkheaa.H
open Go.RowKit Go.Proofs.YtlkjfjlmjgkheaaW.PrintWords Go.Proofs.YtlkjfjlmjgkheaaW.PrintLast Go.Proofs.YtlkjfjlmjgkheaaW.PrintMore
attribute [local go_sem] max2_int min2_int max_two min_two max_three min_three max_four min_four
set_option linter.unusedVariables false
set_option linter.unusedSimpArgs false
def r5_Match.f (k : Nat) (a0_0 : Int) (l0_1 : List (S66)) (l0_2 : List (S25)) (l1 : List Int) : Option (Bool) := if 0 ≤ (wrap64 ((l1.length : Int) + 1)) then (if (wrap64 ((l1.length : Int) + 1) : Int).toNat ≤ 281474976710656 then ((some (List.replicate (wrap64 ((l1.length : Int) + 1) : Int).toNat false : List Bool)).bind fun y256 => (if 0 < (y256.length : Int) then ((r5_ends.f k a0_0 l0_1 l0_2 l1 (y256.set (0 : Int).toNat true)).bind fun t260 => (if 0 ≤ (l1.length : Int) then (if (l1.length : Int) < (t260.length : Int) then (some (rdOf false t260 (l1.length : Int))) else (none)) else (none))) else (none))) else (none)) else (none)
set_option maxHeartbeats 8000000 in
set_option maxRecDepth 100000 in
theorem r5_Match.calls (k : Nat) (a0_0 : Int) (A0_1 : Option Addr) (c0_1 : Nat) (l0_1 : List (S66)) (A0_2 : Option Addr) (c0_2 : Nat) (l0_2 : List (S25)) (A1 : Option Addr) (c1 : Nat) (l1 : List Int) (r : Bool) (w : World) (hr0_1 : Kd.C k66 w A0_1 l0_1.length l0_1) (hc0_1 : l0_1.length ≤ c0_1) (hr0_2 : Kd.C k25 w A0_2 l0_2.length l0_2) (hc0_2 : l0_2.length ≤ c0_2) (hr1 : Kd.C (Kd.int .u32) w A1 l1.length l1) (hc1 : l1.length ≤ c1) (h : r5_Match.f k a0_0 l0_1 l0_2 l1 = some r) :
 Calls Try.prog 48 #[.agg #[.int .i64 a0_0, .slice A0_1 l0_1.length c0_1, .slice A0_2 l0_2.length c0_2], .slice A1 l1.length c1] w fun e w' => e = .returned (.bool r) ∧ Below w.heap.size w w' := by
 have hu25 := Try.underlying25
 have HR0_1 := aM hr0_1
 have HC0_1 := aM hc0_1
 clear hr0_1 hc0_1
 have HR0_2 := aM hr0_2
 have HC0_2 := aM hc0_2
 clear hr0_2 hc0_2
 have HR1 := aM hr1
 have HC1 := aM hc1
 clear hr1 hc1
 have HB := aM (Below.refl w.heap.size w)
 have H : (if 0 ≤ (wrap64 ((l1.length : Int) + 1)) then (if (wrap64 ((l1.length : Int) + 1) : Int).toNat ≤ 281474976710656 then ((some (List.replicate (wrap64 ((l1.length : Int) + 1) : Int).toNat false : List Bool)).bind fun y256 => (if 0 < (y256.length : Int) then ((r5_ends.f k a0_0 l0_1 l0_2 l1 (y256.set (0 : Int).toNat true)).bind fun t260 => (if 0 ≤ (l1.length : Int) then (if (l1.length : Int) < (t260.length : Int) then (some (rdOf false t260 (l1.length : Int))) else (none)) else (none))) else (none))) else (none)) else (none)) = some r := h
 clear h
 obtain ⟨ji3, hji3⟩ : ∃ j_ : Int, (wrap64 ((l1.length : Int) + 1)) = j_ := ⟨_, rfl⟩
 replace H : (if 0 ≤ (ji3) then (if (ji3 : Int).toNat ≤ 281474976710656 then ((some (List.replicate (ji3 : Int).toNat false : List Bool)).bind fun y256 => (if 0 < (y256.length : Int) then ((r5_ends.f k a0_0 l0_1 l0_2 l1 (y256.set (0 : Int).toNat true)).bind fun t260 => (if 0 ≤ (l1.length : Int) then (if (l1.length : Int) < (t260.length : Int) then (some (rdOf false t260 (l1.length : Int))) else (none)) else (none))) else (none))) else (none)) else (none)) = some r := by first | (rw [hji3] at H; exact H) | (simp only [hji3] at H ⊢; exact H)
 have hji3w : (IntKind.i64.wrap ((l1.length : Int) + 1)) = ji3 := (i64_w _).trans hji3
 by_cases c4 : 0 ≤ (ji3)
 · rw [if_pos c4] at H
   have c4b0 := eq_true c4
   have c4b1 : decide (0 ≤ (ji3)) = true := decide_eq_true c4
   clear c4
   by_cases c5 : (ji3 : Int).toNat ≤ 281474976710656
   · rw [if_pos c5] at H
     have c5b0 := eq_true c5
     have c5b1 : decide ((ji3 : Int).toNat ≤ 281474976710656) = true := decide_eq_true c5
     clear c5
     obtain ⟨y256, hy256⟩ : ∃ y_ : List Bool, y_ = (List.replicate (ji3 : Int).toNat false) := ⟨_, rfl⟩
     replace H : (if 0 < (y256.length : Int) then ((r5_ends.f k a0_0 l0_1 l0_2 l1 (y256.set (0 : Int).toNat true)).bind fun t260 => (if 0 ≤ (l1.length : Int) then (if (l1.length : Int) < (t260.length : Int) then (some (rdOf false t260 (l1.length : Int))) else (none)) else (none))) else (none)) = some r := by first | (rw [hy256]; with_reducible exact H) | (have H2_ := (Option.bind_some _ _).symm.trans H; rw [hy256]; with_reducible exact H2_) | (have H2_ := (Option.bind_some _ _).symm.trans H; with_reducible exact H2_) | with_reducible exact H | (rw [hy256]; exact H) | exact H
     have Ny256 := aM hy256
     clear hy256
     by_cases c6 : 0 < (y256.length : Int)
     · rw [if_pos c6] at H
       have c6b0 : decide (0 < (y256.length : Int)) = true := decide_eq_true c6
       have c6b1 : decide (0 < y256.length) = true := decide_eq_true (by omega)
       clear c6
       obtain ⟨y259, hy259⟩ : ∃ y_ : List Bool, y_ = (y256.set (0 : Int).toNat true) := ⟨_, rfl⟩
       replace H : ((r5_ends.f k a0_0 l0_1 l0_2 l1 y259).bind fun t260 => (if 0 ≤ (l1.length : Int) then (if (l1.length : Int) < (t260.length : Int) then (some (rdOf false t260 (l1.length : Int))) else (none)) else (none))) = some r := by first | (rw [hy259]; with_reducible exact H) | (have H2_ := (Option.bind_some _ _).symm.trans H; rw [hy259]; with_reducible exact H2_) | (have H2_ := (Option.bind_some _ _).symm.trans H; with_reducible exact H2_) | with_reducible exact H | (rw [hy259]; exact H) | exact H
       have Ny259 := aM hy259
       clear hy259
       replace H := Option.bind_eq_some_iff.mp H
       obtain ⟨t260, A80, H⟩ := H
       replace H : (if 0 ≤ (l1.length : Int) then (if (l1.length : Int) < (t260.length : Int) then (some (rdOf false t260 (l1.length : Int))) else (none)) else (none)) = some r := H
       have A8 := aM A80
       clear A80
       by_cases c9 : 0 ≤ (l1.length : Int)
       · rw [if_pos c9] at H
         have c9b0 : decide (0 ≤ (l1.length : Int)) = true := decide_eq_true c9
         have c9b1 : decide (0 ≤ l1.length) = true := decide_eq_true (by omega)
         clear c9
         by_cases c10 : (l1.length : Int) < (t260.length : Int)
         · rw [if_pos c10] at H
           have c10b0 : decide ((l1.length : Int) < (t260.length : Int)) = true := decide_eq_true c10
           have c10b1 : decide (l1.length < t260.length) = true := decide_eq_true (Int.ofNat_lt.mp c10)
           clear c10
           obtain rfl := Option.some.inj H
           go_enter Try.func48, Try.ntmps48
           go_wp2_with (first | ((with_reducible refine gate_dst (N := 2) rfl ?_); refine box_event ?hg (N := 2) ?hd (cs := #[.int .i64 a0_0, .slice A0_1 l0_1.length c0_1, .slice A0_2 l0_2.length c0_2]) (t := 25) ?hr ?_; (case hd => rfl); (case hg => rfl); (case hr => first | (go_simp; done) | (go_simp; rfl)); intro gb255 hg w11 hbox hb; have n0_ := aM (below_step (by repeat (first | (with_reducible first | exact HB.out | apply blA | apply blN | apply blD) | exact HB.out)) hb); have n1_ := aM (hbox); have n2_ := aM ((by rw [hg]; exact (below_size (by repeat (first | (with_reducible first | exact HB.out | apply blA | apply blN | apply blD) | exact HB.out))) : w.heap.size ≤ gb255)); have n3_ := aM ((by rw [hg]; exact (below_size (by repeat (first | (with_reducible first | exact HB.out | apply blA | apply blN | apply blD) | exact HB.out))) : w.heap.size ≤ gb255)); clear HB; have HB := n0_; have BK255 := n1_; have GW255 := n2_; have GE255 := n3_; clear n0_ n1_ n2_ n3_; clear hb hbox hg) | ((with_reducible refine gate_dst (N := 9) rfl ?_); refine Kd.R_make Kd.bool _ 4 rfl (N := 9) rfl 108 _ _ rfl ji3 rfl rfl Try.underlying108 (.bool false) 1 info4 rfl (by decide) (by omega) false (ok := fun _ => True) (okp := fun _ => True) rfl (fun _ hk => hk) trivial (of_decide_eq_true (by first | (with_reducible assumption) | assumption)) (Nat.le_trans (Nat.mul_le_mul_right _ (of_decide_eq_true (by first | (with_reducible assumption) | assumption) : ji3.toNat ≤ 281474976710656)) (by omega)) (Below.refl _ _) (Nat.le_refl _) ?_; intro v257 w12 ho13 hb hg_ hnew_; clear hg_ hnew_; (first | rw [← Ny256.out] at ho13 | (simp only [Int.reduceToNat] at ho13; rw [← Ny256.out] at ho13)); have n0_ := aM (Kd.R_lower ho13 (below_size (by repeat (first | (with_reducible first | exact HB.out | apply blA | apply blN | apply blD | refine bS ?_ GE255.out) | exact HB.out)))); have n1_ := aM (blk_below (g := gb255) (o := .cells #[.int .i64 a0_0, .slice A0_1 l0_1.length c0_1, .slice A0_2 l0_2.length c0_2] 25 (0, 0)) (by (with_reducible repeat (first | apply bkN | apply bkD | apply bkA)); exact BK255.out) hb); have n2_ := aM (below_step (by repeat (first | (with_reducible first | exact HB.out | apply blA | apply blN | apply blD | refine bS ?_ GE255.out) | exact HB.out)) hb); clear BK255; clear HB; have HO258 := n0_; have BK255 := n1_; have HB := n2_; clear n0_ n1_ n2_; clear hb ho13; have p7 : 0 ≤ (0 : Int) := (by omega); have q7 : (0 : Int) < ((y256.length : Int) : Int) := of_decide_eq_true (by first | (with_reducible assumption) | assumption); have qi7 : (0 < y256.length) = True := eq_true (by omega); obtain ⟨go7, co7, eo7, gb7, gl7, cl7, HG7⟩ := Kd.R_form HO258.out (by omega); (first | cases eo7 | (injection eo7 with ea_ en_ ec_; (first | subst ea_ | (injection ea_ with ea_; subst ea_)); subst ec_; clear en_)); have GB7 := aM gb7; have GG7 := aM HG7; clear gb7 gl7 HG7; obtain ⟨hx7_0, hf7_0⟩ := Kd.R_celln false HO258.out (0 : Int) p7 q7; (try rw [show ((0 : Int)).toNat = 0 from rfl] at hx7_0); (try simp only [Nat.reduceMul, Nat.zero_mul, Nat.zero_add, Nat.reduceAdd] at hx7_0); (try rw [show ((0 : Int)).toNat = 0 from rfl] at hf7_0); (try simp only [Nat.reduceMul, Nat.zero_mul, Nat.zero_add, Nat.reduceAdd] at hf7_0); replace p7 := eq_true p7; replace q7 := eq_true q7; obtain ⟨hy14_, hz14_⟩ := Kd.R_celln false HO258.out (0 : Int) (by omega) (of_decide_eq_true (by first | (with_reducible assumption) | assumption)); (try simp only [Int.reduceToNat, Int.toNat_zero, Int.toNat_ofNat, Nat.reduceMul, Nat.zero_mul, Nat.zero_add] at hy14_ hz14_); (try rw [show ((0 : Int)).toNat = 0 from rfl] at hy14_); (try rw [show ((0 : Int)).toNat = 0 from rfl] at hz14_); have HP14 := Kd.R_putg HO258.out (0 : Int) true) | ((with_reducible refine gate_store (t := 4) (p := 11) rfl ?_); refine store_event (t := 4) (p := 11) (v := ?vo_w15) (w1 := (w12.setCell ⟨go7, (0 : Int).toNat, none⟩ (.bool true))) ?hg ?ho ?hn ?hr ?_; (case ho => rfl); (case hg => rfl); (case hn => rfl); (case hr => first | (go_simp; done) | (go_simp; rfl)); intro w15 hw; have hg : w12.grownBy w15 (some go7) := (by rw [hw]; exact HP14.2); have hp_ : Kd.R Kd.bool 4 w15 w.heap.size (fun _ => True) (.slice (some ⟨go7, 0, none⟩) y256.length co7) y259 := (by rw [hw, Ny259.out]; exact HP14.1); clear HP14; have n0_ := aM (blk_grown (g := gb255) (o := .cells #[.int .i64 a0_0, .slice A0_1 l0_1.length c0_1, .slice A0_2 l0_2.length c0_2] 25 (0, 0)) (by (with_reducible repeat (first | apply bkN | apply bkD | apply bkA)); exact BK255.out) hg (Kd.R_ne HO258.out BK255.out (by decide))); have n1_ := aM (hp_); have n2_ := aM ((by rw [hw]; exact below_set (HB.out) GB7.out : Below w.heap.size w w15)); clear BK255; clear HO258; clear HB; have BK255 := n0_; have HO258 := n1_; have HB := n2_; clear n0_ n1_ n2_; clear hg hw hp_; have hcz16_0 : w15.cell? ⟨gb255, 0, none⟩ = some (.int .i64 a0_0) := (blk_cell BK255.out 0).trans rfl; have hcz16_1 : w15.cell? ⟨gb255, 1, none⟩ = some (.slice A0_1 l0_1.length c0_1) := (blk_cell BK255.out 1).trans rfl; have hcz16_2 : w15.cell? ⟨gb255, 2, none⟩ = some (.slice A0_2 l0_2.length c0_2) := (blk_cell BK255.out 2).trans rfl; have hfz16_0 := bF BK255.out 0; have hfz16_1 := bF BK255.out 1; have hfz16_2 := bF BK255.out 2) | ((with_reducible refine gate_callee (f := 83) rfl ?_); refine goesL_ (some 15) rfl rfl Try.func83 (by kernel_rfl) rfl #[.agg #[.int .i64 a0_0, .slice A0_1 l0_1.length c0_1, .slice A0_2 l0_2.length c0_2], .slice A1 l1.length c1, .slice (some ⟨go7, 0, none⟩) y259.length co7] rfl (by (try simp only [List.map_toArray, List.map_cons, List.map_nil]); first | done | (rw [show y259.length = y256.length from (Kd.R_reads' HO258.out).1.symm] <;> rfl) | rfl | (simp only [List.length_drop, List.length_take]; rfl)) ?_; (with_reducible refine (r5_ends.calls k a0_0 _ _ l0_1 _ _ l0_2 _ _ l1 _ _ y259 t260 _ ?side1 ?side2 ?side3 ?side4 ?side5 ?side6 ?side7 ?side8 A8.out).mono ?_); (case side1 => repeat (first | exact (Kd.C_below HR0_1.out HB.out) | (with_reducible refine Kd.C_alloc ?_ _) | (with_reducible refine Kd.C_drewN ?_ _) | (with_reducible refine Kd.C_drew ?_))); (case side2 => exact HC0_1.out); (case side3 => repeat (first | exact (Kd.C_below HR0_2.out HB.out) | (with_reducible refine Kd.C_alloc ?_ _) | (with_reducible refine Kd.C_drewN ?_ _) | (with_reducible refine Kd.C_drew ?_))); (case side4 => exact HC0_2.out); (case side5 => repeat (first | exact (Kd.C_below HR1.out HB.out) | (with_reducible refine Kd.C_alloc ?_ _) | (with_reducible refine Kd.C_drewN ?_ _) | (with_reducible refine Kd.C_drew ?_))); (case side6 => exact HC1.out); (case side7 => repeat (first | exact (Kd.R_reads' HO258.out).2.2 | (with_reducible refine Kd.C_alloc ?_ _) | (with_reducible refine Kd.C_drewN ?_ _) | (with_reducible refine Kd.C_drew ?_))); (case side8 => rw [show y259.length = y256.length from (Kd.R_reads' HO258.out).1.symm]; exact (Kd.R_reads' HO258.out).2.1); rintro e w17 ⟨v261, rfl, ho0, hb⟩; refine ⟨_, rfl, ?_⟩; have n0_ := aM (Kd.R_elder' (by (with_reducible repeat (first | apply kA | apply kN | apply kD)); exact HO258.out) (Kd.R_base ho0) hb); have n1_ := aM (Kd.R_lower (Kd.R_new' ho0 (Kd.R_lt (by (with_reducible repeat (first | apply kA | apply kN | apply kD)); exact HO258.out))) (below_size (by repeat (first | (with_reducible first | exact HB.out | apply blA | apply blN | apply blD | refine bS ?_ GE255.out) | exact HB.out)))); have n2_ := aM (blk_below (g := gb255) (o := .cells #[.int .i64 a0_0, .slice A0_1 l0_1.length c0_1, .slice A0_2 l0_2.length c0_2] 25 (0, 0)) (by (with_reducible repeat (first | apply bkN | apply bkD | apply bkA)); exact BK255.out) hb); have n3_ := aM (below_step (by repeat (first | (with_reducible first | exact HB.out | apply blA | apply blN | apply blD | refine bS ?_ GE255.out) | exact HB.out)) hb); clear HO258; clear BK255; clear HB; have HO258 := n0_; have HO262 := n1_; have BK255 := n2_; have HB := n3_; clear n0_ n1_ n2_ n3_; (try clear hb); (try clear hb2); (try clear hk); (try clear hi); (try clear ho0); obtain ⟨Ao18, co18, eo18⟩ := Kd.R_slice HO262.out; subst eo18; have p263 : 0 ≤ ((l1.length : Int) : Int) := of_decide_eq_true (by first | (with_reducible assumption) | assumption); have q263 : (l1.length : Int) < (t260.length : Int) := of_decide_eq_true (by first | (with_reducible assumption) | assumption); obtain ⟨ad263, e263, hx263_0⟩ := Kd.at_bool (Kd.R_reads' HO262.out).2.2 (l1.length : Int) p263 q263; cases e263; (try simp only [Go.IntWalk.toNatUp] at hx263_0); replace p263 := eq_true p263; replace q263 := eq_true q263))
           first | go_ret | refine ⟨_, results_tmp rfl _ _ _, ?_⟩
           exact ⟨by first | rfl | (simp [errW_none, errW_some] <;> rfl) | (simp only [← hji3]; first | rfl | (simp [errW_none, errW_some] <;> rfl)) | (simp [*, errW_none, errW_some] <;> rfl), by repeat (first | (with_reducible first | exact HB.out | apply blA | apply blN | apply blD | refine bS ?_ GE255.out) | exact HB.out)⟩
         · rw [if_neg c10] at H
           exact absurd H (by simp)
       · rw [if_neg c9] at H
         exact absurd H (by simp)
     · rw [if_neg c6] at H
       exact absurd H (by simp)
   · rw [if_neg c5] at H
     exact absurd H (by simp)
 · rw [if_neg c4] at H
   exact absurd H (by simp)
def r5_Takes.f (k : Nat) (a0_0 : Int) (l0_1 : List (S66)) (l0_2 : List (S25)) (l1 : List Int) : Option (Bool) := (r5_Right.f k a0_0 l0_1 l0_2).bind fun t265 => (if t265 = true then (if (l1.length : Int) ≤ 255 then ((r5_Match.f k a0_0 l0_1 l0_2 l1).bind fun t266 => (some t266)) else (some false)) else (some false))
set_option maxHeartbeats 8000000 in
set_option maxRecDepth 100000 in
theorem r5_Takes.calls (k : Nat) (a0_0 : Int) (A0_1 : Option Addr) (c0_1 : Nat) (l0_1 : List (S66)) (A0_2 : Option Addr) (c0_2 : Nat) (l0_2 : List (S25)) (A1 : Option Addr) (c1 : Nat) (l1 : List Int) (r : Bool) (w : World) (hr0_1 : Kd.C k66 w A0_1 l0_1.length l0_1) (hc0_1 : l0_1.length ≤ c0_1) (hr0_2 : Kd.C k25 w A0_2 l0_2.length l0_2) (hc0_2 : l0_2.length ≤ c0_2) (hr1 : Kd.C (Kd.int .u32) w A1 l1.length l1) (hc1 : l1.length ≤ c1) (h : r5_Takes.f k a0_0 l0_1 l0_2 l1 = some r) :
 Calls Try.prog 19 #[.agg #[.int .i64 a0_0, .slice A0_1 l0_1.length c0_1, .slice A0_2 l0_2.length c0_2], .slice A1 l1.length c1] w fun e w' => e = .returned (.bool r) ∧ Below w.heap.size w w' := by
 have hu25 := Try.underlying25
 have HR0_1 := aM hr0_1
 have HC0_1 := aM hc0_1
 clear hr0_1 hc0_1
 have HR0_2 := aM hr0_2
 have HC0_2 := aM hc0_2
 clear hr0_2 hc0_2
 have HR1 := aM hr1
 have HC1 := aM hc1
 clear hr1 hc1
 have HB := aM (Below.refl w.heap.size w)
 have H : ((r5_Right.f k a0_0 l0_1 l0_2).bind fun t265 => (if t265 = true then (if (l1.length : Int) ≤ 255 then ((r5_Match.f k a0_0 l0_1 l0_2 l1).bind fun t266 => (some t266)) else (some false)) else (some false))) = some r := h
 clear h
 replace H := Option.bind_eq_some_iff.mp H
 obtain ⟨t265, A30, H⟩ := H
 replace H : (if t265 = true then (if (l1.length : Int) ≤ 255 then ((r5_Match.f k a0_0 l0_1 l0_2 l1).bind fun t266 => (some t266)) else (some false)) else (some false)) = some r := H
 have A3 := aM A30
 clear A30
 by_cases c4 : t265 = true
 · subst c4
   have H1 : (if (l1.length : Int) ≤ 255 then ((r5_Match.f k a0_0 l0_1 l0_2 l1).bind fun t266 => (some t266)) else (some false)) = some r := by rw [if_pos rfl] at H; exact H
   clear H
   have H := H1
   clear H1
   by_cases c5 : (l1.length : Int) ≤ 255
   · rw [if_pos c5] at H
     have c5b0 : decide ((l1.length : Int) ≤ 255) = true := decide_eq_true c5
     have c5b1 : decide (l1.length ≤ 255) = true := decide_eq_true (by omega)
     clear c5
     replace H := Option.bind_eq_some_iff.mp H
     obtain ⟨t266, A60, H⟩ := H
     replace H : (some t266) = some r := H
     have A6 := aM A60
     clear A60
     obtain rfl := Option.some.inj H
     go_enter Try.func19, Try.ntmps19
     go_wp2_with (first | ((with_reducible refine gate_dst (N := 2) rfl ?_); (try (refine gate_guard (by rfl) ?_; dsimp only)); refine box_event ?hg (N := 2) ?hd (cs := #[.int .i64 a0_0, .slice A0_1 l0_1.length c0_1, .slice A0_2 l0_2.length c0_2]) (t := 25) ?hr ?_; (case hd => rfl); (case hg => rfl); (case hr => first | (go_simp; done) | (go_simp; rfl)); intro gb264 hg w7 hbox hb; have n0_ := aM (below_step (by repeat (first | (with_reducible first | exact HB.out | apply blA | apply blN | apply blD) | exact HB.out)) hb); have n1_ := aM (hbox); have n2_ := aM ((by rw [hg]; exact (below_size (by repeat (first | (with_reducible first | exact HB.out | apply blA | apply blN | apply blD) | exact HB.out))) : w.heap.size ≤ gb264)); have n3_ := aM ((by rw [hg]; exact (below_size (by repeat (first | (with_reducible first | exact HB.out | apply blA | apply blN | apply blD) | exact HB.out))) : w.heap.size ≤ gb264)); clear HB; have HB := n0_; have BK264 := n1_; have GW264 := n2_; have GE264 := n3_; clear n0_ n1_ n2_ n3_; clear hb hbox hg; have hcz8_0 : w7.cell? ⟨gb264, 0, none⟩ = some (.int .i64 a0_0) := (blk_cell BK264.out 0).trans rfl; have hcz8_1 : w7.cell? ⟨gb264, 1, none⟩ = some (.slice A0_1 l0_1.length c0_1) := (blk_cell BK264.out 1).trans rfl; have hcz8_2 : w7.cell? ⟨gb264, 2, none⟩ = some (.slice A0_2 l0_2.length c0_2) := (blk_cell BK264.out 2).trans rfl; have hfz8_0 := bF BK264.out 0; have hfz8_1 := bF BK264.out 1; have hfz8_2 := bF BK264.out 2) | ((with_reducible refine gate_callee (f := 17) rfl ?_); refine goesL_ (some 6) rfl rfl Try.func17 (by kernel_rfl) rfl #[.agg #[.int .i64 a0_0, .slice A0_1 l0_1.length c0_1, .slice A0_2 l0_2.length c0_2]] rfl (by (try simp only [List.map_toArray, List.map_cons, List.map_nil]); first | done | rfl | (simp only [List.length_drop, List.length_take]; rfl)) ?_; (with_reducible refine (r5_Right.calls k a0_0 _ _ l0_1 _ _ l0_2 true _ ?side1 ?side2 ?side3 ?side4 A3.out).mono ?_); (case side1 => repeat (first | exact (Kd.C_below HR0_1.out HB.out) | (with_reducible refine Kd.C_alloc ?_ _) | (with_reducible refine Kd.C_drewN ?_ _) | (with_reducible refine Kd.C_drew ?_))); (case side2 => exact HC0_1.out); (case side3 => repeat (first | exact (Kd.C_below HR0_2.out HB.out) | (with_reducible refine Kd.C_alloc ?_ _) | (with_reducible refine Kd.C_drewN ?_ _) | (with_reducible refine Kd.C_drew ?_))); (case side4 => exact HC0_2.out); rintro e w9 ⟨rfl, hb⟩; refine ⟨_, rfl, ?_⟩; have n0_ := aM (blk_below (g := gb264) (o := .cells #[.int .i64 a0_0, .slice A0_1 l0_1.length c0_1, .slice A0_2 l0_2.length c0_2] 25 (0, 0)) (by (with_reducible repeat (first | apply bkN | apply bkD | apply bkA)); exact BK264.out) hb); have n1_ := aM (below_step (by repeat (first | (with_reducible first | exact HB.out | apply blA | apply blN | apply blD | refine bS ?_ GE264.out) | exact HB.out)) hb); clear BK264; clear HB; have BK264 := n0_; have HB := n1_; clear n0_ n1_; (try clear hb); (try clear hb2); (try clear hk); (try clear hi); have hcz10_0 : w9.cell? ⟨gb264, 0, none⟩ = some (.int .i64 a0_0) := (blk_cell BK264.out 0).trans rfl; have hcz10_1 : w9.cell? ⟨gb264, 1, none⟩ = some (.slice A0_1 l0_1.length c0_1) := (blk_cell BK264.out 1).trans rfl; have hcz10_2 : w9.cell? ⟨gb264, 2, none⟩ = some (.slice A0_2 l0_2.length c0_2) := (blk_cell BK264.out 2).trans rfl; have hfz10_0 := bF BK264.out 0; have hfz10_1 := bF BK264.out 1; have hfz10_2 := bF BK264.out 2) | (go_at_call 48; (with_reducible refine (r5_Match.calls k a0_0 _ _ l0_1 _ _ l0_2 _ _ l1 t266 _ ?side1 ?side2 ?side3 ?side4 ?side5 ?side6 A6.out).mono ?_); (case side1 => repeat (first | exact (Kd.C_below HR0_1.out HB.out) | (with_reducible refine Kd.C_alloc ?_ _) | (with_reducible refine Kd.C_drewN ?_ _) | (with_reducible refine Kd.C_drew ?_))); (case side2 => exact HC0_1.out); (case side3 => repeat (first | exact (Kd.C_below HR0_2.out HB.out) | (with_reducible refine Kd.C_alloc ?_ _) | (with_reducible refine Kd.C_drewN ?_ _) | (with_reducible refine Kd.C_drew ?_))); (case side4 => exact HC0_2.out); (case side5 => repeat (first | exact (Kd.C_below HR1.out HB.out) | (with_reducible refine Kd.C_alloc ?_ _) | (with_reducible refine Kd.C_drewN ?_ _) | (with_reducible refine Kd.C_drew ?_))); (case side6 => exact HC1.out); rintro e w11 ⟨rfl, hb⟩; have n0_ := aM (blk_below (g := gb264) (o := .cells #[.int .i64 a0_0, .slice A0_1 l0_1.length c0_1, .slice A0_2 l0_2.length c0_2] 25 (0, 0)) (by (with_reducible repeat (first | apply bkN | apply bkD | apply bkA)); exact BK264.out) hb); have n1_ := aM (below_step (by repeat (first | (with_reducible first | exact HB.out | apply blA | apply blN | apply blD | refine bS ?_ GE264.out) | exact HB.out)) hb); clear BK264; clear HB; have BK264 := n0_; have HB := n1_; clear n0_ n1_; (try clear hb); (try clear hb2); (try clear hk); (try clear hi)))
     first | go_ret | refine ⟨_, results_tmp rfl _ _ _, ?_⟩
     exact ⟨by first | rfl | (simp [errW_none, errW_some] <;> rfl) | (simp [*, errW_none, errW_some] <;> rfl), by repeat (first | (with_reducible first | exact HB.out | apply blA | apply blN | apply blD | refine bS ?_ GE264.out) | exact HB.out)⟩
   · rw [if_neg c5] at H
     have c5b0 : decide ((l1.length : Int) ≤ 255) = false := decide_eq_false c5
     have c5b1 : decide (l1.length ≤ 255) = false := decide_eq_false (by omega)
     clear c5
     obtain rfl := Option.some.inj H
     go_enter Try.func19, Try.ntmps19
     go_wp2_with (first | ((with_reducible refine gate_dst (N := 2) rfl ?_); (try (refine gate_guard (by rfl) ?_; dsimp only)); refine box_event ?hg (N := 2) ?hd (cs := #[.int .i64 a0_0, .slice A0_1 l0_1.length c0_1, .slice A0_2 l0_2.length c0_2]) (t := 25) ?hr ?_; (case hd => rfl); (case hg => rfl); (case hr => first | (go_simp; done) | (go_simp; rfl)); intro gb264 hg w12 hbox hb; have n0_ := aM (below_step (by repeat (first | (with_reducible first | exact HB.out | apply blA | apply blN | apply blD) | exact HB.out)) hb); have n1_ := aM (hbox); have n2_ := aM ((by rw [hg]; exact (below_size (by repeat (first | (with_reducible first | exact HB.out | apply blA | apply blN | apply blD) | exact HB.out))) : w.heap.size ≤ gb264)); have n3_ := aM ((by rw [hg]; exact (below_size (by repeat (first | (with_reducible first | exact HB.out | apply blA | apply blN | apply blD) | exact HB.out))) : w.heap.size ≤ gb264)); clear HB; have HB := n0_; have BK264 := n1_; have GW264 := n2_; have GE264 := n3_; clear n0_ n1_ n2_ n3_; clear hb hbox hg; have hcz13_0 : w12.cell? ⟨gb264, 0, none⟩ = some (.int .i64 a0_0) := (blk_cell BK264.out 0).trans rfl; have hcz13_1 : w12.cell? ⟨gb264, 1, none⟩ = some (.slice A0_1 l0_1.length c0_1) := (blk_cell BK264.out 1).trans rfl; have hcz13_2 : w12.cell? ⟨gb264, 2, none⟩ = some (.slice A0_2 l0_2.length c0_2) := (blk_cell BK264.out 2).trans rfl; have hfz13_0 := bF BK264.out 0; have hfz13_1 := bF BK264.out 1; have hfz13_2 := bF BK264.out 2) | ((with_reducible refine gate_callee (f := 17) rfl ?_); refine goesL_ (some 6) rfl rfl Try.func17 (by kernel_rfl) rfl #[.agg #[.int .i64 a0_0, .slice A0_1 l0_1.length c0_1, .slice A0_2 l0_2.length c0_2]] rfl (by (try simp only [List.map_toArray, List.map_cons, List.map_nil]); first | done | rfl | (simp only [List.length_drop, List.length_take]; rfl)) ?_; (with_reducible refine (r5_Right.calls k a0_0 _ _ l0_1 _ _ l0_2 true _ ?side1 ?side2 ?side3 ?side4 A3.out).mono ?_); (case side1 => repeat (first | exact (Kd.C_below HR0_1.out HB.out) | (with_reducible refine Kd.C_alloc ?_ _) | (with_reducible refine Kd.C_drewN ?_ _) | (with_reducible refine Kd.C_drew ?_))); (case side2 => exact HC0_1.out); (case side3 => repeat (first | exact (Kd.C_below HR0_2.out HB.out) | (with_reducible refine Kd.C_alloc ?_ _) | (with_reducible refine Kd.C_drewN ?_ _) | (with_reducible refine Kd.C_drew ?_))); (case side4 => exact HC0_2.out); rintro e w14 ⟨rfl, hb⟩; refine ⟨_, rfl, ?_⟩; have n0_ := aM (blk_below (g := gb264) (o := .cells #[.int .i64 a0_0, .slice A0_1 l0_1.length c0_1, .slice A0_2 l0_2.length c0_2] 25 (0, 0)) (by (with_reducible repeat (first | apply bkN | apply bkD | apply bkA)); exact BK264.out) hb); have n1_ := aM (below_step (by repeat (first | (with_reducible first | exact HB.out | apply blA | apply blN | apply blD | refine bS ?_ GE264.out) | exact HB.out)) hb); clear BK264; clear HB; have BK264 := n0_; have HB := n1_; clear n0_ n1_; (try clear hb); (try clear hb2); (try clear hk); (try clear hi)))
     first | go_ret | refine ⟨_, results_tmp rfl _ _ _, ?_⟩
     exact ⟨by first | rfl | (simp [errW_none, errW_some] <;> rfl) | (simp [*, errW_none, errW_some] <;> rfl), by repeat (first | (with_reducible first | exact HB.out | apply blA | apply blN | apply blD | refine bS ?_ GE264.out) | exact HB.out)⟩
 · replace c4 := Bool.eq_false_iff.mpr c4
   subst c4
   have H1 : (some false) = some r := by rw [if_neg (show ¬ (false = true) by decide)] at H; exact H
   clear H
   have H := H1
   clear H1
   obtain rfl := Option.some.inj H
   go_enter Try.func19, Try.ntmps19
   go_wp2_with (first | ((with_reducible refine gate_dst (N := 2) rfl ?_); (try (refine gate_guard (by rfl) ?_; dsimp only)); refine box_event ?hg (N := 2) ?hd (cs := #[.int .i64 a0_0, .slice A0_1 l0_1.length c0_1, .slice A0_2 l0_2.length c0_2]) (t := 25) ?hr ?_; (case hd => rfl); (case hg => rfl); (case hr => first | (go_simp; done) | (go_simp; rfl)); intro gb264 hg w15 hbox hb; have n0_ := aM (below_step (by repeat (first | (with_reducible first | exact HB.out | apply blA | apply blN | apply blD) | exact HB.out)) hb); have n1_ := aM (hbox); have n2_ := aM ((by rw [hg]; exact (below_size (by repeat (first | (with_reducible first | exact HB.out | apply blA | apply blN | apply blD) | exact HB.out))) : w.heap.size ≤ gb264)); have n3_ := aM ((by rw [hg]; exact (below_size (by repeat (first | (with_reducible first | exact HB.out | apply blA | apply blN | apply blD) | exact HB.out))) : w.heap.size ≤ gb264)); clear HB; have HB := n0_; have BK264 := n1_; have GW264 := n2_; have GE264 := n3_; clear n0_ n1_ n2_ n3_; clear hb hbox hg; have hcz16_0 : w15.cell? ⟨gb264, 0, none⟩ = some (.int .i64 a0_0) := (blk_cell BK264.out 0).trans rfl; have hcz16_1 : w15.cell? ⟨gb264, 1, none⟩ = some (.slice A0_1 l0_1.length c0_1) := (blk_cell BK264.out 1).trans rfl; have hcz16_2 : w15.cell? ⟨gb264, 2, none⟩ = some (.slice A0_2 l0_2.length c0_2) := (blk_cell BK264.out 2).trans rfl; have hfz16_0 := bF BK264.out 0; have hfz16_1 := bF BK264.out 1; have hfz16_2 := bF BK264.out 2) | ((with_reducible refine gate_callee (f := 17) rfl ?_); refine goesL_ (some 6) rfl rfl Try.func17 (by kernel_rfl) rfl #[.agg #[.int .i64 a0_0, .slice A0_1 l0_1.length c0_1, .slice A0_2 l0_2.length c0_2]] rfl (by (try simp only [List.map_toArray, List.map_cons, List.map_nil]); first | done | rfl | (simp only [List.length_drop, List.length_take]; rfl)) ?_; (with_reducible refine (r5_Right.calls k a0_0 _ _ l0_1 _ _ l0_2 false _ ?side1 ?side2 ?side3 ?side4 A3.out).mono ?_); (case side1 => repeat (first | exact (Kd.C_below HR0_1.out HB.out) | (with_reducible refine Kd.C_alloc ?_ _) | (with_reducible refine Kd.C_drewN ?_ _) | (with_reducible refine Kd.C_drew ?_))); (case side2 => exact HC0_1.out); (case side3 => repeat (first | exact (Kd.C_below HR0_2.out HB.out) | (with_reducible refine Kd.C_alloc ?_ _) | (with_reducible refine Kd.C_drewN ?_ _) | (with_reducible refine Kd.C_drew ?_))); (case side4 => exact HC0_2.out); rintro e w17 ⟨rfl, hb⟩; refine ⟨_, rfl, ?_⟩; have n0_ := aM (blk_below (g := gb264) (o := .cells #[.int .i64 a0_0, .slice A0_1 l0_1.length c0_1, .slice A0_2 l0_2.length c0_2] 25 (0, 0)) (by (with_reducible repeat (first | apply bkN | apply bkD | apply bkA)); exact BK264.out) hb); have n1_ := aM (below_step (by repeat (first | (with_reducible first | exact HB.out | apply blA | apply blN | apply blD | refine bS ?_ GE264.out) | exact HB.out)) hb); clear BK264; clear HB; have BK264 := n0_; have HB := n1_; clear n0_ n1_; (try clear hb); (try clear hb2); (try clear hk); (try clear hi)))
   first | go_ret | refine ⟨_, results_tmp rfl _ _ _, ?_⟩
   exact ⟨by first | rfl | (simp [errW_none, errW_some] <;> rfl) | (simp [*, errW_none, errW_some] <;> rfl), by repeat (first | (with_reducible first | exact HB.out | apply blA | apply blN | apply blD | refine bS ?_ GE264.out) | exact HB.out)⟩
def dragomanref11_TakesPath.l0 : Nat → List Int → List (S61) → Int → Int → Option (Bool)
 | 0, _, _, _, _ => none
 | k + 1, x1, x7, x8, x9 => if x9 < x8 then (if 0 ≤ x9 then (if x9 < (x7.length : Int) then ((r5_Takes.f k ((rd_T61 x7 x9).f1.f0) ((rd_T61 x7 x9).f1.f1) ((rd_T61 x7 x9).f1.f2) x1).bind fun t269 => (if t269 = true then (some (!((rd_T61 x7 x9).f0))) else (dragomanref11_TakesPath.l0 k x1 x7 x8 (wrap64 (x9 + 1))))) else (none)) else (none)) else (some false)
def dragomanref11_TakesPath.f (k : Nat) (l0 : List (S61)) (l1 : List Int) : Option (Bool) := dragomanref11_TakesPath.l0 k l1 l0 (l0.length : Int) 0
set_option maxHeartbeats 8000000 in
set_option maxRecDepth 100000 in
theorem dragomanref11_TakesPath.calls (k : Nat) (A0 : Option Addr) (c0 : Nat) (l0 : List (S61)) (A1 : Option Addr) (c1 : Nat) (l1 : List Int) (r : Bool) (w : World) (hr0 : Kd.C k61 w A0 l0.length l0) (hc0 : l0.length ≤ c0) (hr1 : Kd.C (Kd.int .u32) w A1 l1.length l1) (hc1 : l1.length ≤ c1) (h : dragomanref11_TakesPath.f k l0 l1 = some r) :
 Calls Try.prog 39 #[.slice A0 l0.length c0, .slice A1 l1.length c1] w fun e w' => e = .returned (.bool r) ∧ Below w.heap.size w w' := by
 have hu61 := Try.underlying61
 have hu25 := Try.underlying25
 have HR0 := aM hr0
 have HC0 := aM hc0
 clear hr0 hc0
 have HR1 := aM hr1
 have HC1 := aM hc1
 clear hr1 hc1
 have HB := aM (Below.refl w.heap.size w)
 have H : (dragomanref11_TakesPath.l0 k l1 l0 (l0.length : Int) 0) = some r := h
 clear h
 have H' := aM H
 clear H
 go_enter Try.func39, Try.ntmps39
 go_wp2
 go_loopg [9] k (fun kq v9 w' => ∃ (x9_1 : Int), v9 = .int .i64 x9_1 ∧ Aside0 (dragomanref11_TakesPath.l0 kq l1 l0 (l0.length : Int) x9_1 = some r) ∧ Aside0 (kq ≤ k) ∧ Aside0 (Below w.heap.size w w'))
 case atStart => exact ⟨(0), (by first | rfl | (simp; done) | (simp [*]; done)), H', ⟨Nat.le_refl _⟩, ⟨by repeat (first | (with_reducible first | exact HB.out | apply blA | apply blN | apply blD) | exact HB.out)⟩⟩
 case round =>
  clear H'
  obtain ⟨x9_1, rfl, HA, HK1, HB⟩ := hrel
  cases gk with
  | zero => exact absurd HA.out (by simp [dragomanref11_TakesPath.l0])
  | succ k1 =>
   have H := HA.out
   clear HA
   simp only [dragomanref11_TakesPath.l0] at H
   by_cases c3 : x9_1 < (l0.length : Int)
   · rw [if_pos c3] at H
     have c3b0 : decide (x9_1 < (l0.length : Int)) = true := decide_eq_true c3
     clear c3
     by_cases c4 : 0 ≤ x9_1
     · rw [if_pos c4] at H
       have c4b0 : decide (0 ≤ x9_1) = true := decide_eq_true c4
       clear c4
       by_cases c5 : x9_1 < (l0.length : Int)
       · rw [if_pos c5] at H
         have c5b0 : decide (x9_1 < (l0.length : Int)) = true := decide_eq_true c5
         clear c5
         replace H := Option.bind_eq_some_iff.mp H
         obtain ⟨t269, A60, H⟩ := H
         replace H : (if t269 = true then (some (!((rd_T61 l0 x9_1).f0))) else (dragomanref11_TakesPath.l0 k1 l1 l0 (l0.length : Int) (wrap64 (x9_1 + 1)))) = some r := H
         have A6 := aM A60
         clear A60
         by_cases c7 : t269 = true
         · subst c7
           have H1 : (some (!((rd_T61 l0 x9_1).f0))) = some r := by rw [if_pos rfl] at H; exact H
           clear H
           have H := H1
           clear H1
           obtain rfl := Option.some.inj H
           have p267 : 0 ≤ (x9_1 : Int) := of_decide_eq_true (by first | (with_reducible assumption) | assumption)
           have q267 : x9_1 < (l0.length : Int) := of_decide_eq_true (by first | (with_reducible assumption) | assumption)
           obtain ⟨ad267, A267_2, c267_2, A267_3, c267_3, e267, hx267_0, hx267_1, hx267_2, hx267_3, hl267_2, hi267_2, hl267_3, hi267_3⟩ := at_T61 HR0.out x9_1 p267 q267
           cases e267
           replace hx267_0 := (HB.out.cell (World.block_lt_of_cell? w _ hx267_0)).trans hx267_0
           replace hx267_1 := (HB.out.cell (World.block_lt_of_cell? w _ hx267_1)).trans hx267_1
           replace hx267_2 := (HB.out.cell (World.block_lt_of_cell? w _ hx267_2)).trans hx267_2
           replace hx267_3 := (HB.out.cell (World.block_lt_of_cell? w _ hx267_3)).trans hx267_3
           have HR267_2 := aM hi267_2
           have HC267_2 := aM hl267_2
           clear hi267_2 hl267_2
           have HR267_3 := aM hi267_3
           have HC267_3 := aM hl267_3
           clear hi267_3 hl267_3
           replace p267 := eq_true p267
           replace q267 := eq_true q267
           go_wp2_with (first | ((with_reducible refine gate_dst (N := 6) rfl ?_); refine box_event ?hg (N := 6) ?hd (cs := #[.bool false, .int .i64 0, .slice none 0 0, .slice none 0 0]) (t := 61) ?hr ?_; (case hd => rfl); (case hg => rfl); (case hr => first | (go_simp; done) | (go_simp; rfl)); intro gb268 hg w8 hbox hb; have n0_ := aM (below_step (by repeat (first | (with_reducible first | exact HB.out | apply blA | apply blN | apply blD) | exact HB.out)) hb); have n1_ := aM (hbox); have n2_ := aM ((by rw [hg]; exact (below_size (by repeat (first | (with_reducible first | exact HB.out | apply blA | apply blN | apply blD) | exact HB.out))) : w.heap.size ≤ gb268)); have n3_ := aM ((by rw [hg]; exact (below_size (by repeat (first | (with_reducible first | exact HB.out | apply blA | apply blN | apply blD) | exact HB.out))) : w.heap.size ≤ gb268)); clear HB; have HB := n0_; have BK268 := n1_; have GW268 := n2_; have GE268 := n3_; clear n0_ n1_ n2_ n3_; clear hb hbox hg; have hcz9_0 : w8.cell? ⟨gb268, 0, none⟩ = some (.bool false) := (blk_cell BK268.out 0).trans rfl; have hcz9_1 : w8.cell? ⟨gb268, 1, none⟩ = some (.int .i64 0) := (blk_cell BK268.out 1).trans rfl; have hcz9_2 : w8.cell? ⟨gb268, 2, none⟩ = some (.slice none 0 0) := (blk_cell BK268.out 2).trans rfl; have hcz9_3 : w8.cell? ⟨gb268, 3, none⟩ = some (.slice none 0 0) := (blk_cell BK268.out 3).trans rfl; have hfz9_0 := bF BK268.out 0; have hfz9_1 := bF BK268.out 1; have hfz9_2 := bF BK268.out 2; have hfz9_3 := bF BK268.out 3) | ((with_reducible refine gate_callee (f := 19) rfl ?_); refine goesL_ (some 16) rfl rfl Try.func19 (by kernel_rfl) rfl #[.agg #[.int .i64 ((rd_T61 l0 x9_1).f1.f0), .slice A267_2 ((rd_T61 l0 x9_1).f1.f1).length c267_2, .slice A267_3 ((rd_T61 l0 x9_1).f1.f2).length c267_3], .slice A1 l1.length c1] rfl (by (try simp only [List.map_toArray, List.map_cons, List.map_nil]); first | done | rfl | (simp only [List.length_drop, List.length_take]; rfl)) ?_; (with_reducible refine (r5_Takes.calls k1 ((rd_T61 l0 x9_1).f1.f0) _ _ ((rd_T61 l0 x9_1).f1.f1) _ _ ((rd_T61 l0 x9_1).f1.f2) _ _ l1 true _ ?side1 ?side2 ?side3 ?side4 ?side5 ?side6 A6.out).mono ?_); (case side1 => exact Kd.C_below HR267_2.out (by repeat (first | (with_reducible first | exact HB.out | apply blA | apply blN | apply blD | refine bS ?_ GE268.out) | exact HB.out))); (case side2 => exact HC267_2.out); (case side3 => exact Kd.C_below HR267_3.out (by repeat (first | (with_reducible first | exact HB.out | apply blA | apply blN | apply blD | refine bS ?_ GE268.out) | exact HB.out))); (case side4 => exact HC267_3.out); (case side5 => exact Kd.C_below HR1.out (by repeat (first | (with_reducible first | exact HB.out | apply blA | apply blN | apply blD | refine bS ?_ GE268.out) | exact HB.out))); (case side6 => exact HC1.out); rintro e w10 ⟨rfl, hb⟩; refine ⟨_, rfl, ?_⟩; have n0_ := aM (blk_below (g := gb268) (o := .cells #[.bool ((rd_T61 l0 x9_1).f0), .int .i64 ((rd_T61 l0 x9_1).f1.f0), .slice A267_2 ((rd_T61 l0 x9_1).f1.f1).length c267_2, .slice A267_3 ((rd_T61 l0 x9_1).f1.f2).length c267_3] 61 (0, 0)) (by (with_reducible repeat (first | apply bkN | apply bkD | apply bkA)); refine blk_put (cs := #[.bool ((rd_T61 l0 x9_1).f0), .int .i64 ((rd_T61 l0 x9_1).f1.f0), .slice A267_2 ((rd_T61 l0 x9_1).f1.f1).length c267_2, .slice none 0 0]) ?_ 3 _ rfl; (with_reducible repeat (first | apply bkN | apply bkD | apply bkA)); refine blk_put (cs := #[.bool ((rd_T61 l0 x9_1).f0), .int .i64 ((rd_T61 l0 x9_1).f1.f0), .slice none 0 0, .slice none 0 0]) ?_ 2 _ rfl; (with_reducible repeat (first | apply bkN | apply bkD | apply bkA)); refine blk_put (cs := #[.bool ((rd_T61 l0 x9_1).f0), .int .i64 0, .slice none 0 0, .slice none 0 0]) ?_ 1 _ rfl; (with_reducible repeat (first | apply bkN | apply bkD | apply bkA)); refine blk_put (cs := #[.bool false, .int .i64 0, .slice none 0 0, .slice none 0 0]) ?_ 0 _ rfl; (with_reducible repeat (first | apply bkN | apply bkD | apply bkA)); exact BK268.out) hb); have n1_ := aM (below_step (by repeat (first | (with_reducible first | exact HB.out | apply blA | apply blN | apply blD | refine bS ?_ GE268.out) | exact HB.out)) hb); clear BK268; clear HB; have BK268 := n0_; have HB := n1_; clear n0_ n1_; (try clear hb); (try clear hb2); (try clear hk); (try clear hi); have hcz11_0 : w10.cell? ⟨gb268, 0, none⟩ = some (.bool ((rd_T61 l0 x9_1).f0)) := (blk_cell BK268.out 0).trans rfl; have hcz11_1 : w10.cell? ⟨gb268, 1, none⟩ = some (.int .i64 ((rd_T61 l0 x9_1).f1.f0)) := (blk_cell BK268.out 1).trans rfl; have hcz11_2 : w10.cell? ⟨gb268, 2, none⟩ = some (.slice A267_2 ((rd_T61 l0 x9_1).f1.f1).length c267_2) := (blk_cell BK268.out 2).trans rfl; have hcz11_3 : w10.cell? ⟨gb268, 3, none⟩ = some (.slice A267_3 ((rd_T61 l0 x9_1).f1.f2).length c267_3) := (blk_cell BK268.out 3).trans rfl; have hfz11_0 := bF BK268.out 0; have hfz11_1 := bF BK268.out 1; have hfz11_2 := bF BK268.out 2; have hfz11_3 := bF BK268.out 3))
           first | go_ret | refine ⟨_, results_tmp rfl _ _ _, ?_⟩
           exact ⟨by first | rfl | (simp [errW_none, errW_some] <;> rfl) | (simp [*, errW_none, errW_some] <;> rfl), by repeat (first | (with_reducible first | exact HB.out | apply blA | apply blN | apply blD | refine bS ?_ GE268.out) | exact HB.out)⟩
         · replace c7 := Bool.eq_false_iff.mpr c7
           subst c7
           have H1 : (dragomanref11_TakesPath.l0 k1 l1 l0 (l0.length : Int) (wrap64 (x9_1 + 1))) = some r := by rw [if_neg (show ¬ (false = true) by decide)] at H; exact H
           clear H
           have H := H1
           clear H1
           have H' := aM H
           clear H
           have p267 : 0 ≤ (x9_1 : Int) := of_decide_eq_true (by first | (with_reducible assumption) | assumption)
           have q267 : x9_1 < (l0.length : Int) := of_decide_eq_true (by first | (with_reducible assumption) | assumption)
           obtain ⟨ad267, A267_2, c267_2, A267_3, c267_3, e267, hx267_0, hx267_1, hx267_2, hx267_3, hl267_2, hi267_2, hl267_3, hi267_3⟩ := at_T61 HR0.out x9_1 p267 q267
           cases e267
           replace hx267_0 := (HB.out.cell (World.block_lt_of_cell? w _ hx267_0)).trans hx267_0
           replace hx267_1 := (HB.out.cell (World.block_lt_of_cell? w _ hx267_1)).trans hx267_1
           replace hx267_2 := (HB.out.cell (World.block_lt_of_cell? w _ hx267_2)).trans hx267_2
           replace hx267_3 := (HB.out.cell (World.block_lt_of_cell? w _ hx267_3)).trans hx267_3
           have HR267_2 := aM hi267_2
           have HC267_2 := aM hl267_2
           clear hi267_2 hl267_2
           have HR267_3 := aM hi267_3
           have HC267_3 := aM hl267_3
           clear hi267_3 hl267_3
           replace p267 := eq_true p267
           replace q267 := eq_true q267
           go_wp2_with (first | ((with_reducible refine gate_dst (N := 6) rfl ?_); refine box_event ?hg (N := 6) ?hd (cs := #[.bool false, .int .i64 0, .slice none 0 0, .slice none 0 0]) (t := 61) ?hr ?_; (case hd => rfl); (case hg => rfl); (case hr => first | (go_simp; done) | (go_simp; rfl)); intro gb268 hg w12 hbox hb; have n0_ := aM (below_step (by repeat (first | (with_reducible first | exact HB.out | apply blA | apply blN | apply blD) | exact HB.out)) hb); have n1_ := aM (hbox); have n2_ := aM ((by rw [hg]; exact (below_size (by repeat (first | (with_reducible first | exact HB.out | apply blA | apply blN | apply blD) | exact HB.out))) : w.heap.size ≤ gb268)); have n3_ := aM ((by rw [hg]; exact (below_size (by repeat (first | (with_reducible first | exact HB.out | apply blA | apply blN | apply blD) | exact HB.out))) : w.heap.size ≤ gb268)); clear HB; have HB := n0_; have BK268 := n1_; have GW268 := n2_; have GE268 := n3_; clear n0_ n1_ n2_ n3_; clear hb hbox hg; have hcz13_0 : w12.cell? ⟨gb268, 0, none⟩ = some (.bool false) := (blk_cell BK268.out 0).trans rfl; have hcz13_1 : w12.cell? ⟨gb268, 1, none⟩ = some (.int .i64 0) := (blk_cell BK268.out 1).trans rfl; have hcz13_2 : w12.cell? ⟨gb268, 2, none⟩ = some (.slice none 0 0) := (blk_cell BK268.out 2).trans rfl; have hcz13_3 : w12.cell? ⟨gb268, 3, none⟩ = some (.slice none 0 0) := (blk_cell BK268.out 3).trans rfl; have hfz13_0 := bF BK268.out 0; have hfz13_1 := bF BK268.out 1; have hfz13_2 := bF BK268.out 2; have hfz13_3 := bF BK268.out 3) | ((with_reducible refine gate_callee (f := 19) rfl ?_); refine goesL_ (some 16) rfl rfl Try.func19 (by kernel_rfl) rfl #[.agg #[.int .i64 ((rd_T61 l0 x9_1).f1.f0), .slice A267_2 ((rd_T61 l0 x9_1).f1.f1).length c267_2, .slice A267_3 ((rd_T61 l0 x9_1).f1.f2).length c267_3], .slice A1 l1.length c1] rfl (by (try simp only [List.map_toArray, List.map_cons, List.map_nil]); first | done | rfl | (simp only [List.length_drop, List.length_take]; rfl)) ?_; (with_reducible refine (r5_Takes.calls k1 ((rd_T61 l0 x9_1).f1.f0) _ _ ((rd_T61 l0 x9_1).f1.f1) _ _ ((rd_T61 l0 x9_1).f1.f2) _ _ l1 false _ ?side1 ?side2 ?side3 ?side4 ?side5 ?side6 A6.out).mono ?_); (case side1 => exact Kd.C_below HR267_2.out (by repeat (first | (with_reducible first | exact HB.out | apply blA | apply blN | apply blD | refine bS ?_ GE268.out) | exact HB.out))); (case side2 => exact HC267_2.out); (case side3 => exact Kd.C_below HR267_3.out (by repeat (first | (with_reducible first | exact HB.out | apply blA | apply blN | apply blD | refine bS ?_ GE268.out) | exact HB.out))); (case side4 => exact HC267_3.out); (case side5 => exact Kd.C_below HR1.out (by repeat (first | (with_reducible first | exact HB.out | apply blA | apply blN | apply blD | refine bS ?_ GE268.out) | exact HB.out))); (case side6 => exact HC1.out); rintro e w14 ⟨rfl, hb⟩; refine ⟨_, rfl, ?_⟩; have n0_ := aM (blk_below (g := gb268) (o := .cells #[.bool ((rd_T61 l0 x9_1).f0), .int .i64 ((rd_T61 l0 x9_1).f1.f0), .slice A267_2 ((rd_T61 l0 x9_1).f1.f1).length c267_2, .slice A267_3 ((rd_T61 l0 x9_1).f1.f2).length c267_3] 61 (0, 0)) (by (with_reducible repeat (first | apply bkN | apply bkD | apply bkA)); refine blk_put (cs := #[.bool ((rd_T61 l0 x9_1).f0), .int .i64 ((rd_T61 l0 x9_1).f1.f0), .slice A267_2 ((rd_T61 l0 x9_1).f1.f1).length c267_2, .slice none 0 0]) ?_ 3 _ rfl; (with_reducible repeat (first | apply bkN | apply bkD | apply bkA)); refine blk_put (cs := #[.bool ((rd_T61 l0 x9_1).f0), .int .i64 ((rd_T61 l0 x9_1).f1.f0), .slice none 0 0, .slice none 0 0]) ?_ 2 _ rfl; (with_reducible repeat (first | apply bkN | apply bkD | apply bkA)); refine blk_put (cs := #[.bool ((rd_T61 l0 x9_1).f0), .int .i64 0, .slice none 0 0, .slice none 0 0]) ?_ 1 _ rfl; (with_reducible repeat (first | apply bkN | apply bkD | apply bkA)); refine blk_put (cs := #[.bool false, .int .i64 0, .slice none 0 0, .slice none 0 0]) ?_ 0 _ rfl; (with_reducible repeat (first | apply bkN | apply bkD | apply bkA)); exact BK268.out) hb); have n1_ := aM (below_step (by repeat (first | (with_reducible first | exact HB.out | apply blA | apply blN | apply blD | refine bS ?_ GE268.out) | exact HB.out)) hb); clear BK268; clear HB; have BK268 := n0_; have HB := n1_; clear n0_ n1_; (try clear hb); (try clear hb2); (try clear hk); (try clear hi)))
           go_roundg k1
           case measure => have := HK1.out; omega
           case rel => exact ⟨(wrap64 (x9_1 + 1)), (by first | rfl | (simp; done) | (simp [*]; done)), H', ⟨by have := HK1.out; omega⟩, ⟨by repeat (first | (with_reducible first | exact HB.out | apply blA | apply blN | apply blD | refine bS ?_ GE268.out) | exact HB.out)⟩⟩
       · rw [if_neg c5] at H
         exact absurd H (by simp)
     · rw [if_neg c4] at H
       exact absurd H (by simp)
   · rw [if_neg c3] at H
     have c3b0 : decide (x9_1 < (l0.length : Int)) = false := decide_eq_false c3
     clear c3
     obtain rfl := Option.some.inj H
     go_wp2
     first | go_ret | refine ⟨_, results_tmp rfl _ _ _, ?_⟩
     exact ⟨by first | rfl | (simp [errW_none, errW_some] <;> rfl) | (simp [*, errW_none, errW_some] <;> rfl), by repeat (first | (with_reducible first | exact HB.out | apply blA | apply blN | apply blD) | exact HB.out)⟩
def r2_In.f (a0_0 : Int) (a0_1 : Int) (a1 : Int) : Option (Bool) := if ((Int.tdiv a1 65536) % 4294967296) ≥ ((Int.tdiv a0_0 65536) % 4294967296) then (if ((Int.tdiv a1 65536) % 4294967296) ≤ ((Int.tdiv a0_1 65536) % 4294967296) then (if (Int.tmod a1 65536) ≥ (Int.tmod a0_0 65536) then (some (decide ((Int.tmod a1 65536) ≤ (Int.tmod a0_1 65536)))) else (some false)) else (some false)) else (some false)
set_option maxHeartbeats 8000000 in
set_option maxRecDepth 100000 in
theorem r2_In.calls (a0_0 : Int) (a0_1 : Int) (a1 : Int) (r : Bool) (w : World) (h : r2_In.f a0_0 a0_1 a1 = some r) :
 Calls Try.prog 97 #[.agg #[.int .u32 a0_0, .int .u32 a0_1], .int .u32 a1] w fun e w' => e = .returned (.bool r) ∧ Below w.heap.size w w' := by
 have hu76 := Try.underlying76
 have HB := aM (Below.refl w.heap.size w)
 have H : (if ((Int.tdiv a1 65536) % 4294967296) ≥ ((Int.tdiv a0_0 65536) % 4294967296) then (if ((Int.tdiv a1 65536) % 4294967296) ≤ ((Int.tdiv a0_1 65536) % 4294967296) then (if (Int.tmod a1 65536) ≥ (Int.tmod a0_0 65536) then (some (decide ((Int.tmod a1 65536) ≤ (Int.tmod a0_1 65536)))) else (some false)) else (some false)) else (some false)) = some r := h
 clear h
 by_cases c3 : ((Int.tdiv a1 65536) % 4294967296) ≥ ((Int.tdiv a0_0 65536) % 4294967296)
 · rw [if_pos c3] at H
   have c3b0 : decide (((Int.tdiv a0_0 65536) % 4294967296) ≤ ((Int.tdiv a1 65536) % 4294967296)) = true := decide_eq_true c3
   clear c3
   by_cases c4 : ((Int.tdiv a1 65536) % 4294967296) ≤ ((Int.tdiv a0_1 65536) % 4294967296)
   · rw [if_pos c4] at H
     have c4b0 : decide (((Int.tdiv a1 65536) % 4294967296) ≤ ((Int.tdiv a0_1 65536) % 4294967296)) = true := decide_eq_true c4
     clear c4
     by_cases c5 : (Int.tmod a1 65536) ≥ (Int.tmod a0_0 65536)
     · rw [if_pos c5] at H
       have c5b0 : decide ((Int.tmod a0_0 65536) ≤ (Int.tmod a1 65536)) = true := decide_eq_true c5
       clear c5
       obtain rfl := Option.some.inj H
       go_enter Try.func97, Try.ntmps97
       go_wp2_with (first | ((with_reducible refine gate_dst (N := 2) rfl ?_); refine box_event ?hg (N := 2) ?hd (cs := #[.int .u32 a0_0, .int .u32 a0_1]) (t := 76) ?hr ?_; (case hd => rfl); (case hg => rfl); (case hr => first | (go_simp; done) | (go_simp; rfl)); intro gb270 hg w6 hbox hb; have n0_ := aM (below_step (by repeat (first | (with_reducible first | exact HB.out | apply blA | apply blN | apply blD) | exact HB.out)) hb); have n1_ := aM (hbox); have n2_ := aM ((by rw [hg]; exact (below_size (by repeat (first | (with_reducible first | exact HB.out | apply blA | apply blN | apply blD) | exact HB.out))) : w.heap.size ≤ gb270)); have n3_ := aM ((by rw [hg]; exact (below_size (by repeat (first | (with_reducible first | exact HB.out | apply blA | apply blN | apply blD) | exact HB.out))) : w.heap.size ≤ gb270)); clear HB; have HB := n0_; have BK270 := n1_; have GW270 := n2_; have GE270 := n3_; clear n0_ n1_ n2_ n3_; clear hb hbox hg; have hcz7_0 : w6.cell? ⟨gb270, 0, none⟩ = some (.int .u32 a0_0) := (blk_cell BK270.out 0).trans rfl; have hcz7_1 : w6.cell? ⟨gb270, 1, none⟩ = some (.int .u32 a0_1) := (blk_cell BK270.out 1).trans rfl; have hfz7_0 := bF BK270.out 0; have hfz7_1 := bF BK270.out 1))
       first | go_ret | refine ⟨_, results_tmp rfl _ _ _, ?_⟩
       exact ⟨by first | rfl | (simp [errW_none, errW_some] <;> rfl) | (simp [*, errW_none, errW_some] <;> rfl), by repeat (first | (with_reducible first | exact HB.out | apply blA | apply blN | apply blD | refine bS ?_ GE270.out) | exact HB.out)⟩
     · rw [if_neg c5] at H
       have c5b0 : decide ((Int.tmod a0_0 65536) ≤ (Int.tmod a1 65536)) = false := decide_eq_false c5
       clear c5
       obtain rfl := Option.some.inj H
       go_enter Try.func97, Try.ntmps97
       go_wp2_with (first | ((with_reducible refine gate_dst (N := 2) rfl ?_); refine box_event ?hg (N := 2) ?hd (cs := #[.int .u32 a0_0, .int .u32 a0_1]) (t := 76) ?hr ?_; (case hd => rfl); (case hg => rfl); (case hr => first | (go_simp; done) | (go_simp; rfl)); intro gb270 hg w8 hbox hb; have n0_ := aM (below_step (by repeat (first | (with_reducible first | exact HB.out | apply blA | apply blN | apply blD) | exact HB.out)) hb); have n1_ := aM (hbox); have n2_ := aM ((by rw [hg]; exact (below_size (by repeat (first | (with_reducible first | exact HB.out | apply blA | apply blN | apply blD) | exact HB.out))) : w.heap.size ≤ gb270)); have n3_ := aM ((by rw [hg]; exact (below_size (by repeat (first | (with_reducible first | exact HB.out | apply blA | apply blN | apply blD) | exact HB.out))) : w.heap.size ≤ gb270)); clear HB; have HB := n0_; have BK270 := n1_; have GW270 := n2_; have GE270 := n3_; clear n0_ n1_ n2_ n3_; clear hb hbox hg; have hcz9_0 : w8.cell? ⟨gb270, 0, none⟩ = some (.int .u32 a0_0) := (blk_cell BK270.out 0).trans rfl; have hcz9_1 : w8.cell? ⟨gb270, 1, none⟩ = some (.int .u32 a0_1) := (blk_cell BK270.out 1).trans rfl; have hfz9_0 := bF BK270.out 0; have hfz9_1 := bF BK270.out 1))
       first | go_ret | refine ⟨_, results_tmp rfl _ _ _, ?_⟩
       exact ⟨by first | rfl | (simp [errW_none, errW_some] <;> rfl) | (simp [*, errW_none, errW_some] <;> rfl), by repeat (first | (with_reducible first | exact HB.out | apply blA | apply blN | apply blD | refine bS ?_ GE270.out) | exact HB.out)⟩
   · rw [if_neg c4] at H
     have c4b0 : decide (((Int.tdiv a1 65536) % 4294967296) ≤ ((Int.tdiv a0_1 65536) % 4294967296)) = false := decide_eq_false c4
     clear c4
     obtain rfl := Option.some.inj H
     go_enter Try.func97, Try.ntmps97
     go_wp2_with (first | ((with_reducible refine gate_dst (N := 2) rfl ?_); refine box_event ?hg (N := 2) ?hd (cs := #[.int .u32 a0_0, .int .u32 a0_1]) (t := 76) ?hr ?_; (case hd => rfl); (case hg => rfl); (case hr => first | (go_simp; done) | (go_simp; rfl)); intro gb270 hg w10 hbox hb; have n0_ := aM (below_step (by repeat (first | (with_reducible first | exact HB.out | apply blA | apply blN | apply blD) | exact HB.out)) hb); have n1_ := aM (hbox); have n2_ := aM ((by rw [hg]; exact (below_size (by repeat (first | (with_reducible first | exact HB.out | apply blA | apply blN | apply blD) | exact HB.out))) : w.heap.size ≤ gb270)); have n3_ := aM ((by rw [hg]; exact (below_size (by repeat (first | (with_reducible first | exact HB.out | apply blA | apply blN | apply blD) | exact HB.out))) : w.heap.size ≤ gb270)); clear HB; have HB := n0_; have BK270 := n1_; have GW270 := n2_; have GE270 := n3_; clear n0_ n1_ n2_ n3_; clear hb hbox hg; have hcz11_0 : w10.cell? ⟨gb270, 0, none⟩ = some (.int .u32 a0_0) := (blk_cell BK270.out 0).trans rfl; have hcz11_1 : w10.cell? ⟨gb270, 1, none⟩ = some (.int .u32 a0_1) := (blk_cell BK270.out 1).trans rfl; have hfz11_0 := bF BK270.out 0; have hfz11_1 := bF BK270.out 1))
     first | go_ret | refine ⟨_, results_tmp rfl _ _ _, ?_⟩
     exact ⟨by first | rfl | (simp [errW_none, errW_some] <;> rfl) | (simp [*, errW_none, errW_some] <;> rfl), by repeat (first | (with_reducible first | exact HB.out | apply blA | apply blN | apply blD | refine bS ?_ GE270.out) | exact HB.out)⟩
 · rw [if_neg c3] at H
   have c3b0 : decide (((Int.tdiv a0_0 65536) % 4294967296) ≤ ((Int.tdiv a1 65536) % 4294967296)) = false := decide_eq_false c3
   clear c3
   obtain rfl := Option.some.inj H
   go_enter Try.func97, Try.ntmps97
   go_wp2_with (first | ((with_reducible refine gate_dst (N := 2) rfl ?_); refine box_event ?hg (N := 2) ?hd (cs := #[.int .u32 a0_0, .int .u32 a0_1]) (t := 76) ?hr ?_; (case hd => rfl); (case hg => rfl); (case hr => first | (go_simp; done) | (go_simp; rfl)); intro gb270 hg w12 hbox hb; have n0_ := aM (below_step (by repeat (first | (with_reducible first | exact HB.out | apply blA | apply blN | apply blD) | exact HB.out)) hb); have n1_ := aM (hbox); have n2_ := aM ((by rw [hg]; exact (below_size (by repeat (first | (with_reducible first | exact HB.out | apply blA | apply blN | apply blD) | exact HB.out))) : w.heap.size ≤ gb270)); have n3_ := aM ((by rw [hg]; exact (below_size (by repeat (first | (with_reducible first | exact HB.out | apply blA | apply blN | apply blD) | exact HB.out))) : w.heap.size ≤ gb270)); clear HB; have HB := n0_; have BK270 := n1_; have GW270 := n2_; have GE270 := n3_; clear n0_ n1_ n2_ n3_; clear hb hbox hg; have hcz13_0 : w12.cell? ⟨gb270, 0, none⟩ = some (.int .u32 a0_0) := (blk_cell BK270.out 0).trans rfl; have hcz13_1 : w12.cell? ⟨gb270, 1, none⟩ = some (.int .u32 a0_1) := (blk_cell BK270.out 1).trans rfl; have hfz13_0 := bF BK270.out 0; have hfz13_1 := bF BK270.out 1))
   first | go_ret | refine ⟨_, results_tmp rfl _ _ _, ?_⟩
   exact ⟨by first | rfl | (simp [errW_none, errW_some] <;> rfl) | (simp [*, errW_none, errW_some] <;> rfl), by repeat (first | (with_reducible first | exact HB.out | apply blA | apply blN | apply blD | refine bS ?_ GE270.out) | exact HB.out)⟩
end Go.Proofs.Ytlkjfjlmjgkheaa.H
