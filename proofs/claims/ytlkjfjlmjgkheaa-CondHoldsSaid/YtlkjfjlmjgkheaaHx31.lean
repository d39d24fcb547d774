import Derived.Test.YtlkjfjlmjgkheaaHx0
import Derived.Test.YtlkjfjlmjgkheaaHx30
namespace Go.Proofs.Ytlkjfjlmjgkheaa.H
open Go.RowKit Go.Proofs.YtlkjfjlmjgkheaaW.PrintWords Go.Proofs.YtlkjfjlmjgkheaaW.PrintLast Go.Proofs.YtlkjfjlmjgkheaaW.PrintMore
attribute [local go_sem] max2_int min2_int max_two min_two max_three min_three max_four min_four
set_option linter.unusedVariables false
set_option linter.unusedSimpArgs false
def dragomanref11_SamePath.l0 : Nat → List (S61) → List (S61) → Int → Int → Option (Bool)
 | 0, _, _, _, _ => none
 | k + 1, x0, x1, x12, x13 => if x13 < x12 then (if 0 ≤ x13 then (if x13 < (x0.length : Int) then (if x13 < (x1.length : Int) then (if (((rd_T61 x0 x13).f0) != ((rd_T61 x1 x13).f0)) = true then (some false) else ((r5_Same.f k ((rd_T61 x0 x13).f1.f0) ((rd_T61 x0 x13).f1.f1) ((rd_T61 x0 x13).f1.f2) ((rd_T61 x1 x13).f1.f0) ((rd_T61 x1 x13).f1.f1) ((rd_T61 x1 x13).f1.f2)).bind fun t397 => (if t397 = true then (dragomanref11_SamePath.l0 k x0 x1 x12 (wrap64 (x13 + 1))) else (some false)))) else (none)) else (none)) else (none)) else (some true)
def dragomanref11_SamePath.f (k : Nat) (l0 : List (S61)) (l1 : List (S61)) : Option (Bool) := if (l0.length : Int) = (l1.length : Int) then (dragomanref11_SamePath.l0 k l0 l1 (l0.length : Int) 0) else (some false)
def dragomanref11_SamePath.T6 : Bool × List (List Nat × List Nat) := (true, [([], []), ([], []), ([0, 1], [0, 1]), ([2], [2]), ([3], [3]), ([], []), ([], []), ([5, 6], [5, 6]), ([7], [7]), ([8], [8]), ([4, 9], [4, 9]), ([10], [10]), ([11], [11]), ([11], [11]), ([12, 13, 11], [11, 12, 13]), ([14, 11], [11, 14]), ([15, 11], [11, 15]), ([11], [11]), ([11], [11]), ([17, 18, 11], [11, 17, 18]), ([19, 11], [11, 19]), ([20, 11], [11, 20]), ([16, 21, 11, 11], [11, 16, 21]), ([22, 11], [11, 22]), ([11, 23], [11, 23])])
def dragomanref11_SamePath.B6 : List Nat := [0, 0, 3, 7, 15, 0, 0, 96, 224, 480, 1023, 2047, 4095, 4095, 16383, 32767, 65535, 4095, 4095, 397311, 921599, 1970175, 4194303, 8388607, 16777215]
theorem dragomanref11_SamePath.tab6 : rtab .any (opsOf Try.f66 6) = dragomanref11_SamePath.T6 := by kernel_rfl
theorem dragomanref11_SamePath.bits6 : waitsOk dragomanref11_SamePath.T6.2 dragomanref11_SamePath.B6 = true := by kernel_rfl
set_option maxHeartbeats 8000000 in
set_option maxRecDepth 100000 in
theorem dragomanref11_SamePath.calls (k : Nat) (A0 : Option Addr) (c0 : Nat) (l0 : List (S61)) (A1 : Option Addr) (c1 : Nat) (l1 : List (S61)) (r : Bool) (w : World) (hr0 : Kd.C k61 w A0 l0.length l0) (hc0 : l0.length ≤ c0) (hr1 : Kd.C k61 w A1 l1.length l1) (hc1 : l1.length ≤ c1) (h : dragomanref11_SamePath.f k l0 l1 = some r) :
 Calls Try.prog 66 #[.slice A0 l0.length c0, .slice A1 l1.length c1] w fun e w' => e = .returned (.bool r) ∧ Below w.heap.size w w' := by
 have hu25 := Try.underlying25
 have HR0 := aM hr0
 have HC0 := aM hc0
 clear hr0 hc0
 have HR1 := aM hr1
 have HC1 := aM hc1
 clear hr1 hc1
 have HB := aM (Below.refl w.heap.size w)
 have H : (if (l0.length : Int) = (l1.length : Int) then (dragomanref11_SamePath.l0 k l0 l1 (l0.length : Int) 0) else (some false)) = some r := h
 clear h
 by_cases c3 : (l0.length : Int) = (l1.length : Int)
 rotate_left
 · rw [if_neg c3] at H
   have c3b0 : ((l0.length : Int) == (l1.length : Int)) = false := beq_eq_false_iff_ne.mpr c3
   have c3b1 : ((l0.length : Int) != (l1.length : Int)) = true := bne_iff_ne.mpr c3
   have c3b2 : (l0.length == l1.length) = false := by first | simpa using c3 | (simp at c3 ⊢; omega)
   obtain rfl := Option.some.inj H
   go_enter Try.func66, Try.ntmps66
   go_wp2
   first | go_ret | refine ⟨_, results_tmp rfl _ _ _, ?_⟩
   exact fin_ HB
 rw [if_pos c3] at H
 have c3b0 : ((l0.length : Int) == (l1.length : Int)) = true := beq_iff_eq.mpr c3
 have c3b1 : ((l0.length : Int) != (l1.length : Int)) = false := bne_eq_false_iff_eq.mpr c3
 have c3b2 : (l0.length == l1.length) = true := by first | simpa using c3 | (simp at c3 ⊢; omega)
 clear c3
 have H' := aM H
 clear H
 go_enter Try.func66, Try.ntmps66
 go_wp2
 go_loopg [13] k (fun kq v13 w' => ∃ (x13_1 : Int), v13 = .int .i64 x13_1 ∧ Aside0 (dragomanref11_SamePath.l0 kq l0 l1 (l0.length : Int) x13_1 = some r) ∧ Aside0 (kq ≤ k) ∧ Aside0 (Below w.heap.size w w'))
 case atStart => exact ⟨(0), rf_, H', ⟨Nat.le_refl _⟩, ⟨bw_ HB.out⟩⟩
 case round =>
  clear H'
  obtain ⟨x13_1, rfl, HA, HK1, HB⟩ := hrel
  cases gk with
  | zero => exact absurd HA.out (by simp [dragomanref11_SamePath.l0])
  | succ k1 =>
   have H := HA.out
   clear HA
   simp only [dragomanref11_SamePath.l0] at H
   by_cases c4 : x13_1 < (l0.length : Int)
   rotate_left
   · rw [if_neg c4] at H
     replace c4 := decide_eq_false c4
     obtain rfl := Option.some.inj H
     go_wp2
     first | go_ret | refine ⟨_, results_tmp rfl _ _ _, ?_⟩
     exact fin_ HB
   rw [if_pos c4] at H
   replace c4 := decide_eq_true c4
   obtain ⟨c5, H⟩ := ifd_ H
   obtain ⟨c6, H⟩ := ifd_ H
   obtain ⟨c7, H⟩ := ifd_ H
   by_cases c8 : (((rd_T61 l0 x13_1).f0) != ((rd_T61 l1 x13_1).f0)) = true
   · rw [if_pos c8] at H
     have c8b0 : (((rd_T61 l0 x13_1).f0) != ((rd_T61 l1 x13_1).f0)) = true := c8
     (try (have c8b1 : decide (((rd_T61 l0 x13_1).f0) = ((rd_T61 l1 x13_1).f0)) = false := by simpa using c8))
     (try (have c8b2 : (((rd_T61 l0 x13_1).f0) == ((rd_T61 l1 x13_1).f0)) = false := by simpa using c8))
     (try (have c8b3 : ¬ (((rd_T61 l0 x13_1).f0) = ((rd_T61 l1 x13_1).f0)) := by simpa using c8))
     clear c8
     obtain rfl := Option.some.inj H
     try go_wp2
     replace HB := aM (below_drew1 HB.out)
     have p393 : 0 ≤ (x13_1 : Int) := od_
     have q393 : x13_1 < (l0.length : Int) := od_
     obtain ⟨ad393, A393_2, c393_2, A393_3, c393_3, e393, hx393_0, hx393_1, hx393_2, hx393_3, hl393_2, hi393_2, hl393_3, hi393_3⟩ := at_T61 HR0.out x13_1 p393 q393
     have hw393_3 := hx393_3
     have hw393_2 := hx393_2
     have hw393_1 := hx393_1
     have hw393_0 := hx393_0
     cases e393
     replace hx393_0 := hx_ HB hx393_0
     replace hx393_1 := hx_ HB hx393_1
     replace hx393_2 := hx_ HB hx393_2
     replace hx393_3 := hx_ HB hx393_3
     have HR393_2 := aM hi393_2
     have HC393_2 := aM hl393_2
     clear hi393_2 hl393_2
     have HR393_3 := aM hi393_3
     have HC393_3 := aM hl393_3
     clear hi393_3 hl393_3
     replace p393 := eq_true p393
     replace q393 := eq_true q393
     have p394 : 0 ≤ (x13_1 : Int) := od_
     have q394 : x13_1 < (l1.length : Int) := od_
     obtain ⟨ad394, A394_2, c394_2, A394_3, c394_3, e394, hx394_0, hx394_1, hx394_2, hx394_3, hl394_2, hi394_2, hl394_3, hi394_3⟩ := at_T61 HR1.out x13_1 p394 q394
     have hw394_3 := hx394_3
     have hw394_2 := hx394_2
     have hw394_1 := hx394_1
     have hw394_0 := hx394_0
     cases e394
     replace hx394_0 := hx_ HB hx394_0
     replace hx394_1 := hx_ HB hx394_1
     replace hx394_2 := hx_ HB hx394_2
     replace hx394_3 := hx_ HB hx394_3
     have HR394_2 := aM hi394_2
     have HC394_2 := aM hl394_2
     clear hi394_2 hl394_2
     have HR394_3 := aM hi394_3
     have HC394_3 := aM hl394_3
     clear hi394_3 hl394_3
     replace p394 := eq_true p394
     replace q394 := eq_true q394
     refine start_ (n := 25) (S := fun w' => w'.cell? (ad393.add ((x13_1).toNat * 4)) = some (.bool ((rd_T61 l0 x13_1).f0)) ∧ w'.cell? ⟨(ad393.add ((x13_1).toNat * 4)).block, (ad393.add ((x13_1).toNat * 4)).off + 1, none⟩ = some (.int .i64 ((rd_T61 l0 x13_1).f1.f0)) ∧ w'.cell? ⟨(ad393.add ((x13_1).toNat * 4)).block, (ad393.add ((x13_1).toNat * 4)).off + 2, none⟩ = some (.slice A393_2 ((rd_T61 l0 x13_1).f1.f1).length c393_2) ∧ w'.cell? ⟨(ad393.add ((x13_1).toNat * 4)).block, (ad393.add ((x13_1).toNat * 4)).off + 3, none⟩ = some (.slice A393_3 ((rd_T61 l0 x13_1).f1.f2).length c393_3) ∧ w'.cell? (ad394.add ((x13_1).toNat * 4)) = some (.bool ((rd_T61 l1 x13_1).f0)) ∧ w'.cell? ⟨(ad394.add ((x13_1).toNat * 4)).block, (ad394.add ((x13_1).toNat * 4)).off + 1, none⟩ = some (.int .i64 ((rd_T61 l1 x13_1).f1.f0)) ∧ w'.cell? ⟨(ad394.add ((x13_1).toNat * 4)).block, (ad394.add ((x13_1).toNat * 4)).off + 2, none⟩ = some (.slice A394_2 ((rd_T61 l1 x13_1).f1.f1).length c394_2) ∧ w'.cell? ⟨(ad394.add ((x13_1).toNat * 4)).block, (ad394.add ((x13_1).toNat * 4)).off + 3, none⟩ = some (.slice A394_3 ((rd_T61 l1 x13_1).f1.f2).length c394_3)) (ds := []) (tf 0 25) (by kernel_rfl) rfl rfl ⟨((HB.out.cell (World.block_lt_of_cell? w _ hw393_0)).trans hw393_0), ((HB.out.cell (World.block_lt_of_cell? w _ hw393_1)).trans hw393_1), ((HB.out.cell (World.block_lt_of_cell? w _ hw393_2)).trans hw393_2), ((HB.out.cell (World.block_lt_of_cell? w _ hw393_3)).trans hw393_3), ((HB.out.cell (World.block_lt_of_cell? w _ hw394_0)).trans hw394_0), ((HB.out.cell (World.block_lt_of_cell? w _ hw394_1)).trans hw394_1), ((HB.out.cell (World.block_lt_of_cell? w _ hw394_2)).trans hw394_2), ((HB.out.cell (World.block_lt_of_cell? w _ hw394_3)).trans hw394_3)⟩ (fun hHeld => ?_); refine with_tabW dragomanref11_SamePath.tab6 dragomanref11_SamePath.bits6 (fun HT_ HW_ => ?_)
     generalize wr.drew = w9 at HB HR393_2 HR393_3 HR394_2 HR394_3 hx393_0 hx393_1 hx393_2 hx393_3 hx394_0 hx394_1 hx394_2 hx394_3 hHeld ⊢
     refine pA_ 0 (some 16) ?_
     refine pA_ 1 (some 17) ?_
     refine pA_ 2 (some 18) ?_
     refine pA_ 3 (some 19) ?_
     refine pA_ 5 (some 21) ?_
     refine pA_ 6 (some 22) ?_
     refine pA_ 7 (some 23) ?_
     refine pA_ 8 (some 24) ?_
     refine pT_ 4 (some 20) hHeld ?_
     refine pT_ 9 (some 25) hHeld ?_
     refine pA_ 10 (some 26) ?_
     refine pA_ 11 (some 27) ?_
     refine pS_ 12 (some 28) ?_
     refine pS_ 13 (some 29) ?_
     refine pS_ 14 (some 30) ?_
     refine pS_ 15 (some 31) ?_
     refine pS_ 16 (some 32) ?_
     refine pS_ 17 (some 33) ?_
     refine pS_ 18 (some 34) ?_
     refine pS_ 19 (some 35) ?_
     refine pS_ 20 (some 36) ?_
     refine pS_ 21 (some 37) ?_
     refine pS_ 22 (some 38) ?_
     refine pS_ 23 (some 39) ?_
     refine pA_ 24 (some 40) ?_
     refine done_ (done_of HT_.out (by kernel_rfl)) ?_
     try go_wp2
     first | go_ret | refine ⟨_, results_tmp rfl _ _ _, ?_⟩
     exact fin_ HB
   rw [if_neg c8] at H
   have c8b0 : (((rd_T61 l0 x13_1).f0) != ((rd_T61 l1 x13_1).f0)) = false := by simpa using c8
   (try (have c8b1 : decide (((rd_T61 l0 x13_1).f0) = ((rd_T61 l1 x13_1).f0)) = true := by simpa using c8))
   (try (have c8b2 : (((rd_T61 l0 x13_1).f0) == ((rd_T61 l1 x13_1).f0)) = true := by simpa using c8))
   clear c8
   obtain ⟨t397, A10, H⟩ := bnd_ H
   by_cases c11 : t397 = true
   rotate_left
   · replace c11 := Bool.eq_false_iff.mpr c11
     subst c11
     rw [if_neg (show ¬ (false = true) by decide)] at H
     obtain rfl := Option.some.inj H
     try go_wp2
     replace HB := aM (below_drew1 HB.out)
     have p393 : 0 ≤ (x13_1 : Int) := od_
     have q393 : x13_1 < (l0.length : Int) := od_
     obtain ⟨ad393, A393_2, c393_2, A393_3, c393_3, e393, hx393_0, hx393_1, hx393_2, hx393_3, hl393_2, hi393_2, hl393_3, hi393_3⟩ := at_T61 HR0.out x13_1 p393 q393
     have hw393_3 := hx393_3
     have hw393_2 := hx393_2
     have hw393_1 := hx393_1
     have hw393_0 := hx393_0
     cases e393
     replace hx393_0 := hx_ HB hx393_0
     replace hx393_1 := hx_ HB hx393_1
     replace hx393_2 := hx_ HB hx393_2
     replace hx393_3 := hx_ HB hx393_3
     have HR393_2 := aM hi393_2
     have HC393_2 := aM hl393_2
     clear hi393_2 hl393_2
     have HR393_3 := aM hi393_3
     have HC393_3 := aM hl393_3
     clear hi393_3 hl393_3
     replace p393 := eq_true p393
     replace q393 := eq_true q393
     have p394 : 0 ≤ (x13_1 : Int) := od_
     have q394 : x13_1 < (l1.length : Int) := od_
     obtain ⟨ad394, A394_2, c394_2, A394_3, c394_3, e394, hx394_0, hx394_1, hx394_2, hx394_3, hl394_2, hi394_2, hl394_3, hi394_3⟩ := at_T61 HR1.out x13_1 p394 q394
     have hw394_3 := hx394_3
     have hw394_2 := hx394_2
     have hw394_1 := hx394_1
     have hw394_0 := hx394_0
     cases e394
     replace hx394_0 := hx_ HB hx394_0
     replace hx394_1 := hx_ HB hx394_1
     replace hx394_2 := hx_ HB hx394_2
     replace hx394_3 := hx_ HB hx394_3
     have HR394_2 := aM hi394_2
     have HC394_2 := aM hl394_2
     clear hi394_2 hl394_2
     have HR394_3 := aM hi394_3
     have HC394_3 := aM hl394_3
     clear hi394_3 hl394_3
     replace p394 := eq_true p394
     replace q394 := eq_true q394
     have p395 : 0 ≤ (x13_1 : Int) := od_
     have q395 : x13_1 < (l0.length : Int) := od_
     obtain ⟨ad395, A395_2, c395_2, A395_3, c395_3, e395, hx395_0, hx395_1, hx395_2, hx395_3, hl395_2, hi395_2, hl395_3, hi395_3⟩ := at_T61 HR0.out x13_1 p395 q395
     have hw395_3 := hx395_3
     have hw395_2 := hx395_2
     have hw395_1 := hx395_1
     have hw395_0 := hx395_0
     obtain rfl : ad393 = ad395 := (by injection e395)
     replace hx395_0 := hx_ HB hx395_0
     replace hx395_1 := hx_ HB hx395_1
     replace hx395_2 := hx_ HB hx395_2
     replace hx395_3 := hx_ HB hx395_3
     have HR395_2 := aM hi395_2
     have HC395_2 := aM hl395_2
     clear hi395_2 hl395_2
     have HR395_3 := aM hi395_3
     have HC395_3 := aM hl395_3
     clear hi395_3 hl395_3
     replace p395 := eq_true p395
     replace q395 := eq_true q395
     have ea_ := Option.some.inj (hx393_2.symm.trans hx395_2)
     injection ea_ with ea_ en_ ec_
     subst ea_
     subst ec_
     clear en_
     have ea_ := Option.some.inj (hx393_3.symm.trans hx395_3)
     injection ea_ with ea_ en_ ec_
     subst ea_
     subst ec_
     clear en_
     have p396 : 0 ≤ (x13_1 : Int) := od_
     have q396 : x13_1 < (l1.length : Int) := od_
     obtain ⟨ad396, A396_2, c396_2, A396_3, c396_3, e396, hx396_0, hx396_1, hx396_2, hx396_3, hl396_2, hi396_2, hl396_3, hi396_3⟩ := at_T61 HR1.out x13_1 p396 q396
     have hw396_3 := hx396_3
     have hw396_2 := hx396_2
     have hw396_1 := hx396_1
     have hw396_0 := hx396_0
     obtain rfl : ad394 = ad396 := (by injection e396)
     replace hx396_0 := hx_ HB hx396_0
     replace hx396_1 := hx_ HB hx396_1
     replace hx396_2 := hx_ HB hx396_2
     replace hx396_3 := hx_ HB hx396_3
     have HR396_2 := aM hi396_2
     have HC396_2 := aM hl396_2
     clear hi396_2 hl396_2
     have HR396_3 := aM hi396_3
     have HC396_3 := aM hl396_3
     clear hi396_3 hl396_3
     replace p396 := eq_true p396
     replace q396 := eq_true q396
     have ea_ := Option.some.inj (hx394_2.symm.trans hx396_2)
     injection ea_ with ea_ en_ ec_
     subst ea_
     subst ec_
     clear en_
     have ea_ := Option.some.inj (hx394_3.symm.trans hx396_3)
     injection ea_ with ea_ en_ ec_
     subst ea_
     subst ec_
     clear en_
     refine start_ (n := 25) (S := fun w' => w'.cell? (ad393.add ((x13_1).toNat * 4)) = some (.bool ((rd_T61 l0 x13_1).f0)) ∧ w'.cell? ⟨(ad393.add ((x13_1).toNat * 4)).block, (ad393.add ((x13_1).toNat * 4)).off + 1, none⟩ = some (.int .i64 ((rd_T61 l0 x13_1).f1.f0)) ∧ w'.cell? ⟨(ad393.add ((x13_1).toNat * 4)).block, (ad393.add ((x13_1).toNat * 4)).off + 2, none⟩ = some (.slice A393_2 ((rd_T61 l0 x13_1).f1.f1).length c393_2) ∧ w'.cell? ⟨(ad393.add ((x13_1).toNat * 4)).block, (ad393.add ((x13_1).toNat * 4)).off + 3, none⟩ = some (.slice A393_3 ((rd_T61 l0 x13_1).f1.f2).length c393_3) ∧ w'.cell? (ad394.add ((x13_1).toNat * 4)) = some (.bool ((rd_T61 l1 x13_1).f0)) ∧ w'.cell? ⟨(ad394.add ((x13_1).toNat * 4)).block, (ad394.add ((x13_1).toNat * 4)).off + 1, none⟩ = some (.int .i64 ((rd_T61 l1 x13_1).f1.f0)) ∧ w'.cell? ⟨(ad394.add ((x13_1).toNat * 4)).block, (ad394.add ((x13_1).toNat * 4)).off + 2, none⟩ = some (.slice A394_2 ((rd_T61 l1 x13_1).f1.f1).length c394_2) ∧ w'.cell? ⟨(ad394.add ((x13_1).toNat * 4)).block, (ad394.add ((x13_1).toNat * 4)).off + 3, none⟩ = some (.slice A394_3 ((rd_T61 l1 x13_1).f1.f2).length c394_3) ∧ w'.cell? (ad393.add ((x13_1).toNat * 4)) = some (.bool ((rd_T61 l0 x13_1).f0)) ∧ w'.cell? ⟨(ad393.add ((x13_1).toNat * 4)).block, (ad393.add ((x13_1).toNat * 4)).off + 1, none⟩ = some (.int .i64 ((rd_T61 l0 x13_1).f1.f0)) ∧ w'.cell? ⟨(ad393.add ((x13_1).toNat * 4)).block, (ad393.add ((x13_1).toNat * 4)).off + 2, none⟩ = some (.slice A393_2 ((rd_T61 l0 x13_1).f1.f1).length c393_2) ∧ w'.cell? ⟨(ad393.add ((x13_1).toNat * 4)).block, (ad393.add ((x13_1).toNat * 4)).off + 3, none⟩ = some (.slice A393_3 ((rd_T61 l0 x13_1).f1.f2).length c393_3) ∧ w'.cell? (ad394.add ((x13_1).toNat * 4)) = some (.bool ((rd_T61 l1 x13_1).f0)) ∧ w'.cell? ⟨(ad394.add ((x13_1).toNat * 4)).block, (ad394.add ((x13_1).toNat * 4)).off + 1, none⟩ = some (.int .i64 ((rd_T61 l1 x13_1).f1.f0)) ∧ w'.cell? ⟨(ad394.add ((x13_1).toNat * 4)).block, (ad394.add ((x13_1).toNat * 4)).off + 2, none⟩ = some (.slice A394_2 ((rd_T61 l1 x13_1).f1.f1).length c394_2) ∧ w'.cell? ⟨(ad394.add ((x13_1).toNat * 4)).block, (ad394.add ((x13_1).toNat * 4)).off + 3, none⟩ = some (.slice A394_3 ((rd_T61 l1 x13_1).f1.f2).length c394_3)) (ds := []) (tf 0 25) (by kernel_rfl) rfl rfl ⟨((HB.out.cell (World.block_lt_of_cell? w _ hw393_0)).trans hw393_0), ((HB.out.cell (World.block_lt_of_cell? w _ hw393_1)).trans hw393_1), ((HB.out.cell (World.block_lt_of_cell? w _ hw393_2)).trans hw393_2), ((HB.out.cell (World.block_lt_of_cell? w _ hw393_3)).trans hw393_3), ((HB.out.cell (World.block_lt_of_cell? w _ hw394_0)).trans hw394_0), ((HB.out.cell (World.block_lt_of_cell? w _ hw394_1)).trans hw394_1), ((HB.out.cell (World.block_lt_of_cell? w _ hw394_2)).trans hw394_2), ((HB.out.cell (World.block_lt_of_cell? w _ hw394_3)).trans hw394_3), ((HB.out.cell (World.block_lt_of_cell? w _ hw395_0)).trans hw395_0), ((HB.out.cell (World.block_lt_of_cell? w _ hw395_1)).trans hw395_1), ((HB.out.cell (World.block_lt_of_cell? w _ hw395_2)).trans hw395_2), ((HB.out.cell (World.block_lt_of_cell? w _ hw395_3)).trans hw395_3), ((HB.out.cell (World.block_lt_of_cell? w _ hw396_0)).trans hw396_0), ((HB.out.cell (World.block_lt_of_cell? w _ hw396_1)).trans hw396_1), ((HB.out.cell (World.block_lt_of_cell? w _ hw396_2)).trans hw396_2), ((HB.out.cell (World.block_lt_of_cell? w _ hw396_3)).trans hw396_3)⟩ (fun hHeld => ?_); refine with_tabW dragomanref11_SamePath.tab6 dragomanref11_SamePath.bits6 (fun HT_ HW_ => ?_)
     generalize wr.drew = w14 at HB HR393_2 HR393_3 HR394_2 HR394_3 HR395_2 HR395_3 HR396_2 HR396_3 hx393_0 hx393_1 hx393_2 hx393_3 hx394_0 hx394_1 hx394_2 hx394_3 hx395_0 hx395_1 hx395_2 hx395_3 hx396_0 hx396_1 hx396_2 hx396_3 hHeld ⊢
     refine pA_ 0 (some 16) ?_
     refine pA_ 1 (some 17) ?_
     refine pA_ 2 (some 18) ?_
     refine pA_ 3 (some 19) ?_
     refine pA_ 5 (some 21) ?_
     refine pA_ 6 (some 22) ?_
     refine pA_ 7 (some 23) ?_
     refine pA_ 8 (some 24) ?_
     refine pT_ 4 (some 20) hHeld ?_
     refine pT_ 9 (some 25) hHeld ?_
     refine pA_ 10 (some 26) ?_
     refine pA_ 11 (some 27) ?_
     refine pA_ 12 (some 28) ?_
     refine pA_ 13 (some 29) ?_
     refine pA_ 14 (some 30) ?_
     refine pA_ 15 (some 31) ?_
     refine pA_ 17 (some 33) ?_
     refine pA_ 18 (some 34) ?_
     refine pA_ 19 (some 35) ?_
     refine pA_ 20 (some 36) ?_
     refine pT_ 16 (some 32) hHeld ?_
     refine pT_ 21 (some 37) hHeld ?_
     refine pO_ 22 (some 38) (fun K hK => ?_)
     refine gO_ Try.func21 #[.agg #[.int .i64 ((rd_T61 l0 x13_1).f1.f0), .slice A393_2 ((rd_T61 l0 x13_1).f1.f1).length c393_2, .slice A393_3 ((rd_T61 l0 x13_1).f1.f2).length c393_3], .agg #[.int .i64 ((rd_T61 l1 x13_1).f1.f0), .slice A394_2 ((rd_T61 l1 x13_1).f1.f1).length c394_2, .slice A394_3 ((rd_T61 l1 x13_1).f1.f2).length c394_3]] rfl rfl ?_
     with_reducible refine (r5_Same.calls k1 ((rd_T61 l0 x13_1).f1.f0) _ _ ((rd_T61 l0 x13_1).f1.f1) _ _ ((rd_T61 l0 x13_1).f1.f2) ((rd_T61 l1 x13_1).f1.f0) _ _ ((rd_T61 l1 x13_1).f1.f1) _ _ ((rd_T61 l1 x13_1).f1.f2) false _ ?side1 ?side2 ?side3 ?side4 ?side5 ?side6 ?side7 ?side8 A10.out).mono ?_
     (case side1 => exact cB_ HR395_2 HB)
     (case side2 => exact HC395_2.out)
     (case side3 => exact cB_ HR395_3 HB)
     (case side4 => exact HC395_3.out)
     (case side5 => exact cB_ HR396_2 HB)
     (case side6 => exact HC396_2.out)
     (case side7 => exact cB_ HR396_3 HB)
     (case side8 => exact HC396_3.out)
     rintro e w15 ⟨rfl, hb⟩
     refine ⟨_, rfl, ?_⟩
     replace HB := bs_ HB hb
     (try clear hb)
     (try clear hb2)
     (try clear hk)
     (try clear hi)
     refine hK.out _ _ ⟨((HB.out.cell (World.block_lt_of_cell? w _ hw393_0)).trans hw393_0), ((HB.out.cell (World.block_lt_of_cell? w _ hw393_1)).trans hw393_1), ((HB.out.cell (World.block_lt_of_cell? w _ hw393_2)).trans hw393_2), ((HB.out.cell (World.block_lt_of_cell? w _ hw393_3)).trans hw393_3), ((HB.out.cell (World.block_lt_of_cell? w _ hw394_0)).trans hw394_0), ((HB.out.cell (World.block_lt_of_cell? w _ hw394_1)).trans hw394_1), ((HB.out.cell (World.block_lt_of_cell? w _ hw394_2)).trans hw394_2), ((HB.out.cell (World.block_lt_of_cell? w _ hw394_3)).trans hw394_3), ((HB.out.cell (World.block_lt_of_cell? w _ hw395_0)).trans hw395_0), ((HB.out.cell (World.block_lt_of_cell? w _ hw395_1)).trans hw395_1), ((HB.out.cell (World.block_lt_of_cell? w _ hw395_2)).trans hw395_2), ((HB.out.cell (World.block_lt_of_cell? w _ hw395_3)).trans hw395_3), ((HB.out.cell (World.block_lt_of_cell? w _ hw396_0)).trans hw396_0), ((HB.out.cell (World.block_lt_of_cell? w _ hw396_1)).trans hw396_1), ((HB.out.cell (World.block_lt_of_cell? w _ hw396_2)).trans hw396_2), ((HB.out.cell (World.block_lt_of_cell? w _ hw396_3)).trans hw396_3)⟩ (fun hHeld => ?_)
     clear hK K
     refine nO_ (some 38) ?_
     refine pA_ 23 (some 39) ?_
     refine pA_ 24 (some 40) ?_
     refine done_ (done_of HT_.out (by kernel_rfl)) ?_
     try go_wp2
     first | go_ret | refine ⟨_, results_tmp rfl _ _ _, ?_⟩
     exact fin_ HB
   subst c11
   rw [if_pos rfl] at H
   have H' := aM H
   clear H
   try go_wp2
   replace HB := aM (below_drew1 HB.out)
   have p393 : 0 ≤ (x13_1 : Int) := od_
   have q393 : x13_1 < (l0.length : Int) := od_
   obtain ⟨ad393, A393_2, c393_2, A393_3, c393_3, e393, hx393_0, hx393_1, hx393_2, hx393_3, hl393_2, hi393_2, hl393_3, hi393_3⟩ := at_T61 HR0.out x13_1 p393 q393
   have hw393_3 := hx393_3
   have hw393_2 := hx393_2
   have hw393_1 := hx393_1
   have hw393_0 := hx393_0
   cases e393
   replace hx393_0 := hx_ HB hx393_0
   replace hx393_1 := hx_ HB hx393_1
   replace hx393_2 := hx_ HB hx393_2
   replace hx393_3 := hx_ HB hx393_3
   have HR393_2 := aM hi393_2
   have HC393_2 := aM hl393_2
   clear hi393_2 hl393_2
   have HR393_3 := aM hi393_3
   have HC393_3 := aM hl393_3
   clear hi393_3 hl393_3
   replace p393 := eq_true p393
   replace q393 := eq_true q393
   have p394 : 0 ≤ (x13_1 : Int) := od_
   have q394 : x13_1 < (l1.length : Int) := od_
   obtain ⟨ad394, A394_2, c394_2, A394_3, c394_3, e394, hx394_0, hx394_1, hx394_2, hx394_3, hl394_2, hi394_2, hl394_3, hi394_3⟩ := at_T61 HR1.out x13_1 p394 q394
   have hw394_3 := hx394_3
   have hw394_2 := hx394_2
   have hw394_1 := hx394_1
   have hw394_0 := hx394_0
   cases e394
   replace hx394_0 := hx_ HB hx394_0
   replace hx394_1 := hx_ HB hx394_1
   replace hx394_2 := hx_ HB hx394_2
   replace hx394_3 := hx_ HB hx394_3
   have HR394_2 := aM hi394_2
   have HC394_2 := aM hl394_2
   clear hi394_2 hl394_2
   have HR394_3 := aM hi394_3
   have HC394_3 := aM hl394_3
   clear hi394_3 hl394_3
   replace p394 := eq_true p394
   replace q394 := eq_true q394
   have p395 : 0 ≤ (x13_1 : Int) := od_
   have q395 : x13_1 < (l0.length : Int) := od_
   obtain ⟨ad395, A395_2, c395_2, A395_3, c395_3, e395, hx395_0, hx395_1, hx395_2, hx395_3, hl395_2, hi395_2, hl395_3, hi395_3⟩ := at_T61 HR0.out x13_1 p395 q395
   have hw395_3 := hx395_3
   have hw395_2 := hx395_2
   have hw395_1 := hx395_1
   have hw395_0 := hx395_0
   obtain rfl : ad393 = ad395 := (by injection e395)
   replace hx395_0 := hx_ HB hx395_0
   replace hx395_1 := hx_ HB hx395_1
   replace hx395_2 := hx_ HB hx395_2
   replace hx395_3 := hx_ HB hx395_3
   have HR395_2 := aM hi395_2
   have HC395_2 := aM hl395_2
   clear hi395_2 hl395_2
   have HR395_3 := aM hi395_3
   have HC395_3 := aM hl395_3
   clear hi395_3 hl395_3
   replace p395 := eq_true p395
   replace q395 := eq_true q395
   have ea_ := Option.some.inj (hx393_2.symm.trans hx395_2)
   injection ea_ with ea_ en_ ec_
   subst ea_
   subst ec_
   clear en_
   have ea_ := Option.some.inj (hx393_3.symm.trans hx395_3)
   injection ea_ with ea_ en_ ec_
   subst ea_
   subst ec_
   clear en_
   have p396 : 0 ≤ (x13_1 : Int) := od_
   have q396 : x13_1 < (l1.length : Int) := od_
   obtain ⟨ad396, A396_2, c396_2, A396_3, c396_3, e396, hx396_0, hx396_1, hx396_2, hx396_3, hl396_2, hi396_2, hl396_3, hi396_3⟩ := at_T61 HR1.out x13_1 p396 q396
   have hw396_3 := hx396_3
   have hw396_2 := hx396_2
   have hw396_1 := hx396_1
   have hw396_0 := hx396_0
   obtain rfl : ad394 = ad396 := (by injection e396)
   replace hx396_0 := hx_ HB hx396_0
   replace hx396_1 := hx_ HB hx396_1
   replace hx396_2 := hx_ HB hx396_2
   replace hx396_3 := hx_ HB hx396_3
   have HR396_2 := aM hi396_2
   have HC396_2 := aM hl396_2
   clear hi396_2 hl396_2
   have HR396_3 := aM hi396_3
   have HC396_3 := aM hl396_3
   clear hi396_3 hl396_3
   replace p396 := eq_true p396
   replace q396 := eq_true q396
   have ea_ := Option.some.inj (hx394_2.symm.trans hx396_2)
   injection ea_ with ea_ en_ ec_
   subst ea_
   subst ec_
   clear en_
   have ea_ := Option.some.inj (hx394_3.symm.trans hx396_3)
   injection ea_ with ea_ en_ ec_
   subst ea_
   subst ec_
   clear en_
   refine start_ (n := 25) (S := fun w' => w'.cell? (ad393.add ((x13_1).toNat * 4)) = some (.bool ((rd_T61 l0 x13_1).f0)) ∧ w'.cell? ⟨(ad393.add ((x13_1).toNat * 4)).block, (ad393.add ((x13_1).toNat * 4)).off + 1, none⟩ = some (.int .i64 ((rd_T61 l0 x13_1).f1.f0)) ∧ w'.cell? ⟨(ad393.add ((x13_1).toNat * 4)).block, (ad393.add ((x13_1).toNat * 4)).off + 2, none⟩ = some (.slice A393_2 ((rd_T61 l0 x13_1).f1.f1).length c393_2) ∧ w'.cell? ⟨(ad393.add ((x13_1).toNat * 4)).block, (ad393.add ((x13_1).toNat * 4)).off + 3, none⟩ = some (.slice A393_3 ((rd_T61 l0 x13_1).f1.f2).length c393_3) ∧ w'.cell? (ad394.add ((x13_1).toNat * 4)) = some (.bool ((rd_T61 l1 x13_1).f0)) ∧ w'.cell? ⟨(ad394.add ((x13_1).toNat * 4)).block, (ad394.add ((x13_1).toNat * 4)).off + 1, none⟩ = some (.int .i64 ((rd_T61 l1 x13_1).f1.f0)) ∧ w'.cell? ⟨(ad394.add ((x13_1).toNat * 4)).block, (ad394.add ((x13_1).toNat * 4)).off + 2, none⟩ = some (.slice A394_2 ((rd_T61 l1 x13_1).f1.f1).length c394_2) ∧ w'.cell? ⟨(ad394.add ((x13_1).toNat * 4)).block, (ad394.add ((x13_1).toNat * 4)).off + 3, none⟩ = some (.slice A394_3 ((rd_T61 l1 x13_1).f1.f2).length c394_3) ∧ w'.cell? (ad393.add ((x13_1).toNat * 4)) = some (.bool ((rd_T61 l0 x13_1).f0)) ∧ w'.cell? ⟨(ad393.add ((x13_1).toNat * 4)).block, (ad393.add ((x13_1).toNat * 4)).off + 1, none⟩ = some (.int .i64 ((rd_T61 l0 x13_1).f1.f0)) ∧ w'.cell? ⟨(ad393.add ((x13_1).toNat * 4)).block, (ad393.add ((x13_1).toNat * 4)).off + 2, none⟩ = some (.slice A393_2 ((rd_T61 l0 x13_1).f1.f1).length c393_2) ∧ w'.cell? ⟨(ad393.add ((x13_1).toNat * 4)).block, (ad393.add ((x13_1).toNat * 4)).off + 3, none⟩ = some (.slice A393_3 ((rd_T61 l0 x13_1).f1.f2).length c393_3) ∧ w'.cell? (ad394.add ((x13_1).toNat * 4)) = some (.bool ((rd_T61 l1 x13_1).f0)) ∧ w'.cell? ⟨(ad394.add ((x13_1).toNat * 4)).block, (ad394.add ((x13_1).toNat * 4)).off + 1, none⟩ = some (.int .i64 ((rd_T61 l1 x13_1).f1.f0)) ∧ w'.cell? ⟨(ad394.add ((x13_1).toNat * 4)).block, (ad394.add ((x13_1).toNat * 4)).off + 2, none⟩ = some (.slice A394_2 ((rd_T61 l1 x13_1).f1.f1).length c394_2) ∧ w'.cell? ⟨(ad394.add ((x13_1).toNat * 4)).block, (ad394.add ((x13_1).toNat * 4)).off + 3, none⟩ = some (.slice A394_3 ((rd_T61 l1 x13_1).f1.f2).length c394_3)) (ds := []) (tf 0 25) (by kernel_rfl) rfl rfl ⟨((HB.out.cell (World.block_lt_of_cell? w _ hw393_0)).trans hw393_0), ((HB.out.cell (World.block_lt_of_cell? w _ hw393_1)).trans hw393_1), ((HB.out.cell (World.block_lt_of_cell? w _ hw393_2)).trans hw393_2), ((HB.out.cell (World.block_lt_of_cell? w _ hw393_3)).trans hw393_3), ((HB.out.cell (World.block_lt_of_cell? w _ hw394_0)).trans hw394_0), ((HB.out.cell (World.block_lt_of_cell? w _ hw394_1)).trans hw394_1), ((HB.out.cell (World.block_lt_of_cell? w _ hw394_2)).trans hw394_2), ((HB.out.cell (World.block_lt_of_cell? w _ hw394_3)).trans hw394_3), ((HB.out.cell (World.block_lt_of_cell? w _ hw395_0)).trans hw395_0), ((HB.out.cell (World.block_lt_of_cell? w _ hw395_1)).trans hw395_1), ((HB.out.cell (World.block_lt_of_cell? w _ hw395_2)).trans hw395_2), ((HB.out.cell (World.block_lt_of_cell? w _ hw395_3)).trans hw395_3), ((HB.out.cell (World.block_lt_of_cell? w _ hw396_0)).trans hw396_0), ((HB.out.cell (World.block_lt_of_cell? w _ hw396_1)).trans hw396_1), ((HB.out.cell (World.block_lt_of_cell? w _ hw396_2)).trans hw396_2), ((HB.out.cell (World.block_lt_of_cell? w _ hw396_3)).trans hw396_3)⟩ (fun hHeld => ?_); refine with_tabW dragomanref11_SamePath.tab6 dragomanref11_SamePath.bits6 (fun HT_ HW_ => ?_)
   generalize wr.drew = w12 at HB HR393_2 HR393_3 HR394_2 HR394_3 HR395_2 HR395_3 HR396_2 HR396_3 hx393_0 hx393_1 hx393_2 hx393_3 hx394_0 hx394_1 hx394_2 hx394_3 hx395_0 hx395_1 hx395_2 hx395_3 hx396_0 hx396_1 hx396_2 hx396_3 hHeld ⊢
   refine pA_ 0 (some 16) ?_
   refine pA_ 1 (some 17) ?_
   refine pA_ 2 (some 18) ?_
   refine pA_ 3 (some 19) ?_
   refine pA_ 5 (some 21) ?_
   refine pA_ 6 (some 22) ?_
   refine pA_ 7 (some 23) ?_
   refine pA_ 8 (some 24) ?_
   refine pT_ 4 (some 20) hHeld ?_
   refine pT_ 9 (some 25) hHeld ?_
   refine pA_ 10 (some 26) ?_
   refine pA_ 11 (some 27) ?_
   refine pA_ 12 (some 28) ?_
   refine pA_ 13 (some 29) ?_
   refine pA_ 14 (some 30) ?_
   refine pA_ 15 (some 31) ?_
   refine pA_ 17 (some 33) ?_
   refine pA_ 18 (some 34) ?_
   refine pA_ 19 (some 35) ?_
   refine pA_ 20 (some 36) ?_
   refine pT_ 16 (some 32) hHeld ?_
   refine pT_ 21 (some 37) hHeld ?_
   refine pO_ 22 (some 38) (fun K hK => ?_)
   refine gO_ Try.func21 #[.agg #[.int .i64 ((rd_T61 l0 x13_1).f1.f0), .slice A393_2 ((rd_T61 l0 x13_1).f1.f1).length c393_2, .slice A393_3 ((rd_T61 l0 x13_1).f1.f2).length c393_3], .agg #[.int .i64 ((rd_T61 l1 x13_1).f1.f0), .slice A394_2 ((rd_T61 l1 x13_1).f1.f1).length c394_2, .slice A394_3 ((rd_T61 l1 x13_1).f1.f2).length c394_3]] rfl rfl ?_
   with_reducible refine (r5_Same.calls k1 ((rd_T61 l0 x13_1).f1.f0) _ _ ((rd_T61 l0 x13_1).f1.f1) _ _ ((rd_T61 l0 x13_1).f1.f2) ((rd_T61 l1 x13_1).f1.f0) _ _ ((rd_T61 l1 x13_1).f1.f1) _ _ ((rd_T61 l1 x13_1).f1.f2) true _ ?side1 ?side2 ?side3 ?side4 ?side5 ?side6 ?side7 ?side8 A10.out).mono ?_
   (case side1 => exact cB_ HR395_2 HB)
   (case side2 => exact HC395_2.out)
   (case side3 => exact cB_ HR395_3 HB)
   (case side4 => exact HC395_3.out)
   (case side5 => exact cB_ HR396_2 HB)
   (case side6 => exact HC396_2.out)
   (case side7 => exact cB_ HR396_3 HB)
   (case side8 => exact HC396_3.out)
   rintro e w13 ⟨rfl, hb⟩
   refine ⟨_, rfl, ?_⟩
   replace HB := bs_ HB hb
   (try clear hb)
   (try clear hb2)
   (try clear hk)
   (try clear hi)
   refine hK.out _ _ ⟨((HB.out.cell (World.block_lt_of_cell? w _ hw393_0)).trans hw393_0), ((HB.out.cell (World.block_lt_of_cell? w _ hw393_1)).trans hw393_1), ((HB.out.cell (World.block_lt_of_cell? w _ hw393_2)).trans hw393_2), ((HB.out.cell (World.block_lt_of_cell? w _ hw393_3)).trans hw393_3), ((HB.out.cell (World.block_lt_of_cell? w _ hw394_0)).trans hw394_0), ((HB.out.cell (World.block_lt_of_cell? w _ hw394_1)).trans hw394_1), ((HB.out.cell (World.block_lt_of_cell? w _ hw394_2)).trans hw394_2), ((HB.out.cell (World.block_lt_of_cell? w _ hw394_3)).trans hw394_3), ((HB.out.cell (World.block_lt_of_cell? w _ hw395_0)).trans hw395_0), ((HB.out.cell (World.block_lt_of_cell? w _ hw395_1)).trans hw395_1), ((HB.out.cell (World.block_lt_of_cell? w _ hw395_2)).trans hw395_2), ((HB.out.cell (World.block_lt_of_cell? w _ hw395_3)).trans hw395_3), ((HB.out.cell (World.block_lt_of_cell? w _ hw396_0)).trans hw396_0), ((HB.out.cell (World.block_lt_of_cell? w _ hw396_1)).trans hw396_1), ((HB.out.cell (World.block_lt_of_cell? w _ hw396_2)).trans hw396_2), ((HB.out.cell (World.block_lt_of_cell? w _ hw396_3)).trans hw396_3)⟩ (fun hHeld => ?_)
   clear hK K
   refine nO_ (some 38) ?_
   refine pA_ 23 (some 39) ?_
   refine pA_ 24 (some 40) ?_
   refine done_ (done_of HT_.out (by kernel_rfl)) ?_
   try go_wp2
   go_roundg k1
   case measure => have := HK1.out; omega
   case rel => exact ⟨(wrap64 (x13_1 + 1)), rf_, H', ⟨by have := HK1.out; omega⟩, ⟨bw_ HB.out⟩⟩
end Go.Proofs.Ytlkjfjlmjgkheaa.H
