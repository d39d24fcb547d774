import Derived.Test.YtlkjfjlmjgkheaaHx0
import Derived.Test.YtlkjfjlmjgkheaaHx11
namespace Go.Proofs.Ytlkjfjlmjgkheaa.H
open Go.RowKit Go.Proofs.YtlkjfjlmjgkheaaW.PrintWords Go.Proofs.YtlkjfjlmjgkheaaW.PrintLast Go.Proofs.YtlkjfjlmjgkheaaW.PrintMore
attribute [local go_sem] max2_int min2_int max_two min_two max_three min_three max_four min_four
set_option linter.unusedVariables false
set_option linter.unusedSimpArgs false
theorem read_zero : FloatKind.f64.format.read 0 = .number false 0 (-1074) := by decide
theorem word_pos (f : Ieee.Format) (x : Nat) : f.word false x = x := rfl
theorem cut_zero (neg : Bool) (n : Nat) : Ieee.Toward.even.cut neg n 0 = n := by
 simp [Ieee.Toward.cut, Nat.mod_one]
theorem order_sign (s : Bool) (mag : Nat) (place : Int) (hm : 0 < mag) (hp : -1074 ≤ place) :
 FloatKind.f64.format.order (FloatKind.f64.format.nearest s mag place) 0 = some (if s then .lt else .gt) := by
 obtain ⟨rung, hr, h0, h1⟩ : ∃ rung, FloatKind.f64.format.nearest s mag place = FloatKind.f64.format.word s rung ∧ 0 < rung ∧ rung ≤ 9218868437227405312 := by
  unfold Ieee.Format.nearest
  rw [if_neg (by omega)]
  refine ⟨_, rfl, ?_, Nat.min_le_right _ _⟩
  have hlp : FloatKind.f64.format.leastPlace = -1074 := by decide
  have hb : FloatKind.f64.format.binade = 4503599627370496 := by decide
  have hi : FloatKind.f64.format.infRung = 9218868437227405312 := by decide
  rw [hlp, hb, hi]
  generalize place + mag.log2 - FloatKind.f64.format.fractionBits = last
  by_cases c : last ≤ -1074
  · rw [show max last (-1074) = (-1074 : Int) by omega]
    rw [show ((-1074 : Int) - place).toNat = 0 by omega, cut_zero]
    have : 0 < mag <<< (place - -1074).toNat := by
     rw [Nat.shiftLeft_eq]
     exact Nat.mul_pos hm (Nat.pow_pos (by omega))
    omega
  · rw [show max last (-1074) = last by omega]
    have : 1 ≤ (last - -1074).toNat := by omega
    have : 1 * 4503599627370496 ≤ (last - -1074).toNat * 4503599627370496 := Nat.mul_le_mul_right _ this
    omega
 rw [hr]
 unfold Ieee.Format.order
 rw [read_zero]
 have hw : FloatKind.f64.format.signWeight = 9223372036854775808 := by decide
 have hb : FloatKind.f64.format.binade = 4503599627370496 := by decide
 have hi : FloatKind.f64.format.infRung = 9218868437227405312 := by decide
 unfold Ieee.Format.read
 simp only [hw, hb, hi]
 have e1 : FloatKind.f64.format.word s rung % 9223372036854775808 = rung := by
  cases s <;> simp [Ieee.Format.word, hw] <;> omega
 have e2 : (FloatKind.f64.format.word s rung / 9223372036854775808 % 2 == 1) = s := by
  cases s
  · rw [word_pos, show rung / 9223372036854775808 = 0 by omega]; rfl
  · rw [show FloatKind.f64.format.word true rung = 9223372036854775808 + rung by simp [Ieee.Format.word, hw], show (9223372036854775808 + rung) / 9223372036854775808 = 1 by omega]; rfl
 rw [e1, e2]
 have key : ∀ (m : Nat) (i : Int), 0 < m → (Ieee.Datum.number s m i).order (.number false 0 (-1074)) = some (if s then .lt else .gt) := by
  intro m i hm
  simp only [Ieee.Datum.order, Ieee.signed]
  have : 0 < m <<< (i - min i (-1074)).toNat := by
   rw [Nat.shiftLeft_eq]
   exact Nat.mul_pos hm (Nat.pow_pos (by omega))
  generalize m <<< (i - min i (-1074)).toNat = M at this
  cases s
  · simp only [Bool.false_eq_true, if_false, Nat.zero_shiftLeft, Option.some.injEq]
    exact Int.compare_eq_gt.2 (by omega)
  · simp only [if_true, Bool.false_eq_true, if_false, Nat.zero_shiftLeft, Option.some.injEq]
    exact Int.compare_eq_lt.2 (by omega)
 by_cases c : rung < 4503599627370496
 · rw [if_pos c]; exact key _ _ h0
 · rw [if_neg c]
   by_cases d : rung < 9218868437227405312
   · rw [if_pos d]; exact key _ _ (by omega)
   · rw [if_neg d, if_pos (by omega)]
     rfl
theorem read_zero_case (n : Nat) (h : n = 0) (p : Int → Nat) (q : Nat) : ∃ m e, FloatKind.f64.format.read (floatOfInt .f64 (n : Int)) = .number false m e ∧ -1074 ≤ e ∧ e ≤ 0 ∧ m * p e = n * q := by
 subst h
 exact ⟨0, -1074, by decide, by omega, by omega, by rw [Nat.zero_mul, Nat.zero_mul]⟩
theorem read_nat (n : Nat) (hn : n < 65536) : ∃ m e, FloatKind.f64.format.read (floatOfInt .f64 (n : Int)) = .number false m e ∧ -1074 ≤ e ∧ e ≤ 0 ∧ m * 2 ^ (e + 1074).toNat = n * 2 ^ 1074 := by
 by_cases h0 : n = 0
 · exact read_zero_case n h0 (fun e => 2 ^ (e + 1074).toNat) _
 · have hL := (Nat.log2_eq_iff h0 (k := n.log2)).1 rfl
   generalize hk : n.log2 = L at hL
   have hL16 : L < 16 := by
    apply Nat.lt_of_not_le
    intro h
    have : 2 ^ 16 ≤ 2 ^ L := Nat.pow_le_pow_right (by omega) h
    omega
   have hlp : FloatKind.f64.format.leastPlace = -1074 := by decide
   have hb : FloatKind.f64.format.binade = 4503599627370496 := by decide
   have hi : FloatKind.f64.format.infRung = 9218868437227405312 := by decide
   have hw : FloatKind.f64.format.signWeight = 9223372036854775808 := by decide
   have hf : FloatKind.f64.format.fractionBits = 52 := by decide
   refine ⟨n * 2 ^ (52 - L), (L : Int) - 52, ?_, by omega, by omega, ?_⟩
   · show FloatKind.f64.format.read (FloatKind.f64.format.nearest (decide ((n : Int) < 0)) (n : Int).natAbs 0) = _
     rw [decide_eq_false (by omega), Int.natAbs_natCast]
     unfold Ieee.Format.nearest
     rw [if_neg h0, hk, hlp, hb, hi, hf, show max ((0 : Int) + (L : Int) - (52 : Nat)) (-1074) = (L : Int) - 52 by omega]
     dsimp only
     rw [show ((L : Int) - 52 - 0).toNat = 0 by omega, cut_zero, show ((0 : Int) - ((L : Int) - 52)).toNat = 52 - L by omega, Nat.shiftLeft_eq, show ((L : Int) - 52 - -1074).toNat = L + 1022 by omega]
     have hM : 4503599627370496 ≤ n * 2 ^ (52 - L) ∧ n * 2 ^ (52 - L) < 9007199254740992 := by
      have e : 2 ^ L * 2 ^ (52 - L) = 4503599627370496 := by rw [← Nat.pow_add, show L + (52 - L) = 52 by omega]
      have e' : 2 ^ (L + 1) * 2 ^ (52 - L) = 9007199254740992 := by rw [← Nat.pow_add, show L + 1 + (52 - L) = 53 by omega]
      have p : 0 < 2 ^ (52 - L) := Nat.pow_pos (by omega)
      constructor
      · rw [← e]; exact Nat.mul_le_mul_right _ hL.1
      · rw [← e']; exact (Nat.mul_lt_mul_right p).2 hL.2
     generalize n * 2 ^ (52 - L) = M at hM
     obtain ⟨X, hX, x1, x2, x3⟩ : ∃ X, X = (L + 1022) * 4503599627370496 ∧ X % 4503599627370496 = 0 ∧ X / 4503599627370496 = L + 1022 ∧ X ≤ 4670232813583204352 := by
      refine ⟨_, rfl, Nat.mul_mod_left _ _, Nat.mul_div_cancel _ (by decide), ?_⟩
      have : (L + 1022) * 4503599627370496 ≤ 1037 * 4503599627370496 := Nat.mul_le_mul_right _ (by omega)
      exact this
     rw [← hX]
     have y0 : 4503599627370496 ≤ X + M ∧ X + M < 9218868437227405312 := by omega
     have y1 : (X + M) % 4503599627370496 = M - 4503599627370496 := by omega
     have y2 : (X + M) / 4503599627370496 = L + 1023 := by omega
     clear hX x1 x2 x3
     generalize X + M = R at y0 y1 y2
     rw [Nat.min_eq_left (by omega), word_pos]
     unfold Ieee.Format.read
     simp only [hw, hb, hi, hlp]
     rw [show R % 9223372036854775808 = R by omega, show R / 9223372036854775808 = 0 by omega, if_neg (by omega), if_pos (by omega), y1, y2]
     rw [show 4503599627370496 + (M - 4503599627370496) = M by omega, show (-1074 : Int) + ((L + 1023 - 1 : Nat) : Int) = (L : Int) - 52 by omega]
     rfl
   · rw [Nat.mul_assoc, ← Nat.pow_add, show 52 - L + ((L : Int) - 52 + 1074).toNat = 1074 by omega]
theorem sub_sign (a b : Nat) (ha : a < 65536) (hb : b < 65536) : ∃ r, floatBits .sub .f64 (floatOfInt .f64 (a : Int)) (floatOfInt .f64 (b : Int)) = some r ∧ (FloatKind.f64.format.order r 0 == some .gt || FloatKind.f64.format.order r 0 == some .eq) = decide (b ≤ a) := by
 obtain ⟨m, i, hr, hi, hi0, hm⟩ := read_nat a ha
 obtain ⟨n, j, hr', hj, hj0, hn⟩ := read_nat b hb
 show ∃ r, FloatKind.f64.format.sub _ _ = some r ∧ _
 unfold Ieee.Format.sub
 rw [hr, hr']
 simp only [Ieee.Datum.opposite, Ieee.Datum.sum, Bool.not_false, Option.map_some]
 refine ⟨_, rfl, ?_⟩
 have e1 : (m <<< (i - min i j).toNat) * 2 ^ (min i j + 1074).toNat = a * 2 ^ 1074 := by
  rw [Nat.shiftLeft_eq, Nat.mul_assoc, ← Nat.pow_add, ← hm, show (i - min i j).toNat + (min i j + 1074).toNat = (i + 1074).toNat by omega]
 have e2 : (n <<< (j - min i j).toNat) * 2 ^ (min i j + 1074).toNat = b * 2 ^ 1074 := by
  rw [Nat.shiftLeft_eq, Nat.mul_assoc, ← Nat.pow_add, ← hn, show (j - min i j).toNat + (min i j + 1074).toNat = (j + 1074).toNat by omega]
 have hbase : -1074 ≤ min i j := by omega
 simp only [Ieee.signed, Bool.false_eq_true, if_false, if_true]
 generalize m <<< (i - min i j).toNat = M at e1
 generalize n <<< (j - min i j).toNat = N at e2
 have p1 : 0 < 2 ^ (min i j + 1074).toNat := Nat.pow_pos (by omega)
 have p2 : 0 < 2 ^ 1074 := Nat.two_pow_pos 1074
 have cmp : (N ≤ M ↔ b ≤ a) ∧ (M = N ↔ a = b) := by
  constructor
  · constructor
    · intro h
      have := Nat.mul_le_mul_right (2 ^ (min i j + 1074).toNat) h
      rw [e1, e2] at this
      exact Nat.le_of_mul_le_mul_right this p2
    · intro h
      have := Nat.mul_le_mul_right (2 ^ 1074) h
      rw [← e1, ← e2] at this
      exact Nat.le_of_mul_le_mul_right this p1
  · constructor
    · intro h
      rw [h, e2] at e1
      exact (Nat.eq_of_mul_eq_mul_right p2 e1).symm
    · intro h
      rw [h, ← e2] at e1
      exact Nat.eq_of_mul_eq_mul_right p1 e1
 clear e1 e2
 by_cases hz : M = N
 · have : b ≤ a := cmp.1.1 (by omega)
   rw [decide_eq_true this, if_pos (by omega), show ((M : Int) + -(N : Int)).natAbs = 0 by omega]
   show (FloatKind.f64.format.order (FloatKind.f64.format.nearest (false && true) 0 (min i j)) 0 == some .gt || FloatKind.f64.format.order (FloatKind.f64.format.nearest (false && true) 0 (min i j)) 0 == some .eq) = true
   rw [show FloatKind.f64.format.nearest (false && true) 0 (min i j) = 0 from rfl]
   decide
 · rw [if_neg (by omega)]
   show (FloatKind.f64.format.order (FloatKind.f64.format.nearest _ _ _) 0 == some .gt || FloatKind.f64.format.order (FloatKind.f64.format.nearest _ _ _) 0 == some .eq) = _
   rw [order_sign _ _ _ (by omega) hbase]
   by_cases h : b ≤ a
   · have := cmp.1.2 h
     rw [decide_eq_true h, decide_eq_false (by omega)]
     rfl
   · have : ¬ N ≤ M := fun h' => h (cmp.1.1 h')
     rw [decide_eq_false h, decide_eq_true (by omega)]
     rfl
def inBox (lo hi c : Int) : Bool := decide (lo / 65536 ≤ c / 65536) && (decide (lo % 65536 ≤ c % 65536) && (decide (c / 65536 ≤ hi / 65536) && decide (c % 65536 ≤ hi % 65536)))
theorem sub_signI (a b : Int) (ha : 0 ≤ a) (ha' : a < 65536) (hb : 0 ≤ b) (hb' : b < 65536) : ∃ r, floatBits .sub .f64 (floatOfInt .f64 a) (floatOfInt .f64 b) = some r ∧ (FloatKind.f64.format.order r 0 == some .gt || FloatKind.f64.format.order r 0 == some .eq) = decide (b ≤ a) := by
 obtain ⟨n, rfl⟩ := Int.eq_ofNat_of_zero_le ha
 obtain ⟨m, rfl⟩ := Int.eq_ofNat_of_zero_le hb
 obtain ⟨r, h, h'⟩ := sub_sign n m (by omega) (by omega)
 refine ⟨r, h, h'.trans ?_⟩
 by_cases c : m ≤ n
 · rw [decide_eq_true c, decide_eq_true (by omega)]
 · rw [decide_eq_false c, decide_eq_false (by omega)]
set_option maxHeartbeats 4000000 in
set_option maxRecDepth 100000 in
theorem within_calls (z1 z2 l1 l2 h1 h2 r1 r2 r3 r4 : Nat) (b1 b2 b3 b4 : Bool) (e1 : floatBits .sub .f64 z1 l1 = some r1) (e2 : floatBits .sub .f64 z2 l2 = some r2) (e3 : floatBits .sub .f64 h1 z1 = some r3) (e4 : floatBits .sub .f64 h2 z2 = some r4)
 (g1 : (FloatKind.f64.format.order r1 0 == some .gt || FloatKind.f64.format.order r1 0 == some .eq) = b1) (g2 : (FloatKind.f64.format.order r2 0 == some .gt || FloatKind.f64.format.order r2 0 == some .eq) = b2) (g3 : (FloatKind.f64.format.order r3 0 == some .gt || FloatKind.f64.format.order r3 0 == some .eq) = b3) (g4 : (FloatKind.f64.format.order r4 0 == some .gt || FloatKind.f64.format.order r4 0 == some .eq) = b4) (w : World) :
 Calls Try.prog 106 #[.complex .f64 z1 z2, .complex .f64 l1 l2, .complex .f64 h1 h2] w fun e w' => e = .returned (.bool (b1 && (b2 && (b3 && b4)))) ∧ w' = w := by
 have hop1 := fun t w => run_complex_sum (P := Try.prog) w .sub (Or.inr rfl) t .f64 z1 z2 l1 l2 r1 r2 (by simp [cSumBits, e1, e2])
 have hop2 := fun t w => run_complex_sum (P := Try.prog) w .sub (Or.inr rfl) t .f64 h1 h2 z1 z2 r3 r4 (by simp [cSumBits, e3, e4])
 clear e1 e2 e3 e4
 cases b1 <;> cases b2 <;> cases b3 <;> cases b4
 all_goals
  go_enter Try.func106, Try.ntmps106
  go_wp2_with (simp only [hop1, hop2])
  all_goals (go_ret; exact ⟨rfl, rfl⟩)
def plane_within.f (z lo hi : Int) : Option Bool := if (0 ≤ lo ∧ lo < 4294967296) ∧ (0 ≤ hi ∧ hi < 4294967296) ∧ (0 ≤ z ∧ z < 4294967296) then some (inBox lo hi z) else none
theorem plane_within.calls (z lo hi : Int) (r : Bool) (w : World) (h : plane_within.f z lo hi = some r) :
 Calls Try.prog 106 #[cpV z, cpV lo, cpV hi] w fun e w' => e = .returned (.bool r) ∧ Below w.heap.size w w' := by
 unfold plane_within.f at h
 by_cases c : (0 ≤ lo ∧ lo < 4294967296) ∧ (0 ≤ hi ∧ hi < 4294967296) ∧ (0 ≤ z ∧ z < 4294967296)
 · rw [if_pos c] at h
   obtain rfl := Option.some.inj h
   obtain ⟨⟨h0, h0'⟩, ⟨h1, h1'⟩, h2, h2'⟩ := c
   obtain ⟨r1, e1, g1⟩ := sub_signI (z / 65536) (lo / 65536) (by omega) (by omega) (by omega) (by omega)
   obtain ⟨r2, e2, g2⟩ := sub_signI (z % 65536) (lo % 65536) (by omega) (by omega) (by omega) (by omega)
   obtain ⟨r3, e3, g3⟩ := sub_signI (hi / 65536) (z / 65536) (by omega) (by omega) (by omega) (by omega)
   obtain ⟨r4, e4, g4⟩ := sub_signI (hi % 65536) (z % 65536) (by omega) (by omega) (by omega) (by omega)
   refine (within_calls _ _ _ _ _ _ r1 r2 r3 r4 _ _ _ _ e1 e2 e3 e4 g1 g2 g3 g4 w).mono ?_
   rintro e w' ⟨rfl, rfl⟩
   exact ⟨rfl, Below.refl _ _⟩
 · rw [if_neg c] at h; cases h
def plane_point.f (a0 : Int) : Option Int := if 0 ≤ a0 ∧ a0 < 4294967296 then some a0 else none
set_option maxHeartbeats 2000000 in
set_option maxRecDepth 100000 in
theorem plane_point.calls (a0 : Int) (r : Int) (w : World) (h : plane_point.f a0 = some r) :
 Calls Try.prog 107 #[.int .u32 a0] w fun e w' => e = .returned (cpV r) ∧ Below w.heap.size w w' := by
 unfold plane_point.f at h
 by_cases c : 0 ≤ a0 ∧ a0 < 4294967296
 · rw [if_pos c] at h
   obtain rfl := Option.some.inj h
   obtain ⟨h0, h1⟩ := c
   have hu := Try.underlying130
   have hu2 := Try.underlying36
   have hd : a0.tdiv 65536 % 4294967296 = a0 / 65536 := by
    rw [Int.tdiv_eq_ediv_of_nonneg h0]; omega
   clear h
   go_enter Try.func107, Try.ntmps107
   go_wp2
   all_goals (go_ret; exact ⟨rfl, Below.refl _ _⟩)
 · rw [if_neg c] at h; cases h
def plane_In.f (a0_0 : Int) (a0_1 : Int) (a1 : Int) : Option (Bool) := (plane_point.f a1).bind fun t165 => ((plane_point.f a0_0).bind fun t166 => ((plane_point.f a0_1).bind fun t167 => ((plane_within.f t165 t166 t167).bind fun t168 => (some t168))))
def plane_In.T1 : Bool × List (List Nat × List Nat) := (true, [([], []), ([0], [0]), ([], []), ([2], [2]), ([3, 1], [3]), ([], []), ([5], [5]), ([6, 4], [6]), ([1, 4, 7, 7], [1, 4, 7]), ([8, 8, 0, 1, 2, 3, 4, 5, 6, 7, 8], [8])])
def plane_In.B1 : List Nat := [0, 1, 0, 4, 15, 0, 32, 127, 255, 511]
theorem plane_In.tab1 : rtab .any (opsOf Try.f96 1) = plane_In.T1 := by kernel_rfl
theorem plane_In.bits1 : waitsOk plane_In.T1.2 plane_In.B1 = true := by kernel_rfl
set_option maxHeartbeats 8000000 in
set_option maxRecDepth 100000 in
theorem plane_In.calls (a0_0 : Int) (a0_1 : Int) (a1 : Int) (r : Bool) (w : World) (h : plane_In.f a0_0 a0_1 a1 = some r) :
 Calls Try.prog 96 #[.agg #[.int .u32 a0_0, .int .u32 a0_1], .int .u32 a1] w fun e w' => e = .returned (.bool r) ∧ Below w.heap.size w w' := by
 have hu76 := Try.underlying76
 have HB := aM (Below.refl w.heap.size w)
 unfold plane_In.f at h
 have H := h
 clear h
 obtain ⟨t165, A3, H⟩ := bnd_ H
 obtain ⟨t166, A4, H⟩ := bnd_ H
 obtain ⟨t167, A5, H⟩ := bnd_ H
 obtain ⟨t168, A6, H⟩ := bnd_ H
 obtain rfl := Option.some.inj H
 go_enter Try.func96, Try.ntmps96
 try go_wp2_with (first | ((with_reducible refine gd_ 2 rfl ?_); refine be_ #[.int .u32 a0_0, .int .u32 a0_1] 76 ?_; intro gb164 hg w7 BK164 hb; have GW164 := ge_ HB hg; have GE164 := ge_ HB hg; replace HB := bs_ HB hb; clear hb hg))
 replace BK164 := aM (blk_drew BK164.out)
 replace HB := aM (below_drew1 HB.out)
 refine start_ (n := 10) (S := fun w' => w'.cell? ⟨gb164, 0, none⟩ = some (.int .u32 a0_0) ∧ w'.cell? ⟨gb164, 1, none⟩ = some (.int .u32 a0_1)) (ds := []) (tf 0 10) (by kernel_rfl) rfl rfl (bd2_ BK164) (fun hHeld => ?_); refine with_tabW plane_In.tab1 plane_In.bits1 (fun HT_ HW_ => ?_)
 generalize w7.drew = w8 at BK164 HB hHeld ⊢
 refine pA_ 0 (some 5) ?_
 refine pA_ 2 (some 7) ?_
 refine pA_ 5 (some 10) ?_
 refine pT_ 3 (some 8) hHeld ?_
 refine pT_ 6 (some 11) hHeld ?_
 refine pO_ 1 (some 6) (fun K hK => ?_)
 refine gO_ Try.func107 #[.int .u32 a1] rfl rfl ?_
 with_reducible refine (plane_point.calls a1 t165 _ A3.out).mono ?_
 rintro e w9 ⟨rfl, hb⟩
 refine ⟨_, rfl, ?_⟩
 replace BK164 := bb_ BK164 hb
 replace HB := bs_ HB hb
 (try clear hb)
 (try clear hb2)
 (try clear hk)
 (try clear hi)
 refine hK.out _ _ (bd2_ BK164) (fun hHeld => ?_)
 clear hK K
 refine nO_ (some 6) ?_
 refine pO_ 4 (some 9) (fun K hK => ?_)
 refine gO_ Try.func107 #[.int .u32 a0_0] rfl rfl ?_
 with_reducible refine (plane_point.calls a0_0 t166 _ A4.out).mono ?_
 rintro e w10 ⟨rfl, hb⟩
 refine ⟨_, rfl, ?_⟩
 replace BK164 := bb_ BK164 hb
 replace HB := bs_ HB hb
 (try clear hb)
 (try clear hb2)
 (try clear hk)
 (try clear hi)
 refine hK.out _ _ (bd2_ BK164) (fun hHeld => ?_)
 clear hK K
 refine nO_ (some 9) ?_
 refine pO_ 7 (some 12) (fun K hK => ?_)
 refine gO_ Try.func107 #[.int .u32 a0_1] rfl rfl ?_
 with_reducible refine (plane_point.calls a0_1 t167 _ A5.out).mono ?_
 rintro e w11 ⟨rfl, hb⟩
 refine ⟨_, rfl, ?_⟩
 replace BK164 := bb_ BK164 hb
 replace HB := bs_ HB hb
 (try clear hb)
 (try clear hb2)
 (try clear hk)
 (try clear hi)
 refine hK.out _ _ (bd2_ BK164) (fun hHeld => ?_)
 clear hK K
 refine nO_ (some 12) ?_
 refine pO_ 8 (some 13) (fun K hK => ?_)
 refine gO_ Try.func106 #[cpV t165, cpV t166, cpV t167] rfl rfl ?_
 with_reducible refine (plane_within.calls t165 t166 t167 t168 _ A6.out).mono ?_
 rintro e w12 ⟨rfl, hb⟩
 refine ⟨_, rfl, ?_⟩
 replace BK164 := bb_ BK164 hb
 replace HB := bs_ HB hb
 (try clear hb)
 (try clear hb2)
 (try clear hk)
 (try clear hi)
 refine hK.out _ _ (bd2_ BK164) (fun hHeld => ?_)
 clear hK K
 refine nO_ (some 13) ?_
 refine pA_ 9 (some 4) ?_
 refine done_ (done_of HT_.out (by kernel_rfl)) ?_
 try go_wp2
 first | go_ret | refine ⟨_, results_tmp rfl _ _ _, ?_⟩
 exact fin_ HB
def boxIn (lo hi c : Int) : Option Bool := plane_In.f lo hi c
set_option maxHeartbeats 2000000 in
set_option maxRecDepth 100000 in
theorem cond_has_1 (b : Nat) (lo hi c : Int) (r : Bool) (h : boxIn lo hi c = some r) (W : World) (h0 : W.cell? ⟨b, 0, none⟩ = some (.int .u32 lo)) (h1 : W.cell? ⟨b, 1, none⟩ = some (.int .u32 hi)) :
 Calls Try.prog 95 #[.int .u32 c, .pointer (some ⟨b, 0, none⟩)] W fun e w' => e = .returned (.bool r) ∧ Below W.heap.size W w' := by
 have hu1 := Try.underlying76
 have H := aM (plane_In.calls lo hi c r W h)
 clear h
 go_enter Try.func95, Try.ntmps95
 go_wp2_with ((with_reducible refine H.out.mono ?_); rintro e w' ⟨rfl, hb'⟩)
 go_ret
 exact ⟨rfl, hb'⟩
def cond_has.f (a0_0 a0_1 : Int) (l1 : List Int) : Option Bool := if allS (boxIn a0_0 a0_1) l1 = true then some (l1.any fun c => (boxIn a0_0 a0_1 c).getD false) else none
set_option maxHeartbeats 2000000 in
set_option maxRecDepth 100000 in
theorem cond_has.calls (a0_0 a0_1 : Int) (A1 : Option Addr) (c1 : Nat) (l1 : List Int) (r : Bool) (w : World) (hr1 : Kd.C (Kd.int .u32) w A1 l1.length l1) (hc1 : l1.length ≤ c1) (h : cond_has.f a0_0 a0_1 l1 = some r) :
 Calls Try.prog 76 #[.agg #[.int .u32 a0_0, .int .u32 a0_1], .slice A1 l1.length c1] w fun e w' => e = .returned (.bool r) ∧ Below w.heap.size w w' := by
 unfold cond_has.f at h
 by_cases ha : allS (boxIn a0_0 a0_1) l1 = true
 · rw [if_pos ha] at h
   have h := Option.some.inj h
   have hu1 := Try.underlying76
   have hp : PredK Try.prog 95 #[.pointer (some ⟨w.heap.size, 0, none⟩)] (Kd.int .u32) oneV (fun c => (boxIn a0_0 a0_1 c).getD false) (w.alloc (.cells #[.int .u32 a0_0, .int .u32 a0_1] 76)) l1 := by
    intro x hx W cs hb hk
    obtain rfl : cs = [.int .u32 x] := hk
    have h0 : W.cell? ⟨w.heap.size, 0, none⟩ = some (.int .u32 a0_0) := (hb.cell (p := ⟨w.heap.size, 0, none⟩) (by simp)).trans (by simp)
    have h1 : W.cell? ⟨w.heap.size, 1, none⟩ = some (.int .u32 a0_1) := (hb.cell (p := ⟨w.heap.size, 1, none⟩) (by simp)).trans (by simp)
    refine (cond_has_1 w.heap.size a0_0 a0_1 x _ (allS_get ha hx) W h0 h1).mono ?_
    rintro e w' ⟨he, hb'⟩
    exact ⟨he, below_then hb (by have := hb.size; simpa using this) hb'⟩
   have H := aM (conf_94 (fun args w => enters_ Try.func95 (by kernel_rfl) rfl args w) (c := c1) (Kd.C_below hr1 (below_alloc (Below.refl _ _) _)) hp)
   clear hp hr1 ha
   generalize (l1.any fun c => (boxIn a0_0 a0_1 c).getD false) = i at H h
   subst h
   go_enter Try.func76, Try.ntmps76
   go_wp2_with ((with_reducible refine H.out.mono ?_); rintro e w' ⟨rfl, hb'⟩)
   go_ret
   exact ⟨rfl, below_step (below_alloc (Below.refl _ _) _) hb'⟩
 · rw [if_neg ha] at h; cases h
def hasBox (comms : List Int) (b : S76) : Option Bool := cond_has.f b.f0 b.f1 comms
set_option maxHeartbeats 2000000 in
set_option maxRecDepth 100000 in
theorem TakesComms_1_1 (bc : Nat) (x : S76) (A1 : Option Addr) (c1 : Nat) (l1 : List Int) (r : Bool) (h : hasBox l1 x = some r) (W : World) (hc : W.cell? ⟨bc, 0, none⟩ = some (.slice A1 l1.length c1)) (hr1 : Kd.C (Kd.int .u32) W A1 l1.length l1) (hc1 : l1.length ≤ c1) :
 Calls Try.prog 75 #[.agg #[.int .u32 x.f0, .int .u32 x.f1], .pointer (some ⟨bc, 0, none⟩)] W fun e w' => e = .returned (.bool (!r)) ∧ Below W.heap.size W w' := by
 have hu1 := Try.underlying76
 have hlt : bc < W.heap.size := World.block_lt_of_cell? W _ hc
 have H := aM (cond_has.calls x.f0 x.f1 A1 c1 l1 r (W.alloc (.cells #[.int .u32 x.f0, .int .u32 x.f1] 76)) (Kd.C_below hr1 (below_alloc (Below.refl _ _) _)) hc1 h)
 clear h hr1
 go_enter Try.func75, Try.ntmps75
 go_wp2_with ((with_reducible refine H.out.mono ?_); rintro e w' ⟨rfl, hb'⟩)
 go_ret
 exact ⟨rfl, below_step (below_alloc (Below.refl _ _) _) hb'⟩
def hasAll (comms : List Int) (x : S64) : Bool := !(x.f1.any fun b => !((hasBox comms b).getD false))
set_option maxHeartbeats 4000000 in
set_option maxRecDepth 100000 in
theorem TakesComms_1 (bl bc i : Nat) (A0 : Option Addr) (c0 : Nat) (l0 : List S64) (A1 : Option Addr) (c1 : Nat) (l1 : List Int) (hi : i < l0.length) (W : World) (hb : W.cell? ⟨bl, 0, none⟩ = some (.slice A0 l0.length c0)) (hc : W.cell? ⟨bc, 0, none⟩ = some (.slice A1 l1.length c1)) (hr0 : Kd.C k64 W A0 l0.length l0) (hr1 : Kd.C (Kd.int .u32) W A1 l1.length l1) (hc1 : l1.length ≤ c1) (hs : allS (hasBox l1) (rd_T64 l0 (i : Int)).f1 = true) :
 Calls Try.prog 73 #[.int .i64 (i : Int), .pointer (some ⟨bl, 0, none⟩), .pointer (some ⟨bc, 0, none⟩)] W fun e w' => e = .returned (.bool (hasAll l1 (rd_T64 l0 (i : Int)))) ∧ Below W.heap.size W w' := by
 have hu1 := Try.underlying64
 have hm := hr0.2.1
 obtain ⟨ad, A2, c2, e, hx0, hx1, l2, g2⟩ := at_T64 hr0 (i : Int) (by omega) (by omega)
 subst e
 simp only [Int.toNat_natCast] at hx0 hx1
 have hltz : (i : Int) < (l0.length : Int) := by omega
 unfold hasAll
 generalize rd_T64 l0 (i : Int) = x at hs hx0 hx1 l2 g2 ⊢
 have hp : PredK Try.prog 75 #[.pointer (some ⟨bc, 0, none⟩)] k76 aggV (fun b => !((hasBox l1 b).getD false)) W x.f1 := by
  intro y hy W' cs hb' hk
  obtain rfl := k76_open hk
  have h0 : W'.cell? ⟨bc, 0, none⟩ = some (.slice A1 l1.length c1) := (hb'.cell (World.block_lt_of_cell? W _ hc)).trans hc
  refine (TakesComms_1_1 bc y A1 c1 l1 _ (allS_get hs hy) W' h0 (Kd.C_below hr1 hb') hc1).mono ?_
  rintro e w' ⟨he, hb2⟩
  exact ⟨he, below_then hb' hb'.size hb2⟩
 have H := aM (conf_74 (fun args w => enters_ Try.func75 (by kernel_rfl) rfl args w) (c := c2) g2 hp)
 clear hp hr0 hr1 g2 hs
 generalize (x.f1.any fun b => !((hasBox l1 b).getD false)) = r at H ⊢
 go_enter Try.func73, Try.ntmps73
 go_wp2_with ((with_reducible refine H.out.mono ?_); rintro e w' ⟨rfl, hb'⟩)
 go_ret
 exact ⟨rfl, hb'⟩
set_option maxHeartbeats 2000000 in
set_option maxRecDepth 100000 in
theorem TakesComms_2 (bl i : Nat) (A0 : Option Addr) (c0 : Nat) (l0 : List S64) (hi : i < l0.length) (W : World) (hb : W.cell? ⟨bl, 0, none⟩ = some (.slice A0 l0.length c0)) (hr0 : Kd.C k64 W A0 l0.length l0) :
 Calls Try.prog 77 #[.int .i64 (i : Int), .pointer (some ⟨bl, 0, none⟩)] W fun e w' => e = .returned (.bool (rd_T64 l0 (i : Int)).f0) ∧ Below W.heap.size W w' := by
 have hu1 := Try.underlying64
 have hm := hr0.2.1
 obtain ⟨ad, A2, c2, e, hx0, hx1, l2, g2⟩ := at_T64 hr0 (i : Int) (by omega) (by omega)
 subst e
 simp only [Int.toNat_natCast] at hx0 hx1
 have hltz : (i : Int) < (l0.length : Int) := by omega
 generalize rd_T64 l0 (i : Int) = x at hx0 hx1 l2 g2 ⊢
 clear hr0 g2
 go_enter Try.func77, Try.ntmps77
 go_wp2
 go_ret
 exact ⟨rfl, Below.refl _ _⟩
def cond_TakesComms.f (l0 : List S64) (l1 : List Int) : Option Bool := if (l0.all fun x => allS (hasBox l1) x.f1) = true then some (firstP (fun i => hasAll l1 (rd_T64 l0 (i : Int))) (fun i => (rd_T64 l0 (i : Int)).f0) l0.length 0) else none
set_option maxHeartbeats 4000000 in
set_option maxRecDepth 100000 in
theorem cond_TakesComms.calls (A0 : Option Addr) (c0 : Nat) (l0 : List S64) (A1 : Option Addr) (c1 : Nat) (l1 : List Int) (r : Bool) (w : World) (hr0 : Kd.C k64 w A0 l0.length l0) (hc0 : l0.length ≤ c0) (hr1 : Kd.C (Kd.int .u32) w A1 l1.length l1) (hc1 : l1.length ≤ c1) (h : cond_TakesComms.f l0 l1 = some r) :
 Calls Try.prog 40 #[.slice A0 l0.length c0, .slice A1 l1.length c1] w fun e w' => e = .returned (.bool r) ∧ Below w.heap.size w w' := by
 unfold cond_TakesComms.f at h
 by_cases ha : (l0.all fun x => allS (hasBox l1) x.f1) = true
 · rw [if_pos ha] at h
   have h := Option.some.inj h
   have hm := hr0.2.1
   have hB : Below w.heap.size w ((w.alloc (.cells #[.slice A0 l0.length c0] 44)).alloc (.cells #[.slice A1 l1.length c1] 26)) := below_alloc (below_alloc (Below.refl _ _) _) _
   have hc0' : ((w.alloc (.cells #[.slice A0 l0.length c0] 44)).alloc (.cells #[.slice A1 l1.length c1] 26)).cell? ⟨w.heap.size, 0, none⟩ = some (.slice A0 l0.length c0) := by simp
   have hc1' : ((w.alloc (.cells #[.slice A0 l0.length c0] 44)).alloc (.cells #[.slice A1 l1.length c1] 26)).cell? ⟨w.heap.size + 1, 0, none⟩ = some (.slice A1 l1.length c1) := by simp
   have hp : FnK Try.prog 73 #[.pointer (some ⟨w.heap.size, 0, none⟩), .pointer (some ⟨w.heap.size + 1, 0, none⟩)] (fun i => hasAll l1 (rd_T64 l0 (i : Int))) l0.length ((w.alloc (.cells #[.slice A0 l0.length c0] 44)).alloc (.cells #[.slice A1 l1.length c1] 26)) := by
    intro i hi W hb
    have hs : allS (hasBox l1) (rd_T64 l0 (i : Int)).f1 = true := by
     have := List.all_eq_true.1 ha l0[i] (List.getElem_mem hi)
     simpa [rd_T64, List.getD_eq_getElem?_getD, List.getElem?_eq_getElem hi] using this
    refine (TakesComms_1 w.heap.size (w.heap.size + 1) i A0 c0 l0 A1 c1 l1 hi W ((hb.cell (World.block_lt_of_cell? _ _ hc0')).trans hc0') ((hb.cell (World.block_lt_of_cell? _ _ hc1')).trans hc1') (Kd.C_below (Kd.C_below hr0 hB) hb) (Kd.C_below (Kd.C_below hr1 hB) hb) hc1 hs).mono ?_
    rintro e w' ⟨he, hb2⟩
    exact ⟨he, below_then hb hb.size hb2⟩
   have hd : FnK Try.prog 77 #[.pointer (some ⟨w.heap.size, 0, none⟩)] (fun i => (rd_T64 l0 (i : Int)).f0) l0.length ((w.alloc (.cells #[.slice A0 l0.length c0] 44)).alloc (.cells #[.slice A1 l1.length c1] 26)) := by
    intro i hi W hb
    refine (TakesComms_2 w.heap.size i A0 c0 l0 hi W ((hb.cell (World.block_lt_of_cell? _ _ hc0')).trans hc0') (Kd.C_below (Kd.C_below hr0 hB) hb)).mono ?_
    rintro e w' ⟨he, hb2⟩
    exact ⟨he, below_then hb hb.size hb2⟩
   have H := aM (first_calls (fun args w => enters_ Try.func73 (by kernel_rfl) rfl args w) (fun args w => enters_ Try.func77 (by kernel_rfl) rfl args w) (by omega) hp hd)
   clear hp hd hr0 hr1 ha hc0' hc1' hB
   generalize firstP (fun i => hasAll l1 (rd_T64 l0 (i : Int))) (fun i => (rd_T64 l0 (i : Int)).f0) l0.length 0 = i at H h
   subst h
   go_enter Try.func40, Try.ntmps40
   go_wp2_with ((with_reducible refine H.out.mono ?_); rintro e w' ⟨rfl, hb'⟩)
   go_ret
   exact ⟨rfl, below_step (below_alloc (below_alloc (Below.refl _ _) _) _) hb'⟩
 · rw [if_neg ha] at h; cases h
def pfx_begins.f (a0 : Int) (a1_0 : Int) (a1_1 : Int) : Option (Bool) := if 0 ≤ (wrap64 (32 - a1_1)) then (some ((shr .u64 (IntKind.u64.wrap (Go.bits .xor .u32 a0 a1_0)) (wrap64 (32 - a1_1))) == 0)) else (none)
set_option maxHeartbeats 8000000 in
set_option maxRecDepth 100000 in
theorem pfx_begins.calls (a0 : Int) (a1_0 : Int) (a1_1 : Int) (r : Bool) (w : World) (h : pfx_begins.f a0 a1_0 a1_1 = some r) :
 Calls Try.prog 103 #[.int .u32 a0, .agg #[.int .u32 a1_0, .int .i64 a1_1]] w fun e w' => e = .returned (.bool r) ∧ Below w.heap.size w w' := by
 have hu48 := Try.underlying48
 have HB := aM (Below.refl w.heap.size w)
 unfold pfx_begins.f at h
 have H := h
 clear h
 obtain ⟨ji3, hji3⟩ : ∃ j_ : Int, (wrap64 (32 - a1_1)) = j_ := ⟨_, rfl⟩
 replace H : (if 0 ≤ (ji3) then (some ((shr .u64 (IntKind.u64.wrap (Go.bits .xor .u32 a0 a1_0)) (ji3)) == 0)) else (none)) = some r := by first | (rw [hji3] at H; exact H) | (simp only [hji3] at H ⊢; exact H)
 have hji3w : (IntKind.i64.wrap (32 - a1_1)) = ji3 := (i64_w _).trans hji3
 have c4 := ifn_ H
 rw [if_pos c4] at H
 have c4b0 := eq_true c4
 have c4b1 : decide (0 ≤ (ji3)) = true := decide_eq_true c4
 clear c4
 obtain ⟨ji5, hji5⟩ : ∃ j_ : Int, (shr .u64 (IntKind.u64.wrap (Go.bits .xor .u32 a0 a1_0)) (ji3)) = j_ := ⟨_, rfl⟩
 replace H : (some ((ji5) == 0)) = some r := by first | (rw [hji5] at H; exact H) | (simp only [hji5] at H ⊢; exact H)
 have hji5_ : ((IntKind.u64.wrap (Go.bits .xor .u32 a0 a1_0)) / 2 ^ min (ji3).toNat 64) = ji5 := hji5
 have hji5z : (ji3) ≤ 64 → ((IntKind.u64.wrap (Go.bits .xor .u32 a0 a1_0)) / 2 ^ (ji3).toNat) = ji5 := shr_small hji5
 obtain rfl := Option.some.inj H
 go_enter Try.func103, Try.ntmps103
 go_wp2_with (first | ((with_reducible refine gd_ 3 rfl ?_); refine be_ #[.int .u32 a1_0, .int .i64 a1_1] 48 ?_; intro gb169 hg w6 BK169 hb; have GW169 := ge_ HB hg; have GE169 := ge_ HB hg; replace HB := bs_ HB hb; clear hb hg; obtain ⟨hcz7_0, hcz7_1, hfz7_0, hfz7_1⟩ := bc2_ BK169))
 first | go_ret | refine ⟨_, results_tmp rfl _ _ _, ?_⟩
 exact ⟨by first | rfl | (simp [errW_none, errW_some] <;> rfl) | (simp only [← hji3, ← hji5]; first | rfl | (simp [errW_none, errW_some] <;> rfl)) | (simp [*, errW_none, errW_some] <;> rfl), by repeat (first | (with_reducible first | exact HB.out | apply blA | apply blN | apply blD | refine bS ?_ GE169.out) | exact HB.out)⟩
end Go.Proofs.Ytlkjfjlmjgkheaa.H
