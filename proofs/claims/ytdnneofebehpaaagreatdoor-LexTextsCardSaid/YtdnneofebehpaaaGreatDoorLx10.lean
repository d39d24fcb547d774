import Derived.Test.YtdnneofebehpaaaGreatDoorLx0
import Derived.Test.YtdnneofebehpaaaGreatDoorLx9
namespace Go.Proofs.YtdnneofebehpaaaGreatDoor.L
open Go.RowKit Go.Proofs.YtdnneofebehpaaaGreatDoorW.PrintWords Go.Proofs.YtdnneofebehpaaaGreatDoorW.PrintLast Go.Proofs.YtdnneofebehpaaaGreatDoorW.PrintMore
attribute [local go_sem] max2_int min2_int max_two min_two max_three min_three max_four min_four
set_option linter.unusedVariables false
set_option linter.unusedSimpArgs false
def halfR (k : Nat) (a b : Int) : Option (Option ByteArray) := if a = b then (dragomanref14_NumText.f k a).bind fun t => if t.size ≤ 1000 then some (some t) else none else if a = 0 ∧ b = 65535 then some (some ⟨#[42]⟩) else some none
def commR1 (k : Nat) (q0 q1 : Int) (t0 : ByteArray) : Option (ByteArray × Bool) := (halfR k q0 q1).bind fun p => match p with
  | none => some (⟨#[]⟩, false)
  | some t1 => some ((t0 ++ (⟨#[58]⟩ : ByteArray)) ++ t1, true)
def commR0 (k : Nat) (p0 p1 q0 q1 : Int) : Option (ByteArray × Bool) := (halfR k p0 p1).bind fun o => match o with
  | none => some (⟨#[]⟩, false)
  | some t0 => commR1 k q0 q1 t0
theorem halfR_size {k : Nat} {a b : Int} {t : ByteArray} (h : halfR k a b = some (some t)) : t.size ≤ 1000 := by
  unfold halfR at h
  split at h
  · rcases hn : dragomanref14_NumText.f k a with _ | u
    · rw [hn] at h; simp at h
    · rw [hn] at h
      by_cases hz : u.size ≤ 1000
      · simp [hz] at h; subst h; exact hz
      · simp [hz] at h
  · split at h
    · simp at h; subst h; decide
    · simp at h
def dragomanref14_CommText.f (k : Nat) (a0_0 a0_1 : Int) : Option (ByteArray × Bool) := if 0 ≤ a0_0 ∧ a0_0 < 4294967296 ∧ 0 ≤ a0_1 ∧ a0_1 < 4294967296 then commR0 k (a0_0 / 65536) (a0_1 / 65536) (a0_0 % 65536) (a0_1 % 65536) else none
theorem halfR_mono (a b : Int) (k : Nat) : LeO (halfR k a b) (halfR (k + 1) a b) := by
  unfold halfR
  exact LeO.ite (LeO.bind (dragomanref14_NumText.mono _ _) (fun _ => LeO.refl _)) (LeO.refl _)
theorem dragomanref14_CommText.mono : ∀ a0 a1 k, LeO (dragomanref14_CommText.f k a0 a1) (dragomanref14_CommText.f (k + 1) a0 a1) := by
  intro a0 a1 k
  unfold dragomanref14_CommText.f
  refine LeO.ite ?_ (LeO.refl _)
  unfold commR0
  refine LeO.bind (halfR_mono _ _ _) (fun o => ?_)
  cases o with
  | none => exact LeO.refl _
  | some t =>
    exact LeO.bind (halfR_mono _ _ _) (fun _ => LeO.refl _)
set_option maxHeartbeats 8000000 in
set_option maxRecDepth 100000 in
theorem dragomanref14_CommText.calls (k : Nat) (a0_0 : Int) (a0_1 : Int) (r1 : ByteArray) (r2 : Bool) (w : World) (h : dragomanref14_CommText.f k a0_0 a0_1 = some (r1, r2)) :
    Calls Tryz.prog 6 #[.agg #[.int .u32 a0_0, .int .u32 a0_1]] w fun e w' => e = .returned (.tuple #[.string r1, .bool r2]) ∧ Below w.heap.size w w' := by
  unfold dragomanref14_CommText.f at h
  split at h
  rotate_left
  · simp at h
  rename_i g
  obtain ⟨g0, g1, g2, g3⟩ := g
  have H := Aside0.mk h
  clear h
  have i0 : ∀ (p0 p1 q0 q1 : Int) W, (Instr.index 58 (.agg #[.int .u32 p0, .int .u32 p1, .int .u32 q0, .int .u32 q1]) (.int .i64 0)).run Tryz.prog W = .ok (.agg #[.int .u32 p0, .int .u32 p1]) W := fun p0 p1 q0 q1 W => by
    unfold Instr.index
    have hs := Tryz.sizeOf57
    have ha := Tryz.isAgg57
    go_simp
  have i1 : ∀ (p0 p1 q0 q1 : Int) W, (Instr.index 58 (.agg #[.int .u32 p0, .int .u32 p1, .int .u32 q0, .int .u32 q1]) (.int .i64 1)).run Tryz.prog W = .ok (.agg #[.int .u32 q0, .int .u32 q1]) W := fun p0 p1 q0 q1 W => by
    unfold Instr.index
    have hs := Tryz.sizeOf57
    have ha := Tryz.isAgg57
    go_simp
  go_enter Tryz.func6, Tryz.ntmps6
  go_wp2
  generalize a0_0 / 65536 = p0 at *
  generalize a0_1 / 65536 = p1 at *
  generalize a0_0 % 65536 = q0 at *
  generalize a0_1 % 65536 = q1 at *
  go_loopg [4, 22] 2 (fun g v4 v22 w' => ∃ (n : Nat) (o : ByteArray), n ≤ 2 ∧ 2 - n ≤ g ∧ v22 = .int .i64 n ∧ v4 = .string o ∧ Aside0 ((n = 0 → o = ⟨#[]⟩) ∧ (n = 1 → halfR k p0 p1 = some (some o)) ∧ (n = 2 → o = r1 ∧ r2 = true)) ∧ Aside0 (Below w.heap.size w w'))
  case atStart => exact ⟨0, _, by omega, by omega, rfl, rfl, ⟨fun _ => rfl, by omega, by omega⟩, ⟨below_alloc (Below.refl _ _) _⟩⟩
  case round =>
    obtain ⟨n, o, hn, hg, rfl, rfl, HA, HB⟩ := hrel
    obtain rfl | rfl | rfl : n = 0 ∨ n = 1 ∨ n = 2 := by omega
    · obtain rfl := HA.out.1 rfl
      clear HA
      by_cases c : p0 = p1
      · subst c
        rcases ht : dragomanref14_NumText.f k p0 with _ | t
        · have H' := H.out
          simp [commR0, halfR, ht] at H'
        by_cases hz : t.size ≤ 1000
        rotate_left
        · have H' := H.out
          simp [commR0, halfR, ht, hz] at H'
        have ht' := Lib.hid ht
        have hh : Aside0 (halfR k p0 p0 = some (some ((⟨#[]⟩ : ByteArray) ++ t))) := ⟨by
          unfold halfR
          rw [if_pos rfl, ht]
          simp only [Option.bind_some, if_pos hz, Option.some.injEq]
          apply ByteArray.ext; simp⟩
        clear ht H
        go_wp2_with (go_at_call 10; refine (dragomanref14_NumText.calls k _ t _ ht'.out).mono ?_; rintro e w1 ⟨rfl, hb⟩)
        go_roundg 1
        case measure => omega
        case rel => exact ⟨1, _, by omega, by omega, rfl, rfl, ⟨by omega, fun _ => hh.out, by omega⟩, ⟨below_step (below_alloc HB.out _) hb⟩⟩
      by_cases d : p0 = 0 ∧ p1 = 65535
      · obtain ⟨rfl, rfl⟩ := d
        have hh : Aside0 (halfR k 0 65535 = some (some ((⟨#[]⟩ : ByteArray) ++ (⟨#[42]⟩ : ByteArray)))) := ⟨rfl⟩
        clear c H
        go_wp2
        go_roundg 1
        case measure => omega
        case rel => exact ⟨1, _, by omega, by omega, rfl, rfl, ⟨by omega, fun _ => hh.out, by omega⟩, ⟨below_alloc HB.out _⟩⟩
      · have H' := H.out
        unfold commR0 halfR at H'
        rw [if_neg c, if_neg d] at H'
        simp only [Option.bind_some, Option.some.injEq, Prod.mk.injEq] at H'
        obtain ⟨rfl, rfl⟩ := H'
        have c0 : (p0 == p1) = false := beq_eq_false_iff_ne.mpr c
        clear c H
        by_cases d0 : p0 = 0
        · have d1 : (p1 == 65535) = false := beq_eq_false_iff_ne.mpr (fun x => d ⟨d0, x⟩)
          have d0b : (p0 == 0) = true := beq_iff_eq.mpr d0
          clear d d0
          go_wp2
          go_ret2
          exact ⟨rfl, below_alloc HB.out _⟩
        · have d1 : (p0 == 0) = false := beq_eq_false_iff_ne.mpr d0
          clear d d0
          go_wp2
          go_ret2
          exact ⟨rfl, below_alloc HB.out _⟩
    · have ho := HA.out.2.1 rfl
      clear HA
      have H1 : Aside0 (commR1 k q0 q1 o = some (r1, r2)) := ⟨by have H' := H.out; unfold commR0 at H'; rw [ho] at H'; exact H'⟩
      have hoz := halfR_size ho
      clear ho H
      by_cases c : q0 = q1
      · subst c
        rcases ht : dragomanref14_NumText.f k q0 with _ | t
        · have H' := H1.out
          simp [commR1, halfR, ht] at H'
        by_cases hz : t.size ≤ 1000
        rotate_left
        · have H' := H1.out
          simp [commR1, halfR, ht, hz] at H'
        have ht' := Lib.hid ht
        have hh : Aside0 ((o ++ (⟨#[58]⟩ : ByteArray)) ++ t = r1 ∧ r2 = true) := ⟨by
          have H' := H1.out
          unfold commR1 halfR at H'
          rw [if_pos rfl, ht] at H'
          simp only [Option.bind_some, if_pos hz, Option.some.injEq, Prod.mk.injEq] at H'
          exact ⟨H'.1, H'.2.symm⟩⟩
        clear ht H1
        have z1 : (9223372036854775807 < o.size + 1) = False := eq_false (by omega)
        have z2 : (9223372036854775807 < o.size + 1 + t.size) = False := eq_false (by omega)
        go_wp2_with (go_at_call 10; refine (dragomanref14_NumText.calls k _ t _ ht'.out).mono ?_; rintro e w1 ⟨rfl, hb⟩)
        go_roundg 0
        case measure => omega
        case rel => exact ⟨2, _, by omega, by omega, rfl, rfl, ⟨by omega, by omega, fun _ => hh.out⟩, ⟨below_step (below_alloc HB.out _) hb⟩⟩
      by_cases d : q0 = 0 ∧ q1 = 65535
      · obtain ⟨rfl, rfl⟩ := d
        have hh : Aside0 ((o ++ (⟨#[58]⟩ : ByteArray)) ++ (⟨#[42]⟩ : ByteArray) = r1 ∧ r2 = true) := ⟨by
          have H' := H1.out
          unfold commR1 halfR at H'
          rw [if_neg (by decide), if_pos ⟨rfl, rfl⟩] at H'
          simp only [Option.bind_some, Option.some.injEq, Prod.mk.injEq] at H'
          exact ⟨H'.1, H'.2.symm⟩⟩
        have z1 : (9223372036854775807 < o.size + 1) = False := eq_false (by omega)
        have z2 : (9223372036854775807 < o.size + 1 + 1) = False := eq_false (by omega)
        have z3 : (9223372036854775807 < o.size + 2) = False := eq_false (by omega)
        clear c H1
        go_wp2
        go_roundg 0
        case measure => omega
        case rel => exact ⟨2, _, by omega, by omega, rfl, rfl, ⟨by omega, by omega, fun _ => hh.out⟩, ⟨below_alloc HB.out _⟩⟩
      · have H' := H1.out
        unfold commR1 halfR at H'
        rw [if_neg c, if_neg d] at H'
        simp only [Option.bind_some, Option.some.injEq, Prod.mk.injEq] at H'
        obtain ⟨rfl, rfl⟩ := H'
        have z1 : (9223372036854775807 < o.size + 1) = False := eq_false (by omega)
        have c0 : (q0 == q1) = false := beq_eq_false_iff_ne.mpr c
        clear c H1
        by_cases d0 : q0 = 0
        · have d1 : (q1 == 65535) = false := beq_eq_false_iff_ne.mpr (fun x => d ⟨d0, x⟩)
          have d0b : (q0 == 0) = true := beq_iff_eq.mpr d0
          clear d d0
          go_wp2
          go_ret2
          exact ⟨rfl, below_alloc HB.out _⟩
        · have d1 : (q0 == 0) = false := beq_eq_false_iff_ne.mpr d0
          clear d d0
          go_wp2
          go_ret2
          exact ⟨rfl, below_alloc HB.out _⟩
    · obtain ⟨rfl, rfl⟩ := HA.out.2.2 rfl
      go_wp2
      go_ret2
      exact ⟨rfl, HB.out⟩
def lex_OriginText.f (a0 : Int) : Option (ByteArray × Bool) := if a0 = 0 then (some ((⟨#[105, 103, 112]⟩ : ByteArray), true)) else (if a0 = 1 then (some ((⟨#[101, 103, 112]⟩ : ByteArray), true)) else (if a0 = 2 then (some ((⟨#[105, 110, 99, 111, 109, 112, 108, 101, 116, 101]⟩ : ByteArray), true)) else (some ((⟨#[]⟩ : ByteArray), false))))
set_option maxHeartbeats 8000000 in
set_option maxRecDepth 100000 in
theorem lex_OriginText.calls0 (a0 : Int) (r1 : ByteArray) (r2 : Bool) (w : World) (h : lex_OriginText.f a0 = some (r1, r2)) :
    Calls Tryz.prog 7 #[.int .i64 a0] w fun e w' => e = .returned (.tuple #[.string r1, .bool r2]) ∧ Drawn0 w w' := by
  have H : (if a0 = 0 then (some ((⟨#[105, 103, 112]⟩ : ByteArray), true)) else (if a0 = 1 then (some ((⟨#[101, 103, 112]⟩ : ByteArray), true)) else (if a0 = 2 then (some ((⟨#[105, 110, 99, 111, 109, 112, 108, 101, 116, 101]⟩ : ByteArray), true)) else (some ((⟨#[]⟩ : ByteArray), false))))) = some (r1, r2) := h
  clear h
  by_cases c2 : a0 = 0
  · rw [if_pos c2] at H
    have c2b0 : (a0 == 0) = true := beq_iff_eq.mpr c2
    have c2b1 : (a0 != 0) = false := bne_eq_false_iff_eq.mpr c2
    clear c2
    simp only [Option.some.injEq, Prod.mk.injEq] at H
    obtain ⟨rfl, rfl⟩ := H
    go_enter Tryz.func7, Tryz.ntmps7
    go_wp2
    first | go_ret2 | refine ⟨_, results_tmp2 rfl _ _ _, ?_⟩
    exact ⟨by first | rfl | (simp; done) | (simp [*]; done), by repeat (first | exact Drawn0.refl _ | apply Drawn0.step)⟩
  · rw [if_neg c2] at H
    have c2b0 : (a0 == 0) = false := beq_eq_false_iff_ne.mpr c2
    have c2b1 : (a0 != 0) = true := bne_iff_ne.mpr c2
    by_cases c3 : a0 = 1
    · rw [if_pos c3] at H
      have c3b0 : (a0 == 1) = true := beq_iff_eq.mpr c3
      have c3b1 : (a0 != 1) = false := bne_eq_false_iff_eq.mpr c3
      clear c3
      simp only [Option.some.injEq, Prod.mk.injEq] at H
      obtain ⟨rfl, rfl⟩ := H
      go_enter Tryz.func7, Tryz.ntmps7
      go_wp2
      first | go_ret2 | refine ⟨_, results_tmp2 rfl _ _ _, ?_⟩
      exact ⟨by first | rfl | (simp; done) | (simp [*]; done), by repeat (first | exact Drawn0.refl _ | apply Drawn0.step)⟩
    · rw [if_neg c3] at H
      have c3b0 : (a0 == 1) = false := beq_eq_false_iff_ne.mpr c3
      have c3b1 : (a0 != 1) = true := bne_iff_ne.mpr c3
      by_cases c4 : a0 = 2
      · rw [if_pos c4] at H
        have c4b0 : (a0 == 2) = true := beq_iff_eq.mpr c4
        have c4b1 : (a0 != 2) = false := bne_eq_false_iff_eq.mpr c4
        clear c4
        simp only [Option.some.injEq, Prod.mk.injEq] at H
        obtain ⟨rfl, rfl⟩ := H
        go_enter Tryz.func7, Tryz.ntmps7
        go_wp2
        first | go_ret2 | refine ⟨_, results_tmp2 rfl _ _ _, ?_⟩
        exact ⟨by first | rfl | (simp; done) | (simp [*]; done), by repeat (first | exact Drawn0.refl _ | apply Drawn0.step)⟩
      · rw [if_neg c4] at H
        have c4b0 : (a0 == 2) = false := beq_eq_false_iff_ne.mpr c4
        have c4b1 : (a0 != 2) = true := bne_iff_ne.mpr c4
        simp only [Option.some.injEq, Prod.mk.injEq] at H
        obtain ⟨rfl, rfl⟩ := H
        go_enter Tryz.func7, Tryz.ntmps7
        go_wp2
        first | go_ret2 | refine ⟨_, results_tmp2 rfl _ _ _, ?_⟩
        exact ⟨by first | rfl | (simp; done) | (simp [*]; done), by repeat (first | exact Drawn0.refl _ | apply Drawn0.step)⟩
theorem lex_OriginText.calls (a0 : Int) (r1 : ByteArray) (r2 : Bool) (w : World) (h : lex_OriginText.f a0 = some (r1, r2)) :
    Calls Tryz.prog 7 #[.int .i64 a0] w fun e w' => e = .returned (.tuple #[.string r1, .bool r2]) ∧ Below w.heap.size w w' := by
  refine (lex_OriginText.calls0 a0 r1 r2 w h).mono ?_
  rintro e w' ⟨he, k, rfl⟩
  exact ⟨he, pw_below_drewN (Below.refl _ _) _⟩
def dragomanref14_OriginText.f (a0 : Int) : Option (ByteArray × Bool) := if a0 < 0 then (some ((⟨#[]⟩ : ByteArray), false)) else (if a0 > 2 then (some ((⟨#[]⟩ : ByteArray), false)) else (if 0 ≤ a0 then (if a0 < 3 then (some (ixS ([(⟨#[105, 103, 112]⟩ : ByteArray), (⟨#[101, 103, 112]⟩ : ByteArray), (⟨#[105, 110, 99, 111, 109, 112, 108, 101, 116, 101]⟩ : ByteArray)] : List ByteArray) a0, true)) else (none)) else (none)))
set_option maxHeartbeats 8000000 in
set_option maxRecDepth 100000 in
theorem dragomanref14_OriginText.calls0 (a0 : Int) (r1 : ByteArray) (r2 : Bool) (w : World) (h : dragomanref14_OriginText.f a0 = some (r1, r2)) :
    Calls Tryz.prog 8 #[.int .i64 a0] w fun e w' => e = .returned (.tuple #[.string r1, .bool r2]) ∧ Drawn0 w w' := by
  have hu59 := Tryz.underlying59
  have H : (if a0 < 0 then (some ((⟨#[]⟩ : ByteArray), false)) else (if a0 > 2 then (some ((⟨#[]⟩ : ByteArray), false)) else (if 0 ≤ a0 then (if a0 < 3 then (some (ixS ([(⟨#[105, 103, 112]⟩ : ByteArray), (⟨#[101, 103, 112]⟩ : ByteArray), (⟨#[105, 110, 99, 111, 109, 112, 108, 101, 116, 101]⟩ : ByteArray)] : List ByteArray) a0, true)) else (none)) else (none)))) = some (r1, r2) := h
  clear h
  by_cases c2 : a0 < 0
  · rw [if_pos c2] at H
    have c2b0 : decide (a0 < 0) = true := decide_eq_true c2
    clear c2
    simp only [Option.some.injEq, Prod.mk.injEq] at H
    obtain ⟨rfl, rfl⟩ := H
    go_enter Tryz.func8, Tryz.ntmps8
    go_wp2
    first | go_ret2 | refine ⟨_, results_tmp2 rfl _ _ _, ?_⟩
    exact ⟨by first | rfl | (simp; done) | (simp [*]; done), by repeat (first | exact Drawn0.refl _ | apply Drawn0.step)⟩
  · rw [if_neg c2] at H
    have c2b0 : decide (a0 < 0) = false := decide_eq_false c2
    clear c2
    by_cases c3 : a0 > 2
    · rw [if_pos c3] at H
      have c3b0 : decide (2 < a0) = true := decide_eq_true c3
      clear c3
      simp only [Option.some.injEq, Prod.mk.injEq] at H
      obtain ⟨rfl, rfl⟩ := H
      go_enter Tryz.func8, Tryz.ntmps8
      go_wp2
      first | go_ret2 | refine ⟨_, results_tmp2 rfl _ _ _, ?_⟩
      exact ⟨by first | rfl | (simp; done) | (simp [*]; done), by repeat (first | exact Drawn0.refl _ | apply Drawn0.step)⟩
    · rw [if_neg c3] at H
      have c3b0 : decide (2 < a0) = false := decide_eq_false c3
      clear c3
      by_cases c4 : 0 ≤ a0
      · rw [if_pos c4] at H
        have c4b0 : decide (0 ≤ a0) = true := decide_eq_true c4
        clear c4
        by_cases c5 : a0 < 3
        · rw [if_pos c5] at H
          have c5b0 : decide (a0 < 3) = true := decide_eq_true c5
          clear c5
          simp only [Option.some.injEq, Prod.mk.injEq] at H
          obtain ⟨rfl, rfl⟩ := H
          have p6 : 0 ≤ (a0 : Int) := of_decide_eq_true (by first | (with_reducible assumption) | assumption)
          have q6 : a0 < (3 : Int) := of_decide_eq_true (by first | (with_reducible assumption) | assumption)
          have hx6 : ∀ W, (Instr.index 59 (.agg #[.string (⟨#[105, 103, 112]⟩ : ByteArray), .string (⟨#[101, 103, 112]⟩ : ByteArray), .string (⟨#[105, 110, 99, 111, 109, 112, 108, 101, 116, 101]⟩ : ByteArray)]) (.int .i64 a0)).run Tryz.prog W = .ok (.string (ixS ([(⟨#[105, 103, 112]⟩ : ByteArray), (⟨#[101, 103, 112]⟩ : ByteArray), (⟨#[105, 110, 99, 111, 109, 112, 108, 101, 116, 101]⟩ : ByteArray)] : List ByteArray) a0)) W := fun W => ixS_run (cs := ([(⟨#[105, 103, 112]⟩ : ByteArray), (⟨#[101, 103, 112]⟩ : ByteArray), (⟨#[105, 110, 99, 111, 109, 112, 108, 101, 116, 101]⟩ : ByteArray)] : List ByteArray)) p6 q6 Tryz.underlying59 W
          go_enter Tryz.func8, Tryz.ntmps8
          go_wp2
          first | go_ret2 | refine ⟨_, results_tmp2 rfl _ _ _, ?_⟩
          exact ⟨by first | rfl | (simp; done) | (simp [*]; done), by repeat (first | exact Drawn0.refl _ | apply Drawn0.step)⟩
        · rw [if_neg c5] at H
          exact absurd H (by simp)
      · rw [if_neg c4] at H
        exact absurd H (by simp)
theorem dragomanref14_OriginText.calls (a0 : Int) (r1 : ByteArray) (r2 : Bool) (w : World) (h : dragomanref14_OriginText.f a0 = some (r1, r2)) :
    Calls Tryz.prog 8 #[.int .i64 a0] w fun e w' => e = .returned (.tuple #[.string r1, .bool r2]) ∧ Below w.heap.size w w' := by
  refine (dragomanref14_OriginText.calls0 a0 r1 r2 w h).mono ?_
  rintro e w' ⟨he, k, rfl⟩
  exact ⟨he, pw_below_drewN (Below.refl _ _) _⟩
def strings_Join.f (a0 : List ByteArray) (a1 : ByteArray) : Option ByteArray := if a0 ≠ [] ∧ a0.length ≤ 140737488355328 ∧ (Lib.join (a0.map (·.data.toList)) a1.data.toList).length ≤ 140737488355328 then some ⟨(Lib.join (a0.map (·.data.toList)) a1.data.toList).toArray⟩ else none
theorem strings_Join.calls (A0 : Option Addr) (c0 : Nat) (l0 : List ByteArray) (a1 : ByteArray) (r : ByteArray) (w : World) (hr0 : Kd.C Kd.string w A0 l0.length l0) (hc0 : l0.length ≤ c0) (h : strings_Join.f l0 a1 = some r) :
    Calls Tryz.prog 25 #[.slice A0 l0.length c0, .string a1] w fun e w' => e = .returned (.string r) ∧ Below w.heap.size w w' := by
  unfold strings_Join.f at h
  split at h
  · rename_i g
    rw [← Option.some.inj h]
    have hpos : 0 < l0.length := List.length_pos_iff.2 g.1
    obtain ⟨ad, rfl, h0⟩ := Kd.at_string hr0 0 (by decide) (by omega)
    obtain ⟨bk, o, sp⟩ := ad
    have hsp : sp = none := by
      have hc : w.cell? ((⟨bk, o, sp⟩ : Addr).add 0) = some (.string (rdOf ByteArray.empty l0 0)) := h0
      cases sp with
      | none => rfl
      | some q =>
        unfold Addr.add World.cell? at hc
        rw [if_pos rfl] at hc
        simp at hc
        split at hc <;> simp at hc
    subst hsp
    have hlt : bk < w.heap.size := World.block_lt_of_cell? w _ (show w.cell? ((⟨bk, o, none⟩ : Addr).add 0) = _ from h0)
    refine Tryz.strings_Join bk o c0 l0 a1 w (fun j x hj => ?_) hlt g.2.1 hc0 g.2.2
    obtain ⟨hjl, hx⟩ := List.getElem?_eq_some_iff.1 hj
    obtain ⟨ad, e, hc⟩ := Kd.at_string hr0 (j : Int) (by omega) (by omega)
    injection e with e
    subst e
    have e2 : ((⟨bk, o, none⟩ : Addr).add (j : Int).toNat) = ⟨bk, o + j, none⟩ := by
      rw [Int.toNat_natCast]
      unfold Addr.add
      split
      · rename_i hz; subst hz; rfl
      · rfl
    rw [e2] at hc
    rw [hc]
    congr 2
    simp [rdOf, List.getD_eq_getElem?_getD, hj]
  · simp at h
def lex_AddrText.l0 : Nat → Int → List ByteArray → Int → Option (ByteArray)
  | 0, _, _, _ => none
  | k + 1, x0, x3, x4 => if x4 ≥ 0 then (if 0 ≤ x4 then ((lex_NumText.f (Go.bits .and .u32 (shr .u32 x0 x4) 255)).bind fun t188 => (if x3.length < 8796093022208 then (lex_AddrText.l0 k x0 (x3 ++ [t188]) (wrap64 (x4 - 8))) else (none))) else (none)) else ((strings_Join.f x3 (⟨#[46]⟩ : ByteArray)).bind fun t192 => (some t192))
def lex_AddrText.f (k : Nat) (a0 : Int) : Option (ByteArray) := lex_AddrText.l0 k a0 ([] : List ByteArray) 24
theorem lex_AddrText.mono_l : ∀ k, (∀ y0 y1 y2, LeO (lex_AddrText.l0 k y0 y1 y2) (lex_AddrText.l0 (k + 1) y0 y1 y2))
  | 0 => fun _ _ _ r h => by simp [lex_AddrText.l0] at h
  | k + 1 => by
    have ih0 := lex_AddrText.mono_l k
    · intro y0 y1 y2
      unfold lex_AddrText.l0
      repeat' first
      | (with_reducible exact ih0 _ _ _)
      | (with_reducible exact LeO.refl _)
      | (with_reducible exact LeO.none _)
      | (with_reducible refine LeO.ite ?_ ?_)
      | (with_reducible refine LeO.bind ?_ (fun _ => ?_))
      | exact ih0 _ _ _
      | exact LeO.none _
      | refine LeO.ite ?_ ?_
      | refine LeO.bind ?_ (fun _ => ?_)
theorem lex_AddrText.mono : ∀ a0 k, LeO (lex_AddrText.f k a0) (lex_AddrText.f (k + 1) a0) := by
  intro a0 k
  have ih0 := lex_AddrText.mono_l k
  unfold lex_AddrText.f
  repeat' first
      | (with_reducible exact ih0 _ _ _)
      | (with_reducible exact LeO.refl _)
      | (with_reducible exact LeO.none _)
      | (with_reducible refine LeO.ite ?_ ?_)
      | (with_reducible refine LeO.bind ?_ (fun _ => ?_))
      | exact ih0 _ _ _
      | exact LeO.none _
      | refine LeO.ite ?_ ?_
      | refine LeO.bind ?_ (fun _ => ?_)
set_option maxHeartbeats 8000000 in
set_option maxRecDepth 100000 in
theorem lex_AddrText.calls (k : Nat) (a0 : Int) (r : ByteArray) (w : World) (hG : GL w) (h : lex_AddrText.f k a0 = some r) :
    Calls Tryz.prog 11 #[.int .u32 a0] w fun e w' => e = .returned (.string r) ∧ Below w.heap.size w w' := by
  have HB := Aside0.mk (Below.refl w.heap.size w)
  have H : (lex_AddrText.l0 k a0 ([] : List ByteArray) 24) = some r := h
  clear h
  have H' := Aside0.mk H
  clear H
  go_enter Tryz.func11, Tryz.ntmps11
  go_wp2
  go_loopg [3, 4] k (fun kq v3 v4 w' => ∃ (x3_1 : List ByteArray) (x4_1 : Int), v4 = .int .i64 x4_1 ∧ Aside0 (lex_AddrText.l0 kq a0 x3_1 x4_1 = some r) ∧ Aside0 (kq ≤ k) ∧ Aside0 (Kd.R Kd.string 9 w' w.heap.size (fun _ => True) v3 x3_1) ∧ Aside0 (Below w.heap.size w w'))
  case atStart => exact ⟨(([] : List ByteArray)), (24), (by first | rfl | (simp; done) | (simp [*]; done)), H', ⟨Nat.le_refl _⟩, ⟨by first | exact Kd.R_nil _ _ _ _ _ | exact Kd.N_nil _ _ _ _ _ | exact Kd.V_nil _ _ _ _ _ | exact Kd.Q_nil _ _ _ _ _ | exact Kd.S_nil _ _ _ _ _⟩, ⟨by repeat (first | (with_reducible first | exact HB.out | apply below_alloc | apply pw_below_drewN | apply below_drew1) | exact HB.out)⟩⟩
  case round =>
    clear H'
    try clear c1
    obtain ⟨x3_1, x4_1, rfl, HA, HK1, HO_3, HB⟩ := hrel
    cases gk with
    | zero => exact absurd HA.out (by simp [lex_AddrText.l0])
    | succ k1 =>
      have H := HA.out
      clear HA
      simp only [lex_AddrText.l0] at H
      by_cases c2 : x4_1 ≥ 0
      · rw [if_pos c2] at H
        have c2b0 : decide (0 ≤ x4_1) = true := decide_eq_true c2
        clear c2
        by_cases c3 : 0 ≤ x4_1
        · rw [if_pos c3] at H
          have c3b0 := eq_true c3
          have c3b1 : decide (0 ≤ x4_1) = true := decide_eq_true c3
          clear c3
          obtain ⟨ji4, hji4⟩ : ∃ j_ : Int, (shr .u32 a0 x4_1) = j_ := ⟨_, rfl⟩
          replace H : ((lex_NumText.f (Go.bits .and .u32 (ji4) 255)).bind fun t188 => (if x3_1.length < 8796093022208 then (lex_AddrText.l0 k1 a0 (x3_1 ++ [t188]) (wrap64 (x4_1 - 8))) else (none))) = some r := by first | (rw [hji4] at H; exact H) | (simp only [hji4] at H ⊢; exact H)
          have hji4_ : (a0 / 2 ^ min x4_1.toNat 32) = ji4 := hji4
          have hji4z : x4_1 ≤ 32 → (a0 / 2 ^ x4_1.toNat) = ji4 := shr_small hji4
          replace H := Option.bind_eq_some_iff.mp H
          obtain ⟨t188, A50, H⟩ := H
          replace H : (if x3_1.length < 8796093022208 then (lex_AddrText.l0 k1 a0 (x3_1 ++ [t188]) (wrap64 (x4_1 - 8))) else (none)) = some r := H
          have A5 := Aside0.mk A50
          clear A50
          by_cases c6 : x3_1.length < 8796093022208
          · rw [if_pos c6] at H
            have LMc6 := Aside0.mk c6
            clear c6
            obtain ⟨y189, hy189⟩ : ∃ y_ : List ByteArray, y_ = (x3_1 ++ [t188]) := ⟨_, rfl⟩
            replace H : (lex_AddrText.l0 k1 a0 y189 (wrap64 (x4_1 - 8))) = some r := by first | (rw [hy189]; with_reducible exact H) | (have H2_ := (Option.bind_some _ _).symm.trans H; rw [hy189]; with_reducible exact H2_) | (have H2_ := (Option.bind_some _ _).symm.trans H; with_reducible exact H2_) | with_reducible exact H | (rw [hy189]; exact H) | exact H
            have Ny189 := Aside0.mk hy189
            clear hy189
            have H' := Aside0.mk H
            clear H
            go_wp2_with (first | ((with_reducible refine gate_callee (f := 9) rfl ?_); refine goesL_ (some 14) rfl rfl Tryz.func9 (by kernel_rfl) rfl #[.int .u32 (Go.bits .and .u32 (ji4) 255)] rfl (by (try simp only [List.map_toArray, List.map_cons, List.map_nil]); first | done | (simp only [hji4]; rfl) | rfl | (simp only [List.length_drop, List.length_take]; rfl)) ?_; (with_reducible refine (lex_NumText.calls (Go.bits .and .u32 (ji4) 255) t188 _ ?side1 A5.out).mono ?_); (case side1 => exact GL_below hG (by repeat (first | (with_reducible first | exact HB.out | apply below_alloc | apply pw_below_drewN | apply below_drew1) | exact HB.out))); rintro e w7 ⟨rfl, hb⟩; refine ⟨_, rfl, ?_⟩; have n0_ := Aside0.mk (Kd.R_below (by (with_reducible repeat (first | apply Kd.R_alloc | apply Kd.R_drewN | apply Kd.R_drew)); exact HO_3.out) hb); have n1_ := Aside0.mk (below_step (by repeat (first | (with_reducible first | exact HB.out | apply below_alloc | apply pw_below_drewN | apply below_drew1) | exact HB.out)) hb); clear HO_3; clear HB; have HO_3 := n0_; have HB := n1_; clear n0_ n1_; (try clear hb); (try clear hb2); (try clear hk); (try clear hi)) | ((with_reducible refine gate_builtin (b := .append) (xs := #[.tmp 9, .tmp 15]) rfl ?_); at_builtin; refine Kd.R_append Kd.string (w0 := w) w.heap.size rfl (.tmp 9) (.tmp 15) 52 9 (.string ⟨#[]⟩) 16 rfl Tryz.underlying52 info9 rfl (by decide) (by omega) u3 x3_1 t188 [.string t188] (fun _ => True) (fun _ => False) rfl rfl ?aP (fun _ hk => hk.elim) ?aF ?aO ?aB ?aS ?aL ?_; (case aP => exact rfl); (case aB => exact (by repeat (first | (with_reducible first | exact HB.out | apply below_alloc | apply pw_below_drewN | apply below_drew1) | exact HB.out))); (case aF => exact (fun _ _ => trivial)); (case aO => exact (by (with_reducible repeat (first | apply Kd.R_alloc | apply Kd.R_drewN | apply Kd.R_drew)); exact HO_3.out)); (case aS => exact (below_size (by repeat (first | (with_reducible first | exact HB.out | apply below_alloc | apply pw_below_drewN | apply below_drew1) | exact HB.out)))); (case aL => have := LMc6.out; omega); intro v190 w8 ho hb hg hat; rw [← Ny189.out] at ho; have n0_ := Aside0.mk (hb); have n1_ := Aside0.mk (ho); clear HB; clear HO_3; have HB := n0_; have HO191 := n1_; clear n0_ n1_; clear ho hb hg hat))
            go_roundg k1
            case measure => have := HK1.out; omega
            case rel => exact ⟨(y189), (wrap64 (x4_1 - 8)), (by first | rfl | (simp; done) | (simp [*]; done)), H', ⟨by have := HK1.out; omega⟩, ⟨by (with_reducible repeat (first | apply Kd.R_alloc | apply Kd.R_drewN | apply Kd.R_drew)); exact HO191.out⟩, ⟨by repeat (first | (with_reducible first | exact HB.out | apply below_alloc | apply pw_below_drewN | apply below_drew1) | exact HB.out)⟩⟩
          · rw [if_neg c6] at H
            exact absurd H (by simp)
        · rw [if_neg c3] at H
          exact absurd H (by simp)
      · rw [if_neg c2] at H
        have c2b0 : decide (0 ≤ x4_1) = false := decide_eq_false c2
        clear c2
        replace H := Option.bind_eq_some_iff.mp H
        obtain ⟨t192, A90, H⟩ := H
        replace H : (some t192) = some r := H
        have A9 := Aside0.mk A90
        clear A90
        obtain rfl := Option.some.inj H
        obtain ⟨Ao10, co10, eo10⟩ := Kd.R_slice HO_3.out
        subst eo10
        go_wp2_with (first | ((with_reducible refine gate_callee (f := 25) rfl ?_); refine goesL_ (some 18) rfl rfl Tryz.func25 (by kernel_rfl) rfl #[.slice Ao10 x3_1.length co10, .string (⟨#[46]⟩ : ByteArray)] rfl (by (try simp only [List.map_toArray, List.map_cons, List.map_nil]); first | done | rfl | (simp only [List.length_drop, List.length_take]; rfl)) ?_; (with_reducible refine (strings_Join.calls _ _ x3_1 (⟨#[46]⟩ : ByteArray) t192 _ ?side1 ?side2 A9.out).mono ?_); (case side1 => repeat (first | exact (Kd.R_reads' HO_3.out).2.2 | (with_reducible refine Kd.C_alloc ?_ _) | (with_reducible refine Kd.C_drewN ?_ _) | (with_reducible refine Kd.C_drew ?_))); (case side2 => exact (Kd.R_reads' HO_3.out).2.1); rintro e w11 ⟨rfl, hb⟩; refine ⟨_, rfl, ?_⟩; have n0_ := Aside0.mk (Kd.R_below (by (with_reducible repeat (first | apply Kd.R_alloc | apply Kd.R_drewN | apply Kd.R_drew)); exact HO_3.out) hb); have n1_ := Aside0.mk (below_step (by repeat (first | (with_reducible first | exact HB.out | apply below_alloc | apply pw_below_drewN | apply below_drew1) | exact HB.out)) hb); clear HO_3; clear HB; have HO_3 := n0_; have HB := n1_; clear n0_ n1_; (try clear hb); (try clear hb2); (try clear hk); (try clear hi)))
        first | go_ret | refine ⟨_, results_tmp rfl _ _ _, ?_⟩
        exact ⟨by first | rfl | (simp [errW_none, errW_some] <;> rfl) | (simp [*, errW_none, errW_some] <;> rfl), by repeat (first | (with_reducible first | exact HB.out | apply below_alloc | apply pw_below_drewN | apply below_drew1) | exact HB.out)⟩
def dragomanref14_AddrText.f (k : Nat) (a0 : Int) : Option (ByteArray) := (dragomanref14_NumText.f k ((Int.tdiv a0 16777216) % 4294967296)).bind fun t193 => (if t193.size + 1 ≤ 9223372036854775807 then ((dragomanref14_NumText.f k (((Int.tdiv a0 65536) % 4294967296) % 256)).bind fun t194 => (if (t193 ++ (⟨#[46]⟩ : ByteArray)).size + t194.size ≤ 9223372036854775807 then (if ((t193 ++ (⟨#[46]⟩ : ByteArray)) ++ t194).size + 1 ≤ 9223372036854775807 then ((dragomanref14_NumText.f k (((Int.tdiv a0 256) % 4294967296) % 256)).bind fun t195 => (if (((t193 ++ (⟨#[46]⟩ : ByteArray)) ++ t194) ++ (⟨#[46]⟩ : ByteArray)).size + t195.size ≤ 9223372036854775807 then (if ((((t193 ++ (⟨#[46]⟩ : ByteArray)) ++ t194) ++ (⟨#[46]⟩ : ByteArray)) ++ t195).size + 1 ≤ 9223372036854775807 then ((dragomanref14_NumText.f k (Int.tmod a0 256)).bind fun t196 => (if (((((t193 ++ (⟨#[46]⟩ : ByteArray)) ++ t194) ++ (⟨#[46]⟩ : ByteArray)) ++ t195) ++ (⟨#[46]⟩ : ByteArray)).size + t196.size ≤ 9223372036854775807 then (some ((((((t193 ++ (⟨#[46]⟩ : ByteArray)) ++ t194) ++ (⟨#[46]⟩ : ByteArray)) ++ t195) ++ (⟨#[46]⟩ : ByteArray)) ++ t196)) else (none))) else (none)) else (none))) else (none)) else (none))) else (none))
theorem dragomanref14_AddrText.mono : ∀ a0 k, LeO (dragomanref14_AddrText.f k a0) (dragomanref14_AddrText.f (k + 1) a0) := by
  intro a0 k
  unfold dragomanref14_AddrText.f
  repeat' first
      | (with_reducible exact dragomanref14_NumText.mono _ _)
      | (with_reducible exact LeO.refl _)
      | (with_reducible exact LeO.none _)
      | (with_reducible refine LeO.ite ?_ ?_)
      | (with_reducible refine LeO.bind ?_ (fun _ => ?_))
      | exact dragomanref14_NumText.mono _ _
      | exact LeO.none _
      | refine LeO.ite ?_ ?_
      | refine LeO.bind ?_ (fun _ => ?_)
set_option maxHeartbeats 8000000 in
set_option maxRecDepth 100000 in
theorem dragomanref14_AddrText.calls (k : Nat) (a0 : Int) (r : ByteArray) (w : World) (h : dragomanref14_AddrText.f k a0 = some r) :
    Calls Tryz.prog 12 #[.int .u32 a0] w fun e w' => e = .returned (.string r) ∧ Below w.heap.size w w' := by
  have HB := Aside0.mk (Below.refl w.heap.size w)
  have H : ((dragomanref14_NumText.f k ((Int.tdiv a0 16777216) % 4294967296)).bind fun t193 => (if t193.size + 1 ≤ 9223372036854775807 then ((dragomanref14_NumText.f k (((Int.tdiv a0 65536) % 4294967296) % 256)).bind fun t194 => (if (t193 ++ (⟨#[46]⟩ : ByteArray)).size + t194.size ≤ 9223372036854775807 then (if ((t193 ++ (⟨#[46]⟩ : ByteArray)) ++ t194).size + 1 ≤ 9223372036854775807 then ((dragomanref14_NumText.f k (((Int.tdiv a0 256) % 4294967296) % 256)).bind fun t195 => (if (((t193 ++ (⟨#[46]⟩ : ByteArray)) ++ t194) ++ (⟨#[46]⟩ : ByteArray)).size + t195.size ≤ 9223372036854775807 then (if ((((t193 ++ (⟨#[46]⟩ : ByteArray)) ++ t194) ++ (⟨#[46]⟩ : ByteArray)) ++ t195).size + 1 ≤ 9223372036854775807 then ((dragomanref14_NumText.f k (Int.tmod a0 256)).bind fun t196 => (if (((((t193 ++ (⟨#[46]⟩ : ByteArray)) ++ t194) ++ (⟨#[46]⟩ : ByteArray)) ++ t195) ++ (⟨#[46]⟩ : ByteArray)).size + t196.size ≤ 9223372036854775807 then (some ((((((t193 ++ (⟨#[46]⟩ : ByteArray)) ++ t194) ++ (⟨#[46]⟩ : ByteArray)) ++ t195) ++ (⟨#[46]⟩ : ByteArray)) ++ t196)) else (none))) else (none)) else (none))) else (none)) else (none))) else (none))) = some r := h
  clear h
  replace H := Option.bind_eq_some_iff.mp H
  obtain ⟨t193, A20, H⟩ := H
  replace H : (if t193.size + 1 ≤ 9223372036854775807 then ((dragomanref14_NumText.f k (((Int.tdiv a0 65536) % 4294967296) % 256)).bind fun t194 => (if (t193 ++ (⟨#[46]⟩ : ByteArray)).size + t194.size ≤ 9223372036854775807 then (if ((t193 ++ (⟨#[46]⟩ : ByteArray)) ++ t194).size + 1 ≤ 9223372036854775807 then ((dragomanref14_NumText.f k (((Int.tdiv a0 256) % 4294967296) % 256)).bind fun t195 => (if (((t193 ++ (⟨#[46]⟩ : ByteArray)) ++ t194) ++ (⟨#[46]⟩ : ByteArray)).size + t195.size ≤ 9223372036854775807 then (if ((((t193 ++ (⟨#[46]⟩ : ByteArray)) ++ t194) ++ (⟨#[46]⟩ : ByteArray)) ++ t195).size + 1 ≤ 9223372036854775807 then ((dragomanref14_NumText.f k (Int.tmod a0 256)).bind fun t196 => (if (((((t193 ++ (⟨#[46]⟩ : ByteArray)) ++ t194) ++ (⟨#[46]⟩ : ByteArray)) ++ t195) ++ (⟨#[46]⟩ : ByteArray)).size + t196.size ≤ 9223372036854775807 then (some ((((((t193 ++ (⟨#[46]⟩ : ByteArray)) ++ t194) ++ (⟨#[46]⟩ : ByteArray)) ++ t195) ++ (⟨#[46]⟩ : ByteArray)) ++ t196)) else (none))) else (none)) else (none))) else (none)) else (none))) else (none)) = some r := H
  have A2 := Aside0.mk A20
  clear A20
  by_cases c3 : t193.size + 1 ≤ 9223372036854775807
  · rw [if_pos c3] at H
    have c3b0 := eq_true c3
    have c3b1 : decide (t193.size + 1 ≤ 9223372036854775807) = true := decide_eq_true c3
    try have c3b2 : (9223372036854775807 < t193.size + 1) = False := eq_false (Nat.not_lt.2 c3)
    replace H := Option.bind_eq_some_iff.mp H
    obtain ⟨t194, A40, H⟩ := H
    replace H : (if (t193 ++ (⟨#[46]⟩ : ByteArray)).size + t194.size ≤ 9223372036854775807 then (if ((t193 ++ (⟨#[46]⟩ : ByteArray)) ++ t194).size + 1 ≤ 9223372036854775807 then ((dragomanref14_NumText.f k (((Int.tdiv a0 256) % 4294967296) % 256)).bind fun t195 => (if (((t193 ++ (⟨#[46]⟩ : ByteArray)) ++ t194) ++ (⟨#[46]⟩ : ByteArray)).size + t195.size ≤ 9223372036854775807 then (if ((((t193 ++ (⟨#[46]⟩ : ByteArray)) ++ t194) ++ (⟨#[46]⟩ : ByteArray)) ++ t195).size + 1 ≤ 9223372036854775807 then ((dragomanref14_NumText.f k (Int.tmod a0 256)).bind fun t196 => (if (((((t193 ++ (⟨#[46]⟩ : ByteArray)) ++ t194) ++ (⟨#[46]⟩ : ByteArray)) ++ t195) ++ (⟨#[46]⟩ : ByteArray)).size + t196.size ≤ 9223372036854775807 then (some ((((((t193 ++ (⟨#[46]⟩ : ByteArray)) ++ t194) ++ (⟨#[46]⟩ : ByteArray)) ++ t195) ++ (⟨#[46]⟩ : ByteArray)) ++ t196)) else (none))) else (none)) else (none))) else (none)) else (none)) = some r := H
    have A4 := Aside0.mk A40
    clear A40
    by_cases c5 : (t193 ++ (⟨#[46]⟩ : ByteArray)).size + t194.size ≤ 9223372036854775807
    · rw [if_pos c5] at H
      have c5b0 := eq_true c5
      have c5b1 : decide ((t193 ++ (⟨#[46]⟩ : ByteArray)).size + t194.size ≤ 9223372036854775807) = true := decide_eq_true c5
      try have c5b2 : (9223372036854775807 < (t193 ++ (⟨#[46]⟩ : ByteArray)).size + t194.size) = False := eq_false (Nat.not_lt.2 c5)
      have c5b3 : (9223372036854775807 < t193.size + 1 + t194.size) = False := eq_false (by have h_ := c5; simp only [ByteArray.size_append] at h_; exact Nat.not_lt.2 h_)
      by_cases c6 : ((t193 ++ (⟨#[46]⟩ : ByteArray)) ++ t194).size + 1 ≤ 9223372036854775807
      · rw [if_pos c6] at H
        have c6b0 := eq_true c6
        have c6b1 : decide (((t193 ++ (⟨#[46]⟩ : ByteArray)) ++ t194).size + 1 ≤ 9223372036854775807) = true := decide_eq_true c6
        try have c6b2 : (9223372036854775807 < ((t193 ++ (⟨#[46]⟩ : ByteArray)) ++ t194).size + 1) = False := eq_false (Nat.not_lt.2 c6)
        have c6b3 : (9223372036854775807 < t193.size + 1 + t194.size + 1) = False := eq_false (by have h_ := c6; simp only [ByteArray.size_append] at h_; exact Nat.not_lt.2 h_)
        replace H := Option.bind_eq_some_iff.mp H
        obtain ⟨t195, A70, H⟩ := H
        replace H : (if (((t193 ++ (⟨#[46]⟩ : ByteArray)) ++ t194) ++ (⟨#[46]⟩ : ByteArray)).size + t195.size ≤ 9223372036854775807 then (if ((((t193 ++ (⟨#[46]⟩ : ByteArray)) ++ t194) ++ (⟨#[46]⟩ : ByteArray)) ++ t195).size + 1 ≤ 9223372036854775807 then ((dragomanref14_NumText.f k (Int.tmod a0 256)).bind fun t196 => (if (((((t193 ++ (⟨#[46]⟩ : ByteArray)) ++ t194) ++ (⟨#[46]⟩ : ByteArray)) ++ t195) ++ (⟨#[46]⟩ : ByteArray)).size + t196.size ≤ 9223372036854775807 then (some ((((((t193 ++ (⟨#[46]⟩ : ByteArray)) ++ t194) ++ (⟨#[46]⟩ : ByteArray)) ++ t195) ++ (⟨#[46]⟩ : ByteArray)) ++ t196)) else (none))) else (none)) else (none)) = some r := H
        have A7 := Aside0.mk A70
        clear A70
        by_cases c8 : (((t193 ++ (⟨#[46]⟩ : ByteArray)) ++ t194) ++ (⟨#[46]⟩ : ByteArray)).size + t195.size ≤ 9223372036854775807
        · rw [if_pos c8] at H
          have c8b0 := eq_true c8
          have c8b1 : decide ((((t193 ++ (⟨#[46]⟩ : ByteArray)) ++ t194) ++ (⟨#[46]⟩ : ByteArray)).size + t195.size ≤ 9223372036854775807) = true := decide_eq_true c8
          try have c8b2 : (9223372036854775807 < (((t193 ++ (⟨#[46]⟩ : ByteArray)) ++ t194) ++ (⟨#[46]⟩ : ByteArray)).size + t195.size) = False := eq_false (Nat.not_lt.2 c8)
          have c8b3 : (9223372036854775807 < t193.size + 1 + t194.size + 1 + t195.size) = False := eq_false (by have h_ := c8; simp only [ByteArray.size_append] at h_; exact Nat.not_lt.2 h_)
          by_cases c9 : ((((t193 ++ (⟨#[46]⟩ : ByteArray)) ++ t194) ++ (⟨#[46]⟩ : ByteArray)) ++ t195).size + 1 ≤ 9223372036854775807
          · rw [if_pos c9] at H
            have c9b0 := eq_true c9
            have c9b1 : decide (((((t193 ++ (⟨#[46]⟩ : ByteArray)) ++ t194) ++ (⟨#[46]⟩ : ByteArray)) ++ t195).size + 1 ≤ 9223372036854775807) = true := decide_eq_true c9
            try have c9b2 : (9223372036854775807 < ((((t193 ++ (⟨#[46]⟩ : ByteArray)) ++ t194) ++ (⟨#[46]⟩ : ByteArray)) ++ t195).size + 1) = False := eq_false (Nat.not_lt.2 c9)
            have c9b3 : (9223372036854775807 < t193.size + 1 + t194.size + 1 + t195.size + 1) = False := eq_false (by have h_ := c9; simp only [ByteArray.size_append] at h_; exact Nat.not_lt.2 h_)
            replace H := Option.bind_eq_some_iff.mp H
            obtain ⟨t196, A100, H⟩ := H
            replace H : (if (((((t193 ++ (⟨#[46]⟩ : ByteArray)) ++ t194) ++ (⟨#[46]⟩ : ByteArray)) ++ t195) ++ (⟨#[46]⟩ : ByteArray)).size + t196.size ≤ 9223372036854775807 then (some ((((((t193 ++ (⟨#[46]⟩ : ByteArray)) ++ t194) ++ (⟨#[46]⟩ : ByteArray)) ++ t195) ++ (⟨#[46]⟩ : ByteArray)) ++ t196)) else (none)) = some r := H
            have A10 := Aside0.mk A100
            clear A100
            by_cases c11 : (((((t193 ++ (⟨#[46]⟩ : ByteArray)) ++ t194) ++ (⟨#[46]⟩ : ByteArray)) ++ t195) ++ (⟨#[46]⟩ : ByteArray)).size + t196.size ≤ 9223372036854775807
            · rw [if_pos c11] at H
              have c11b0 := eq_true c11
              have c11b1 : decide ((((((t193 ++ (⟨#[46]⟩ : ByteArray)) ++ t194) ++ (⟨#[46]⟩ : ByteArray)) ++ t195) ++ (⟨#[46]⟩ : ByteArray)).size + t196.size ≤ 9223372036854775807) = true := decide_eq_true c11
              try have c11b2 : (9223372036854775807 < (((((t193 ++ (⟨#[46]⟩ : ByteArray)) ++ t194) ++ (⟨#[46]⟩ : ByteArray)) ++ t195) ++ (⟨#[46]⟩ : ByteArray)).size + t196.size) = False := eq_false (Nat.not_lt.2 c11)
              have c11b3 : (9223372036854775807 < t193.size + 1 + t194.size + 1 + t195.size + 1 + t196.size) = False := eq_false (by have h_ := c11; simp only [ByteArray.size_append] at h_; exact Nat.not_lt.2 h_)
              obtain rfl := Option.some.inj H
              go_enter Tryz.func12, Tryz.ntmps12
              go_wp2_with (first | ((with_reducible refine gate_callee (f := 10) rfl ?_); refine goesL_ (some 5) rfl rfl Tryz.func10 (by kernel_rfl) rfl #[.int .u32 ((Int.tdiv a0 16777216) % 4294967296)] rfl (by (try simp only [List.map_toArray, List.map_cons, List.map_nil]); first | done | rfl | (simp only [List.length_drop, List.length_take]; rfl)) ?_; (with_reducible refine (dragomanref14_NumText.calls k ((Int.tdiv a0 16777216) % 4294967296) t193 _ A2.out).mono ?_); rintro e w12 ⟨rfl, hb⟩; refine ⟨_, rfl, ?_⟩; have n0_ := Aside0.mk (below_step (by repeat (first | (with_reducible first | exact HB.out | apply below_alloc | apply pw_below_drewN | apply below_drew1) | exact HB.out)) hb); clear HB; have HB := n0_; clear n0_; (try clear hb); (try clear hb2); (try clear hk); (try clear hi)) | ((with_reducible refine gate_callee (f := 10) rfl ?_); refine goesL_ (some 10) rfl rfl Tryz.func10 (by kernel_rfl) rfl #[.int .u32 (((Int.tdiv a0 65536) % 4294967296) % 256)] rfl (by (try simp only [List.map_toArray, List.map_cons, List.map_nil]); first | done | rfl | (simp only [List.length_drop, List.length_take]; rfl)) ?_; (with_reducible refine (dragomanref14_NumText.calls k (((Int.tdiv a0 65536) % 4294967296) % 256) t194 _ A4.out).mono ?_); rintro e w13 ⟨rfl, hb⟩; refine ⟨_, rfl, ?_⟩; have n0_ := Aside0.mk (below_step (by repeat (first | (with_reducible first | exact HB.out | apply below_alloc | apply pw_below_drewN | apply below_drew1) | exact HB.out)) hb); clear HB; have HB := n0_; clear n0_; (try clear hb); (try clear hb2); (try clear hk); (try clear hi)) | ((with_reducible refine gate_callee (f := 10) rfl ?_); refine goesL_ (some 16) rfl rfl Tryz.func10 (by kernel_rfl) rfl #[.int .u32 (((Int.tdiv a0 256) % 4294967296) % 256)] rfl (by (try simp only [List.map_toArray, List.map_cons, List.map_nil]); first | done | rfl | (simp only [List.length_drop, List.length_take]; rfl)) ?_; (with_reducible refine (dragomanref14_NumText.calls k (((Int.tdiv a0 256) % 4294967296) % 256) t195 _ A7.out).mono ?_); rintro e w14 ⟨rfl, hb⟩; refine ⟨_, rfl, ?_⟩; have n0_ := Aside0.mk (below_step (by repeat (first | (with_reducible first | exact HB.out | apply below_alloc | apply pw_below_drewN | apply below_drew1) | exact HB.out)) hb); clear HB; have HB := n0_; clear n0_; (try clear hb); (try clear hb2); (try clear hk); (try clear hi)) | ((with_reducible refine gate_callee (f := 10) rfl ?_); refine goesL_ (some 21) rfl rfl Tryz.func10 (by kernel_rfl) rfl #[.int .u32 (Int.tmod a0 256)] rfl (by (try simp only [List.map_toArray, List.map_cons, List.map_nil]); first | done | rfl | (simp only [List.length_drop, List.length_take]; rfl)) ?_; (with_reducible refine (dragomanref14_NumText.calls k (Int.tmod a0 256) t196 _ A10.out).mono ?_); rintro e w15 ⟨rfl, hb⟩; refine ⟨_, rfl, ?_⟩; have n0_ := Aside0.mk (below_step (by repeat (first | (with_reducible first | exact HB.out | apply below_alloc | apply pw_below_drewN | apply below_drew1) | exact HB.out)) hb); clear HB; have HB := n0_; clear n0_; (try clear hb); (try clear hb2); (try clear hk); (try clear hi)))
              first | go_ret | refine ⟨_, results_tmp rfl _ _ _, ?_⟩
              exact ⟨by first | rfl | (simp [errW_none, errW_some] <;> rfl) | (simp [*, errW_none, errW_some] <;> rfl), by repeat (first | (with_reducible first | exact HB.out | apply below_alloc | apply pw_below_drewN | apply below_drew1) | exact HB.out)⟩
            · rw [if_neg c11] at H
              exact absurd H (by simp)
          · rw [if_neg c9] at H
            exact absurd H (by simp)
        · rw [if_neg c8] at H
          exact absurd H (by simp)
      · rw [if_neg c6] at H
        exact absurd H (by simp)
    · rw [if_neg c5] at H
      exact absurd H (by simp)
  · rw [if_neg c3] at H
    exact absurd H (by simp)
def strconv_Itoa.f (a0 : Int) : Option ByteArray := if -9223372036854775808 ≤ a0 ∧ a0 ≤ 9223372036854775807 then some ⟨(Lib.itoa a0).toArray⟩ else none
theorem strconv_Itoa.calls (a0 : Int) (r : ByteArray) (w : World) (hG : GL w) (h : strconv_Itoa.f a0 = some r) :
    Calls Tryz.prog 26 #[.int .i64 a0] w fun e w' => e = .returned (.string r) ∧ Below w.heap.size w w' := by
  unfold strconv_Itoa.f at h
  split at h
  · rename_i g
    rw [← Option.some.inj h]
    refine (Tryz.strconv_Itoa a0 g.1 g.2 w hG.2.2.1).mono ?_
    rintro e w' ⟨rfl, k, os, rfl⟩
    exact ⟨rfl, Lib.below_grow _ w (Nat.le_refl _) k os⟩
  · simp at h
end Go.Proofs.YtdnneofebehpaaaGreatDoor.L
