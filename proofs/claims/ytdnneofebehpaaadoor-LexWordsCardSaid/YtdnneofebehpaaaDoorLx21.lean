import Derived.Test.YtdnneofebehpaaaDoorLx0
namespace Go.Proofs.YtdnneofebehpaaaDoor.L
open Go.RowKit Go.Proofs.YtdnneofebehpaaaDoorW.PrintWords Go.Proofs.YtdnneofebehpaaaDoorW.PrintLast Go.Proofs.YtdnneofebehpaaaDoorW.PrintMore
attribute [local go_sem] max2_int min2_int max_two min_two max_three min_three max_four min_four
set_option linter.unusedVariables false
set_option linter.unusedSimpArgs false
def lex_Origin.f (a0 : ByteArray) : Option (Int × Bool) := if a0.toList = ([105, 103, 112] : List UInt8) then (some (0, true)) else (if a0.toList = ([101, 103, 112] : List UInt8) then (some (1, true)) else (if a0.toList = ([105, 110, 99, 111, 109, 112, 108, 101, 116, 101] : List UInt8) then (some (2, true)) else (some (0, false))))
set_option maxHeartbeats 8000000 in
set_option maxRecDepth 100000 in
theorem lex_Origin.calls (a0 : ByteArray) (r1 : Int) (r2 : Bool) (w : World) (h : lex_Origin.f a0 = some (r1, r2)) :
    Calls Tryd.prog 22 #[.string a0] w fun e w' => e = .returned (.tuple #[.int .i64 r1, .bool r2]) ∧ Drawn0 w w' := by
  have H : (if a0.toList = ([105, 103, 112] : List UInt8) then (some (0, true)) else (if a0.toList = ([101, 103, 112] : List UInt8) then (some (1, true)) else (if a0.toList = ([105, 110, 99, 111, 109, 112, 108, 101, 116, 101] : List UInt8) then (some (2, true)) else (some (0, false))))) = some (r1, r2) := h
  clear h
  by_cases c2 : a0.toList = ([105, 103, 112] : List UInt8)
  · rw [if_pos c2] at H
    have c2b0 : (a0.toList == ([105, 103, 112] : List UInt8)) = true := beq_iff_eq.mpr c2
    have c2b1 : (a0.toList != ([105, 103, 112] : List UInt8)) = false := bne_eq_false_iff_eq.mpr c2
    clear c2
    simp only [Option.some.injEq, Prod.mk.injEq] at H
    obtain ⟨rfl, rfl⟩ := H
    go_enter Tryd.func22, Tryd.ntmps22
    go_wp2
    first | go_ret2 | refine ⟨_, results_tmp2 rfl _ _ _, ?_⟩
    exact ⟨by first | rfl | (simp; done) | (simp [*]; done), by repeat (first | exact Drawn0.refl _ | apply Drawn0.step)⟩
  · rw [if_neg c2] at H
    have c2b0 : (a0.toList == ([105, 103, 112] : List UInt8)) = false := beq_eq_false_iff_ne.mpr c2
    have c2b1 : (a0.toList != ([105, 103, 112] : List UInt8)) = true := bne_iff_ne.mpr c2
    by_cases c3 : a0.toList = ([101, 103, 112] : List UInt8)
    · rw [if_pos c3] at H
      have c3b0 : (a0.toList == ([101, 103, 112] : List UInt8)) = true := beq_iff_eq.mpr c3
      have c3b1 : (a0.toList != ([101, 103, 112] : List UInt8)) = false := bne_eq_false_iff_eq.mpr c3
      clear c3
      simp only [Option.some.injEq, Prod.mk.injEq] at H
      obtain ⟨rfl, rfl⟩ := H
      go_enter Tryd.func22, Tryd.ntmps22
      go_wp2
      first | go_ret2 | refine ⟨_, results_tmp2 rfl _ _ _, ?_⟩
      exact ⟨by first | rfl | (simp; done) | (simp [*]; done), by repeat (first | exact Drawn0.refl _ | apply Drawn0.step)⟩
    · rw [if_neg c3] at H
      have c3b0 : (a0.toList == ([101, 103, 112] : List UInt8)) = false := beq_eq_false_iff_ne.mpr c3
      have c3b1 : (a0.toList != ([101, 103, 112] : List UInt8)) = true := bne_iff_ne.mpr c3
      by_cases c4 : a0.toList = ([105, 110, 99, 111, 109, 112, 108, 101, 116, 101] : List UInt8)
      · rw [if_pos c4] at H
        have c4b0 : (a0.toList == ([105, 110, 99, 111, 109, 112, 108, 101, 116, 101] : List UInt8)) = true := beq_iff_eq.mpr c4
        have c4b1 : (a0.toList != ([105, 110, 99, 111, 109, 112, 108, 101, 116, 101] : List UInt8)) = false := bne_eq_false_iff_eq.mpr c4
        clear c4
        simp only [Option.some.injEq, Prod.mk.injEq] at H
        obtain ⟨rfl, rfl⟩ := H
        go_enter Tryd.func22, Tryd.ntmps22
        go_wp2
        first | go_ret2 | refine ⟨_, results_tmp2 rfl _ _ _, ?_⟩
        exact ⟨by first | rfl | (simp; done) | (simp [*]; done), by repeat (first | exact Drawn0.refl _ | apply Drawn0.step)⟩
      · rw [if_neg c4] at H
        have c4b0 : (a0.toList == ([105, 110, 99, 111, 109, 112, 108, 101, 116, 101] : List UInt8)) = false := beq_eq_false_iff_ne.mpr c4
        have c4b1 : (a0.toList != ([105, 110, 99, 111, 109, 112, 108, 101, 116, 101] : List UInt8)) = true := bne_iff_ne.mpr c4
        simp only [Option.some.injEq, Prod.mk.injEq] at H
        obtain ⟨rfl, rfl⟩ := H
        go_enter Tryd.func22, Tryd.ntmps22
        go_wp2
        first | go_ret2 | refine ⟨_, results_tmp2 rfl _ _ _, ?_⟩
        exact ⟨by first | rfl | (simp; done) | (simp [*]; done), by repeat (first | exact Drawn0.refl _ | apply Drawn0.step)⟩
def dragomanref14_Origin.f (a0 : ByteArray) : Option (Int × Bool) := if a0.toList = ([105, 103, 112] : List UInt8) then some (0, true) else if a0.toList = ([101, 103, 112] : List UInt8) then some (1, true) else if a0.toList = ([105, 110, 99, 111, 109, 112, 108, 101, 116, 101] : List UInt8) then some (2, true) else some (0, false)
set_option maxHeartbeats 8000000 in
set_option maxRecDepth 100000 in
theorem dragomanref14_Origin.calls (a0 : ByteArray) (r1 : Int) (r2 : Bool) (w : World) (h : dragomanref14_Origin.f a0 = some (r1, r2)) :
    Calls Tryd.prog 23 #[.string a0] w fun e w' => e = .returned (.tuple #[.int .i64 r1, .bool r2]) ∧ Below w.heap.size w w' := by
  unfold dragomanref14_Origin.f at h
  have H := Aside0.mk h
  clear h
  have i0 : ∀ W, (Instr.index 79 (.agg #[.string (⟨#[105, 103, 112]⟩ : ByteArray), .string (⟨#[101, 103, 112]⟩ : ByteArray), .string (⟨#[105, 110, 99, 111, 109, 112, 108, 101, 116, 101]⟩ : ByteArray)]) (.int .i64 0)).run Tryd.prog W = .ok (.string (⟨#[105, 103, 112]⟩ : ByteArray)) W := fun W => by
    unfold Instr.index
    have hs := Tryd.sizeOf9
    have ha := Tryd.isAgg9
    go_simp
  have i1 : ∀ W, (Instr.index 79 (.agg #[.string (⟨#[105, 103, 112]⟩ : ByteArray), .string (⟨#[101, 103, 112]⟩ : ByteArray), .string (⟨#[105, 110, 99, 111, 109, 112, 108, 101, 116, 101]⟩ : ByteArray)]) (.int .i64 1)).run Tryd.prog W = .ok (.string (⟨#[101, 103, 112]⟩ : ByteArray)) W := fun W => by
    unfold Instr.index
    have hs := Tryd.sizeOf9
    have ha := Tryd.isAgg9
    go_simp
  have i2 : ∀ W, (Instr.index 79 (.agg #[.string (⟨#[105, 103, 112]⟩ : ByteArray), .string (⟨#[101, 103, 112]⟩ : ByteArray), .string (⟨#[105, 110, 99, 111, 109, 112, 108, 101, 116, 101]⟩ : ByteArray)]) (.int .i64 2)).run Tryd.prog W = .ok (.string (⟨#[105, 110, 99, 111, 109, 112, 108, 101, 116, 101]⟩ : ByteArray)) W := fun W => by
    unfold Instr.index
    have hs := Tryd.sizeOf9
    have ha := Tryd.isAgg9
    go_simp
  go_enter Tryd.func23, Tryd.ntmps23
  go_wp2
  go_loopg [7] 3 (fun g v7 w' => ∃ k : Nat, k ≤ 3 ∧ 3 - k ≤ g ∧ v7 = .int .i64 k ∧ Aside0 ((0 < k → ¬ a0.toList = ([105, 103, 112] : List UInt8)) ∧ (1 < k → ¬ a0.toList = ([101, 103, 112] : List UInt8)) ∧ (2 < k → ¬ a0.toList = ([105, 110, 99, 111, 109, 112, 108, 101, 116, 101] : List UInt8))) ∧ Aside0 (Below w.heap.size w w'))
  case atStart => exact ⟨0, by omega, by omega, rfl, ⟨by omega, by omega, by omega⟩, ⟨Below.refl _ _⟩⟩
  case round =>
    obtain ⟨k, hk, hg, rfl, HA, HB⟩ := hrel
    obtain rfl | rfl | rfl | rfl : k = 0 ∨ k = 1 ∨ k = 2 ∨ k = 3 := by omega
    · by_cases c : a0.toList = ([105, 103, 112] : List UInt8)
      · have c0 : (a0.toList == ([105, 103, 112] : List UInt8)) = true := beq_iff_eq.mpr c
        have H' := H.out
        rw [if_pos c] at H'
        simp only [Option.some.injEq, Prod.mk.injEq] at H'
        obtain ⟨rfl, rfl⟩ := H'
        clear c
        go_wp2
        go_ret2
        exact ⟨rfl, HB.out⟩
      · have c0 : (a0.toList == ([105, 103, 112] : List UInt8)) = false := beq_eq_false_iff_ne.mpr c
        replace c := Aside0.mk c
        go_wp2
        go_roundg 2
        case measure => omega
        case rel => exact ⟨1, by omega, by omega, rfl, ⟨fun _ => c.out, by omega, by omega⟩, HB⟩
    · by_cases c : a0.toList = ([101, 103, 112] : List UInt8)
      · have c0 : (a0.toList == ([101, 103, 112] : List UInt8)) = true := beq_iff_eq.mpr c
        have H' := H.out
        rw [if_neg (HA.out.1 (by omega)), if_pos c] at H'
        simp only [Option.some.injEq, Prod.mk.injEq] at H'
        obtain ⟨rfl, rfl⟩ := H'
        clear c
        go_wp2
        go_ret2
        exact ⟨rfl, HB.out⟩
      · have c0 : (a0.toList == ([101, 103, 112] : List UInt8)) = false := beq_eq_false_iff_ne.mpr c
        replace c := Aside0.mk c
        go_wp2
        go_roundg 1
        case measure => omega
        case rel => exact ⟨2, by omega, by omega, rfl, ⟨fun _ => HA.out.1 (by omega), fun _ => c.out, by omega⟩, HB⟩
    · by_cases c : a0.toList = ([105, 110, 99, 111, 109, 112, 108, 101, 116, 101] : List UInt8)
      · have c0 : (a0.toList == ([105, 110, 99, 111, 109, 112, 108, 101, 116, 101] : List UInt8)) = true := beq_iff_eq.mpr c
        have H' := H.out
        rw [if_neg (HA.out.1 (by omega)), if_neg (HA.out.2.1 (by omega)), if_pos c] at H'
        simp only [Option.some.injEq, Prod.mk.injEq] at H'
        obtain ⟨rfl, rfl⟩ := H'
        clear c
        go_wp2
        go_ret2
        exact ⟨rfl, HB.out⟩
      · have c0 : (a0.toList == ([105, 110, 99, 111, 109, 112, 108, 101, 116, 101] : List UInt8)) = false := beq_eq_false_iff_ne.mpr c
        replace c := Aside0.mk c
        go_wp2
        go_roundg 0
        case measure => omega
        case rel => exact ⟨3, by omega, by omega, rfl, ⟨fun _ => HA.out.1 (by omega), fun _ => HA.out.2.1 (by omega), fun _ => c.out⟩, HB⟩
    · have H' := H.out
      rw [if_neg (HA.out.1 (by omega)), if_neg (HA.out.2.1 (by omega)), if_neg (HA.out.2.2 (by omega))] at H'
      simp only [Option.some.injEq, Prod.mk.injEq] at H'
      obtain ⟨rfl, rfl⟩ := H'
      go_wp2
      go_ret2
      exact ⟨rfl, HB.out⟩
end Go.Proofs.YtdnneofebehpaaaDoor.L
