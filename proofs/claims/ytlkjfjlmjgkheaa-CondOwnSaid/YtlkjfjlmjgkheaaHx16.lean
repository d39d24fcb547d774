import Derived.Test.YtlkjfjlmjgkheaaHx0
import Derived.Test.YtlkjfjlmjgkheaaHx14
import Derived.Test.YtlkjfjlmjgkheaaHx15
namespace Go.Proofs.Ytlkjfjlmjgkheaa.H
open Go.RowKit Go.Proofs.YtlkjfjlmjgkheaaW.PrintWords Go.Proofs.YtlkjfjlmjgkheaaW.PrintLast Go.Proofs.YtlkjfjlmjgkheaaW.PrintMore
attribute [local go_sem] max2_int min2_int max_two min_two max_three min_three max_four min_four
set_option linter.unusedVariables false
set_option linter.unusedSimpArgs false
def r5_Match.f (k : Nat) (a0_0 : Int) (l0_1 : List (S66)) (l0_2 : List (S25)) (l1 : List Int) : Option (Bool) := if 0 ≤ (wrap64 ((l1.length : Int) + 1)) then (if (wrap64 ((l1.length : Int) + 1) : Int).toNat ≤ 281474976710656 then ((some (List.replicate (wrap64 ((l1.length : Int) + 1) : Int).toNat false : List Bool)).bind fun y256 => (if 0 < (y256.length : Int) then ((r5_ends.f k a0_0 l0_1 l0_2 l1 (y256.set (0 : Int).toNat true)).bind fun t260 => (if 0 ≤ (l1.length : Int) then (if (l1.length : Int) < (t260.length : Int) then (some (rdOf false t260 (l1.length : Int))) else (none)) else (none))) else (none))) else (none)) else (none)
def r5_Takes.f (k : Nat) (a0_0 : Int) (l0_1 : List (S66)) (l0_2 : List (S25)) (l1 : List Int) : Option (Bool) := (r5_Right.f k a0_0 l0_1 l0_2).bind fun t265 => (if t265 = true then (if (l1.length : Int) ≤ 255 then ((r5_Match.f k a0_0 l0_1 l0_2 l1).bind fun t266 => (some t266)) else (some false)) else (some false))
def dragomanref11_TakesPath.l0 : Nat → List Int → List (S61) → Int → Int → Option (Bool)
 | 0, _, _, _, _ => none
 | k + 1, x1, x7, x8, x9 => if x9 < x8 then (if 0 ≤ x9 then (if x9 < (x7.length : Int) then ((r5_Takes.f k ((rd_T61 x7 x9).f1.f0) ((rd_T61 x7 x9).f1.f1) ((rd_T61 x7 x9).f1.f2) x1).bind fun t269 => (if t269 = true then (some (!((rd_T61 x7 x9).f0))) else (dragomanref11_TakesPath.l0 k x1 x7 x8 (wrap64 (x9 + 1))))) else (none)) else (none)) else (some false)
def dragomanref11_TakesPath.f (k : Nat) (l0 : List (S61)) (l1 : List Int) : Option (Bool) := dragomanref11_TakesPath.l0 k l1 l0 (l0.length : Int) 0
def r2_In.f (a0_0 : Int) (a0_1 : Int) (a1 : Int) : Option (Bool) := if ((Int.tdiv a1 65536) % 4294967296) ≥ ((Int.tdiv a0_0 65536) % 4294967296) then (if ((Int.tdiv a1 65536) % 4294967296) ≤ ((Int.tdiv a0_1 65536) % 4294967296) then (if (Int.tmod a1 65536) ≥ (Int.tmod a0_0 65536) then (some (decide ((Int.tmod a1 65536) ≤ (Int.tmod a0_1 65536)))) else (some false)) else (some false)) else (some false)
end Go.Proofs.Ytlkjfjlmjgkheaa.H
