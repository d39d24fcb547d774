import Derived.Test.YtlkjfjlmjgkheaaHx0
import Derived.Test.YtlkjfjlmjgkheaaHx12
import Derived.Test.YtlkjfjlmjgkheaaHx13
namespace Go.Proofs.Ytlkjfjlmjgkheaa.H
open Go.RowKit Go.Proofs.YtlkjfjlmjgkheaaW.PrintWords Go.Proofs.YtlkjfjlmjgkheaaW.PrintLast Go.Proofs.YtlkjfjlmjgkheaaW.PrintMore
attribute [local go_sem] max2_int min2_int max_two min_two max_three min_three max_four min_four
set_option linter.unusedVariables false
set_option linter.unusedSimpArgs false
def r5_Right.f (k : Nat) (a0_0 : Int) (l0_1 : List (S66)) (l0_2 : List (S25)) : Option (Bool) := (r5_Size.f k a0_0 l0_1 l0_2).bind fun bt215 => (if bt215.1 ≤ 200 then (if bt215.2 ≤ 40 then ((r5_kinds.f k a0_0 l0_1 l0_2).bind fun t217 => (some t217)) else (some false)) else (some false))
def r1_In.l0 : Nat → Int → List (S66) → Int → Int → Option (Bool)
 | 0, _, _, _, _ => none
 | k + 1, x1, x7, x8, x9 => if x9 < x8 then (if 0 ≤ x9 then (if x9 < (x7.length : Int) then (if ((rd_T66 x7 x9).f0) ≤ x1 then (if x1 ≤ ((rd_T66 x7 x9).f1) then (some true) else (r1_In.l0 k x1 x7 x8 (wrap64 (x9 + 1)))) else (r1_In.l0 k x1 x7 x8 (wrap64 (x9 + 1)))) else (none)) else (none)) else (some false)
def r1_In.f (k : Nat) (l0 : List (S66)) (a1 : Int) : Option (Bool) := r1_In.l0 k a1 l0 (l0.length : Int) 0
end Go.Proofs.Ytlkjfjlmjgkheaa.H
