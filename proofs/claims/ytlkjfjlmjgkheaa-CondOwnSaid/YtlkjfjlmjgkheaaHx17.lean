import Derived.Test.YtlkjfjlmjgkheaaHx0
import Derived.Test.YtlkjfjlmjgkheaaHx16
namespace Go.Proofs.Ytlkjfjlmjgkheaa.H
open Go.RowKit Go.Proofs.YtlkjfjlmjgkheaaW.PrintWords Go.Proofs.YtlkjfjlmjgkheaaW.PrintLast Go.Proofs.YtlkjfjlmjgkheaaW.PrintMore
attribute [local go_sem] max2_int min2_int max_two min_two max_three min_three max_four min_four
set_option linter.unusedVariables false
set_option linter.unusedSimpArgs false
mutual
def dragomanref11_all.l0 : Nat → List Int → List (S76) → Int → Int → Option (Bool)
 | 0, _, _, _, _ => none
 | k + 1, x1, x10, x11, x12 => if x12 < x11 then (if 0 ≤ x12 then (if x12 < (x10.length : Int) then (dragomanref11_all.l1 k x1 false x10 x11 x12 x1 (x1.length : Int) 0 ((rd_T76 x10 x12).f0) ((rd_T76 x10 x12).f1)) else (none)) else (none)) else (some true)
def dragomanref11_all.l1 : Nat → List Int → Bool → List (S76) → Int → Int → List Int → Int → Int → Int → Int → Option (Bool)
 | 0, _, _, _, _, _, _, _, _, _, _ => none
 | k + 1, x1, x7, x10, x11, x12, x16, x17, x18, x273000, x273001 => if x18 < x17 then (if 0 ≤ x18 then (if x18 < (x16.length : Int) then (if x7 = true then (dragomanref11_all.l1 k x1 true x10 x11 x12 x16 x17 (wrap64 (x18 + 1)) x273000 x273001) else ((r2_In.f x273000 x273001 (rd x16 x18)).bind fun t274 => (dragomanref11_all.l1 k x1 t274 x10 x11 x12 x16 x17 (wrap64 (x18 + 1)) x273000 x273001))) else (none)) else (none)) else (if x7 = true then (dragomanref11_all.l0 k x1 x10 x11 (wrap64 (x12 + 1))) else (some false))
end
def dragomanref11_all.f (k : Nat) (l0 : List (S76)) (l1 : List Int) : Option (Bool) := dragomanref11_all.l0 k l1 l0 (l0.length : Int) 0
def dragomanref11_TakesComms.l0 : Nat → List Int → List (S64) → Int → Int → Option (Bool)
 | 0, _, _, _, _ => none
 | k + 1, x1, x7, x8, x9 => if x9 < x8 then (if 0 ≤ x9 then (if x9 < (x7.length : Int) then ((dragomanref11_all.f k ((rd_T64 x7 x9).f1) x1).bind fun t277 => (if t277 = true then (some (!((rd_T64 x7 x9).f0))) else (dragomanref11_TakesComms.l0 k x1 x7 x8 (wrap64 (x9 + 1))))) else (none)) else (none)) else (some false)
def dragomanref11_TakesComms.f (k : Nat) (l0 : List (S64)) (l1 : List Int) : Option (Bool) := dragomanref11_TakesComms.l0 k l1 l0 (l0.length : Int) 0
end Go.Proofs.Ytlkjfjlmjgkheaa.H
