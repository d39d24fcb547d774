import Derived.Test.YtlkjfjlmjgkheaaHx0
namespace Go.Proofs.Ytlkjfjlmjgkheaa.H
open Go.RowKit Go.Proofs.YtlkjfjlmjgkheaaW.PrintWords Go.Proofs.YtlkjfjlmjgkheaaW.PrintLast Go.Proofs.YtlkjfjlmjgkheaaW.PrintMore
attribute [local go_sem] max2_int min2_int max_two min_two max_three min_three max_four min_four
set_option linter.unusedVariables false
set_option linter.unusedSimpArgs false
mutual
def r5_kinds.j0 : Nat → Bool → Int → List (S66) → List (S25) → Option (Bool)
 | 0, _, _, _, _ => none
 | k + 1, x5, x211000, x211001, x211002 => if x5 = true then (some false) else (if x211000 = 1 then (r5_kinds.j1 k false x211000 x211001 x211002) else (r5_kinds.j1 k (decide ((x211001.length : Int) > 0)) x211000 x211001 x211002))
def r5_kinds.j1 : Nat → Bool → Int → List (S66) → List (S25) → Option (Bool)
 | 0, _, _, _, _ => none
 | k + 1, x5, x211000, x211001, x211002 => if x5 = true then (some false) else (if x211000 = 4 then (r5_kinds.j2 k ((x211002.length : Int) != 1) x211000 x211001 x211002) else (r5_kinds.j2 k false x211000 x211001 x211002))
def r5_kinds.j2 : Nat → Bool → Int → List (S66) → List (S25) → Option (Bool)
 | 0, _, _, _, _ => none
 | k + 1, x5, x211000, x211001, x211002 => if x5 = true then (some false) else (if x211000 < 1 then (some false) else (if x211000 > 4 then (some false) else (r5_kinds.l0 k x211002 (x211002.length : Int) 0)))
def r5_kinds.l0 : Nat → List (S25) → Int → Int → Option (Bool)
 | 0, _, _, _ => none
 | k + 1, x46, x47, x48 => if x48 < x47 then (if 0 ≤ x48 then (if x48 < (x46.length : Int) then ((r5_kinds.f k ((rd_T25 x46 x48).f0) ((rd_T25 x46 x48).f1) ((rd_T25 x46 x48).f2)).bind fun t213 => (if t213 = true then (r5_kinds.l0 k x46 x47 (wrap64 (x48 + 1))) else (some false))) else (none)) else (none)) else (some true)
def r5_kinds.f : Nat → Int → List (S66) → List (S25) → Option (Bool)
 | 0, _, _, _ => none
 | k + 1, a0_0, l0_1, l0_2 => if a0_0 = 1 then (if (l0_2.length : Int) > 0 then (r5_kinds.j0 k true a0_0 l0_1 l0_2) else (r5_kinds.j0 k (decide ((l0_1.length : Int) > 256)) a0_0 l0_1 l0_2)) else (r5_kinds.j0 k false a0_0 l0_1 l0_2)
end
end Go.Proofs.Ytlkjfjlmjgkheaa.H
