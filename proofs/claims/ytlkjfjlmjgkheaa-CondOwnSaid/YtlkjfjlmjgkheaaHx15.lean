import Derived.Test.YtlkjfjlmjgkheaaHx0
import Derived.Test.YtlkjfjlmjgkheaaHx14
namespace Go.Proofs.Ytlkjfjlmjgkheaa.H
open Go.RowKit Go.Proofs.YtlkjfjlmjgkheaaW.PrintWords Go.Proofs.YtlkjfjlmjgkheaaW.PrintLast Go.Proofs.YtlkjfjlmjgkheaaW.PrintMore
attribute [local go_sem] max2_int min2_int max_two min_two max_three min_three max_four min_four
set_option linter.unusedVariables false
set_option linter.unusedSimpArgs false
mutual
def r5_ends.l0 : Nat → List Bool → List Bool → List Int → Int → Int → Int → List (S66) → List (S25) → Option (List Bool)
 | 0, _, _, _, _, _, _, _, _ => none
 | k + 1, x2, x7, x26, x27, x28, x221000, x221001, x221002 => if x28 < x27 then (if 0 ≤ x28 then (if x28 < (x26.length : Int) then (if x28 < (x2.length : Int) then (if rdOf false x2 x28 = true then ((r1_In.f k x221001 (rd x26 x28)).bind fun t226 => (if t226 = true then (if 0 ≤ (wrap64 (x28 + 1)) then (if (wrap64 (x28 + 1)) < (x7.length : Int) then (r5_ends.l0 k x2 (x7.set ((wrap64 (x28 + 1)) : Int).toNat true) x26 x27 (wrap64 (x28 + 1)) x221000 x221001 x221002) else (none)) else (none)) else (r5_ends.l0 k x2 x7 x26 x27 (wrap64 (x28 + 1)) x221000 x221001 x221002))) else (r5_ends.l0 k x2 x7 x26 x27 (wrap64 (x28 + 1)) x221000 x221001 x221002)) else (none)) else (none)) else (none)) else (some x7)
def r5_ends.l1 : Nat → List Int → List Bool → List (S25) → Int → Int → Option (List Bool)
 | 0, _, _, _, _, _ => none
 | k + 1, x1, x7, x54, x55, x56 => if x56 < x55 then (if 0 ≤ x56 then (if x56 < (x54.length : Int) then ((r5_ends.f k ((rd_T25 x54 x56).f0) ((rd_T25 x54 x56).f1) ((rd_T25 x54 x56).f2) x1 x7).bind fun t233 => (r5_ends.l1 k x1 t233 x54 x55 (wrap64 (x56 + 1)))) else (none)) else (none)) else (some x7)
def r5_ends.l2 : Nat → List Int → List Bool → List Bool → List (S25) → Int → Int → Option (List Bool)
 | 0, _, _, _, _, _, _ => none
 | k + 1, x1, x2, x7, x68, x69, x70 => if x70 < x69 then (if 0 ≤ x70 then (if x70 < (x68.length : Int) then ((r5_ends.f k ((rd_T25 x68 x70).f0) ((rd_T25 x68 x70).f1) ((rd_T25 x68 x70).f2) x1 x2).bind fun t238 => (r5_ends.l3 k x1 x2 x7 x68 x69 x70 t238 (t238.length : Int) 0)) else (none)) else (none)) else (some x7)
def r5_ends.l3 : Nat → List Int → List Bool → List Bool → List (S25) → Int → Int → List Bool → Int → Int → Option (List Bool)
 | 0, _, _, _, _, _, _, _, _, _ => none
 | k + 1, x1, x2, x7, x68, x69, x70, x77, x78, x79 => if x79 < x78 then (if 0 ≤ x79 then (if x79 < (x77.length : Int) then (if x79 < (x7.length : Int) then (if rdOf false x7 x79 = true then (r5_ends.l3 k x1 x2 (x7.set (x79 : Int).toNat true) x68 x69 x70 x77 x78 (wrap64 (x79 + 1))) else (r5_ends.l3 k x1 x2 (x7.set (x79 : Int).toNat (rdOf false x77 x79)) x68 x69 x70 x77 x78 (wrap64 (x79 + 1)))) else (none)) else (none)) else (none)) else (r5_ends.l2 k x1 x2 x7 x68 x69 (wrap64 (x70 + 1)))
def r5_ends.l4 : Nat → List Int → List Bool → Bool → Int → List (S66) → List (S25) → Option (List Bool)
 | 0, _, _, _, _, _, _ => none
 | k + 1, x1, x7, x16, x221000, x221001, x221002 => if x16 = true then (if 0 < (x221002.length : Int) then ((r5_ends.f k ((rd_T25 x221002 0).f0) ((rd_T25 x221002 0).f1) ((rd_T25 x221002 0).f2) x1 x7).bind fun t249 => (r5_ends.l5 k x1 x7 false t249 (t249.length : Int) 0 x221000 x221001 x221002)) else (none)) else (some x7)
def r5_ends.l5 : Nat → List Int → List Bool → Bool → List Bool → Int → Int → Int → List (S66) → List (S25) → Option (List Bool)
 | 0, _, _, _, _, _, _, _, _, _ => none
 | k + 1, x1, x7, x16, x108, x109, x110, x221000, x221001, x221002 => if x110 < x109 then (if 0 ≤ x110 then (if x110 < (x108.length : Int) then (if rdOf false x108 x110 = true then (if x110 < (x7.length : Int) then (if rdOf false x7 x110 = true then (r5_ends.l5 k x1 x7 x16 x108 x109 (wrap64 (x110 + 1)) x221000 x221001 x221002) else (r5_ends.l5 k x1 (x7.set (x110 : Int).toNat true) true x108 x109 (wrap64 (x110 + 1)) x221000 x221001 x221002)) else (none)) else (r5_ends.l5 k x1 x7 x16 x108 x109 (wrap64 (x110 + 1)) x221000 x221001 x221002)) else (none)) else (none)) else (r5_ends.l4 k x1 x7 x16 x221000 x221001 x221002)
def r5_ends.f : Nat → Int → List (S66) → List (S25) → List Int → List Bool → Option (List Bool)
 | 0, _, _, _, _, _ => none
 | k + 1, a0_0, l0_1, l0_2, l1, l2 => if 0 ≤ (l2.length : Int) then (if ((l2.length : Int) : Int).toNat ≤ 281474976710656 then ((some (List.replicate ((l2.length : Int) : Int).toNat false : List Bool)).bind fun y221 => (if a0_0 = 1 then (r5_ends.l0 k l2 y221 l1 (l1.length : Int) 0 a0_0 l0_1 l0_2) else (if a0_0 = 2 then (r5_ends.l1 k l1 (l2.take (min l2.length y221.length) ++ y221.drop (min l2.length y221.length)) l0_2 (l0_2.length : Int) 0) else (if a0_0 = 3 then (r5_ends.l2 k l1 l2 y221 l0_2 (l0_2.length : Int) 0) else (if a0_0 = 4 then (r5_ends.l4 k l1 (l2.take (min l2.length y221.length) ++ y221.drop (min l2.length y221.length)) true a0_0 l0_1 l0_2) else (some y221)))))) else (none)) else (none)
end
end Go.Proofs.Ytlkjfjlmjgkheaa.H
