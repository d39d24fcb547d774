import Derived.Test.YtdnneofebehpaaaGreatDoorLx0
import Derived.Test.YtdnneofebehpaaaGreatDoorLx2
import Derived.Test.YtdnneofebehpaaaGreatDoorLx4
import Derived.Test.YtdnneofebehpaaaGreatDoorLx7
import Derived.Test.YtdnneofebehpaaaGreatDoorLx9
import Derived.Test.YtdnneofebehpaaaGreatDoorLx10
import Derived.Test.YtdnneofebehpaaaGreatDoorLx11
import Derived.Test.YtdnneofebehpaaaGreatDoorLx12
namespace Go.Proofs.YtdnneofebehpaaaGreatDoor.L
open Go.RowKit Go.Proofs.YtdnneofebehpaaaGreatDoorW.PrintWords Go.Proofs.YtdnneofebehpaaaGreatDoorW.PrintLast Go.Proofs.YtdnneofebehpaaaGreatDoorW.PrintMore
attribute [local go_sem] max2_int min2_int max_two min_two max_three min_three max_four min_four
set_option linter.unusedVariables false
set_option linter.unusedSimpArgs false
attribute [local go_sem high] eqA26
def dragomanlaw14_LexTexts.f (k : Nat) (a0_0 : Int) (a0_1 : Int) (a0_2 : Int) (a0_3 : Int) (a0_4 : Int) (a0_5 : Int) : Option (Bool) := (dragomanlaw14_alive.f k).bind fun t217 => (if t217 = true then ((lex_CommText.f a0_3 a0_4).bind fun bt220 => ((dragomanref14_CommText.f k a0_3 a0_4).bind fun bt222 => ((lex_OriginText.f a0_5).bind fun bt224 => ((dragomanref14_OriginText.f a0_5).bind fun bt226 => ((lex_NumText.f a0_0).bind fun t228 => ((dragomanref14_NumText.f k a0_0).bind fun t229 => (if t228.toList = t229.toList then ((lex_AddrText.f k a0_0).bind fun t230 => ((dragomanref14_AddrText.f k a0_0).bind fun t231 => (if t230.toList = t231.toList then ((lex_PrefixText.f k a0_1 a0_2).bind fun t232 => ((dragomanref14_PrefixText.f k a0_1 a0_2).bind fun t233 => (if t232.toList = t233.toList then (if bt220.1.toList = bt222.1.toList then (if (bt220.2 != bt222.2) = true then (none) else (if bt224.1.toList = bt226.1.toList then (if (bt224.2 != bt226.2) = true then (none) else ((lex_NumText.f a0_0).bind fun t234 => ((lex_Num.f t234).bind fun bt235 => ((lex_AddrText.f k a0_0).bind fun t237 => ((lex_Addr.f k t237).bind fun bt238 => ((lex_Comm.f bt220.1).bind fun bt240 => ((lex_Origin.f bt224.1).bind fun bt244 => (if bt235.2 = true then (if bt235.1 = a0_0 then (if bt238.2 = true then (if bt238.1 = a0_0 then (if (bt240.2.2 == bt220.2) = true then (if bt220.2 = true then (if (bt240.1 == a0_3 && (bt240.2.1 == a0_4)) = true then (if (bt244.2 == bt224.2) = true then (if bt224.2 = true then (some (bt244.1 == a0_5)) else (some true)) else (none)) else (none)) else (if (bt244.2 == bt224.2) = true then (if bt224.2 = true then (some (bt244.1 == a0_5)) else (some true)) else (none))) else (none)) else (none)) else (none)) else (none)) else (none))))))))) else (none))) else (none)) else (none)))) else (none)))) else (none)))))))) else (none))
theorem dragomanlaw14_LexTexts.mono : ∀ a0 a1 a2 a3 a4 a5 k, LeO (dragomanlaw14_LexTexts.f k a0 a1 a2 a3 a4 a5) (dragomanlaw14_LexTexts.f (k + 1) a0 a1 a2 a3 a4 a5) := by
 intro a0 a1 a2 a3 a4 a5 k
 unfold dragomanlaw14_LexTexts.f
 repeat' first
  | (with_reducible exact dragomanlaw14_alive.mono _)
  | (with_reducible exact dragomanref14_AddrText.mono _ _)
  | (with_reducible exact dragomanref14_CommText.mono _ _ _)
  | (with_reducible exact dragomanref14_NumText.mono _ _)
  | (with_reducible exact dragomanref14_PrefixText.mono _ _ _)
  | (with_reducible exact lex_Addr.mono _ _)
  | (with_reducible exact lex_AddrText.mono _ _)
  | (with_reducible exact lex_PrefixText.mono _ _ _)
  | (with_reducible exact LeO.refl _)
  | (with_reducible exact LeO.none _)
  | (with_reducible refine LeO.ite ?_ ?_)
  | (with_reducible refine LeO.bind ?_ (fun _ => ?_))
  | exact dragomanlaw14_alive.mono _
  | exact dragomanref14_AddrText.mono _ _
  | exact dragomanref14_CommText.mono _ _ _
  | exact dragomanref14_NumText.mono _ _
  | exact dragomanref14_PrefixText.mono _ _ _
  | exact lex_Addr.mono _ _
  | exact lex_AddrText.mono _ _
  | exact lex_PrefixText.mono _ _ _
  | exact LeO.none _
  | refine LeO.ite ?_ ?_
  | refine LeO.bind ?_ (fun _ => ?_)
def dragomanlaw14_LexTexts.T3 : Bool × List (List Nat × List Nat) := (true, [([], []), ([0], [0]), ([], []), ([2], [2]), ([], []), ([4], [4]), ([], []), ([6], [6]), ([], []), ([], []), ([1, 0, 1, 8, 9], [1]), ([8, 3, 10, 0, 1, 2, 3, 8, 9, 10], [3, 8]), ([9, 5, 11, 0, 1, 2, 3, 4, 5, 8, 9, 10, 11], [5, 9]), ([7, 12, 0, 1, 2, 3, 4, 5, 6, 7, 8, 9, 10, 11, 12], [7])])
def dragomanlaw14_LexTexts.B3 : List Nat := [0, 1, 0, 4, 0, 16, 0, 64, 0, 0, 771, 1807, 3903, 8191]
theorem dragomanlaw14_LexTexts.tab3 : rtab .any (opsOf Tryz.f3 3) = dragomanlaw14_LexTexts.T3 := by kernel_rfl
theorem dragomanlaw14_LexTexts.bits3 : waitsOk dragomanlaw14_LexTexts.T3.2 dragomanlaw14_LexTexts.B3 = true := by kernel_rfl
def dragomanlaw14_LexTexts.T8 : Bool × List (List Nat × List Nat) := (true, [([], []), ([0], [0]), ([], []), ([2, 1], [2]), ([1, 3], [1, 3]), ([4, 3], [4]), ([5], [5]), ([6, 5, 5], [5, 6]), ([5], [5]), ([8, 7, 5], [5, 8]), ([7, 9, 5], [5, 7, 9]), ([5, 10], [5, 10]), ([11, 9], [11]), ([12], [12]), ([13, 12, 12], [12, 13]), ([12], [12]), ([15, 14, 12], [12, 15]), ([14, 16, 12], [12, 14, 16]), ([12, 17], [12, 17]), ([18, 16], [18]), ([19], [19]), ([19], [19]), ([20, 21, 19], [19, 20, 21]), ([19, 22], [19, 22]), ([23, 19], [23]), ([24], [24]), ([24], [24]), ([25, 26, 24], [24, 25, 26]), ([24, 27], [24, 27]), ([28, 24], [28]), ([29], [29]), ([29], [29]), ([30, 31, 29], [29, 30, 31]), ([29, 32], [29, 32]), ([33, 29], [33]), ([34], [34]), ([34], [34]), ([35, 36, 34], [34, 35, 36]), ([34, 37], [34, 37])])
def dragomanlaw14_LexTexts.B8 : List Nat := [0, 1, 0, 7, 15, 31, 63, 127, 63, 511, 1023, 2047, 4095, 8191, 16383, 8191, 65535, 131071, 262143, 524287, 1048575, 1048575, 4194303, 8388607, 16777215, 33554431, 33554431, 134217727, 268435455, 536870911, 1073741823, 1073741823, 4294967295, 8589934591, 17179869183, 34359738367, 34359738367, 137438953471, 274877906943]
theorem dragomanlaw14_LexTexts.tab8 : rtab .any (opsOf Tryz.f3 8) = dragomanlaw14_LexTexts.T8 := by kernel_rfl
theorem dragomanlaw14_LexTexts.bits8 : waitsOk dragomanlaw14_LexTexts.T8.2 dragomanlaw14_LexTexts.B8 = true := by kernel_rfl
set_option maxHeartbeats 8000000 in
set_option maxRecDepth 100000 in
theorem dragomanlaw14_LexTexts.calls (k : Nat) (a0_0 : Int) (a0_1 : Int) (a0_2 : Int) (a0_3 : Int) (a0_4 : Int) (a0_5 : Int) (r : Bool) (w : World) (hG : GL w) (h : dragomanlaw14_LexTexts.f k a0_0 a0_1 a0_2 a0_3 a0_4 a0_5 = some r) :
 Calls Tryz.prog 3 #[.agg #[.int .u32 a0_0, .int .u32 a0_1, .int .i64 a0_2, .int .u32 a0_3, .int .u32 a0_4, .int .i64 a0_5]] w fun e w' => e = .returned (.bool r) ∧ Below w.heap.size w w' := by
 have hu28 := Tryz.underlying28
 have hu24 := Tryz.underlying24
 have hu26 := Tryz.underlying26
 have HB := Aside0.mk (Below.refl w.heap.size w)
 have H : ((dragomanlaw14_alive.f k).bind fun t217 => (if t217 = true then ((lex_CommText.f a0_3 a0_4).bind fun bt220 => ((dragomanref14_CommText.f k a0_3 a0_4).bind fun bt222 => ((lex_OriginText.f a0_5).bind fun bt224 => ((dragomanref14_OriginText.f a0_5).bind fun bt226 => ((lex_NumText.f a0_0).bind fun t228 => ((dragomanref14_NumText.f k a0_0).bind fun t229 => (if t228.toList = t229.toList then ((lex_AddrText.f k a0_0).bind fun t230 => ((dragomanref14_AddrText.f k a0_0).bind fun t231 => (if t230.toList = t231.toList then ((lex_PrefixText.f k a0_1 a0_2).bind fun t232 => ((dragomanref14_PrefixText.f k a0_1 a0_2).bind fun t233 => (if t232.toList = t233.toList then (if bt220.1.toList = bt222.1.toList then (if (bt220.2 != bt222.2) = true then (none) else (if bt224.1.toList = bt226.1.toList then (if (bt224.2 != bt226.2) = true then (none) else ((lex_NumText.f a0_0).bind fun t234 => ((lex_Num.f t234).bind fun bt235 => ((lex_AddrText.f k a0_0).bind fun t237 => ((lex_Addr.f k t237).bind fun bt238 => ((lex_Comm.f bt220.1).bind fun bt240 => ((lex_Origin.f bt224.1).bind fun bt244 => (if bt235.2 = true then (if bt235.1 = a0_0 then (if bt238.2 = true then (if bt238.1 = a0_0 then (if (bt240.2.2 == bt220.2) = true then (if bt220.2 = true then (if (bt240.1 == a0_3 && (bt240.2.1 == a0_4)) = true then (if (bt244.2 == bt224.2) = true then (if bt224.2 = true then (some (bt244.1 == a0_5)) else (some true)) else (none)) else (none)) else (if (bt244.2 == bt224.2) = true then (if bt224.2 = true then (some (bt244.1 == a0_5)) else (some true)) else (none))) else (none)) else (none)) else (none)) else (none)) else (none))))))))) else (none))) else (none)) else (none)))) else (none)))) else (none)))))))) else (none))) = some r := h
 clear h
 replace H := Option.bind_eq_some_iff.mp H
 obtain ⟨t217, A20, H⟩ := H
 replace H : (if t217 = true then ((lex_CommText.f a0_3 a0_4).bind fun bt220 => ((dragomanref14_CommText.f k a0_3 a0_4).bind fun bt222 => ((lex_OriginText.f a0_5).bind fun bt224 => ((dragomanref14_OriginText.f a0_5).bind fun bt226 => ((lex_NumText.f a0_0).bind fun t228 => ((dragomanref14_NumText.f k a0_0).bind fun t229 => (if t228.toList = t229.toList then ((lex_AddrText.f k a0_0).bind fun t230 => ((dragomanref14_AddrText.f k a0_0).bind fun t231 => (if t230.toList = t231.toList then ((lex_PrefixText.f k a0_1 a0_2).bind fun t232 => ((dragomanref14_PrefixText.f k a0_1 a0_2).bind fun t233 => (if t232.toList = t233.toList then (if bt220.1.toList = bt222.1.toList then (if (bt220.2 != bt222.2) = true then (none) else (if bt224.1.toList = bt226.1.toList then (if (bt224.2 != bt226.2) = true then (none) else ((lex_NumText.f a0_0).bind fun t234 => ((lex_Num.f t234).bind fun bt235 => ((lex_AddrText.f k a0_0).bind fun t237 => ((lex_Addr.f k t237).bind fun bt238 => ((lex_Comm.f bt220.1).bind fun bt240 => ((lex_Origin.f bt224.1).bind fun bt244 => (if bt235.2 = true then (if bt235.1 = a0_0 then (if bt238.2 = true then (if bt238.1 = a0_0 then (if (bt240.2.2 == bt220.2) = true then (if bt220.2 = true then (if (bt240.1 == a0_3 && (bt240.2.1 == a0_4)) = true then (if (bt244.2 == bt224.2) = true then (if bt224.2 = true then (some (bt244.1 == a0_5)) else (some true)) else (none)) else (none)) else (if (bt244.2 == bt224.2) = true then (if bt224.2 = true then (some (bt244.1 == a0_5)) else (some true)) else (none))) else (none)) else (none)) else (none)) else (none)) else (none))))))))) else (none))) else (none)) else (none)))) else (none)))) else (none)))))))) else (none)) = some r := H
 have A2 := Aside0.mk A20
 clear A20
 by_cases c3 : t217 = true
 · subst c3
   have H1 : ((lex_CommText.f a0_3 a0_4).bind fun bt220 => ((dragomanref14_CommText.f k a0_3 a0_4).bind fun bt222 => ((lex_OriginText.f a0_5).bind fun bt224 => ((dragomanref14_OriginText.f a0_5).bind fun bt226 => ((lex_NumText.f a0_0).bind fun t228 => ((dragomanref14_NumText.f k a0_0).bind fun t229 => (if t228.toList = t229.toList then ((lex_AddrText.f k a0_0).bind fun t230 => ((dragomanref14_AddrText.f k a0_0).bind fun t231 => (if t230.toList = t231.toList then ((lex_PrefixText.f k a0_1 a0_2).bind fun t232 => ((dragomanref14_PrefixText.f k a0_1 a0_2).bind fun t233 => (if t232.toList = t233.toList then (if bt220.1.toList = bt222.1.toList then (if (bt220.2 != bt222.2) = true then (none) else (if bt224.1.toList = bt226.1.toList then (if (bt224.2 != bt226.2) = true then (none) else ((lex_NumText.f a0_0).bind fun t234 => ((lex_Num.f t234).bind fun bt235 => ((lex_AddrText.f k a0_0).bind fun t237 => ((lex_Addr.f k t237).bind fun bt238 => ((lex_Comm.f bt220.1).bind fun bt240 => ((lex_Origin.f bt224.1).bind fun bt244 => (if bt235.2 = true then (if bt235.1 = a0_0 then (if bt238.2 = true then (if bt238.1 = a0_0 then (if (bt240.2.2 == bt220.2) = true then (if bt220.2 = true then (if (bt240.1 == a0_3 && (bt240.2.1 == a0_4)) = true then (if (bt244.2 == bt224.2) = true then (if bt224.2 = true then (some (bt244.1 == a0_5)) else (some true)) else (none)) else (none)) else (if (bt244.2 == bt224.2) = true then (if bt224.2 = true then (some (bt244.1 == a0_5)) else (some true)) else (none))) else (none)) else (none)) else (none)) else (none)) else (none))))))))) else (none))) else (none)) else (none)))) else (none)))) else (none)))))))) = some r := by rw [if_pos rfl] at H; exact H
   clear H
   have H := H1
   clear H1
   replace H := Option.bind_eq_some_iff.mp H
   obtain ⟨⟨t220, t221⟩, A40, H⟩ := H
   replace H : ((dragomanref14_CommText.f k a0_3 a0_4).bind fun bt222 => ((lex_OriginText.f a0_5).bind fun bt224 => ((dragomanref14_OriginText.f a0_5).bind fun bt226 => ((lex_NumText.f a0_0).bind fun t228 => ((dragomanref14_NumText.f k a0_0).bind fun t229 => (if t228.toList = t229.toList then ((lex_AddrText.f k a0_0).bind fun t230 => ((dragomanref14_AddrText.f k a0_0).bind fun t231 => (if t230.toList = t231.toList then ((lex_PrefixText.f k a0_1 a0_2).bind fun t232 => ((dragomanref14_PrefixText.f k a0_1 a0_2).bind fun t233 => (if t232.toList = t233.toList then (if t220.toList = bt222.1.toList then (if (t221 != bt222.2) = true then (none) else (if bt224.1.toList = bt226.1.toList then (if (bt224.2 != bt226.2) = true then (none) else ((lex_NumText.f a0_0).bind fun t234 => ((lex_Num.f t234).bind fun bt235 => ((lex_AddrText.f k a0_0).bind fun t237 => ((lex_Addr.f k t237).bind fun bt238 => ((lex_Comm.f t220).bind fun bt240 => ((lex_Origin.f bt224.1).bind fun bt244 => (if bt235.2 = true then (if bt235.1 = a0_0 then (if bt238.2 = true then (if bt238.1 = a0_0 then (if (bt240.2.2 == t221) = true then (if t221 = true then (if (bt240.1 == a0_3 && (bt240.2.1 == a0_4)) = true then (if (bt244.2 == bt224.2) = true then (if bt224.2 = true then (some (bt244.1 == a0_5)) else (some true)) else (none)) else (none)) else (if (bt244.2 == bt224.2) = true then (if bt224.2 = true then (some (bt244.1 == a0_5)) else (some true)) else (none))) else (none)) else (none)) else (none)) else (none)) else (none))))))))) else (none))) else (none)) else (none)))) else (none)))) else (none))))))) = some r := H
   have A4 := Aside0.mk A40
   clear A40
   replace H := Option.bind_eq_some_iff.mp H
   obtain ⟨⟨t222, t223⟩, A50, H⟩ := H
   replace H : ((lex_OriginText.f a0_5).bind fun bt224 => ((dragomanref14_OriginText.f a0_5).bind fun bt226 => ((lex_NumText.f a0_0).bind fun t228 => ((dragomanref14_NumText.f k a0_0).bind fun t229 => (if t228.toList = t229.toList then ((lex_AddrText.f k a0_0).bind fun t230 => ((dragomanref14_AddrText.f k a0_0).bind fun t231 => (if t230.toList = t231.toList then ((lex_PrefixText.f k a0_1 a0_2).bind fun t232 => ((dragomanref14_PrefixText.f k a0_1 a0_2).bind fun t233 => (if t232.toList = t233.toList then (if t220.toList = t222.toList then (if (t221 != t223) = true then (none) else (if bt224.1.toList = bt226.1.toList then (if (bt224.2 != bt226.2) = true then (none) else ((lex_NumText.f a0_0).bind fun t234 => ((lex_Num.f t234).bind fun bt235 => ((lex_AddrText.f k a0_0).bind fun t237 => ((lex_Addr.f k t237).bind fun bt238 => ((lex_Comm.f t220).bind fun bt240 => ((lex_Origin.f bt224.1).bind fun bt244 => (if bt235.2 = true then (if bt235.1 = a0_0 then (if bt238.2 = true then (if bt238.1 = a0_0 then (if (bt240.2.2 == t221) = true then (if t221 = true then (if (bt240.1 == a0_3 && (bt240.2.1 == a0_4)) = true then (if (bt244.2 == bt224.2) = true then (if bt224.2 = true then (some (bt244.1 == a0_5)) else (some true)) else (none)) else (none)) else (if (bt244.2 == bt224.2) = true then (if bt224.2 = true then (some (bt244.1 == a0_5)) else (some true)) else (none))) else (none)) else (none)) else (none)) else (none)) else (none))))))))) else (none))) else (none)) else (none)))) else (none)))) else (none)))))) = some r := H
   have A5 := Aside0.mk A50
   clear A50
   replace H := Option.bind_eq_some_iff.mp H
   obtain ⟨⟨t224, t225⟩, A60, H⟩ := H
   replace H : ((dragomanref14_OriginText.f a0_5).bind fun bt226 => ((lex_NumText.f a0_0).bind fun t228 => ((dragomanref14_NumText.f k a0_0).bind fun t229 => (if t228.toList = t229.toList then ((lex_AddrText.f k a0_0).bind fun t230 => ((dragomanref14_AddrText.f k a0_0).bind fun t231 => (if t230.toList = t231.toList then ((lex_PrefixText.f k a0_1 a0_2).bind fun t232 => ((dragomanref14_PrefixText.f k a0_1 a0_2).bind fun t233 => (if t232.toList = t233.toList then (if t220.toList = t222.toList then (if (t221 != t223) = true then (none) else (if t224.toList = bt226.1.toList then (if (t225 != bt226.2) = true then (none) else ((lex_NumText.f a0_0).bind fun t234 => ((lex_Num.f t234).bind fun bt235 => ((lex_AddrText.f k a0_0).bind fun t237 => ((lex_Addr.f k t237).bind fun bt238 => ((lex_Comm.f t220).bind fun bt240 => ((lex_Origin.f t224).bind fun bt244 => (if bt235.2 = true then (if bt235.1 = a0_0 then (if bt238.2 = true then (if bt238.1 = a0_0 then (if (bt240.2.2 == t221) = true then (if t221 = true then (if (bt240.1 == a0_3 && (bt240.2.1 == a0_4)) = true then (if (bt244.2 == t225) = true then (if t225 = true then (some (bt244.1 == a0_5)) else (some true)) else (none)) else (none)) else (if (bt244.2 == t225) = true then (if t225 = true then (some (bt244.1 == a0_5)) else (some true)) else (none))) else (none)) else (none)) else (none)) else (none)) else (none))))))))) else (none))) else (none)) else (none)))) else (none)))) else (none))))) = some r := H
   have A6 := Aside0.mk A60
   clear A60
   replace H := Option.bind_eq_some_iff.mp H
   obtain ⟨⟨t226, t227⟩, A70, H⟩ := H
   replace H : ((lex_NumText.f a0_0).bind fun t228 => ((dragomanref14_NumText.f k a0_0).bind fun t229 => (if t228.toList = t229.toList then ((lex_AddrText.f k a0_0).bind fun t230 => ((dragomanref14_AddrText.f k a0_0).bind fun t231 => (if t230.toList = t231.toList then ((lex_PrefixText.f k a0_1 a0_2).bind fun t232 => ((dragomanref14_PrefixText.f k a0_1 a0_2).bind fun t233 => (if t232.toList = t233.toList then (if t220.toList = t222.toList then (if (t221 != t223) = true then (none) else (if t224.toList = t226.toList then (if (t225 != t227) = true then (none) else ((lex_NumText.f a0_0).bind fun t234 => ((lex_Num.f t234).bind fun bt235 => ((lex_AddrText.f k a0_0).bind fun t237 => ((lex_Addr.f k t237).bind fun bt238 => ((lex_Comm.f t220).bind fun bt240 => ((lex_Origin.f t224).bind fun bt244 => (if bt235.2 = true then (if bt235.1 = a0_0 then (if bt238.2 = true then (if bt238.1 = a0_0 then (if (bt240.2.2 == t221) = true then (if t221 = true then (if (bt240.1 == a0_3 && (bt240.2.1 == a0_4)) = true then (if (bt244.2 == t225) = true then (if t225 = true then (some (bt244.1 == a0_5)) else (some true)) else (none)) else (none)) else (if (bt244.2 == t225) = true then (if t225 = true then (some (bt244.1 == a0_5)) else (some true)) else (none))) else (none)) else (none)) else (none)) else (none)) else (none))))))))) else (none))) else (none)) else (none)))) else (none)))) else (none)))) = some r := H
   have A7 := Aside0.mk A70
   clear A70
   replace H := Option.bind_eq_some_iff.mp H
   obtain ⟨t228, A80, H⟩ := H
   replace H : ((dragomanref14_NumText.f k a0_0).bind fun t229 => (if t228.toList = t229.toList then ((lex_AddrText.f k a0_0).bind fun t230 => ((dragomanref14_AddrText.f k a0_0).bind fun t231 => (if t230.toList = t231.toList then ((lex_PrefixText.f k a0_1 a0_2).bind fun t232 => ((dragomanref14_PrefixText.f k a0_1 a0_2).bind fun t233 => (if t232.toList = t233.toList then (if t220.toList = t222.toList then (if (t221 != t223) = true then (none) else (if t224.toList = t226.toList then (if (t225 != t227) = true then (none) else ((lex_NumText.f a0_0).bind fun t234 => ((lex_Num.f t234).bind fun bt235 => ((lex_AddrText.f k a0_0).bind fun t237 => ((lex_Addr.f k t237).bind fun bt238 => ((lex_Comm.f t220).bind fun bt240 => ((lex_Origin.f t224).bind fun bt244 => (if bt235.2 = true then (if bt235.1 = a0_0 then (if bt238.2 = true then (if bt238.1 = a0_0 then (if (bt240.2.2 == t221) = true then (if t221 = true then (if (bt240.1 == a0_3 && (bt240.2.1 == a0_4)) = true then (if (bt244.2 == t225) = true then (if t225 = true then (some (bt244.1 == a0_5)) else (some true)) else (none)) else (none)) else (if (bt244.2 == t225) = true then (if t225 = true then (some (bt244.1 == a0_5)) else (some true)) else (none))) else (none)) else (none)) else (none)) else (none)) else (none))))))))) else (none))) else (none)) else (none)))) else (none)))) else (none))) = some r := H
   have A8 := Aside0.mk A80
   clear A80
   replace H := Option.bind_eq_some_iff.mp H
   obtain ⟨t229, A90, H⟩ := H
   replace H : (if t228.toList = t229.toList then ((lex_AddrText.f k a0_0).bind fun t230 => ((dragomanref14_AddrText.f k a0_0).bind fun t231 => (if t230.toList = t231.toList then ((lex_PrefixText.f k a0_1 a0_2).bind fun t232 => ((dragomanref14_PrefixText.f k a0_1 a0_2).bind fun t233 => (if t232.toList = t233.toList then (if t220.toList = t222.toList then (if (t221 != t223) = true then (none) else (if t224.toList = t226.toList then (if (t225 != t227) = true then (none) else ((lex_NumText.f a0_0).bind fun t234 => ((lex_Num.f t234).bind fun bt235 => ((lex_AddrText.f k a0_0).bind fun t237 => ((lex_Addr.f k t237).bind fun bt238 => ((lex_Comm.f t220).bind fun bt240 => ((lex_Origin.f t224).bind fun bt244 => (if bt235.2 = true then (if bt235.1 = a0_0 then (if bt238.2 = true then (if bt238.1 = a0_0 then (if (bt240.2.2 == t221) = true then (if t221 = true then (if (bt240.1 == a0_3 && (bt240.2.1 == a0_4)) = true then (if (bt244.2 == t225) = true then (if t225 = true then (some (bt244.1 == a0_5)) else (some true)) else (none)) else (none)) else (if (bt244.2 == t225) = true then (if t225 = true then (some (bt244.1 == a0_5)) else (some true)) else (none))) else (none)) else (none)) else (none)) else (none)) else (none))))))))) else (none))) else (none)) else (none)))) else (none)))) else (none)) = some r := H
   have A9 := Aside0.mk A90
   clear A90
   by_cases c10 : t228.toList = t229.toList
   · rw [if_pos c10] at H
     have c10b0 : (t228.toList == t229.toList) = true := beq_iff_eq.mpr c10
     have c10b1 : (t228.toList != t229.toList) = false := bne_eq_false_iff_eq.mpr c10
     clear c10
     replace H := Option.bind_eq_some_iff.mp H
     obtain ⟨t230, A110, H⟩ := H
     replace H : ((dragomanref14_AddrText.f k a0_0).bind fun t231 => (if t230.toList = t231.toList then ((lex_PrefixText.f k a0_1 a0_2).bind fun t232 => ((dragomanref14_PrefixText.f k a0_1 a0_2).bind fun t233 => (if t232.toList = t233.toList then (if t220.toList = t222.toList then (if (t221 != t223) = true then (none) else (if t224.toList = t226.toList then (if (t225 != t227) = true then (none) else ((lex_NumText.f a0_0).bind fun t234 => ((lex_Num.f t234).bind fun bt235 => ((lex_AddrText.f k a0_0).bind fun t237 => ((lex_Addr.f k t237).bind fun bt238 => ((lex_Comm.f t220).bind fun bt240 => ((lex_Origin.f t224).bind fun bt244 => (if bt235.2 = true then (if bt235.1 = a0_0 then (if bt238.2 = true then (if bt238.1 = a0_0 then (if (bt240.2.2 == t221) = true then (if t221 = true then (if (bt240.1 == a0_3 && (bt240.2.1 == a0_4)) = true then (if (bt244.2 == t225) = true then (if t225 = true then (some (bt244.1 == a0_5)) else (some true)) else (none)) else (none)) else (if (bt244.2 == t225) = true then (if t225 = true then (some (bt244.1 == a0_5)) else (some true)) else (none))) else (none)) else (none)) else (none)) else (none)) else (none))))))))) else (none))) else (none)) else (none)))) else (none))) = some r := H
     have A11 := Aside0.mk A110
     clear A110
     replace H := Option.bind_eq_some_iff.mp H
     obtain ⟨t231, A120, H⟩ := H
     replace H : (if t230.toList = t231.toList then ((lex_PrefixText.f k a0_1 a0_2).bind fun t232 => ((dragomanref14_PrefixText.f k a0_1 a0_2).bind fun t233 => (if t232.toList = t233.toList then (if t220.toList = t222.toList then (if (t221 != t223) = true then (none) else (if t224.toList = t226.toList then (if (t225 != t227) = true then (none) else ((lex_NumText.f a0_0).bind fun t234 => ((lex_Num.f t234).bind fun bt235 => ((lex_AddrText.f k a0_0).bind fun t237 => ((lex_Addr.f k t237).bind fun bt238 => ((lex_Comm.f t220).bind fun bt240 => ((lex_Origin.f t224).bind fun bt244 => (if bt235.2 = true then (if bt235.1 = a0_0 then (if bt238.2 = true then (if bt238.1 = a0_0 then (if (bt240.2.2 == t221) = true then (if t221 = true then (if (bt240.1 == a0_3 && (bt240.2.1 == a0_4)) = true then (if (bt244.2 == t225) = true then (if t225 = true then (some (bt244.1 == a0_5)) else (some true)) else (none)) else (none)) else (if (bt244.2 == t225) = true then (if t225 = true then (some (bt244.1 == a0_5)) else (some true)) else (none))) else (none)) else (none)) else (none)) else (none)) else (none))))))))) else (none))) else (none)) else (none)))) else (none)) = some r := H
     have A12 := Aside0.mk A120
     clear A120
     by_cases c13 : t230.toList = t231.toList
     · rw [if_pos c13] at H
       have c13b0 : (t230.toList == t231.toList) = true := beq_iff_eq.mpr c13
       have c13b1 : (t230.toList != t231.toList) = false := bne_eq_false_iff_eq.mpr c13
       clear c13
       replace H := Option.bind_eq_some_iff.mp H
       obtain ⟨t232, A140, H⟩ := H
       replace H : ((dragomanref14_PrefixText.f k a0_1 a0_2).bind fun t233 => (if t232.toList = t233.toList then (if t220.toList = t222.toList then (if (t221 != t223) = true then (none) else (if t224.toList = t226.toList then (if (t225 != t227) = true then (none) else ((lex_NumText.f a0_0).bind fun t234 => ((lex_Num.f t234).bind fun bt235 => ((lex_AddrText.f k a0_0).bind fun t237 => ((lex_Addr.f k t237).bind fun bt238 => ((lex_Comm.f t220).bind fun bt240 => ((lex_Origin.f t224).bind fun bt244 => (if bt235.2 = true then (if bt235.1 = a0_0 then (if bt238.2 = true then (if bt238.1 = a0_0 then (if (bt240.2.2 == t221) = true then (if t221 = true then (if (bt240.1 == a0_3 && (bt240.2.1 == a0_4)) = true then (if (bt244.2 == t225) = true then (if t225 = true then (some (bt244.1 == a0_5)) else (some true)) else (none)) else (none)) else (if (bt244.2 == t225) = true then (if t225 = true then (some (bt244.1 == a0_5)) else (some true)) else (none))) else (none)) else (none)) else (none)) else (none)) else (none))))))))) else (none))) else (none)) else (none))) = some r := H
       have A14 := Aside0.mk A140
       clear A140
       replace H := Option.bind_eq_some_iff.mp H
       obtain ⟨t233, A150, H⟩ := H
       replace H : (if t232.toList = t233.toList then (if t220.toList = t222.toList then (if (t221 != t223) = true then (none) else (if t224.toList = t226.toList then (if (t225 != t227) = true then (none) else ((lex_NumText.f a0_0).bind fun t234 => ((lex_Num.f t234).bind fun bt235 => ((lex_AddrText.f k a0_0).bind fun t237 => ((lex_Addr.f k t237).bind fun bt238 => ((lex_Comm.f t220).bind fun bt240 => ((lex_Origin.f t224).bind fun bt244 => (if bt235.2 = true then (if bt235.1 = a0_0 then (if bt238.2 = true then (if bt238.1 = a0_0 then (if (bt240.2.2 == t221) = true then (if t221 = true then (if (bt240.1 == a0_3 && (bt240.2.1 == a0_4)) = true then (if (bt244.2 == t225) = true then (if t225 = true then (some (bt244.1 == a0_5)) else (some true)) else (none)) else (none)) else (if (bt244.2 == t225) = true then (if t225 = true then (some (bt244.1 == a0_5)) else (some true)) else (none))) else (none)) else (none)) else (none)) else (none)) else (none))))))))) else (none))) else (none)) else (none)) = some r := H
       have A15 := Aside0.mk A150
       clear A150
       by_cases c16 : t232.toList = t233.toList
       · rw [if_pos c16] at H
         have c16b0 : (t232.toList == t233.toList) = true := beq_iff_eq.mpr c16
         have c16b1 : (t232.toList != t233.toList) = false := bne_eq_false_iff_eq.mpr c16
         clear c16
         by_cases c17 : t220.toList = t222.toList
         · rw [if_pos c17] at H
           have c17b0 : (t220.toList == t222.toList) = true := beq_iff_eq.mpr c17
           have c17b1 : (t220.toList != t222.toList) = false := bne_eq_false_iff_eq.mpr c17
           clear c17
           by_cases c18 : (t221 != t223) = true
           · rw [if_pos c18] at H
             exact absurd H (by simp)
           · rw [if_neg c18] at H
             have c18b0 : (t221 != t223) = false := by simpa using c18
             (try (have c18b1 : decide (t221 = t223) = true := by simpa using c18))
             (try (have c18b2 : (t221 == t223) = true := by simpa using c18))
             clear c18
             by_cases c19 : t224.toList = t226.toList
             · rw [if_pos c19] at H
               have c19b0 : (t224.toList == t226.toList) = true := beq_iff_eq.mpr c19
               have c19b1 : (t224.toList != t226.toList) = false := bne_eq_false_iff_eq.mpr c19
               clear c19
               by_cases c20 : (t225 != t227) = true
               · rw [if_pos c20] at H
                 exact absurd H (by simp)
               · rw [if_neg c20] at H
                 have c20b0 : (t225 != t227) = false := by simpa using c20
                 (try (have c20b1 : decide (t225 = t227) = true := by simpa using c20))
                 (try (have c20b2 : (t225 == t227) = true := by simpa using c20))
                 clear c20
                 replace H := Option.bind_eq_some_iff.mp H
                 obtain ⟨t234, A210, H⟩ := H
                 replace H : ((lex_Num.f t234).bind fun bt235 => ((lex_AddrText.f k a0_0).bind fun t237 => ((lex_Addr.f k t237).bind fun bt238 => ((lex_Comm.f t220).bind fun bt240 => ((lex_Origin.f t224).bind fun bt244 => (if bt235.2 = true then (if bt235.1 = a0_0 then (if bt238.2 = true then (if bt238.1 = a0_0 then (if (bt240.2.2 == t221) = true then (if t221 = true then (if (bt240.1 == a0_3 && (bt240.2.1 == a0_4)) = true then (if (bt244.2 == t225) = true then (if t225 = true then (some (bt244.1 == a0_5)) else (some true)) else (none)) else (none)) else (if (bt244.2 == t225) = true then (if t225 = true then (some (bt244.1 == a0_5)) else (some true)) else (none))) else (none)) else (none)) else (none)) else (none)) else (none))))))) = some r := H
                 have A21 := Aside0.mk A210
                 clear A210
                 replace H := Option.bind_eq_some_iff.mp H
                 obtain ⟨⟨t235, t236⟩, A220, H⟩ := H
                 replace H : ((lex_AddrText.f k a0_0).bind fun t237 => ((lex_Addr.f k t237).bind fun bt238 => ((lex_Comm.f t220).bind fun bt240 => ((lex_Origin.f t224).bind fun bt244 => (if t236 = true then (if t235 = a0_0 then (if bt238.2 = true then (if bt238.1 = a0_0 then (if (bt240.2.2 == t221) = true then (if t221 = true then (if (bt240.1 == a0_3 && (bt240.2.1 == a0_4)) = true then (if (bt244.2 == t225) = true then (if t225 = true then (some (bt244.1 == a0_5)) else (some true)) else (none)) else (none)) else (if (bt244.2 == t225) = true then (if t225 = true then (some (bt244.1 == a0_5)) else (some true)) else (none))) else (none)) else (none)) else (none)) else (none)) else (none)))))) = some r := H
                 have A22 := Aside0.mk A220
                 clear A220
                 replace H := Option.bind_eq_some_iff.mp H
                 obtain ⟨t237, A230, H⟩ := H
                 replace H : ((lex_Addr.f k t237).bind fun bt238 => ((lex_Comm.f t220).bind fun bt240 => ((lex_Origin.f t224).bind fun bt244 => (if t236 = true then (if t235 = a0_0 then (if bt238.2 = true then (if bt238.1 = a0_0 then (if (bt240.2.2 == t221) = true then (if t221 = true then (if (bt240.1 == a0_3 && (bt240.2.1 == a0_4)) = true then (if (bt244.2 == t225) = true then (if t225 = true then (some (bt244.1 == a0_5)) else (some true)) else (none)) else (none)) else (if (bt244.2 == t225) = true then (if t225 = true then (some (bt244.1 == a0_5)) else (some true)) else (none))) else (none)) else (none)) else (none)) else (none)) else (none))))) = some r := H
                 have A23 := Aside0.mk A230
                 clear A230
                 replace H := Option.bind_eq_some_iff.mp H
                 obtain ⟨⟨t238, t239⟩, A240, H⟩ := H
                 replace H : ((lex_Comm.f t220).bind fun bt240 => ((lex_Origin.f t224).bind fun bt244 => (if t236 = true then (if t235 = a0_0 then (if t239 = true then (if t238 = a0_0 then (if (bt240.2.2 == t221) = true then (if t221 = true then (if (bt240.1 == a0_3 && (bt240.2.1 == a0_4)) = true then (if (bt244.2 == t225) = true then (if t225 = true then (some (bt244.1 == a0_5)) else (some true)) else (none)) else (none)) else (if (bt244.2 == t225) = true then (if t225 = true then (some (bt244.1 == a0_5)) else (some true)) else (none))) else (none)) else (none)) else (none)) else (none)) else (none)))) = some r := H
                 have A24 := Aside0.mk A240
                 clear A240
                 replace H := Option.bind_eq_some_iff.mp H
                 obtain ⟨⟨t240, t241, t242⟩, A250, H⟩ := H
                 replace H : ((lex_Origin.f t224).bind fun bt244 => (if t236 = true then (if t235 = a0_0 then (if t239 = true then (if t238 = a0_0 then (if (t242 == t221) = true then (if t221 = true then (if (t240 == a0_3 && (t241 == a0_4)) = true then (if (bt244.2 == t225) = true then (if t225 = true then (some (bt244.1 == a0_5)) else (some true)) else (none)) else (none)) else (if (bt244.2 == t225) = true then (if t225 = true then (some (bt244.1 == a0_5)) else (some true)) else (none))) else (none)) else (none)) else (none)) else (none)) else (none))) = some r := H
                 have A25 := Aside0.mk A250
                 clear A250
                 replace H := Option.bind_eq_some_iff.mp H
                 obtain ⟨⟨t244, t245⟩, A260, H⟩ := H
                 replace H : (if t236 = true then (if t235 = a0_0 then (if t239 = true then (if t238 = a0_0 then (if (t242 == t221) = true then (if t221 = true then (if (t240 == a0_3 && (t241 == a0_4)) = true then (if (t245 == t225) = true then (if t225 = true then (some (t244 == a0_5)) else (some true)) else (none)) else (none)) else (if (t245 == t225) = true then (if t225 = true then (some (t244 == a0_5)) else (some true)) else (none))) else (none)) else (none)) else (none)) else (none)) else (none)) = some r := H
                 have A26 := Aside0.mk A260
                 clear A260
                 by_cases c27 : t236 = true
                 · subst c27
                   have H1 : (if t235 = a0_0 then (if t239 = true then (if t238 = a0_0 then (if (t242 == t221) = true then (if t221 = true then (if (t240 == a0_3 && (t241 == a0_4)) = true then (if (t245 == t225) = true then (if t225 = true then (some (t244 == a0_5)) else (some true)) else (none)) else (none)) else (if (t245 == t225) = true then (if t225 = true then (some (t244 == a0_5)) else (some true)) else (none))) else (none)) else (none)) else (none)) else (none)) = some r := by rw [if_pos rfl] at H; exact H
                   clear H
                   have H := H1
                   clear H1
                   by_cases c28 : t235 = a0_0
                   · rw [if_pos c28] at H
                     have c28b0 : (t235 == a0_0) = true := beq_iff_eq.mpr c28
                     have c28b1 : (t235 != a0_0) = false := bne_eq_false_iff_eq.mpr c28
                     clear c28
                     by_cases c29 : t239 = true
                     · subst c29
                       have H1 : (if t238 = a0_0 then (if (t242 == t221) = true then (if t221 = true then (if (t240 == a0_3 && (t241 == a0_4)) = true then (if (t245 == t225) = true then (if t225 = true then (some (t244 == a0_5)) else (some true)) else (none)) else (none)) else (if (t245 == t225) = true then (if t225 = true then (some (t244 == a0_5)) else (some true)) else (none))) else (none)) else (none)) = some r := by rw [if_pos rfl] at H; exact H
                       clear H
                       have H := H1
                       clear H1
                       by_cases c30 : t238 = a0_0
                       · rw [if_pos c30] at H
                         have c30b0 : (t238 == a0_0) = true := beq_iff_eq.mpr c30
                         have c30b1 : (t238 != a0_0) = false := bne_eq_false_iff_eq.mpr c30
                         clear c30
                         by_cases c31 : (t242 == t221) = true
                         · rw [if_pos c31] at H
                           have c31b0 : (t242 == t221) = true := c31
                           (try (have c31b1 : decide (t242 = t221) = true := by simpa using c31))
                           (try (have c31b2 : (t242 == t221) = true := by simpa using c31))
                           clear c31
                           have H4 : (t221 = true → (t240 == a0_3 && (t241 == a0_4)) = true) ∧ (t245 == t225) = true ∧ (t225 = true → (t244 == a0_5) = r) ∧ (t225 = false → true = r) := by
                             by_cases q1 : t221 = true
                             · rw [if_pos q1] at H
                               by_cases q2 : (t240 == a0_3 && (t241 == a0_4)) = true
                               · rw [if_pos q2] at H
                                 by_cases q3 : (t245 == t225) = true
                                 · rw [if_pos q3] at H
                                   refine ⟨fun _ => q2, q3, fun q => ?_, fun q => ?_⟩
                                   · rw [if_pos q] at H; exact Option.some.inj H
                                   · rw [if_neg (by rw [q]; decide)] at H; exact Option.some.inj H
                                 · rw [if_neg q3] at H; exact absurd H (by simp)
                               · rw [if_neg q2] at H; exact absurd H (by simp)
                             · rw [if_neg q1] at H
                               by_cases q3 : (t245 == t225) = true
                               · rw [if_pos q3] at H
                                 refine ⟨fun q => absurd q q1, q3, fun q => ?_, fun q => ?_⟩
                                 · rw [if_pos q] at H; exact Option.some.inj H
                                 · rw [if_neg (by rw [q]; decide)] at H; exact Option.some.inj H
                               · rw [if_neg q3] at H; exact absurd H (by simp)
                           clear H
                           obtain ⟨k1, c34, k3, k4⟩ := H4
                           have c34b0 : (t245 == t225) = true := c34
                           (try (have c34b1 : decide (t245 = t225) = true := by simpa using c34))
                           (try (have c34b2 : (t245 == t225) = true := by simpa using c34))
                           clear c34
                           obtain rfl | rfl : t221 = true ∨ t221 = false := by cases t221 <;> simp
                           all_goals obtain rfl | rfl : t225 = true ∨ t225 = false := by cases t225 <;> simp
                           all_goals
                             (try (have c33b0 : (t240 == a0_3 && (t241 == a0_4)) = true := k1 rfl))
                             (try (have c33b1 : decide (t240 = a0_3 && (t241 == a0_4)) = true := by simpa using k1 rfl))
                             (try (have c33b2 : (t240 == a0_3 && (t241 == a0_4)) = true := by simpa using k1 rfl))
                             clear k1
                             first | obtain rfl := k3 rfl | obtain rfl := k4 rfl
                             clear k3 k4
                             go_enter Tryz.func3, Tryz.ntmps3
                             try go_wp2_with (first | ((with_reducible refine gate_dst (N := 1) rfl ?_); refine box_event ?hg (N := 1) ?hd (cs := #[.int .u32 a0_0, .int .u32 a0_1, .int .i64 a0_2, .int .u32 a0_3, .int .u32 a0_4, .int .i64 a0_5]) (t := 28) ?hr ?_; (case hd => rfl); (case hg => rfl); (case hr => first | (go_simp; done) | (go_simp; rfl)); intro gb216 hg w36 hbox hb; have n0_ := Aside0.mk (below_step (by repeat (first | (with_reducible first | exact HB.out | apply blA | apply blN | apply blD) | exact HB.out)) hb); have n1_ := Aside0.mk (hbox); have n2_ := Aside0.mk ((by rw [hg]; exact (below_size (by repeat (first | (with_reducible first | exact HB.out | apply blA | apply blN | apply blD) | exact HB.out))) : w.heap.size ≤ gb216)); have n3_ := Aside0.mk ((by rw [hg]; exact (below_size (by repeat (first | (with_reducible first | exact HB.out | apply blA | apply blN | apply blD) | exact HB.out))) : w.heap.size ≤ gb216)); clear HB; have HB := n0_; have BK216 := n1_; have GW216 := n2_; have GE216 := n3_; clear n0_ n1_ n2_ n3_; clear hb hbox hg) | ((with_reducible refine gate_callee (f := 4) rfl ?_); refine goesL_ (some 23) rfl rfl Tryz.func4 (by kernel_rfl) rfl #[] rfl (by (try simp only [List.map_toArray, List.map_cons, List.map_nil]); first | done | rfl | (simp only [List.length_drop, List.length_take]; rfl)) ?_; (with_reducible refine (dragomanlaw14_alive.calls k  true _ ?side1 A2.out).mono ?_); (case side1 => exact GL_below hG (by repeat (first | (with_reducible first | exact HB.out | apply blA | apply blN | apply blD | refine below_set ?_ GE216.out) | exact HB.out))); rintro e w37 ⟨rfl, hb⟩; refine ⟨_, rfl, ?_⟩; have n0_ := Aside0.mk (blk_below (g := gb216) (o := .cells #[.int .u32 a0_0, .int .u32 a0_1, .int .i64 a0_2, .int .u32 a0_3, .int .u32 a0_4, .int .i64 a0_5] 28 (0, 0)) (by (with_reducible repeat (first | refine bkN ?_ _ | refine bkD ?_ | refine bkA ?_ _)); exact BK216.out) hb); have n1_ := Aside0.mk (below_step (by repeat (first | (with_reducible first | exact HB.out | apply blA | apply blN | apply blD | refine below_set ?_ GE216.out) | exact HB.out)) hb); clear BK216; clear HB; have BK216 := n0_; have HB := n1_; clear n0_ n1_; (try clear hb); (try clear hb2); (try clear hk); (try clear hi)))
                             have n0_ := Aside0.mk (blk_drew BK216.out)
                             have n1_ := Aside0.mk (below_drew1 HB.out)
                             clear BK216
                             clear HB
                             have BK216 := n0_
                             have HB := n1_
                             clear n0_ n1_
                             refine start_ (n := 14) (S := fun w' => True) (ds := []) #[false, false, false, false, false, false, false, false, false, false, false, false, false, false] (by kernel_rfl) rfl rfl trivial (fun hHeld => ?_); refine with_tabW dragomanlaw14_LexTexts.tab3 dragomanlaw14_LexTexts.bits3 (fun HT_ HW_ => ?_)
                             generalize w37.drew = w38 at BK216 HB hHeld ⊢
                             refine pure_ (i := 0) (N := some 25) (v := ?_) (a' := ?_) #[true, false, false, false, false, false, false, false, false, false, false, false, false, false] rfl rfl (any_of HT_.out (by kernel_rfl)) (fun _ _ _ h => h) (Or.inl ⟨by rfl, ?_⟩) ?_ ?_
                             rotate_left
                             · intro w'
                               go_simp
                               with_reducible rfl
                             rotate_left
                             · simp only [Act.put, List.setIfInBounds_toArray, List.set_cons_zero, List.set_cons_succ, i64_w, i32_w]
                               rfl
                             refine pure_ (i := 2) (N := some 27) (v := ?_) (a' := ?_) #[true, false, true, false, false, false, false, false, false, false, false, false, false, false] rfl rfl (any_of HT_.out (by kernel_rfl)) (fun _ _ _ h => h) (Or.inl ⟨by rfl, ?_⟩) ?_ ?_
                             rotate_left
                             · intro w'
                               go_simp
                               with_reducible rfl
                             rotate_left
                             · simp only [Act.put, List.setIfInBounds_toArray, List.set_cons_zero, List.set_cons_succ, i64_w, i32_w]
                               rfl
                             refine pure_ (i := 4) (N := some 29) (v := ?_) (a' := ?_) #[true, false, true, false, true, false, false, false, false, false, false, false, false, false] rfl rfl (any_of HT_.out (by kernel_rfl)) (fun _ _ _ h => h) (Or.inl ⟨by rfl, ?_⟩) ?_ ?_
                             rotate_left
                             · intro w'
                               go_simp
                               with_reducible rfl
                             rotate_left
                             · simp only [Act.put, List.setIfInBounds_toArray, List.set_cons_zero, List.set_cons_succ, i64_w, i32_w]
                               rfl
                             refine pure_ (i := 6) (N := some 31) (v := ?_) (a' := ?_) #[true, false, true, false, true, false, true, false, false, false, false, false, false, false] rfl rfl (any_of HT_.out (by kernel_rfl)) (fun _ _ _ h => h) (Or.inl ⟨by rfl, ?_⟩) ?_ ?_
                             rotate_left
                             · intro w'
                               go_simp
                               with_reducible rfl
                             rotate_left
                             · simp only [Act.put, List.setIfInBounds_toArray, List.set_cons_zero, List.set_cons_succ, i64_w, i32_w]
                               rfl
                             refine inv_at [1, 3, 5, 7, 8, 9, 10, 11, 12, 13] (fun a0_ b a w' => ∃ (gb218 : Nat) (gb219 : Nat) (m8_ : Value) (m9_ : Value), a = putSel a0_ b [(1, 26, .int .u32 a0_0), (3, 28, .agg #[.int .u32 a0_1, .int .i64 a0_2]), (5, 30, .agg #[.int .u32 a0_3, .int .u32 a0_4]), (7, 32, .int .i64 a0_5), (8, 4, m8_), (9, 5, m9_), (10, 3, .int .u32 a0_0), (13, 6, .int .i64 a0_5)] ∧ (w'.heap[gb216]? = some (.cells #[.int .u32 a0_0, .int .u32 a0_1, .int .i64 a0_2, .int .u32 a0_3, .int .u32 a0_4, .int .i64 a0_5] 28 (0, 0))) ∧ (Below w.heap.size w w') ∧ (b 8 = true → b 9 = true → gb219 ≠ gb218) ∧ (b 8 = true → b 9 = true → gb218 ≠ gb219) ∧ (b 8 = true → b 11 = false → w'.heap[gb218]? = some (.cells #[.int .u32 0, .int .i64 0] 24 (0, 0))) ∧ (b 8 = true → w.heap.size ≤ gb218) ∧ (b 8 = true → w.heap.size ≤ gb218) ∧ (b 8 = true → gb216 ≠ gb218) ∧ (b 8 = true → gb218 ≠ gb216) ∧ (b 9 = true → b 12 = false → w'.heap[gb219]? = some (.cells #[.int .u32 0, .int .u32 0] 26 (0, 0))) ∧ (b 9 = true → w.heap.size ≤ gb219) ∧ (b 9 = true → w.heap.size ≤ gb219) ∧ (b 9 = true → gb216 ≠ gb219) ∧ (b 9 = true → gb219 ≠ gb216) ∧ (b 11 = true → w'.heap[gb218]? = some (.cells #[.int .u32 a0_1, .int .i64 a0_2] 24 (0, 0))) ∧ (b 12 = true → w'.heap[gb219]? = some (.cells #[.int .u32 a0_3, .int .u32 a0_4] 26 (0, 0))) ∧ (b 8 = true → (m8_ : Value) = .pointer (some ⟨gb218, 0, none⟩)) ∧ (b 9 = true → (m9_ : Value) = .pointer (some ⟨gb219, 0, none⟩))) HT_.out HW_.out (by kernel_rfl) (by kernel_rfl) ?_ ?_ ?_
                             · exact ⟨0, 0, .bool false, .bool false, by simp only [putSel, Bool.false_eq_true, if_false], BK216.out, HB.out, fun h_ => absurd h_ (by decide), fun h_ => absurd h_ (by decide), fun h_ => absurd h_ (by decide), fun h_ => absurd h_ (by decide), fun h_ => absurd h_ (by decide), fun h_ => absurd h_ (by decide), fun h_ => absurd h_ (by decide), fun h_ => absurd h_ (by decide), fun h_ => absurd h_ (by decide), fun h_ => absurd h_ (by decide), fun h_ => absurd h_ (by decide), fun h_ => absurd h_ (by decide), fun h_ => absurd h_ (by decide), fun h_ => absurd h_ (by decide), fun h_ => absurd h_ (by decide), fun h_ => absurd h_ (by decide)⟩
                             · skip
                               clear BK216 HB
                               refine steps_cons ?_ ?_
                               · rintro b a w' ⟨gb218, gb219, m8_, m9_, ha, Q_BK216, Q_HB, Q_NB219_218, Q_NB218_219, Q_BK218, Q_GW218, Q_GE218, Q_NB216_218, Q_NB218_216, Q_BK219, Q_GW219, Q_GE219, Q_NB216_219, Q_NB219_216, Q_BK218_e11, Q_BK219_e12, Q_X8_, Q_X9_⟩ hb_ hon hoff
                                 refine ⟨_, rfl, fun K hK => ?_⟩
                                 have e25 : a.tmps[25]? = some (.pointer (some ⟨gb216, 0, none⟩)) := by rw [ha]; exact (putSel_off rfl).trans rfl
                                 replace ha := Aside0.mk ha
                                 have BK216 := Aside0.mk Q_BK216
                                 have HB := Aside0.mk Q_HB
                                 have hc0_ : w'.cell? ⟨gb216, 0, none⟩ = some (.int .u32 a0_0) := (blk_cell BK216.out 0).trans rfl
                                 have hc1_ : w'.cell? ⟨gb216, 1, none⟩ = some (.int .u32 a0_1) := (blk_cell BK216.out 1).trans rfl
                                 have hc2_ : w'.cell? ⟨gb216, 2, none⟩ = some (.int .i64 a0_2) := (blk_cell BK216.out 2).trans rfl
                                 have hc3_ : w'.cell? ⟨gb216, 3, none⟩ = some (.int .u32 a0_3) := (blk_cell BK216.out 3).trans rfl
                                 have hc4_ : w'.cell? ⟨gb216, 4, none⟩ = some (.int .u32 a0_4) := (blk_cell BK216.out 4).trans rfl
                                 have hc5_ : w'.cell? ⟨gb216, 5, none⟩ = some (.int .i64 a0_5) := (blk_cell BK216.out 5).trans rfl
                                 refine value_ (w1 := w') (v := .int .u32 a0_0) (by rfl) rfl ?_ ?_
                                 · go_simp
                                   (try simp only [i64_w])
                                   try rfl
                                 refine hK.out _ _ ⟨gb218, gb219, m8_, m9_, (by rw [ha.out]; exact putSel_upk 0 hb_ rfl rfl rfl), Q_BK216, Q_HB, Q_NB219_218, Q_NB218_219, Q_BK218, Q_GW218, Q_GE218, Q_NB216_218, Q_NB218_216, Q_BK219, Q_GW219, Q_GE219, Q_NB216_219, Q_NB219_216, fun h0_ => absurd ((hoff 11 (by kernel_rfl)).symm.trans h0_) (by decide), fun h0_ => absurd ((hoff 12 (by kernel_rfl)).symm.trans h0_) (by decide), Q_X8_, Q_X9_⟩
                               refine steps_cons ?_ ?_
                               · rintro b a w' ⟨gb218, gb219, m8_, m9_, ha, Q_BK216, Q_HB, Q_NB219_218, Q_NB218_219, Q_BK218, Q_GW218, Q_GE218, Q_NB216_218, Q_NB218_216, Q_BK219, Q_GW219, Q_GE219, Q_NB216_219, Q_NB219_216, Q_BK218_e11, Q_BK219_e12, Q_X8_, Q_X9_⟩ hb_ hon hoff
                                 refine ⟨_, rfl, fun K hK => ?_⟩
                                 have e27 : a.tmps[27]? = some (.pointer (some ⟨gb216, 1, none⟩)) := by rw [ha]; exact (putSel_off rfl).trans rfl
                                 replace ha := Aside0.mk ha
                                 have BK216 := Aside0.mk Q_BK216
                                 have HB := Aside0.mk Q_HB
                                 have hc0_ : w'.cell? ⟨gb216, 0, none⟩ = some (.int .u32 a0_0) := (blk_cell BK216.out 0).trans rfl
                                 have hc1_ : w'.cell? ⟨gb216, 1, none⟩ = some (.int .u32 a0_1) := (blk_cell BK216.out 1).trans rfl
                                 have hc2_ : w'.cell? ⟨gb216, 2, none⟩ = some (.int .i64 a0_2) := (blk_cell BK216.out 2).trans rfl
                                 have hc3_ : w'.cell? ⟨gb216, 3, none⟩ = some (.int .u32 a0_3) := (blk_cell BK216.out 3).trans rfl
                                 have hc4_ : w'.cell? ⟨gb216, 4, none⟩ = some (.int .u32 a0_4) := (blk_cell BK216.out 4).trans rfl
                                 have hc5_ : w'.cell? ⟨gb216, 5, none⟩ = some (.int .i64 a0_5) := (blk_cell BK216.out 5).trans rfl
                                 refine value_ (w1 := w') (v := .agg #[.int .u32 a0_1, .int .i64 a0_2]) (by rfl) rfl ?_ ?_
                                 · go_simp
                                   (try simp only [i64_w])
                                   try rfl
                                 refine hK.out _ _ ⟨gb218, gb219, m8_, m9_, (by rw [ha.out]; exact putSel_upk 1 hb_ rfl rfl rfl), Q_BK216, Q_HB, Q_NB219_218, Q_NB218_219, Q_BK218, Q_GW218, Q_GE218, Q_NB216_218, Q_NB218_216, Q_BK219, Q_GW219, Q_GE219, Q_NB216_219, Q_NB219_216, fun h0_ => absurd ((hoff 11 (by kernel_rfl)).symm.trans h0_) (by decide), fun h0_ => absurd ((hoff 12 (by kernel_rfl)).symm.trans h0_) (by decide), Q_X8_, Q_X9_⟩
                               refine steps_cons ?_ ?_
                               · rintro b a w' ⟨gb218, gb219, m8_, m9_, ha, Q_BK216, Q_HB, Q_NB219_218, Q_NB218_219, Q_BK218, Q_GW218, Q_GE218, Q_NB216_218, Q_NB218_216, Q_BK219, Q_GW219, Q_GE219, Q_NB216_219, Q_NB219_216, Q_BK218_e11, Q_BK219_e12, Q_X8_, Q_X9_⟩ hb_ hon hoff
                                 refine ⟨_, rfl, fun K hK => ?_⟩
                                 have e29 : a.tmps[29]? = some (.pointer (some ⟨gb216, 3, none⟩)) := by rw [ha]; exact (putSel_off rfl).trans rfl
                                 replace ha := Aside0.mk ha
                                 have BK216 := Aside0.mk Q_BK216
                                 have HB := Aside0.mk Q_HB
                                 have hc0_ : w'.cell? ⟨gb216, 0, none⟩ = some (.int .u32 a0_0) := (blk_cell BK216.out 0).trans rfl
                                 have hc1_ : w'.cell? ⟨gb216, 1, none⟩ = some (.int .u32 a0_1) := (blk_cell BK216.out 1).trans rfl
                                 have hc2_ : w'.cell? ⟨gb216, 2, none⟩ = some (.int .i64 a0_2) := (blk_cell BK216.out 2).trans rfl
                                 have hc3_ : w'.cell? ⟨gb216, 3, none⟩ = some (.int .u32 a0_3) := (blk_cell BK216.out 3).trans rfl
                                 have hc4_ : w'.cell? ⟨gb216, 4, none⟩ = some (.int .u32 a0_4) := (blk_cell BK216.out 4).trans rfl
                                 have hc5_ : w'.cell? ⟨gb216, 5, none⟩ = some (.int .i64 a0_5) := (blk_cell BK216.out 5).trans rfl
                                 refine value_ (w1 := w') (v := .agg #[.int .u32 a0_3, .int .u32 a0_4]) (by rfl) rfl ?_ ?_
                                 · go_simp
                                   (try simp only [i64_w])
                                   try rfl
                                 refine hK.out _ _ ⟨gb218, gb219, m8_, m9_, (by rw [ha.out]; exact putSel_upk 2 hb_ rfl rfl rfl), Q_BK216, Q_HB, Q_NB219_218, Q_NB218_219, Q_BK218, Q_GW218, Q_GE218, Q_NB216_218, Q_NB218_216, Q_BK219, Q_GW219, Q_GE219, Q_NB216_219, Q_NB219_216, Q_BK218_e11, fun h0_ => absurd ((hoff 12 (by kernel_rfl)).symm.trans h0_) (by decide), Q_X8_, Q_X9_⟩
                               refine steps_cons ?_ ?_
                               · rintro b a w' ⟨gb218, gb219, m8_, m9_, ha, Q_BK216, Q_HB, Q_NB219_218, Q_NB218_219, Q_BK218, Q_GW218, Q_GE218, Q_NB216_218, Q_NB218_216, Q_BK219, Q_GW219, Q_GE219, Q_NB216_219, Q_NB219_216, Q_BK218_e11, Q_BK219_e12, Q_X8_, Q_X9_⟩ hb_ hon hoff
                                 refine ⟨_, rfl, fun K hK => ?_⟩
                                 have e31 : a.tmps[31]? = some (.pointer (some ⟨gb216, 5, none⟩)) := by rw [ha]; exact (putSel_off rfl).trans rfl
                                 replace ha := Aside0.mk ha
                                 have BK216 := Aside0.mk Q_BK216
                                 have HB := Aside0.mk Q_HB
                                 have hc0_ : w'.cell? ⟨gb216, 0, none⟩ = some (.int .u32 a0_0) := (blk_cell BK216.out 0).trans rfl
                                 have hc1_ : w'.cell? ⟨gb216, 1, none⟩ = some (.int .u32 a0_1) := (blk_cell BK216.out 1).trans rfl
                                 have hc2_ : w'.cell? ⟨gb216, 2, none⟩ = some (.int .i64 a0_2) := (blk_cell BK216.out 2).trans rfl
                                 have hc3_ : w'.cell? ⟨gb216, 3, none⟩ = some (.int .u32 a0_3) := (blk_cell BK216.out 3).trans rfl
                                 have hc4_ : w'.cell? ⟨gb216, 4, none⟩ = some (.int .u32 a0_4) := (blk_cell BK216.out 4).trans rfl
                                 have hc5_ : w'.cell? ⟨gb216, 5, none⟩ = some (.int .i64 a0_5) := (blk_cell BK216.out 5).trans rfl
                                 refine value_ (w1 := w') (v := .int .i64 a0_5) (by rfl) rfl ?_ ?_
                                 · go_simp
                                   (try simp only [i64_w])
                                   try rfl
                                 refine hK.out _ _ ⟨gb218, gb219, m8_, m9_, (by rw [ha.out]; exact putSel_upk 3 hb_ rfl rfl rfl), Q_BK216, Q_HB, Q_NB219_218, Q_NB218_219, Q_BK218, Q_GW218, Q_GE218, Q_NB216_218, Q_NB218_216, Q_BK219, Q_GW219, Q_GE219, Q_NB216_219, Q_NB219_216, Q_BK218_e11, Q_BK219_e12, Q_X8_, Q_X9_⟩
                               refine steps_cons ?_ ?_
                               · rintro b a w' ⟨gb218, gb219, m8_, m9_, ha, Q_BK216, Q_HB, Q_NB219_218, Q_NB218_219, Q_BK218, Q_GW218, Q_GE218, Q_NB216_218, Q_NB218_216, Q_BK219, Q_GW219, Q_GE219, Q_NB216_219, Q_NB219_216, Q_BK218_e11, Q_BK219_e12, Q_X8_, Q_X9_⟩ hb_ hon hoff
                                 refine ⟨_, rfl, fun K hK => ?_⟩
                                 replace ha := Aside0.mk ha
                                 have BK216 := Aside0.mk Q_BK216
                                 have HB := Aside0.mk Q_HB
                                 refine box_step ?hg (N := 4) ?hd (cs := #[.int .u32 0, .int .i64 0]) (t := 24) ?hr ?_; (case hd => rfl); (case hg => rfl); (case hr => first | (go_simp; done) | (go_simp; rfl))
                                 intro gb218 hg w39 hbox hb
                                 have n0_ := Aside0.mk (blk_below (g := gb216) (o := .cells #[.int .u32 a0_0, .int .u32 a0_1, .int .i64 a0_2, .int .u32 a0_3, .int .u32 a0_4, .int .i64 a0_5] 28 (0, 0)) (by (with_reducible repeat (first | refine bkN ?_ _ | refine bkD ?_ | refine bkA ?_ _)); exact BK216.out) hb)
                                 have n1_ := Aside0.mk (below_step (by repeat (first | (with_reducible first | exact HB.out | apply blA | apply blN | apply blD | refine below_set ?_ GE216.out) | exact HB.out)) hb)
                                 have n2_ := Aside0.mk (hbox)
                                 have n3_ := Aside0.mk ((by rw [hg]; exact (below_size (by repeat (first | (with_reducible first | exact HB.out | apply blA | apply blN | apply blD | refine below_set ?_ GE216.out) | exact HB.out))) : w.heap.size ≤ gb218))
                                 have n4_ := Aside0.mk ((by rw [hg]; exact (below_size (by repeat (first | (with_reducible first | exact HB.out | apply blA | apply blN | apply blD | refine below_set ?_ GE216.out) | exact HB.out))) : w.heap.size ≤ gb218))
                                 have n5_ := Aside0.mk ((by rw [hg]; exact Nat.ne_of_lt (blk_lt (g := gb216) (o := .cells #[.int .u32 a0_0, .int .u32 a0_1, .int .i64 a0_2, .int .u32 a0_3, .int .u32 a0_4, .int .i64 a0_5] 28 (0, 0)) (by (with_reducible repeat (first | refine bkN ?_ _ | refine bkD ?_ | refine bkA ?_ _)); exact BK216.out)) : gb216 ≠ gb218))
                                 have n6_ := Aside0.mk ((by rw [hg]; exact Nat.ne_of_gt (blk_lt (g := gb216) (o := .cells #[.int .u32 a0_0, .int .u32 a0_1, .int .i64 a0_2, .int .u32 a0_3, .int .u32 a0_4, .int .i64 a0_5] 28 (0, 0)) (by (with_reducible repeat (first | refine bkN ?_ _ | refine bkD ?_ | refine bkA ?_ _)); exact BK216.out)) : gb218 ≠ gb216))
                                 have z_NB219_218 := fun (h0_ : up b 8 8 = true) (h1_ : up b 8 9 = true) => (show gb219 ≠ gb218 from (by rw [hg]; have hw_ : b 9 = true := h1_; rcases he_ : b 12 with _ | _; exact Nat.ne_of_lt (blk_lt (Q_BK219 hw_ he_)); exact Nat.ne_of_lt (blk_lt (Q_BK219_e12 he_))))
                                 have z_NB218_219 := fun (h0_ : up b 8 8 = true) (h1_ : up b 8 9 = true) => (show gb218 ≠ gb219 from (by rw [hg]; have hw_ : b 9 = true := h1_; rcases he_ : b 12 with _ | _; exact Nat.ne_of_gt (blk_lt (Q_BK219 hw_ he_)); exact Nat.ne_of_gt (blk_lt (Q_BK219_e12 he_))))
                                 have z_BK219 := fun (h0_ : b 9 = true) (h1_ : b 12 = false) => (show w39.heap[gb219]? = some (.cells #[.int .u32 0, .int .u32 0] 26 (0, 0)) from by first | exact (blk_below (g := gb219) (o := .cells #[.int .u32 0, .int .u32 0] 26 (0, 0)) (by (with_reducible repeat (first | refine bkN ?_ _ | refine bkD ?_ | refine bkA ?_ _)); exact (Q_BK219 h0_ h1_)) hb))
                                 clear BK216
                                 clear HB
                                 have BK216 := n0_
                                 have HB := n1_
                                 have BK218 := n2_
                                 have GW218 := n3_
                                 have GE218 := n4_
                                 have NB216_218 := n5_
                                 have NB218_216 := n6_
                                 clear n0_ n1_ n2_ n3_ n4_ n5_ n6_
                                 clear hb hbox hg
                                 refine hK.out _ _ ⟨gb218, gb219, (.pointer (some ⟨gb218, 0, none⟩)), m9_, (by rw [ha.out]; exact putSel_upk 4 hb_ rfl rfl rfl), (by (with_reducible repeat (first | refine bkN ?_ _ | refine bkD ?_ | refine bkA ?_ _)); exact BK216.out), (by repeat (first | (with_reducible first | exact HB.out | apply blA | apply blN | apply blD | refine below_set ?_ GE216.out | refine below_set ?_ GE218.out) | exact HB.out)), fun h0_ h1_ => z_NB219_218 h0_ h1_, fun h0_ h1_ => z_NB218_219 h0_ h1_, fun _ _ => (by (with_reducible repeat (first | refine bkN ?_ _ | refine bkD ?_ | refine bkA ?_ _)); exact BK218.out), fun _ => GW218.out, fun _ => GE218.out, fun _ => NB216_218.out, fun _ => NB218_216.out, z_BK219, Q_GW219, Q_GE219, Q_NB216_219, Q_NB219_216, fun h0_ => absurd ((hoff 11 (by kernel_rfl)).symm.trans h0_) (by decide), fun h0_ => absurd ((hoff 12 (by kernel_rfl)).symm.trans h0_) (by decide), fun _ => rfl, Q_X9_⟩
                               refine steps_cons ?_ ?_
                               · rintro b a w' ⟨gb218, gb219, m8_, m9_, ha, Q_BK216, Q_HB, Q_NB219_218, Q_NB218_219, Q_BK218, Q_GW218, Q_GE218, Q_NB216_218, Q_NB218_216, Q_BK219, Q_GW219, Q_GE219, Q_NB216_219, Q_NB219_216, Q_BK218_e11, Q_BK219_e12, Q_X8_, Q_X9_⟩ hb_ hon hoff
                                 refine ⟨_, rfl, fun K hK => ?_⟩
                                 replace ha := Aside0.mk ha
                                 have BK216 := Aside0.mk Q_BK216
                                 have HB := Aside0.mk Q_HB
                                 refine box_step ?hg (N := 5) ?hd (cs := #[.int .u32 0, .int .u32 0]) (t := 26) ?hr ?_; (case hd => rfl); (case hg => rfl); (case hr => first | (go_simp; done) | (go_simp; rfl))
                                 intro gb219 hg w39 hbox hb
                                 have n0_ := Aside0.mk (blk_below (g := gb216) (o := .cells #[.int .u32 a0_0, .int .u32 a0_1, .int .i64 a0_2, .int .u32 a0_3, .int .u32 a0_4, .int .i64 a0_5] 28 (0, 0)) (by (with_reducible repeat (first | refine bkN ?_ _ | refine bkD ?_ | refine bkA ?_ _)); exact BK216.out) hb)
                                 have n1_ := Aside0.mk (below_step (by repeat (first | (with_reducible first | exact HB.out | apply blA | apply blN | apply blD | refine below_set ?_ GE216.out) | exact HB.out)) hb)
                                 have n2_ := Aside0.mk (hbox)
                                 have n3_ := Aside0.mk ((by rw [hg]; exact (below_size (by repeat (first | (with_reducible first | exact HB.out | apply blA | apply blN | apply blD | refine below_set ?_ GE216.out) | exact HB.out))) : w.heap.size ≤ gb219))
                                 have n4_ := Aside0.mk ((by rw [hg]; exact (below_size (by repeat (first | (with_reducible first | exact HB.out | apply blA | apply blN | apply blD | refine below_set ?_ GE216.out) | exact HB.out))) : w.heap.size ≤ gb219))
                                 have n5_ := Aside0.mk ((by rw [hg]; exact Nat.ne_of_lt (blk_lt (g := gb216) (o := .cells #[.int .u32 a0_0, .int .u32 a0_1, .int .i64 a0_2, .int .u32 a0_3, .int .u32 a0_4, .int .i64 a0_5] 28 (0, 0)) (by (with_reducible repeat (first | refine bkN ?_ _ | refine bkD ?_ | refine bkA ?_ _)); exact BK216.out)) : gb216 ≠ gb219))
                                 have n6_ := Aside0.mk ((by rw [hg]; exact Nat.ne_of_gt (blk_lt (g := gb216) (o := .cells #[.int .u32 a0_0, .int .u32 a0_1, .int .i64 a0_2, .int .u32 a0_3, .int .u32 a0_4, .int .i64 a0_5] 28 (0, 0)) (by (with_reducible repeat (first | refine bkN ?_ _ | refine bkD ?_ | refine bkA ?_ _)); exact BK216.out)) : gb219 ≠ gb216))
                                 have z_NB219_218 := fun (h0_ : up b 9 8 = true) (h1_ : up b 9 9 = true) => (show gb219 ≠ gb218 from (by rw [hg]; have hw_ : b 8 = true := h0_; rcases he_ : b 11 with _ | _; exact Nat.ne_of_gt (blk_lt (Q_BK218 hw_ he_)); exact Nat.ne_of_gt (blk_lt (Q_BK218_e11 he_))))
                                 have z_NB218_219 := fun (h0_ : up b 9 8 = true) (h1_ : up b 9 9 = true) => (show gb218 ≠ gb219 from (by rw [hg]; have hw_ : b 8 = true := h0_; rcases he_ : b 11 with _ | _; exact Nat.ne_of_lt (blk_lt (Q_BK218 hw_ he_)); exact Nat.ne_of_lt (blk_lt (Q_BK218_e11 he_))))
                                 have z_BK218 := fun (h0_ : b 8 = true) (h1_ : b 11 = false) => (show w39.heap[gb218]? = some (.cells #[.int .u32 0, .int .i64 0] 24 (0, 0)) from by first | exact (blk_below (g := gb218) (o := .cells #[.int .u32 0, .int .i64 0] 24 (0, 0)) (by (with_reducible repeat (first | refine bkN ?_ _ | refine bkD ?_ | refine bkA ?_ _)); exact (Q_BK218 h0_ h1_)) hb))
                                 clear BK216
                                 clear HB
                                 have BK216 := n0_
                                 have HB := n1_
                                 have BK219 := n2_
                                 have GW219 := n3_
                                 have GE219 := n4_
                                 have NB216_219 := n5_
                                 have NB219_216 := n6_
                                 clear n0_ n1_ n2_ n3_ n4_ n5_ n6_
                                 clear hb hbox hg
                                 refine hK.out _ _ ⟨gb218, gb219, m8_, (.pointer (some ⟨gb219, 0, none⟩)), (by rw [ha.out]; exact putSel_upk 5 hb_ rfl rfl rfl), (by (with_reducible repeat (first | refine bkN ?_ _ | refine bkD ?_ | refine bkA ?_ _)); exact BK216.out), (by repeat (first | (with_reducible first | exact HB.out | apply blA | apply blN | apply blD | refine below_set ?_ GE216.out | refine below_set ?_ GE219.out) | exact HB.out)), fun h0_ h1_ => z_NB219_218 h0_ h1_, fun h0_ h1_ => z_NB218_219 h0_ h1_, z_BK218, Q_GW218, Q_GE218, Q_NB216_218, Q_NB218_216, fun _ _ => (by (with_reducible repeat (first | refine bkN ?_ _ | refine bkD ?_ | refine bkA ?_ _)); exact BK219.out), fun _ => GW219.out, fun _ => GE219.out, fun _ => NB216_219.out, fun _ => NB219_216.out, fun h0_ => absurd ((hoff 11 (by kernel_rfl)).symm.trans h0_) (by decide), fun h0_ => absurd ((hoff 12 (by kernel_rfl)).symm.trans h0_) (by decide), Q_X8_, fun _ => rfl⟩
                               refine steps_cons ?_ ?_
                               · rintro b a w' ⟨gb218, gb219, m8_, m9_, ha, Q_BK216, Q_HB, Q_NB219_218, Q_NB218_219, Q_BK218, Q_GW218, Q_GE218, Q_NB216_218, Q_NB218_216, Q_BK219, Q_GW219, Q_GE219, Q_NB216_219, Q_NB219_216, Q_BK218_e11, Q_BK219_e12, Q_X8_, Q_X9_⟩ hb_ hon hoff
                                 refine ⟨_, rfl, fun K hK => ?_⟩
                                 have e26 : a.tmps[26]? = some (.int .u32 a0_0) := by rw [ha]; exact putSel_on (e := (1, 26, .int .u32 a0_0)) 0 rfl rfl (hon 1 (by kernel_rfl)) rfl
                                 replace ha := Aside0.mk ha
                                 have BK216 := Aside0.mk Q_BK216
                                 have HB := Aside0.mk Q_HB
                                 have NB219_218 := Aside0.mk (Q_NB219_218 (hon 8 (by kernel_rfl)) (hon 9 (by kernel_rfl)))
                                 have NB218_219 := Aside0.mk (Q_NB218_219 (hon 8 (by kernel_rfl)) (hon 9 (by kernel_rfl)))
                                 have BK218 := Aside0.mk (Q_BK218 (hon 8 (by kernel_rfl)) (hoff 11 (by kernel_rfl)))
                                 have GW218 := Aside0.mk (Q_GW218 (hon 8 (by kernel_rfl)))
                                 have GE218 := Aside0.mk (Q_GE218 (hon 8 (by kernel_rfl)))
                                 have NB216_218 := Aside0.mk (Q_NB216_218 (hon 8 (by kernel_rfl)))
                                 have NB218_216 := Aside0.mk (Q_NB218_216 (hon 8 (by kernel_rfl)))
                                 have BK219 := Aside0.mk (Q_BK219 (hon 9 (by kernel_rfl)) (hoff 12 (by kernel_rfl)))
                                 have GW219 := Aside0.mk (Q_GW219 (hon 9 (by kernel_rfl)))
                                 have GE219 := Aside0.mk (Q_GE219 (hon 9 (by kernel_rfl)))
                                 have NB216_219 := Aside0.mk (Q_NB216_219 (hon 9 (by kernel_rfl)))
                                 have NB219_216 := Aside0.mk (Q_NB219_216 (hon 9 (by kernel_rfl)))
                                 refine value_ (w1 := w') (v := .int .u32 a0_0) (by rfl) rfl ?_ ?_
                                 · go_simp
                                   (try simp only [i64_w])
                                   try rfl
                                 refine hK.out _ _ ⟨gb218, gb219, m8_, m9_, (by rw [ha.out]; exact putSel_upk 6 hb_ rfl rfl rfl), Q_BK216, Q_HB, Q_NB219_218, Q_NB218_219, Q_BK218, Q_GW218, Q_GE218, Q_NB216_218, Q_NB218_216, Q_BK219, Q_GW219, Q_GE219, Q_NB216_219, Q_NB219_216, fun h0_ => absurd ((hoff 11 (by kernel_rfl)).symm.trans h0_) (by decide), fun h0_ => absurd ((hoff 12 (by kernel_rfl)).symm.trans h0_) (by decide), Q_X8_, Q_X9_⟩
                               refine steps_cons ?_ ?_
                               · rintro b a w' ⟨gb218, gb219, m8_, m9_, ha, Q_BK216, Q_HB, Q_NB219_218, Q_NB218_219, Q_BK218, Q_GW218, Q_GE218, Q_NB216_218, Q_NB218_216, Q_BK219, Q_GW219, Q_GE219, Q_NB216_219, Q_NB219_216, Q_BK218_e11, Q_BK219_e12, Q_X8_, Q_X9_⟩ hb_ hon hoff
                                 refine ⟨_, rfl, fun K hK => ?_⟩
                                 have e4 : a.tmps[4]? = some (m8_) := by rw [ha]; exact putSel_on (e := (8, 4, m8_)) 4 rfl rfl (hon 8 (by kernel_rfl)) rfl
                                 rw [Q_X8_ (hon 8 (by kernel_rfl))] at e4
                                 have e28 : a.tmps[28]? = some (.agg #[.int .u32 a0_1, .int .i64 a0_2]) := by rw [ha]; exact putSel_on (e := (3, 28, .agg #[.int .u32 a0_1, .int .i64 a0_2])) 1 rfl rfl (hon 3 (by kernel_rfl)) rfl
                                 replace ha := Aside0.mk ha
                                 have BK216 := Aside0.mk Q_BK216
                                 have HB := Aside0.mk Q_HB
                                 have NB219_218 := Aside0.mk (Q_NB219_218 (hon 8 (by kernel_rfl)) (hon 9 (by kernel_rfl)))
                                 have NB218_219 := Aside0.mk (Q_NB218_219 (hon 8 (by kernel_rfl)) (hon 9 (by kernel_rfl)))
                                 have BK218 := Aside0.mk (Q_BK218 (hon 8 (by kernel_rfl)) hb_)
                                 have GW218 := Aside0.mk (Q_GW218 (hon 8 (by kernel_rfl)))
                                 have GE218 := Aside0.mk (Q_GE218 (hon 8 (by kernel_rfl)))
                                 have NB216_218 := Aside0.mk (Q_NB216_218 (hon 8 (by kernel_rfl)))
                                 have NB218_216 := Aside0.mk (Q_NB218_216 (hon 8 (by kernel_rfl)))
                                 have BK219 := Aside0.mk (Q_BK219 (hon 9 (by kernel_rfl)) (hoff 12 (by kernel_rfl)))
                                 have GW219 := Aside0.mk (Q_GW219 (hon 9 (by kernel_rfl)))
                                 have GE219 := Aside0.mk (Q_GE219 (hon 9 (by kernel_rfl)))
                                 have NB216_219 := Aside0.mk (Q_NB216_219 (hon 9 (by kernel_rfl)))
                                 have NB219_216 := Aside0.mk (Q_NB219_216 (hon 9 (by kernel_rfl)))
                                 have hs42 : w'.cell? ⟨gb218, 0, none⟩ = some (.int .u32 0) := (blk_cell BK218.out 0).trans rfl
                                 have hfs42 := blk_frozen BK218.out 0
                                 have hns42_0 := NB216_218.out
                                 have hns42_2 := NB219_218.out
                                 have hms42_0 := NB218_216.out
                                 have hms42_2 := NB218_219.out
                                 have hs43 : w'.cell? ⟨gb218, 1, none⟩ = some (.int .i64 0) := (blk_cell BK218.out 1).trans rfl
                                 have hfs43 := blk_frozen BK218.out 1
                                 have hns43_0 := NB216_218.out
                                 have hns43_2 := NB219_218.out
                                 have hms43_0 := NB218_216.out
                                 have hms43_2 := NB218_219.out
                                 refine skip_ (w1 := ?_) (by rfl) rfl ?_ ?_
                                 rotate_left
                                 · go_simp
                                   rfl
                                 refine hK.out _ _ ⟨gb218, gb219, m8_, m9_, (by rw [ha.out]; exact putSel_none (v := undef) rfl), (by (with_reducible repeat (first | refine bkN ?_ _ | refine bkD ?_ | refine bkA ?_ _)); refine blk_far ?_ NB216_218.out _; (with_reducible repeat (first | refine bkN ?_ _ | refine bkD ?_ | refine bkA ?_ _)); refine blk_far ?_ NB216_218.out _; (with_reducible repeat (first | refine bkN ?_ _ | refine bkD ?_ | refine bkA ?_ _)); exact BK216.out), (by repeat (first | (with_reducible first | exact HB.out | apply blA | apply blN | apply blD | refine below_set ?_ GE216.out | refine below_set ?_ GE218.out | refine below_set ?_ GE219.out) | exact HB.out)), fun _ _ => NB219_218.out, fun _ _ => NB218_219.out, fun _ h1_ => absurd ((up_self b 11).symm.trans h1_) (by decide), fun _ => GW218.out, fun _ => GE218.out, fun _ => NB216_218.out, fun _ => NB218_216.out, fun _ _ => (by (with_reducible repeat (first | refine bkN ?_ _ | refine bkD ?_ | refine bkA ?_ _)); refine blk_far ?_ NB219_218.out _; (with_reducible repeat (first | refine bkN ?_ _ | refine bkD ?_ | refine bkA ?_ _)); refine blk_far ?_ NB219_218.out _; (with_reducible repeat (first | refine bkN ?_ _ | refine bkD ?_ | refine bkA ?_ _)); exact BK219.out), fun _ => GW219.out, fun _ => GE219.out, fun _ => NB216_219.out, fun _ => NB219_216.out, fun _ => (by (with_reducible repeat (first | refine bkN ?_ _ | refine bkD ?_ | refine bkA ?_ _)); refine blk_put (cs := #[.int .u32 a0_1, .int .i64 0]) ?_ 1 _ rfl; (with_reducible repeat (first | refine bkN ?_ _ | refine bkD ?_ | refine bkA ?_ _)); refine blk_put (cs := #[.int .u32 0, .int .i64 0]) ?_ 0 _ rfl; (with_reducible repeat (first | refine bkN ?_ _ | refine bkD ?_ | refine bkA ?_ _)); exact BK218.out), fun h0_ => absurd ((hoff 12 (by kernel_rfl)).symm.trans h0_) (by decide), Q_X8_, Q_X9_⟩
                               refine steps_cons ?_ ?_
                               · rintro b a w' ⟨gb218, gb219, m8_, m9_, ha, Q_BK216, Q_HB, Q_NB219_218, Q_NB218_219, Q_BK218, Q_GW218, Q_GE218, Q_NB216_218, Q_NB218_216, Q_BK219, Q_GW219, Q_GE219, Q_NB216_219, Q_NB219_216, Q_BK218_e11, Q_BK219_e12, Q_X8_, Q_X9_⟩ hb_ hon hoff
                                 refine ⟨_, rfl, fun K hK => ?_⟩
                                 have e5 : a.tmps[5]? = some (m9_) := by rw [ha]; exact putSel_on (e := (9, 5, m9_)) 5 rfl rfl (hon 9 (by kernel_rfl)) rfl
                                 rw [Q_X9_ (hon 9 (by kernel_rfl))] at e5
                                 have e30 : a.tmps[30]? = some (.agg #[.int .u32 a0_3, .int .u32 a0_4]) := by rw [ha]; exact putSel_on (e := (5, 30, .agg #[.int .u32 a0_3, .int .u32 a0_4])) 2 rfl rfl (hon 5 (by kernel_rfl)) rfl
                                 replace ha := Aside0.mk ha
                                 have BK216 := Aside0.mk Q_BK216
                                 have HB := Aside0.mk Q_HB
                                 have NB219_218 := Aside0.mk (Q_NB219_218 (hon 8 (by kernel_rfl)) (hon 9 (by kernel_rfl)))
                                 have NB218_219 := Aside0.mk (Q_NB218_219 (hon 8 (by kernel_rfl)) (hon 9 (by kernel_rfl)))
                                 have GW218 := Aside0.mk (Q_GW218 (hon 8 (by kernel_rfl)))
                                 have GE218 := Aside0.mk (Q_GE218 (hon 8 (by kernel_rfl)))
                                 have NB216_218 := Aside0.mk (Q_NB216_218 (hon 8 (by kernel_rfl)))
                                 have NB218_216 := Aside0.mk (Q_NB218_216 (hon 8 (by kernel_rfl)))
                                 have BK219 := Aside0.mk (Q_BK219 (hon 9 (by kernel_rfl)) hb_)
                                 have GW219 := Aside0.mk (Q_GW219 (hon 9 (by kernel_rfl)))
                                 have GE219 := Aside0.mk (Q_GE219 (hon 9 (by kernel_rfl)))
                                 have NB216_219 := Aside0.mk (Q_NB216_219 (hon 9 (by kernel_rfl)))
                                 have NB219_216 := Aside0.mk (Q_NB219_216 (hon 9 (by kernel_rfl)))
                                 have BK218 := Aside0.mk (Q_BK218_e11 (hon 11 (by kernel_rfl)))
                                 have hs44 : w'.cell? ⟨gb219, 0, none⟩ = some (.int .u32 0) := (blk_cell BK219.out 0).trans rfl
                                 have hfs44 := blk_frozen BK219.out 0
                                 have hns44_0 := NB216_219.out
                                 have hns44_1 := NB218_219.out
                                 have hms44_0 := NB219_216.out
                                 have hms44_1 := NB219_218.out
                                 have hs45 : w'.cell? ⟨gb219, 1, none⟩ = some (.int .u32 0) := (blk_cell BK219.out 1).trans rfl
                                 have hfs45 := blk_frozen BK219.out 1
                                 have hns45_0 := NB216_219.out
                                 have hns45_1 := NB218_219.out
                                 have hms45_0 := NB219_216.out
                                 have hms45_1 := NB219_218.out
                                 refine skip_ (w1 := ?_) (by rfl) rfl ?_ ?_
                                 rotate_left
                                 · go_simp
                                   rfl
                                 refine hK.out _ _ ⟨gb218, gb219, m8_, m9_, (by rw [ha.out]; exact putSel_none (v := undef) rfl), (by (with_reducible repeat (first | refine bkN ?_ _ | refine bkD ?_ | refine bkA ?_ _)); refine blk_far ?_ NB216_219.out _; (with_reducible repeat (first | refine bkN ?_ _ | refine bkD ?_ | refine bkA ?_ _)); refine blk_far ?_ NB216_219.out _; (with_reducible repeat (first | refine bkN ?_ _ | refine bkD ?_ | refine bkA ?_ _)); exact BK216.out), (by repeat (first | (with_reducible first | exact HB.out | apply blA | apply blN | apply blD | refine below_set ?_ GE216.out | refine below_set ?_ GE218.out | refine below_set ?_ GE219.out) | exact HB.out)), fun _ _ => NB219_218.out, fun _ _ => NB218_219.out, fun _ h1_ => absurd ((hon 11 (by kernel_rfl)).symm.trans h1_) (by decide), fun _ => GW218.out, fun _ => GE218.out, fun _ => NB216_218.out, fun _ => NB218_216.out, fun _ h1_ => absurd ((up_self b 12).symm.trans h1_) (by decide), fun _ => GW219.out, fun _ => GE219.out, fun _ => NB216_219.out, fun _ => NB219_216.out, fun _ => (by (with_reducible repeat (first | refine bkN ?_ _ | refine bkD ?_ | refine bkA ?_ _)); refine blk_far ?_ NB218_219.out _; (with_reducible repeat (first | refine bkN ?_ _ | refine bkD ?_ | refine bkA ?_ _)); refine blk_far ?_ NB218_219.out _; (with_reducible repeat (first | refine bkN ?_ _ | refine bkD ?_ | refine bkA ?_ _)); exact BK218.out), fun _ => (by (with_reducible repeat (first | refine bkN ?_ _ | refine bkD ?_ | refine bkA ?_ _)); refine blk_put (cs := #[.int .u32 a0_3, .int .u32 0]) ?_ 1 _ rfl; (with_reducible repeat (first | refine bkN ?_ _ | refine bkD ?_ | refine bkA ?_ _)); refine blk_put (cs := #[.int .u32 0, .int .u32 0]) ?_ 0 _ rfl; (with_reducible repeat (first | refine bkN ?_ _ | refine bkD ?_ | refine bkA ?_ _)); exact BK219.out), Q_X8_, Q_X9_⟩
                               refine steps_cons ?_ ?_
                               · rintro b a w' ⟨gb218, gb219, m8_, m9_, ha, Q_BK216, Q_HB, Q_NB219_218, Q_NB218_219, Q_BK218, Q_GW218, Q_GE218, Q_NB216_218, Q_NB218_216, Q_BK219, Q_GW219, Q_GE219, Q_NB216_219, Q_NB219_216, Q_BK218_e11, Q_BK219_e12, Q_X8_, Q_X9_⟩ hb_ hon hoff
                                 refine ⟨_, rfl, fun K hK => ?_⟩
                                 have e32 : a.tmps[32]? = some (.int .i64 a0_5) := by rw [ha]; exact putSel_on (e := (7, 32, .int .i64 a0_5)) 3 rfl rfl (hon 7 (by kernel_rfl)) rfl
                                 replace ha := Aside0.mk ha
                                 have BK216 := Aside0.mk Q_BK216
                                 have HB := Aside0.mk Q_HB
                                 have NB219_218 := Aside0.mk (Q_NB219_218 (hon 8 (by kernel_rfl)) (hon 9 (by kernel_rfl)))
                                 have NB218_219 := Aside0.mk (Q_NB218_219 (hon 8 (by kernel_rfl)) (hon 9 (by kernel_rfl)))
                                 have GW218 := Aside0.mk (Q_GW218 (hon 8 (by kernel_rfl)))
                                 have GE218 := Aside0.mk (Q_GE218 (hon 8 (by kernel_rfl)))
                                 have NB216_218 := Aside0.mk (Q_NB216_218 (hon 8 (by kernel_rfl)))
                                 have NB218_216 := Aside0.mk (Q_NB218_216 (hon 8 (by kernel_rfl)))
                                 have GW219 := Aside0.mk (Q_GW219 (hon 9 (by kernel_rfl)))
                                 have GE219 := Aside0.mk (Q_GE219 (hon 9 (by kernel_rfl)))
                                 have NB216_219 := Aside0.mk (Q_NB216_219 (hon 9 (by kernel_rfl)))
                                 have NB219_216 := Aside0.mk (Q_NB219_216 (hon 9 (by kernel_rfl)))
                                 have BK218 := Aside0.mk (Q_BK218_e11 (hon 11 (by kernel_rfl)))
                                 have BK219 := Aside0.mk (Q_BK219_e12 (hon 12 (by kernel_rfl)))
                                 refine value_ (w1 := w') (v := .int .i64 a0_5) (by rfl) rfl ?_ ?_
                                 · go_simp
                                   (try simp only [i64_w])
                                   try rfl
                                 refine hK.out _ _ ⟨gb218, gb219, m8_, m9_, (by rw [ha.out]; exact putSel_upk 7 hb_ rfl rfl rfl), Q_BK216, Q_HB, Q_NB219_218, Q_NB218_219, fun _ h1_ => absurd ((hon 11 (by kernel_rfl)).symm.trans h1_) (by decide), Q_GW218, Q_GE218, Q_NB216_218, Q_NB218_216, fun _ h1_ => absurd ((hon 12 (by kernel_rfl)).symm.trans h1_) (by decide), Q_GW219, Q_GE219, Q_NB216_219, Q_NB219_216, Q_BK218_e11, Q_BK219_e12, Q_X8_, Q_X9_⟩
                               exact steps_nil
                             rintro b a w45 hall ⟨gb218, gb219, m8_, m9_, ha, Q_BK216, Q_HB, Q_NB219_218, Q_NB218_219, Q_BK218, Q_GW218, Q_GE218, Q_NB216_218, Q_NB218_216, Q_BK219, Q_GW219, Q_GE219, Q_NB216_219, Q_NB219_216, Q_BK218_e11, Q_BK219_e12, Q_X8_, Q_X9_⟩
                             clear BK216 HB
                             have hb1_ := hall 1 (by kernel_rfl)
                             have hb3_ := hall 3 (by kernel_rfl)
                             have hb5_ := hall 5 (by kernel_rfl)
                             have hb7_ := hall 7 (by kernel_rfl)
                             have hb8_ := hall 8 (by kernel_rfl)
                             have hb9_ := hall 9 (by kernel_rfl)
                             have hb10_ := hall 10 (by kernel_rfl)
                             have hb11_ := hall 11 (by kernel_rfl)
                             have hb12_ := hall 12 (by kernel_rfl)
                             have hb13_ := hall 13 (by kernel_rfl)
                             subst ha
                             obtain rfl := Q_X8_ hb8_
                             obtain rfl := Q_X9_ hb9_
                             simp only [putSel, hb1_, hb3_, hb5_, hb7_, hb8_, hb9_, hb10_, hb11_, hb12_, hb13_, if_true, Act.put, List.setIfInBounds_toArray, List.set_cons_zero, List.set_cons_succ]
                             have BK216 := Aside0.mk Q_BK216
                             clear Q_BK216
                             have HB := Aside0.mk Q_HB
                             clear Q_HB
                             have NB219_218 := Aside0.mk (Q_NB219_218 hb8_ hb9_)
                             clear Q_NB219_218
                             have NB218_219 := Aside0.mk (Q_NB218_219 hb8_ hb9_)
                             clear Q_NB218_219
                             clear Q_BK218
                             have GW218 := Aside0.mk (Q_GW218 hb8_)
                             clear Q_GW218
                             have GE218 := Aside0.mk (Q_GE218 hb8_)
                             clear Q_GE218
                             have NB216_218 := Aside0.mk (Q_NB216_218 hb8_)
                             clear Q_NB216_218
                             have NB218_216 := Aside0.mk (Q_NB218_216 hb8_)
                             clear Q_NB218_216
                             clear Q_BK219
                             have GW219 := Aside0.mk (Q_GW219 hb9_)
                             clear Q_GW219
                             have GE219 := Aside0.mk (Q_GE219 hb9_)
                             clear Q_GE219
                             have NB216_219 := Aside0.mk (Q_NB216_219 hb9_)
                             clear Q_NB216_219
                             have NB219_216 := Aside0.mk (Q_NB219_216 hb9_)
                             clear Q_NB219_216
                             have BK218 := Aside0.mk (Q_BK218_e11 hb11_)
                             clear Q_BK218_e11
                             have BK219 := Aside0.mk (Q_BK219_e12 hb12_)
                             clear Q_BK219_e12
                             clear hall hb1_ hb3_ hb5_ hb7_ hb8_ hb9_ hb10_ hb11_ hb12_ hb13_
                             have hnb46 := NB219_216.out
                             have hnc46 := NB216_219.out
                             have hnb47 := NB219_218.out
                             have hnc47 := NB218_219.out
                             have hcz48_0 : w45.cell? ⟨gb219, 0, none⟩ = some (.int .u32 a0_3) := (blk_cell BK219.out 0).trans rfl
                             have hcz48_1 : w45.cell? ⟨gb219, 1, none⟩ = some (.int .u32 a0_4) := (blk_cell BK219.out 1).trans rfl
                             have hfz48_0 := blk_frozen BK219.out 0
                             have hfz48_1 := blk_frozen BK219.out 1
                             try go_wp2_with (first | ((with_reducible refine gate_callee (f := 5) rfl ?_); refine goesL_ (some 35) rfl rfl Tryz.func5 (by kernel_rfl) rfl #[.agg #[.int .u32 a0_3, .int .u32 a0_4]] rfl (by (try simp only [List.map_toArray, List.map_cons, List.map_nil]); first | done | rfl | (simp only [List.length_drop, List.length_take]; rfl)) ?_; (with_reducible refine (lex_CommText.calls a0_3 a0_4 t220 _ _ ?side1 A4.out).mono ?_); (case side1 => exact GL_below hG (by repeat (first | (with_reducible first | exact HB.out | apply blA | apply blN | apply blD | refine below_set ?_ GE216.out | refine below_set ?_ GE218.out | refine below_set ?_ GE219.out) | exact HB.out))); rintro e w49 ⟨rfl, hb⟩; refine ⟨_, rfl, ?_⟩; have n0_ := Aside0.mk (blk_below (g := gb216) (o := .cells #[.int .u32 a0_0, .int .u32 a0_1, .int .i64 a0_2, .int .u32 a0_3, .int .u32 a0_4, .int .i64 a0_5] 28 (0, 0)) (by (with_reducible repeat (first | refine bkN ?_ _ | refine bkD ?_ | refine bkA ?_ _)); exact BK216.out) hb); have n1_ := Aside0.mk (blk_below (g := gb218) (o := .cells #[.int .u32 a0_1, .int .i64 a0_2] 24 (0, 0)) (by (with_reducible repeat (first | refine bkN ?_ _ | refine bkD ?_ | refine bkA ?_ _)); exact BK218.out) hb); have n2_ := Aside0.mk (blk_below (g := gb219) (o := .cells #[.int .u32 a0_3, .int .u32 a0_4] 26 (0, 0)) (by (with_reducible repeat (first | refine bkN ?_ _ | refine bkD ?_ | refine bkA ?_ _)); exact BK219.out) hb); have n3_ := Aside0.mk (below_step (by repeat (first | (with_reducible first | exact HB.out | apply blA | apply blN | apply blD | refine below_set ?_ GE216.out | refine below_set ?_ GE218.out | refine below_set ?_ GE219.out) | exact HB.out)) hb); clear BK216; clear BK218; clear BK219; clear HB; have BK216 := n0_; have BK218 := n1_; have BK219 := n2_; have HB := n3_; clear n0_ n1_ n2_ n3_; clear hb; have hcz50_0 : w49.cell? ⟨gb219, 0, none⟩ = some (.int .u32 a0_3) := (blk_cell BK219.out 0).trans rfl; have hcz50_1 : w49.cell? ⟨gb219, 1, none⟩ = some (.int .u32 a0_4) := (blk_cell BK219.out 1).trans rfl; have hfz50_0 := blk_frozen BK219.out 0; have hfz50_1 := blk_frozen BK219.out 1) | ((with_reducible refine gate_callee (f := 6) rfl ?_); refine goesL_ (some 40) rfl rfl Tryz.func6 (by kernel_rfl) rfl #[.agg #[.int .u32 a0_3, .int .u32 a0_4]] rfl (by (try simp only [List.map_toArray, List.map_cons, List.map_nil]); first | done | rfl | (simp only [List.length_drop, List.length_take]; rfl)) ?_; (with_reducible refine (dragomanref14_CommText.calls k a0_3 a0_4 t222 t223 _ A5.out).mono ?_); rintro e w51 ⟨rfl, hb⟩; refine ⟨_, rfl, ?_⟩; have n0_ := Aside0.mk (blk_below (g := gb216) (o := .cells #[.int .u32 a0_0, .int .u32 a0_1, .int .i64 a0_2, .int .u32 a0_3, .int .u32 a0_4, .int .i64 a0_5] 28 (0, 0)) (by (with_reducible repeat (first | refine bkN ?_ _ | refine bkD ?_ | refine bkA ?_ _)); exact BK216.out) hb); have n1_ := Aside0.mk (blk_below (g := gb218) (o := .cells #[.int .u32 a0_1, .int .i64 a0_2] 24 (0, 0)) (by (with_reducible repeat (first | refine bkN ?_ _ | refine bkD ?_ | refine bkA ?_ _)); exact BK218.out) hb); have n2_ := Aside0.mk (blk_below (g := gb219) (o := .cells #[.int .u32 a0_3, .int .u32 a0_4] 26 (0, 0)) (by (with_reducible repeat (first | refine bkN ?_ _ | refine bkD ?_ | refine bkA ?_ _)); exact BK219.out) hb); have n3_ := Aside0.mk (below_step (by repeat (first | (with_reducible first | exact HB.out | apply blA | apply blN | apply blD | refine below_set ?_ GE216.out | refine below_set ?_ GE218.out | refine below_set ?_ GE219.out) | exact HB.out)) hb); clear BK216; clear BK218; clear BK219; clear HB; have BK216 := n0_; have BK218 := n1_; have BK219 := n2_; have HB := n3_; clear n0_ n1_ n2_ n3_; (try clear hb); (try clear hb2); (try clear hk); (try clear hi)) | ((with_reducible refine gate_callee (f := 7) rfl ?_); refine goesL_ (some 45) rfl rfl Tryz.func7 (by kernel_rfl) rfl #[.int .i64 a0_5] rfl (by (try simp only [List.map_toArray, List.map_cons, List.map_nil]); first | done | rfl | (simp only [List.length_drop, List.length_take]; rfl)) ?_; (with_reducible refine (lex_OriginText.calls a0_5 t224 _ _ A6.out).mono ?_); rintro e w52 ⟨rfl, hb⟩; refine ⟨_, rfl, ?_⟩; have n0_ := Aside0.mk (blk_below (g := gb216) (o := .cells #[.int .u32 a0_0, .int .u32 a0_1, .int .i64 a0_2, .int .u32 a0_3, .int .u32 a0_4, .int .i64 a0_5] 28 (0, 0)) (by (with_reducible repeat (first | refine bkN ?_ _ | refine bkD ?_ | refine bkA ?_ _)); exact BK216.out) hb); have n1_ := Aside0.mk (blk_below (g := gb218) (o := .cells #[.int .u32 a0_1, .int .i64 a0_2] 24 (0, 0)) (by (with_reducible repeat (first | refine bkN ?_ _ | refine bkD ?_ | refine bkA ?_ _)); exact BK218.out) hb); have n2_ := Aside0.mk (blk_below (g := gb219) (o := .cells #[.int .u32 a0_3, .int .u32 a0_4] 26 (0, 0)) (by (with_reducible repeat (first | refine bkN ?_ _ | refine bkD ?_ | refine bkA ?_ _)); exact BK219.out) hb); have n3_ := Aside0.mk (below_step (by repeat (first | (with_reducible first | exact HB.out | apply blA | apply blN | apply blD | refine below_set ?_ GE216.out | refine below_set ?_ GE218.out | refine below_set ?_ GE219.out) | exact HB.out)) hb); clear BK216; clear BK218; clear BK219; clear HB; have BK216 := n0_; have BK218 := n1_; have BK219 := n2_; have HB := n3_; clear n0_ n1_ n2_ n3_; (try clear hb); (try clear hb2); (try clear hk); (try clear hi)) | ((with_reducible refine gate_callee (f := 8) rfl ?_); refine goesL_ (some 50) rfl rfl Tryz.func8 (by kernel_rfl) rfl #[.int .i64 a0_5] rfl (by (try simp only [List.map_toArray, List.map_cons, List.map_nil]); first | done | rfl | (simp only [List.length_drop, List.length_take]; rfl)) ?_; (with_reducible refine (dragomanref14_OriginText.calls a0_5 t226 t227 _ A7.out).mono ?_); rintro e w53 ⟨rfl, hb⟩; refine ⟨_, rfl, ?_⟩; have n0_ := Aside0.mk (blk_below (g := gb216) (o := .cells #[.int .u32 a0_0, .int .u32 a0_1, .int .i64 a0_2, .int .u32 a0_3, .int .u32 a0_4, .int .i64 a0_5] 28 (0, 0)) (by (with_reducible repeat (first | refine bkN ?_ _ | refine bkD ?_ | refine bkA ?_ _)); exact BK216.out) hb); have n1_ := Aside0.mk (blk_below (g := gb218) (o := .cells #[.int .u32 a0_1, .int .i64 a0_2] 24 (0, 0)) (by (with_reducible repeat (first | refine bkN ?_ _ | refine bkD ?_ | refine bkA ?_ _)); exact BK218.out) hb); have n2_ := Aside0.mk (blk_below (g := gb219) (o := .cells #[.int .u32 a0_3, .int .u32 a0_4] 26 (0, 0)) (by (with_reducible repeat (first | refine bkN ?_ _ | refine bkD ?_ | refine bkA ?_ _)); exact BK219.out) hb); have n3_ := Aside0.mk (below_step (by repeat (first | (with_reducible first | exact HB.out | apply blA | apply blN | apply blD | refine below_set ?_ GE216.out | refine below_set ?_ GE218.out | refine below_set ?_ GE219.out) | exact HB.out)) hb); clear BK216; clear BK218; clear BK219; clear HB; have BK216 := n0_; have BK218 := n1_; have BK219 := n2_; have HB := n3_; clear n0_ n1_ n2_ n3_; (try clear hb); (try clear hb2); (try clear hk); (try clear hi)))
                             have n0_ := Aside0.mk (blk_drew BK216.out)
                             have n1_ := Aside0.mk (blk_drew BK218.out)
                             have n2_ := Aside0.mk (blk_drew BK219.out)
                             have n3_ := Aside0.mk (below_drew1 HB.out)
                             clear BK216
                             clear BK218
                             clear BK219
                             clear HB
                             have BK216 := n0_
                             have BK218 := n1_
                             have BK219 := n2_
                             have HB := n3_
                             clear n0_ n1_ n2_ n3_
                             refine start_ (n := 39) (S := fun w' => w'.cell? ⟨gb218, 0, none⟩ = some (.int .u32 a0_1) ∧ w'.cell? ⟨gb218, 1, none⟩ = some (.int .i64 a0_2)) (ds := []) #[false, false, false, false, false, false, false, false, false, false, false, false, false, false, false, false, false, false, false, false, false, false, false, false, false, false, false, false, false, false, false, false, false, false, false, false, false, false, false] (by kernel_rfl) rfl rfl ⟨(blk_cell BK218.out 0).trans rfl, (blk_cell BK218.out 1).trans rfl⟩ (fun hHeld => ?_); refine with_tabW dragomanlaw14_LexTexts.tab8 dragomanlaw14_LexTexts.bits8 (fun HT_ HW_ => ?_)
                             generalize w53.drew = w54 at BK216 BK218 BK219 HB hHeld ⊢
                             refine pure_ (i := 0) (N := some 53) (v := ?_) (a' := ?_) #[true, false, false, false, false, false, false, false, false, false, false, false, false, false, false, false, false, false, false, false, false, false, false, false, false, false, false, false, false, false, false, false, false, false, false, false, false, false, false] rfl rfl (any_of HT_.out (by kernel_rfl)) (fun _ _ _ h => h) (Or.inl ⟨by rfl, ?_⟩) ?_ ?_
                             rotate_left
                             · intro w'
                               go_simp
                               with_reducible rfl
                             rotate_left
                             · simp only [Act.put, List.setIfInBounds_toArray, List.set_cons_zero, List.set_cons_succ, i64_w, i32_w]
                               rfl
                             refine pure_ (i := 2) (N := some 55) (v := ?_) (a' := ?_) #[true, false, true, false, false, false, false, false, false, false, false, false, false, false, false, false, false, false, false, false, false, false, false, false, false, false, false, false, false, false, false, false, false, false, false, false, false, false, false] rfl rfl (any_of HT_.out (by kernel_rfl)) (fun _ _ _ h => h) (Or.inl ⟨by rfl, ?_⟩) ?_ ?_
                             rotate_left
                             · intro w'
                               go_simp
                               with_reducible rfl
                             rotate_left
                             · simp only [Act.put, List.setIfInBounds_toArray, List.set_cons_zero, List.set_cons_succ, i64_w, i32_w]
                               rfl
                             refine one_ (i := 1) (N := some 54) #[true, true, true, false, false, false, false, false, false, false, false, false, false, false, false, false, false, false, false, false, false, false, false, false, false, false, false, false, false, false, false, false, false, false, false, false, false, false, false] rfl rfl (one_of HT_.out (by kernel_rfl)) (by decide) (fun K hK => ?_)
                             refine goes_ Tryz.func9 (by kernel_rfl) rfl #[.int .u32 a0_0] (by rfl) rfl rfl (by (try simp only [List.map_toArray, List.map_cons, List.map_nil]); first | done | rfl | (simp only [List.length_drop, List.length_take]; rfl)) ?_
                             with_reducible refine (lex_NumText.calls a0_0 t228 _ ?side1 A8.out).mono ?_
                             (case side1 => exact GL_below hG (by repeat (first | (with_reducible first | exact HB.out | apply blA | apply blN | apply blD | refine below_set ?_ GE216.out | refine below_set ?_ GE218.out | refine below_set ?_ GE219.out) | exact HB.out)))
                             rintro e w55 ⟨rfl, hb⟩
                             refine ⟨_, rfl, ?_⟩
                             have n0_ := Aside0.mk (blk_below (g := gb216) (o := .cells #[.int .u32 a0_0, .int .u32 a0_1, .int .i64 a0_2, .int .u32 a0_3, .int .u32 a0_4, .int .i64 a0_5] 28 (0, 0)) (by (with_reducible repeat (first | refine bkN ?_ _ | refine bkD ?_ | refine bkA ?_ _)); exact BK216.out) hb)
                             have n1_ := Aside0.mk (blk_below (g := gb218) (o := .cells #[.int .u32 a0_1, .int .i64 a0_2] 24 (0, 0)) (by (with_reducible repeat (first | refine bkN ?_ _ | refine bkD ?_ | refine bkA ?_ _)); exact BK218.out) hb)
                             have n2_ := Aside0.mk (blk_below (g := gb219) (o := .cells #[.int .u32 a0_3, .int .u32 a0_4] 26 (0, 0)) (by (with_reducible repeat (first | refine bkN ?_ _ | refine bkD ?_ | refine bkA ?_ _)); exact BK219.out) hb)
                             have n3_ := Aside0.mk (below_step (by repeat (first | (with_reducible first | exact HB.out | apply blA | apply blN | apply blD | refine below_set ?_ GE216.out | refine below_set ?_ GE218.out | refine below_set ?_ GE219.out) | exact HB.out)) hb)
                             clear BK216
                             clear BK218
                             clear BK219
                             clear HB
                             have BK216 := n0_
                             have BK218 := n1_
                             have BK219 := n2_
                             have HB := n3_
                             clear n0_ n1_ n2_ n3_
                             (try clear hb)
                             (try clear hb2)
                             (try clear hk)
                             (try clear hi)
                             refine hK.out _ _ ⟨(blk_cell BK218.out 0).trans rfl, (blk_cell BK218.out 1).trans rfl⟩ (fun hHeld => ?_)
                             clear hK K
                             refine norm_ (a' := ?_) ?_ ?_
                             rotate_left
                             · show Act.put _ (some 54) _ = _
                               simp only [Act.put, List.setIfInBounds_toArray, List.set_cons_zero, List.set_cons_succ, i64_w, i32_w]
                               rfl
                             refine one_ (i := 3) (N := some 56) #[true, true, true, true, false, false, false, false, false, false, false, false, false, false, false, false, false, false, false, false, false, false, false, false, false, false, false, false, false, false, false, false, false, false, false, false, false, false, false] rfl rfl (one_of HT_.out (by kernel_rfl)) (by decide) (fun K hK => ?_)
                             refine goes_ Tryz.func10 (by kernel_rfl) rfl #[.int .u32 a0_0] (by rfl) rfl rfl (by (try simp only [List.map_toArray, List.map_cons, List.map_nil]); first | done | rfl | (simp only [List.length_drop, List.length_take]; rfl)) ?_
                             with_reducible refine (dragomanref14_NumText.calls k a0_0 t229 _ A9.out).mono ?_
                             rintro e w56 ⟨rfl, hb⟩
                             refine ⟨_, rfl, ?_⟩
                             have n0_ := Aside0.mk (blk_below (g := gb216) (o := .cells #[.int .u32 a0_0, .int .u32 a0_1, .int .i64 a0_2, .int .u32 a0_3, .int .u32 a0_4, .int .i64 a0_5] 28 (0, 0)) (by (with_reducible repeat (first | refine bkN ?_ _ | refine bkD ?_ | refine bkA ?_ _)); exact BK216.out) hb)
                             have n1_ := Aside0.mk (blk_below (g := gb218) (o := .cells #[.int .u32 a0_1, .int .i64 a0_2] 24 (0, 0)) (by (with_reducible repeat (first | refine bkN ?_ _ | refine bkD ?_ | refine bkA ?_ _)); exact BK218.out) hb)
                             have n2_ := Aside0.mk (blk_below (g := gb219) (o := .cells #[.int .u32 a0_3, .int .u32 a0_4] 26 (0, 0)) (by (with_reducible repeat (first | refine bkN ?_ _ | refine bkD ?_ | refine bkA ?_ _)); exact BK219.out) hb)
                             have n3_ := Aside0.mk (below_step (by repeat (first | (with_reducible first | exact HB.out | apply blA | apply blN | apply blD | refine below_set ?_ GE216.out | refine below_set ?_ GE218.out | refine below_set ?_ GE219.out) | exact HB.out)) hb)
                             clear BK216
                             clear BK218
                             clear BK219
                             clear HB
                             have BK216 := n0_
                             have BK218 := n1_
                             have BK219 := n2_
                             have HB := n3_
                             clear n0_ n1_ n2_ n3_
                             (try clear hb)
                             (try clear hb2)
                             (try clear hk)
                             (try clear hi)
                             refine hK.out _ _ ⟨(blk_cell BK218.out 0).trans rfl, (blk_cell BK218.out 1).trans rfl⟩ (fun hHeld => ?_)
                             clear hK K
                             refine norm_ (a' := ?_) ?_ ?_
                             rotate_left
                             · show Act.put _ (some 56) _ = _
                               simp only [Act.put, List.setIfInBounds_toArray, List.set_cons_zero, List.set_cons_succ, i64_w, i32_w]
                               rfl
                             refine pure_ (i := 4) (N := some 57) (v := ?_) (a' := ?_) #[true, true, true, true, true, false, false, false, false, false, false, false, false, false, false, false, false, false, false, false, false, false, false, false, false, false, false, false, false, false, false, false, false, false, false, false, false, false, false] rfl rfl (any_of HT_.out (by kernel_rfl)) (fun _ _ _ h => h) (Or.inl ⟨by rfl, ?_⟩) ?_ ?_
                             rotate_left
                             · intro w'
                               go_simp
                               with_reducible rfl
                             rotate_left
                             · simp only [Act.put, List.setIfInBounds_toArray, List.set_cons_zero, List.set_cons_succ, i64_w, i32_w]
                               rfl
                             refine pure_ (i := 5) (N := some 58) (v := ?_) (a' := ?_) #[true, true, true, true, true, true, false, false, false, false, false, false, false, false, false, false, false, false, false, false, false, false, false, false, false, false, false, false, false, false, false, false, false, false, false, false, false, false, false] rfl rfl (any_of HT_.out (by kernel_rfl)) (fun _ _ _ h => h) (Or.inl ⟨by rfl, ?_⟩) ?_ ?_
                             rotate_left
                             · intro w'
                               go_simp
                               with_reducible rfl
                             rotate_left
                             · simp only [Act.put, List.setIfInBounds_toArray, List.set_cons_zero, List.set_cons_succ, i64_w, i32_w]
                               rfl
                             refine pure_ (i := 6) (N := some 59) (v := ?_) (a' := ?_) #[true, true, true, true, true, true, true, false, false, false, false, false, false, false, false, false, false, false, false, false, false, false, false, false, false, false, false, false, false, false, false, false, false, false, false, false, false, false, false] rfl rfl (any_of HT_.out (by kernel_rfl)) (fun _ _ _ h => h) (Or.inl ⟨by rfl, ?_⟩) ?_ ?_
                             rotate_left
                             · intro w'
                               go_simp
                               with_reducible rfl
                             rotate_left
                             · simp only [Act.put, List.setIfInBounds_toArray, List.set_cons_zero, List.set_cons_succ, i64_w, i32_w]
                               rfl
                             refine pure_ (i := 8) (N := some 61) (v := ?_) (a' := ?_) #[true, true, true, true, true, true, true, false, true, false, false, false, false, false, false, false, false, false, false, false, false, false, false, false, false, false, false, false, false, false, false, false, false, false, false, false, false, false, false] rfl rfl (any_of HT_.out (by kernel_rfl)) (fun _ _ _ h => h) (Or.inl ⟨by rfl, ?_⟩) ?_ ?_
                             rotate_left
                             · intro w'
                               go_simp
                               with_reducible rfl
                             rotate_left
                             · simp only [Act.put, List.setIfInBounds_toArray, List.set_cons_zero, List.set_cons_succ, i64_w, i32_w]
                               rfl
                             refine one_ (i := 7) (N := some 60) #[true, true, true, true, true, true, true, true, true, false, false, false, false, false, false, false, false, false, false, false, false, false, false, false, false, false, false, false, false, false, false, false, false, false, false, false, false, false, false] rfl rfl (one_of HT_.out (by kernel_rfl)) (by decide) (fun K hK => ?_)
                             refine goes_ Tryz.func11 (by kernel_rfl) rfl #[.int .u32 a0_0] (by rfl) rfl rfl (by (try simp only [List.map_toArray, List.map_cons, List.map_nil]); first | done | rfl | (simp only [List.length_drop, List.length_take]; rfl)) ?_
                             with_reducible refine (lex_AddrText.calls k a0_0 t230 _ ?side1 A11.out).mono ?_
                             (case side1 => exact GL_below hG (by repeat (first | (with_reducible first | exact HB.out | apply blA | apply blN | apply blD | refine below_set ?_ GE216.out | refine below_set ?_ GE218.out | refine below_set ?_ GE219.out) | exact HB.out)))
                             rintro e w57 ⟨rfl, hb⟩
                             refine ⟨_, rfl, ?_⟩
                             have n0_ := Aside0.mk (blk_below (g := gb216) (o := .cells #[.int .u32 a0_0, .int .u32 a0_1, .int .i64 a0_2, .int .u32 a0_3, .int .u32 a0_4, .int .i64 a0_5] 28 (0, 0)) (by (with_reducible repeat (first | refine bkN ?_ _ | refine bkD ?_ | refine bkA ?_ _)); exact BK216.out) hb)
                             have n1_ := Aside0.mk (blk_below (g := gb218) (o := .cells #[.int .u32 a0_1, .int .i64 a0_2] 24 (0, 0)) (by (with_reducible repeat (first | refine bkN ?_ _ | refine bkD ?_ | refine bkA ?_ _)); exact BK218.out) hb)
                             have n2_ := Aside0.mk (blk_below (g := gb219) (o := .cells #[.int .u32 a0_3, .int .u32 a0_4] 26 (0, 0)) (by (with_reducible repeat (first | refine bkN ?_ _ | refine bkD ?_ | refine bkA ?_ _)); exact BK219.out) hb)
                             have n3_ := Aside0.mk (below_step (by repeat (first | (with_reducible first | exact HB.out | apply blA | apply blN | apply blD | refine below_set ?_ GE216.out | refine below_set ?_ GE218.out | refine below_set ?_ GE219.out) | exact HB.out)) hb)
                             clear BK216
                             clear BK218
                             clear BK219
                             clear HB
                             have BK216 := n0_
                             have BK218 := n1_
                             have BK219 := n2_
                             have HB := n3_
                             clear n0_ n1_ n2_ n3_
                             (try clear hb)
                             (try clear hb2)
                             (try clear hk)
                             (try clear hi)
                             refine hK.out _ _ ⟨(blk_cell BK218.out 0).trans rfl, (blk_cell BK218.out 1).trans rfl⟩ (fun hHeld => ?_)
                             clear hK K
                             refine norm_ (a' := ?_) ?_ ?_
                             rotate_left
                             · show Act.put _ (some 60) _ = _
                               simp only [Act.put, List.setIfInBounds_toArray, List.set_cons_zero, List.set_cons_succ, i64_w, i32_w]
                               rfl
                             refine one_ (i := 9) (N := some 62) #[true, true, true, true, true, true, true, true, true, true, false, false, false, false, false, false, false, false, false, false, false, false, false, false, false, false, false, false, false, false, false, false, false, false, false, false, false, false, false] rfl rfl (one_of HT_.out (by kernel_rfl)) (by decide) (fun K hK => ?_)
                             refine goes_ Tryz.func12 (by kernel_rfl) rfl #[.int .u32 a0_0] (by rfl) rfl rfl (by (try simp only [List.map_toArray, List.map_cons, List.map_nil]); first | done | rfl | (simp only [List.length_drop, List.length_take]; rfl)) ?_
                             with_reducible refine (dragomanref14_AddrText.calls k a0_0 t231 _ A12.out).mono ?_
                             rintro e w58 ⟨rfl, hb⟩
                             refine ⟨_, rfl, ?_⟩
                             have n0_ := Aside0.mk (blk_below (g := gb216) (o := .cells #[.int .u32 a0_0, .int .u32 a0_1, .int .i64 a0_2, .int .u32 a0_3, .int .u32 a0_4, .int .i64 a0_5] 28 (0, 0)) (by (with_reducible repeat (first | refine bkN ?_ _ | refine bkD ?_ | refine bkA ?_ _)); exact BK216.out) hb)
                             have n1_ := Aside0.mk (blk_below (g := gb218) (o := .cells #[.int .u32 a0_1, .int .i64 a0_2] 24 (0, 0)) (by (with_reducible repeat (first | refine bkN ?_ _ | refine bkD ?_ | refine bkA ?_ _)); exact BK218.out) hb)
                             have n2_ := Aside0.mk (blk_below (g := gb219) (o := .cells #[.int .u32 a0_3, .int .u32 a0_4] 26 (0, 0)) (by (with_reducible repeat (first | refine bkN ?_ _ | refine bkD ?_ | refine bkA ?_ _)); exact BK219.out) hb)
                             have n3_ := Aside0.mk (below_step (by repeat (first | (with_reducible first | exact HB.out | apply blA | apply blN | apply blD | refine below_set ?_ GE216.out | refine below_set ?_ GE218.out | refine below_set ?_ GE219.out) | exact HB.out)) hb)
                             clear BK216
                             clear BK218
                             clear BK219
                             clear HB
                             have BK216 := n0_
                             have BK218 := n1_
                             have BK219 := n2_
                             have HB := n3_
                             clear n0_ n1_ n2_ n3_
                             (try clear hb)
                             (try clear hb2)
                             (try clear hk)
                             (try clear hi)
                             refine hK.out _ _ ⟨(blk_cell BK218.out 0).trans rfl, (blk_cell BK218.out 1).trans rfl⟩ (fun hHeld => ?_)
                             clear hK K
                             refine norm_ (a' := ?_) ?_ ?_
                             rotate_left
                             · show Act.put _ (some 62) _ = _
                               simp only [Act.put, List.setIfInBounds_toArray, List.set_cons_zero, List.set_cons_succ, i64_w, i32_w]
                               rfl
                             refine pure_ (i := 10) (N := some 63) (v := ?_) (a' := ?_) #[true, true, true, true, true, true, true, true, true, true, true, false, false, false, false, false, false, false, false, false, false, false, false, false, false, false, false, false, false, false, false, false, false, false, false, false, false, false, false] rfl rfl (any_of HT_.out (by kernel_rfl)) (fun _ _ _ h => h) (Or.inl ⟨by rfl, ?_⟩) ?_ ?_
                             rotate_left
                             · intro w'
                               go_simp
                               with_reducible rfl
                             rotate_left
                             · simp only [Act.put, List.setIfInBounds_toArray, List.set_cons_zero, List.set_cons_succ, i64_w, i32_w]
                               rfl
                             refine pure_ (i := 11) (N := some 64) (v := ?_) (a' := ?_) #[true, true, true, true, true, true, true, true, true, true, true, true, false, false, false, false, false, false, false, false, false, false, false, false, false, false, false, false, false, false, false, false, false, false, false, false, false, false, false] rfl rfl (any_of HT_.out (by kernel_rfl)) (fun _ _ _ h => h) (Or.inl ⟨by rfl, ?_⟩) ?_ ?_
                             rotate_left
                             · intro w'
                               go_simp
                               with_reducible rfl
                             rotate_left
                             · simp only [Act.put, List.setIfInBounds_toArray, List.set_cons_zero, List.set_cons_succ, i64_w, i32_w]
                               rfl
                             refine pure_ (i := 12) (N := some 65) (v := ?_) (a' := ?_) #[true, true, true, true, true, true, true, true, true, true, true, true, true, false, false, false, false, false, false, false, false, false, false, false, false, false, false, false, false, false, false, false, false, false, false, false, false, false, false] rfl rfl (any_of HT_.out (by kernel_rfl)) (fun _ _ _ h => h) (Or.inl ⟨by rfl, ?_⟩) ?_ ?_
                             rotate_left
                             · intro w'
                               go_simp
                               with_reducible rfl
                             rotate_left
                             · simp only [Act.put, List.setIfInBounds_toArray, List.set_cons_zero, List.set_cons_succ, i64_w, i32_w]
                               rfl
                             refine take_ (i := 13) (N := some 66) (v := ?_) (a' := ?_) #[true, true, true, true, true, true, true, true, true, true, true, true, true, true, false, false, false, false, false, false, false, false, false, false, false, false, false, false, false, false, false, false, false, false, false, false, false, false, false] rfl rfl (take_ofW HT_.out HW_.out (by kernel_rfl)) (fun _ _ _ h => h) (Or.inl ⟨by rfl, ?_⟩) hHeld ?_ ?_
                             rotate_left
                             · rintro w' ⟨s0, s1⟩
                               go_simp
                               with_reducible rfl
                             rotate_left
                             · simp only [Act.put, List.setIfInBounds_toArray, List.set_cons_zero, List.set_cons_succ, i64_w, i32_w]
                               rfl
                             refine take_ (i := 15) (N := some 68) (v := ?_) (a' := ?_) #[true, true, true, true, true, true, true, true, true, true, true, true, true, true, false, true, false, false, false, false, false, false, false, false, false, false, false, false, false, false, false, false, false, false, false, false, false, false, false] rfl rfl (take_ofW HT_.out HW_.out (by kernel_rfl)) (fun _ _ _ h => h) (Or.inl ⟨by rfl, ?_⟩) hHeld ?_ ?_
                             rotate_left
                             · rintro w' ⟨s0, s1⟩
                               go_simp
                               with_reducible rfl
                             rotate_left
                             · simp only [Act.put, List.setIfInBounds_toArray, List.set_cons_zero, List.set_cons_succ, i64_w, i32_w]
                               rfl
                             refine one_ (i := 14) (N := some 67) #[true, true, true, true, true, true, true, true, true, true, true, true, true, true, true, true, false, false, false, false, false, false, false, false, false, false, false, false, false, false, false, false, false, false, false, false, false, false, false] rfl rfl (one_of HT_.out (by kernel_rfl)) (by decide) (fun K hK => ?_)
                             refine goes_ Tryz.func13 (by kernel_rfl) rfl #[.agg #[.int .u32 a0_1, .int .i64 a0_2]] (by rfl) rfl rfl (by (try simp only [List.map_toArray, List.map_cons, List.map_nil]); first | done | rfl | (simp only [List.length_drop, List.length_take]; rfl)) ?_
                             with_reducible refine (lex_PrefixText.calls k a0_1 a0_2 t232 _ ?side1 A14.out).mono ?_
                             (case side1 => exact GL_below hG (by repeat (first | (with_reducible first | exact HB.out | apply blA | apply blN | apply blD | refine below_set ?_ GE216.out | refine below_set ?_ GE218.out | refine below_set ?_ GE219.out) | exact HB.out)))
                             rintro e w59 ⟨rfl, hb⟩
                             refine ⟨_, rfl, ?_⟩
                             have n0_ := Aside0.mk (blk_below (g := gb216) (o := .cells #[.int .u32 a0_0, .int .u32 a0_1, .int .i64 a0_2, .int .u32 a0_3, .int .u32 a0_4, .int .i64 a0_5] 28 (0, 0)) (by (with_reducible repeat (first | refine bkN ?_ _ | refine bkD ?_ | refine bkA ?_ _)); exact BK216.out) hb)
                             have n1_ := Aside0.mk (blk_below (g := gb218) (o := .cells #[.int .u32 a0_1, .int .i64 a0_2] 24 (0, 0)) (by (with_reducible repeat (first | refine bkN ?_ _ | refine bkD ?_ | refine bkA ?_ _)); exact BK218.out) hb)
                             have n2_ := Aside0.mk (blk_below (g := gb219) (o := .cells #[.int .u32 a0_3, .int .u32 a0_4] 26 (0, 0)) (by (with_reducible repeat (first | refine bkN ?_ _ | refine bkD ?_ | refine bkA ?_ _)); exact BK219.out) hb)
                             have n3_ := Aside0.mk (below_step (by repeat (first | (with_reducible first | exact HB.out | apply blA | apply blN | apply blD | refine below_set ?_ GE216.out | refine below_set ?_ GE218.out | refine below_set ?_ GE219.out) | exact HB.out)) hb)
                             clear BK216
                             clear BK218
                             clear BK219
                             clear HB
                             have BK216 := n0_
                             have BK218 := n1_
                             have BK219 := n2_
                             have HB := n3_
                             clear n0_ n1_ n2_ n3_
                             (try clear hb)
                             (try clear hb2)
                             (try clear hk)
                             (try clear hi)
                             refine hK.out _ _ ⟨(blk_cell BK218.out 0).trans rfl, (blk_cell BK218.out 1).trans rfl⟩ (fun hHeld => ?_)
                             clear hK K
                             refine norm_ (a' := ?_) ?_ ?_
                             rotate_left
                             · show Act.put _ (some 67) _ = _
                               simp only [Act.put, List.setIfInBounds_toArray, List.set_cons_zero, List.set_cons_succ, i64_w, i32_w]
                               rfl
                             refine one_ (i := 16) (N := some 69) #[true, true, true, true, true, true, true, true, true, true, true, true, true, true, true, true, true, false, false, false, false, false, false, false, false, false, false, false, false, false, false, false, false, false, false, false, false, false, false] rfl rfl (one_of HT_.out (by kernel_rfl)) (by decide) (fun K hK => ?_)
                             refine goes_ Tryz.func14 (by kernel_rfl) rfl #[.agg #[.int .u32 a0_1, .int .i64 a0_2]] (by rfl) rfl rfl (by (try simp only [List.map_toArray, List.map_cons, List.map_nil]); first | done | rfl | (simp only [List.length_drop, List.length_take]; rfl)) ?_
                             with_reducible refine (dragomanref14_PrefixText.calls k a0_1 a0_2 t233 _ A15.out).mono ?_
                             rintro e w60 ⟨rfl, hb⟩
                             refine ⟨_, rfl, ?_⟩
                             have n0_ := Aside0.mk (blk_below (g := gb216) (o := .cells #[.int .u32 a0_0, .int .u32 a0_1, .int .i64 a0_2, .int .u32 a0_3, .int .u32 a0_4, .int .i64 a0_5] 28 (0, 0)) (by (with_reducible repeat (first | refine bkN ?_ _ | refine bkD ?_ | refine bkA ?_ _)); exact BK216.out) hb)
                             have n1_ := Aside0.mk (blk_below (g := gb218) (o := .cells #[.int .u32 a0_1, .int .i64 a0_2] 24 (0, 0)) (by (with_reducible repeat (first | refine bkN ?_ _ | refine bkD ?_ | refine bkA ?_ _)); exact BK218.out) hb)
                             have n2_ := Aside0.mk (blk_below (g := gb219) (o := .cells #[.int .u32 a0_3, .int .u32 a0_4] 26 (0, 0)) (by (with_reducible repeat (first | refine bkN ?_ _ | refine bkD ?_ | refine bkA ?_ _)); exact BK219.out) hb)
                             have n3_ := Aside0.mk (below_step (by repeat (first | (with_reducible first | exact HB.out | apply blA | apply blN | apply blD | refine below_set ?_ GE216.out | refine below_set ?_ GE218.out | refine below_set ?_ GE219.out) | exact HB.out)) hb)
                             clear BK216
                             clear BK218
                             clear BK219
                             clear HB
                             have BK216 := n0_
                             have BK218 := n1_
                             have BK219 := n2_
                             have HB := n3_
                             clear n0_ n1_ n2_ n3_
                             (try clear hb)
                             (try clear hb2)
                             (try clear hk)
                             (try clear hi)
                             refine hK.out _ _ ⟨(blk_cell BK218.out 0).trans rfl, (blk_cell BK218.out 1).trans rfl⟩ (fun hHeld => ?_)
                             clear hK K
                             refine norm_ (a' := ?_) ?_ ?_
                             rotate_left
                             · show Act.put _ (some 69) _ = _
                               simp only [Act.put, List.setIfInBounds_toArray, List.set_cons_zero, List.set_cons_succ, i64_w, i32_w]
                               rfl
                             refine pure_ (i := 17) (N := some 70) (v := ?_) (a' := ?_) #[true, true, true, true, true, true, true, true, true, true, true, true, true, true, true, true, true, true, false, false, false, false, false, false, false, false, false, false, false, false, false, false, false, false, false, false, false, false, false] rfl rfl (any_of HT_.out (by kernel_rfl)) (fun _ _ _ h => h) (Or.inl ⟨by rfl, ?_⟩) ?_ ?_
                             rotate_left
                             · intro w'
                               go_simp
                               with_reducible rfl
                             rotate_left
                             · simp only [Act.put, List.setIfInBounds_toArray, List.set_cons_zero, List.set_cons_succ, i64_w, i32_w]
                               rfl
                             refine pure_ (i := 18) (N := some 71) (v := ?_) (a' := ?_) #[true, true, true, true, true, true, true, true, true, true, true, true, true, true, true, true, true, true, true, false, false, false, false, false, false, false, false, false, false, false, false, false, false, false, false, false, false, false, false] rfl rfl (any_of HT_.out (by kernel_rfl)) (fun _ _ _ h => h) (Or.inl ⟨by rfl, ?_⟩) ?_ ?_
                             rotate_left
                             · intro w'
                               go_simp
                               with_reducible rfl
                             rotate_left
                             · simp only [Act.put, List.setIfInBounds_toArray, List.set_cons_zero, List.set_cons_succ, i64_w, i32_w]
                               rfl
                             refine pure_ (i := 19) (N := some 72) (v := ?_) (a' := ?_) #[true, true, true, true, true, true, true, true, true, true, true, true, true, true, true, true, true, true, true, true, false, false, false, false, false, false, false, false, false, false, false, false, false, false, false, false, false, false, false] rfl rfl (any_of HT_.out (by kernel_rfl)) (fun _ _ _ h => h) (Or.inl ⟨by rfl, ?_⟩) ?_ ?_
                             rotate_left
                             · intro w'
                               go_simp
                               with_reducible rfl
                             rotate_left
                             · simp only [Act.put, List.setIfInBounds_toArray, List.set_cons_zero, List.set_cons_succ, i64_w, i32_w]
                               rfl
                             refine pure_ (i := 20) (N := some 73) (v := ?_) (a' := ?_) #[true, true, true, true, true, true, true, true, true, true, true, true, true, true, true, true, true, true, true, true, true, false, false, false, false, false, false, false, false, false, false, false, false, false, false, false, false, false, false] rfl rfl (any_of HT_.out (by kernel_rfl)) (fun _ _ _ h => h) (Or.inl ⟨by rfl, ?_⟩) ?_ ?_
                             rotate_left
                             · intro w'
                               go_simp
                               with_reducible rfl
                             rotate_left
                             · simp only [Act.put, List.setIfInBounds_toArray, List.set_cons_zero, List.set_cons_succ, i64_w, i32_w]
                               rfl
                             refine pure_ (i := 21) (N := some 74) (v := ?_) (a' := ?_) #[true, true, true, true, true, true, true, true, true, true, true, true, true, true, true, true, true, true, true, true, true, true, false, false, false, false, false, false, false, false, false, false, false, false, false, false, false, false, false] rfl rfl (any_of HT_.out (by kernel_rfl)) (fun _ _ _ h => h) (Or.inl ⟨by rfl, ?_⟩) ?_ ?_
                             rotate_left
                             · intro w'
                               go_simp
                               with_reducible rfl
                             rotate_left
                             · simp only [Act.put, List.setIfInBounds_toArray, List.set_cons_zero, List.set_cons_succ, i64_w, i32_w]
                               rfl
                             refine pure_ (i := 22) (N := some 75) (v := ?_) (a' := ?_) #[true, true, true, true, true, true, true, true, true, true, true, true, true, true, true, true, true, true, true, true, true, true, true, false, false, false, false, false, false, false, false, false, false, false, false, false, false, false, false] rfl rfl (any_of HT_.out (by kernel_rfl)) (fun _ _ _ h => h) (Or.inl ⟨by rfl, ?_⟩) ?_ ?_
                             rotate_left
                             · intro w'
                               go_simp
                               with_reducible rfl
                             rotate_left
                             · simp only [Act.put, List.setIfInBounds_toArray, List.set_cons_zero, List.set_cons_succ, i64_w, i32_w]
                               rfl
                             refine pure_ (i := 23) (N := some 76) (v := ?_) (a' := ?_) #[true, true, true, true, true, true, true, true, true, true, true, true, true, true, true, true, true, true, true, true, true, true, true, true, false, false, false, false, false, false, false, false, false, false, false, false, false, false, false] rfl rfl (any_of HT_.out (by kernel_rfl)) (fun _ _ _ h => h) (Or.inl ⟨by rfl, ?_⟩) ?_ ?_
                             rotate_left
                             · intro w'
                               go_simp
                               with_reducible rfl
                             rotate_left
                             · simp only [Act.put, List.setIfInBounds_toArray, List.set_cons_zero, List.set_cons_succ, i64_w, i32_w]
                               rfl
                             refine pure_ (i := 24) (N := some 77) (v := ?_) (a' := ?_) #[true, true, true, true, true, true, true, true, true, true, true, true, true, true, true, true, true, true, true, true, true, true, true, true, true, false, false, false, false, false, false, false, false, false, false, false, false, false, false] rfl rfl (any_of HT_.out (by kernel_rfl)) (fun _ _ _ h => h) (Or.inl ⟨by rfl, ?_⟩) ?_ ?_
                             rotate_left
                             · intro w'
                               go_simp
                               with_reducible rfl
                             rotate_left
                             · simp only [Act.put, List.setIfInBounds_toArray, List.set_cons_zero, List.set_cons_succ, i64_w, i32_w]
                               rfl
                             refine pure_ (i := 25) (N := some 78) (v := ?_) (a' := ?_) #[true, true, true, true, true, true, true, true, true, true, true, true, true, true, true, true, true, true, true, true, true, true, true, true, true, true, false, false, false, false, false, false, false, false, false, false, false, false, false] rfl rfl (any_of HT_.out (by kernel_rfl)) (fun _ _ _ h => h) (Or.inl ⟨by rfl, ?_⟩) ?_ ?_
                             rotate_left
                             · intro w'
                               go_simp
                               with_reducible rfl
                             rotate_left
                             · simp only [Act.put, List.setIfInBounds_toArray, List.set_cons_zero, List.set_cons_succ, i64_w, i32_w]
                               rfl
                             refine pure_ (i := 26) (N := some 79) (v := ?_) (a' := ?_) #[true, true, true, true, true, true, true, true, true, true, true, true, true, true, true, true, true, true, true, true, true, true, true, true, true, true, true, false, false, false, false, false, false, false, false, false, false, false, false] rfl rfl (any_of HT_.out (by kernel_rfl)) (fun _ _ _ h => h) (Or.inl ⟨by rfl, ?_⟩) ?_ ?_
                             rotate_left
                             · intro w'
                               go_simp
                               with_reducible rfl
                             rotate_left
                             · simp only [Act.put, List.setIfInBounds_toArray, List.set_cons_zero, List.set_cons_succ, i64_w, i32_w]
                               rfl
                             refine pure_ (i := 27) (N := some 80) (v := ?_) (a' := ?_) #[true, true, true, true, true, true, true, true, true, true, true, true, true, true, true, true, true, true, true, true, true, true, true, true, true, true, true, true, false, false, false, false, false, false, false, false, false, false, false] rfl rfl (any_of HT_.out (by kernel_rfl)) (fun _ _ _ h => h) (Or.inl ⟨by rfl, ?_⟩) ?_ ?_
                             rotate_left
                             · intro w'
                               go_simp
                               with_reducible rfl
                             rotate_left
                             · simp only [Act.put, List.setIfInBounds_toArray, List.set_cons_zero, List.set_cons_succ, i64_w, i32_w]
                               rfl
                             refine pure_ (i := 28) (N := some 81) (v := ?_) (a' := ?_) #[true, true, true, true, true, true, true, true, true, true, true, true, true, true, true, true, true, true, true, true, true, true, true, true, true, true, true, true, true, false, false, false, false, false, false, false, false, false, false] rfl rfl (any_of HT_.out (by kernel_rfl)) (fun _ _ _ h => h) (Or.inl ⟨by rfl, ?_⟩) ?_ ?_
                             rotate_left
                             · intro w'
                               go_simp
                               with_reducible rfl
                             rotate_left
                             · simp only [Act.put, List.setIfInBounds_toArray, List.set_cons_zero, List.set_cons_succ, i64_w, i32_w]
                               rfl
                             refine pure_ (i := 29) (N := some 82) (v := ?_) (a' := ?_) #[true, true, true, true, true, true, true, true, true, true, true, true, true, true, true, true, true, true, true, true, true, true, true, true, true, true, true, true, true, true, false, false, false, false, false, false, false, false, false] rfl rfl (any_of HT_.out (by kernel_rfl)) (fun _ _ _ h => h) (Or.inl ⟨by rfl, ?_⟩) ?_ ?_
                             rotate_left
                             · intro w'
                               go_simp
                               with_reducible rfl
                             rotate_left
                             · simp only [Act.put, List.setIfInBounds_toArray, List.set_cons_zero, List.set_cons_succ, i64_w, i32_w]
                               rfl
                             refine pure_ (i := 30) (N := some 83) (v := ?_) (a' := ?_) #[true, true, true, true, true, true, true, true, true, true, true, true, true, true, true, true, true, true, true, true, true, true, true, true, true, true, true, true, true, true, true, false, false, false, false, false, false, false, false] rfl rfl (any_of HT_.out (by kernel_rfl)) (fun _ _ _ h => h) (Or.inl ⟨by rfl, ?_⟩) ?_ ?_
                             rotate_left
                             · intro w'
                               go_simp
                               with_reducible rfl
                             rotate_left
                             · simp only [Act.put, List.setIfInBounds_toArray, List.set_cons_zero, List.set_cons_succ, i64_w, i32_w]
                               rfl
                             refine pure_ (i := 31) (N := some 84) (v := ?_) (a' := ?_) #[true, true, true, true, true, true, true, true, true, true, true, true, true, true, true, true, true, true, true, true, true, true, true, true, true, true, true, true, true, true, true, true, false, false, false, false, false, false, false] rfl rfl (any_of HT_.out (by kernel_rfl)) (fun _ _ _ h => h) (Or.inl ⟨by rfl, ?_⟩) ?_ ?_
                             rotate_left
                             · intro w'
                               go_simp
                               with_reducible rfl
                             rotate_left
                             · simp only [Act.put, List.setIfInBounds_toArray, List.set_cons_zero, List.set_cons_succ, i64_w, i32_w]
                               rfl
                             refine pure_ (i := 32) (N := some 85) (v := ?_) (a' := ?_) #[true, true, true, true, true, true, true, true, true, true, true, true, true, true, true, true, true, true, true, true, true, true, true, true, true, true, true, true, true, true, true, true, true, false, false, false, false, false, false] rfl rfl (any_of HT_.out (by kernel_rfl)) (fun _ _ _ h => h) (Or.inl ⟨by rfl, ?_⟩) ?_ ?_
                             rotate_left
                             · intro w'
                               go_simp
                               with_reducible rfl
                             rotate_left
                             · simp only [Act.put, List.setIfInBounds_toArray, List.set_cons_zero, List.set_cons_succ, i64_w, i32_w]
                               rfl
                             refine pure_ (i := 33) (N := some 86) (v := ?_) (a' := ?_) #[true, true, true, true, true, true, true, true, true, true, true, true, true, true, true, true, true, true, true, true, true, true, true, true, true, true, true, true, true, true, true, true, true, true, false, false, false, false, false] rfl rfl (any_of HT_.out (by kernel_rfl)) (fun _ _ _ h => h) (Or.inl ⟨by rfl, ?_⟩) ?_ ?_
                             rotate_left
                             · intro w'
                               go_simp
                               with_reducible rfl
                             rotate_left
                             · simp only [Act.put, List.setIfInBounds_toArray, List.set_cons_zero, List.set_cons_succ, i64_w, i32_w]
                               rfl
                             refine pure_ (i := 34) (N := some 87) (v := ?_) (a' := ?_) #[true, true, true, true, true, true, true, true, true, true, true, true, true, true, true, true, true, true, true, true, true, true, true, true, true, true, true, true, true, true, true, true, true, true, true, false, false, false, false] rfl rfl (any_of HT_.out (by kernel_rfl)) (fun _ _ _ h => h) (Or.inl ⟨by rfl, ?_⟩) ?_ ?_
                             rotate_left
                             · intro w'
                               go_simp
                               with_reducible rfl
                             rotate_left
                             · simp only [Act.put, List.setIfInBounds_toArray, List.set_cons_zero, List.set_cons_succ, i64_w, i32_w]
                               rfl
                             refine pure_ (i := 35) (N := some 88) (v := ?_) (a' := ?_) #[true, true, true, true, true, true, true, true, true, true, true, true, true, true, true, true, true, true, true, true, true, true, true, true, true, true, true, true, true, true, true, true, true, true, true, true, false, false, false] rfl rfl (any_of HT_.out (by kernel_rfl)) (fun _ _ _ h => h) (Or.inl ⟨by rfl, ?_⟩) ?_ ?_
                             rotate_left
                             · intro w'
                               go_simp
                               with_reducible rfl
                             rotate_left
                             · simp only [Act.put, List.setIfInBounds_toArray, List.set_cons_zero, List.set_cons_succ, i64_w, i32_w]
                               rfl
                             refine pure_ (i := 36) (N := some 89) (v := ?_) (a' := ?_) #[true, true, true, true, true, true, true, true, true, true, true, true, true, true, true, true, true, true, true, true, true, true, true, true, true, true, true, true, true, true, true, true, true, true, true, true, true, false, false] rfl rfl (any_of HT_.out (by kernel_rfl)) (fun _ _ _ h => h) (Or.inl ⟨by rfl, ?_⟩) ?_ ?_
                             rotate_left
                             · intro w'
                               go_simp
                               with_reducible rfl
                             rotate_left
                             · simp only [Act.put, List.setIfInBounds_toArray, List.set_cons_zero, List.set_cons_succ, i64_w, i32_w]
                               rfl
                             refine pure_ (i := 37) (N := some 90) (v := ?_) (a' := ?_) #[true, true, true, true, true, true, true, true, true, true, true, true, true, true, true, true, true, true, true, true, true, true, true, true, true, true, true, true, true, true, true, true, true, true, true, true, true, true, false] rfl rfl (any_of HT_.out (by kernel_rfl)) (fun _ _ _ h => h) (Or.inl ⟨by rfl, ?_⟩) ?_ ?_
                             rotate_left
                             · intro w'
                               go_simp
                               with_reducible rfl
                             rotate_left
                             · simp only [Act.put, List.setIfInBounds_toArray, List.set_cons_zero, List.set_cons_succ, i64_w, i32_w]
                               rfl
                             refine pure_ (i := 38) (N := some 91) (v := ?_) (a' := ?_) #[true, true, true, true, true, true, true, true, true, true, true, true, true, true, true, true, true, true, true, true, true, true, true, true, true, true, true, true, true, true, true, true, true, true, true, true, true, true, true] rfl rfl (any_of HT_.out (by kernel_rfl)) (fun _ _ _ h => h) (Or.inl ⟨by rfl, ?_⟩) ?_ ?_
                             rotate_left
                             · intro w'
                               go_simp
                               with_reducible rfl
                             rotate_left
                             · simp only [Act.put, List.setIfInBounds_toArray, List.set_cons_zero, List.set_cons_succ, i64_w, i32_w]
                               rfl
                             refine done_ (done_of HT_.out (by kernel_rfl)) ?_
                             try go_wp2_with (first | ((with_reducible refine gate_callee (f := 9) rfl ?_); refine goesL_ (some 94) rfl rfl Tryz.func9 (by kernel_rfl) rfl #[.int .u32 a0_0] rfl (by (try simp only [List.map_toArray, List.map_cons, List.map_nil]); first | done | rfl | (simp only [List.length_drop, List.length_take]; rfl)) ?_; (with_reducible refine (lex_NumText.calls a0_0 t234 _ ?side1 A21.out).mono ?_); (case side1 => exact GL_below hG (by repeat (first | (with_reducible first | exact HB.out | apply blA | apply blN | apply blD | refine below_set ?_ GE216.out | refine below_set ?_ GE218.out | refine below_set ?_ GE219.out) | exact HB.out))); rintro e w61 ⟨rfl, hb⟩; refine ⟨_, rfl, ?_⟩; have n0_ := Aside0.mk (blk_below (g := gb216) (o := .cells #[.int .u32 a0_0, .int .u32 a0_1, .int .i64 a0_2, .int .u32 a0_3, .int .u32 a0_4, .int .i64 a0_5] 28 (0, 0)) (by (with_reducible repeat (first | refine bkN ?_ _ | refine bkD ?_ | refine bkA ?_ _)); exact BK216.out) hb); have n1_ := Aside0.mk (blk_below (g := gb218) (o := .cells #[.int .u32 a0_1, .int .i64 a0_2] 24 (0, 0)) (by (with_reducible repeat (first | refine bkN ?_ _ | refine bkD ?_ | refine bkA ?_ _)); exact BK218.out) hb); have n2_ := Aside0.mk (blk_below (g := gb219) (o := .cells #[.int .u32 a0_3, .int .u32 a0_4] 26 (0, 0)) (by (with_reducible repeat (first | refine bkN ?_ _ | refine bkD ?_ | refine bkA ?_ _)); exact BK219.out) hb); have n3_ := Aside0.mk (below_step (by repeat (first | (with_reducible first | exact HB.out | apply blA | apply blN | apply blD | refine below_set ?_ GE216.out | refine below_set ?_ GE218.out | refine below_set ?_ GE219.out) | exact HB.out)) hb); clear BK216; clear BK218; clear BK219; clear HB; have BK216 := n0_; have BK218 := n1_; have BK219 := n2_; have HB := n3_; clear n0_ n1_ n2_ n3_; (try clear hb); (try clear hb2); (try clear hk); (try clear hi)) | ((with_reducible refine gate_callee (f := 15) rfl ?_); refine goesL_ (some 95) rfl rfl Tryz.func15 (by kernel_rfl) rfl #[.string t234] rfl (by (try simp only [List.map_toArray, List.map_cons, List.map_nil]); first | done | rfl | (simp only [List.length_drop, List.length_take]; rfl)) ?_; (with_reducible refine (lex_Num.calls t234 t235 true _ ?side1 A22.out).mono ?_); (case side1 => exact GL_below hG (by repeat (first | (with_reducible first | exact HB.out | apply blA | apply blN | apply blD | refine below_set ?_ GE216.out | refine below_set ?_ GE218.out | refine below_set ?_ GE219.out) | exact HB.out))); rintro e w62 ⟨rfl, hb⟩; refine ⟨_, rfl, ?_⟩; have n0_ := Aside0.mk (blk_below (g := gb216) (o := .cells #[.int .u32 a0_0, .int .u32 a0_1, .int .i64 a0_2, .int .u32 a0_3, .int .u32 a0_4, .int .i64 a0_5] 28 (0, 0)) (by (with_reducible repeat (first | refine bkN ?_ _ | refine bkD ?_ | refine bkA ?_ _)); exact BK216.out) hb); have n1_ := Aside0.mk (blk_below (g := gb218) (o := .cells #[.int .u32 a0_1, .int .i64 a0_2] 24 (0, 0)) (by (with_reducible repeat (first | refine bkN ?_ _ | refine bkD ?_ | refine bkA ?_ _)); exact BK218.out) hb); have n2_ := Aside0.mk (blk_below (g := gb219) (o := .cells #[.int .u32 a0_3, .int .u32 a0_4] 26 (0, 0)) (by (with_reducible repeat (first | refine bkN ?_ _ | refine bkD ?_ | refine bkA ?_ _)); exact BK219.out) hb); have n3_ := Aside0.mk (below_step (by repeat (first | (with_reducible first | exact HB.out | apply blA | apply blN | apply blD | refine below_set ?_ GE216.out | refine below_set ?_ GE218.out | refine below_set ?_ GE219.out) | exact HB.out)) hb); clear BK216; clear BK218; clear BK219; clear HB; have BK216 := n0_; have BK218 := n1_; have BK219 := n2_; have HB := n3_; clear n0_ n1_ n2_ n3_; (try clear hb); (try clear hb2); (try clear hk); (try clear hi)) | ((with_reducible refine gate_callee (f := 11) rfl ?_); refine goesL_ (some 100) rfl rfl Tryz.func11 (by kernel_rfl) rfl #[.int .u32 a0_0] rfl (by (try simp only [List.map_toArray, List.map_cons, List.map_nil]); first | done | rfl | (simp only [List.length_drop, List.length_take]; rfl)) ?_; (with_reducible refine (lex_AddrText.calls k a0_0 t237 _ ?side1 A23.out).mono ?_); (case side1 => exact GL_below hG (by repeat (first | (with_reducible first | exact HB.out | apply blA | apply blN | apply blD | refine below_set ?_ GE216.out | refine below_set ?_ GE218.out | refine below_set ?_ GE219.out) | exact HB.out))); rintro e w63 ⟨rfl, hb⟩; refine ⟨_, rfl, ?_⟩; have n0_ := Aside0.mk (blk_below (g := gb216) (o := .cells #[.int .u32 a0_0, .int .u32 a0_1, .int .i64 a0_2, .int .u32 a0_3, .int .u32 a0_4, .int .i64 a0_5] 28 (0, 0)) (by (with_reducible repeat (first | refine bkN ?_ _ | refine bkD ?_ | refine bkA ?_ _)); exact BK216.out) hb); have n1_ := Aside0.mk (blk_below (g := gb218) (o := .cells #[.int .u32 a0_1, .int .i64 a0_2] 24 (0, 0)) (by (with_reducible repeat (first | refine bkN ?_ _ | refine bkD ?_ | refine bkA ?_ _)); exact BK218.out) hb); have n2_ := Aside0.mk (blk_below (g := gb219) (o := .cells #[.int .u32 a0_3, .int .u32 a0_4] 26 (0, 0)) (by (with_reducible repeat (first | refine bkN ?_ _ | refine bkD ?_ | refine bkA ?_ _)); exact BK219.out) hb); have n3_ := Aside0.mk (below_step (by repeat (first | (with_reducible first | exact HB.out | apply blA | apply blN | apply blD | refine below_set ?_ GE216.out | refine below_set ?_ GE218.out | refine below_set ?_ GE219.out) | exact HB.out)) hb); clear BK216; clear BK218; clear BK219; clear HB; have BK216 := n0_; have BK218 := n1_; have BK219 := n2_; have HB := n3_; clear n0_ n1_ n2_ n3_; (try clear hb); (try clear hb2); (try clear hk); (try clear hi)) | ((with_reducible refine gate_callee (f := 16) rfl ?_); refine goesL_ (some 101) rfl rfl Tryz.func16 (by kernel_rfl) rfl #[.string t237] rfl (by (try simp only [List.map_toArray, List.map_cons, List.map_nil]); first | done | rfl | (simp only [List.length_drop, List.length_take]; rfl)) ?_; (with_reducible refine (lex_Addr.calls k t237 t238 true _ ?side1 A24.out).mono ?_); (case side1 => exact GL_below hG (by repeat (first | (with_reducible first | exact HB.out | apply blA | apply blN | apply blD | refine below_set ?_ GE216.out | refine below_set ?_ GE218.out | refine below_set ?_ GE219.out) | exact HB.out))); rintro e w64 ⟨rfl, hb⟩; refine ⟨_, rfl, ?_⟩; have n0_ := Aside0.mk (blk_below (g := gb216) (o := .cells #[.int .u32 a0_0, .int .u32 a0_1, .int .i64 a0_2, .int .u32 a0_3, .int .u32 a0_4, .int .i64 a0_5] 28 (0, 0)) (by (with_reducible repeat (first | refine bkN ?_ _ | refine bkD ?_ | refine bkA ?_ _)); exact BK216.out) hb); have n1_ := Aside0.mk (blk_below (g := gb218) (o := .cells #[.int .u32 a0_1, .int .i64 a0_2] 24 (0, 0)) (by (with_reducible repeat (first | refine bkN ?_ _ | refine bkD ?_ | refine bkA ?_ _)); exact BK218.out) hb); have n2_ := Aside0.mk (blk_below (g := gb219) (o := .cells #[.int .u32 a0_3, .int .u32 a0_4] 26 (0, 0)) (by (with_reducible repeat (first | refine bkN ?_ _ | refine bkD ?_ | refine bkA ?_ _)); exact BK219.out) hb); have n3_ := Aside0.mk (below_step (by repeat (first | (with_reducible first | exact HB.out | apply blA | apply blN | apply blD | refine below_set ?_ GE216.out | refine below_set ?_ GE218.out | refine below_set ?_ GE219.out) | exact HB.out)) hb); clear BK216; clear BK218; clear BK219; clear HB; have BK216 := n0_; have BK218 := n1_; have BK219 := n2_; have HB := n3_; clear n0_ n1_ n2_ n3_; (try clear hb); (try clear hb2); (try clear hk); (try clear hi)) | ((with_reducible refine gate_callee (f := 17) rfl ?_); refine goesL_ (some 106) rfl rfl Tryz.func17 (by kernel_rfl) rfl #[.string t220] rfl (by (try simp only [List.map_toArray, List.map_cons, List.map_nil]); first | done | rfl | (simp only [List.length_drop, List.length_take]; rfl)) ?_; (with_reducible refine (lex_Comm.calls t220 t240 t241 t242 _ ?side1 A25.out).mono ?_); (case side1 => exact GL_below hG (by repeat (first | (with_reducible first | exact HB.out | apply blA | apply blN | apply blD | refine below_set ?_ GE216.out | refine below_set ?_ GE218.out | refine below_set ?_ GE219.out) | exact HB.out))); rintro e w65 ⟨rfl, hb⟩; refine ⟨_, rfl, ?_⟩; have n0_ := Aside0.mk (blk_below (g := gb216) (o := .cells #[.int .u32 a0_0, .int .u32 a0_1, .int .i64 a0_2, .int .u32 a0_3, .int .u32 a0_4, .int .i64 a0_5] 28 (0, 0)) (by (with_reducible repeat (first | refine bkN ?_ _ | refine bkD ?_ | refine bkA ?_ _)); exact BK216.out) hb); have n1_ := Aside0.mk (blk_below (g := gb218) (o := .cells #[.int .u32 a0_1, .int .i64 a0_2] 24 (0, 0)) (by (with_reducible repeat (first | refine bkN ?_ _ | refine bkD ?_ | refine bkA ?_ _)); exact BK218.out) hb); have n2_ := Aside0.mk (blk_below (g := gb219) (o := .cells #[.int .u32 a0_3, .int .u32 a0_4] 26 (0, 0)) (by (with_reducible repeat (first | refine bkN ?_ _ | refine bkD ?_ | refine bkA ?_ _)); exact BK219.out) hb); have n3_ := Aside0.mk (below_step (by repeat (first | (with_reducible first | exact HB.out | apply blA | apply blN | apply blD | refine below_set ?_ GE216.out | refine below_set ?_ GE218.out | refine below_set ?_ GE219.out) | exact HB.out)) hb); clear BK216; clear BK218; clear BK219; clear HB; have BK216 := n0_; have BK218 := n1_; have BK219 := n2_; have HB := n3_; clear n0_ n1_ n2_ n3_; (try clear hb); (try clear hb2); (try clear hk); (try clear hi)) | ((with_reducible refine gate_dst (N := 19) rfl ?_); refine box_event ?hg (N := 19) ?hd (cs := #[.int .u32 0, .int .u32 0]) (t := 26) ?hr ?_; (case hd => rfl); (case hg => rfl); (case hr => first | (go_simp; done) | (go_simp; rfl)); intro gb243 hg w66 hbox hb; have n0_ := Aside0.mk (blk_below (g := gb216) (o := .cells #[.int .u32 a0_0, .int .u32 a0_1, .int .i64 a0_2, .int .u32 a0_3, .int .u32 a0_4, .int .i64 a0_5] 28 (0, 0)) (by (with_reducible repeat (first | refine bkN ?_ _ | refine bkD ?_ | refine bkA ?_ _)); exact BK216.out) hb); have n1_ := Aside0.mk (blk_below (g := gb218) (o := .cells #[.int .u32 a0_1, .int .i64 a0_2] 24 (0, 0)) (by (with_reducible repeat (first | refine bkN ?_ _ | refine bkD ?_ | refine bkA ?_ _)); exact BK218.out) hb); have n2_ := Aside0.mk (blk_below (g := gb219) (o := .cells #[.int .u32 a0_3, .int .u32 a0_4] 26 (0, 0)) (by (with_reducible repeat (first | refine bkN ?_ _ | refine bkD ?_ | refine bkA ?_ _)); exact BK219.out) hb); have n3_ := Aside0.mk (below_step (by repeat (first | (with_reducible first | exact HB.out | apply blA | apply blN | apply blD | refine below_set ?_ GE216.out | refine below_set ?_ GE218.out | refine below_set ?_ GE219.out) | exact HB.out)) hb); have n4_ := Aside0.mk (hbox); have n5_ := Aside0.mk ((by rw [hg]; exact (below_size (by repeat (first | (with_reducible first | exact HB.out | apply blA | apply blN | apply blD | refine below_set ?_ GE216.out | refine below_set ?_ GE218.out | refine below_set ?_ GE219.out) | exact HB.out))) : w.heap.size ≤ gb243)); have n6_ := Aside0.mk ((by rw [hg]; exact (below_size (by repeat (first | (with_reducible first | exact HB.out | apply blA | apply blN | apply blD | refine below_set ?_ GE216.out | refine below_set ?_ GE218.out | refine below_set ?_ GE219.out) | exact HB.out))) : w.heap.size ≤ gb243)); have n7_ := Aside0.mk ((by rw [hg]; exact Nat.ne_of_lt (blk_lt (g := gb216) (o := .cells #[.int .u32 a0_0, .int .u32 a0_1, .int .i64 a0_2, .int .u32 a0_3, .int .u32 a0_4, .int .i64 a0_5] 28 (0, 0)) (by (with_reducible repeat (first | refine bkN ?_ _ | refine bkD ?_ | refine bkA ?_ _)); exact BK216.out)) : gb216 ≠ gb243)); have n8_ := Aside0.mk ((by rw [hg]; exact Nat.ne_of_gt (blk_lt (g := gb216) (o := .cells #[.int .u32 a0_0, .int .u32 a0_1, .int .i64 a0_2, .int .u32 a0_3, .int .u32 a0_4, .int .i64 a0_5] 28 (0, 0)) (by (with_reducible repeat (first | refine bkN ?_ _ | refine bkD ?_ | refine bkA ?_ _)); exact BK216.out)) : gb243 ≠ gb216)); have n9_ := Aside0.mk ((by rw [hg]; exact Nat.ne_of_lt (blk_lt (g := gb218) (o := .cells #[.int .u32 a0_1, .int .i64 a0_2] 24 (0, 0)) (by (with_reducible repeat (first | refine bkN ?_ _ | refine bkD ?_ | refine bkA ?_ _)); exact BK218.out)) : gb218 ≠ gb243)); have n10_ := Aside0.mk ((by rw [hg]; exact Nat.ne_of_gt (blk_lt (g := gb218) (o := .cells #[.int .u32 a0_1, .int .i64 a0_2] 24 (0, 0)) (by (with_reducible repeat (first | refine bkN ?_ _ | refine bkD ?_ | refine bkA ?_ _)); exact BK218.out)) : gb243 ≠ gb218)); have n11_ := Aside0.mk ((by rw [hg]; exact Nat.ne_of_lt (blk_lt (g := gb219) (o := .cells #[.int .u32 a0_3, .int .u32 a0_4] 26 (0, 0)) (by (with_reducible repeat (first | refine bkN ?_ _ | refine bkD ?_ | refine bkA ?_ _)); exact BK219.out)) : gb219 ≠ gb243)); have n12_ := Aside0.mk ((by rw [hg]; exact Nat.ne_of_gt (blk_lt (g := gb219) (o := .cells #[.int .u32 a0_3, .int .u32 a0_4] 26 (0, 0)) (by (with_reducible repeat (first | refine bkN ?_ _ | refine bkD ?_ | refine bkA ?_ _)); exact BK219.out)) : gb243 ≠ gb219)); clear BK216; clear BK218; clear BK219; clear HB; have BK216 := n0_; have BK218 := n1_; have BK219 := n2_; have HB := n3_; have BK243 := n4_; have GW243 := n5_; have GE243 := n6_; have NB216_243 := n7_; have NB243_216 := n8_; have NB218_243 := n9_; have NB243_218 := n10_; have NB219_243 := n11_; have NB243_219 := n12_; clear n0_ n1_ n2_ n3_ n4_ n5_ n6_ n7_ n8_ n9_ n10_ n11_ n12_; clear hb hbox hg; have hnb67 := NB243_216.out; have hnc67 := NB216_243.out; have hnb68 := NB243_218.out; have hnc68 := NB218_243.out; have hnb69 := NB243_219.out; have hnc69 := NB219_243.out; have hcz70_0 : w66.cell? ⟨gb243, 0, none⟩ = some (.int .u32 0) := (blk_cell BK243.out 0).trans rfl; have hcz70_1 : w66.cell? ⟨gb243, 1, none⟩ = some (.int .u32 0) := (blk_cell BK243.out 1).trans rfl; have hfz70_0 := blk_frozen BK243.out 0; have hfz70_1 := blk_frozen BK243.out 1) | ((with_reducible refine gate_callee (f := 18) rfl ?_); refine goesL_ (some 111) rfl rfl Tryz.func18 (by kernel_rfl) rfl #[.string t224] rfl (by (try simp only [List.map_toArray, List.map_cons, List.map_nil]); first | done | rfl | (simp only [List.length_drop, List.length_take]; rfl)) ?_; (with_reducible refine (lex_Origin.calls t224 t244 t245 _ A26.out).mono ?_); rintro e w' ⟨rfl, ⟨nd, rfl⟩⟩; refine ⟨_, rfl, ?_⟩; have hcz71_0 : w66.cell? ⟨gb219, 0, none⟩ = some (.int .u32 a0_3) := (blk_cell BK219.out 0).trans rfl; have hcz71_1 : w66.cell? ⟨gb219, 1, none⟩ = some (.int .u32 a0_4) := (blk_cell BK219.out 1).trans rfl; have hfz71_0 := blk_frozen BK219.out 0; have hfz71_1 := blk_frozen BK219.out 1))
                             first | go_ret | refine ⟨_, results_tmp rfl _ _ _, ?_⟩
                             exact ⟨by first | rfl | (simp [errW_none, errW_some] <;> rfl) | (simp [*, errW_none, errW_some] <;> rfl), by repeat (first | (with_reducible first | exact HB.out | apply blA | apply blN | apply blD | refine below_set ?_ GE216.out | refine below_set ?_ GE218.out | refine below_set ?_ GE219.out | refine below_set ?_ GE243.out) | exact HB.out)⟩
                         · rw [if_neg c31] at H
                           exact absurd H (by simp)
                       · rw [if_neg c30] at H
                         exact absurd H (by simp)
                     · replace c29 := Bool.eq_false_iff.mpr c29
                       subst c29
                       have H1 : (none) = some r := by rw [if_neg (show ¬ (false = true) by decide)] at H; exact H
                       clear H
                       have H := H1
                       clear H1
                       exact absurd H (by simp)
                   · rw [if_neg c28] at H
                     exact absurd H (by simp)
                 · replace c27 := Bool.eq_false_iff.mpr c27
                   subst c27
                   have H1 : (none) = some r := by rw [if_neg (show ¬ (false = true) by decide)] at H; exact H
                   clear H
                   have H := H1
                   clear H1
                   exact absurd H (by simp)
             · rw [if_neg c19] at H
               exact absurd H (by simp)
         · rw [if_neg c17] at H
           exact absurd H (by simp)
       · rw [if_neg c16] at H
         exact absurd H (by simp)
     · rw [if_neg c13] at H
       exact absurd H (by simp)
   · rw [if_neg c10] at H
     exact absurd H (by simp)
 · replace c3 := Bool.eq_false_iff.mpr c3
   subst c3
   have H1 : (none) = some r := by rw [if_neg (show ¬ (false = true) by decide)] at H; exact H
   clear H
   have H := H1
   clear H1
   exact absurd H (by simp)
end Go.Proofs.YtdnneofebehpaaaGreatDoor.L
