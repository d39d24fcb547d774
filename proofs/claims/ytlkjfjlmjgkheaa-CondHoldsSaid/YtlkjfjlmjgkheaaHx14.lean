import Derived.Test.YtlkjfjlmjgkheaaHx0
import Derived.Test.YtlkjfjlmjgkheaaHx6
import Derived.Test.YtlkjfjlmjgkheaaHx9
import Derived.Test.YtlkjfjlmjgkheaaHx11
import Derived.Test.YtlkjfjlmjgkheaaHx12
import Derived.Test.YtlkjfjlmjgkheaaHx13
namespace Go.Proofs.Ytlkjfjlmjgkheaa.H
open Go.RowKit Go.Proofs.YtlkjfjlmjgkheaaW.PrintWords Go.Proofs.YtlkjfjlmjgkheaaW.PrintLast Go.Proofs.YtlkjfjlmjgkheaaW.PrintMore
attribute [local go_sem] max2_int min2_int max_two min_two max_three min_three max_four min_four
set_option linter.unusedVariables false
set_option linter.unusedSimpArgs false
def pfxIn (p0 p1 : Int) (x : S83) : Option Bool := pfx_In.f x.f1.f0.f0 x.f1.f0.f1 x.f1.f1 x.f1.f2 p0 p1
set_option maxHeartbeats 2000000 in
set_option maxRecDepth 100000 in
theorem pfx_Match_1 (b : Nat) (x : S83) (p0 p1 : Int) (r : Bool) (h : pfxIn p0 p1 x = some r) (W : World) (h0 : W.cell? ⟨b, 0, none⟩ = some (.int .u32 p0)) (h1 : W.cell? ⟨b, 1, none⟩ = some (.int .i64 p1)) :
 Calls Try.prog 90 #[.agg #[.bool x.f0, .int .u32 x.f1.f0.f0, .int .i64 x.f1.f0.f1, .int .i64 x.f1.f1, .int .i64 x.f1.f2], .pointer (some ⟨b, 0, none⟩)] W fun e w' => e = .returned (.bool r) ∧ Below W.heap.size W w' := by
 have hu1 := Try.underlying83
 have hu2 := Try.underlying81
 have hu3 := Try.underlying48
 have hlt : b < W.heap.size := World.block_lt_of_cell? W _ h0
 have H := aM (pfx_In.calls x.f1.f0.f0 x.f1.f0.f1 x.f1.f1 x.f1.f2 p0 p1 r (W.alloc (.cells #[.bool x.f0, .int .u32 x.f1.f0.f0, .int .i64 x.f1.f0.f1, .int .i64 x.f1.f1, .int .i64 x.f1.f2] 83)) h)
 clear h
 go_enter Try.func90, Try.ntmps90
 go_wp2_with ((with_reducible refine H.out.mono ?_); rintro e w' ⟨rfl, hb'⟩)
 go_ret
 exact ⟨rfl, below_step (below_alloc (Below.refl _ _) _) hb'⟩
def pfx_Match.f (l0 : List S83) (p0 p1 : Int) : Option Bool := if allS (pfxIn p0 p1) l0 = true then some (if idxP (fun x => (pfxIn p0 p1 x).getD false) l0 0 ≥ 0 then !(rd_T83 l0 (idxP (fun x => (pfxIn p0 p1 x).getD false) l0 0)).f0 else false) else none
set_option maxHeartbeats 4000000 in
set_option maxRecDepth 100000 in
theorem pfx_Match.calls (A0 : Option Addr) (c0 : Nat) (l0 : List S83) (a1_0 a1_1 : Int) (r : Bool) (w : World) (hr0 : Kd.C k83 w A0 l0.length l0) (hc0 : l0.length ≤ c0) (h : pfx_Match.f l0 a1_0 a1_1 = some r) :
 Calls Try.prog 63 #[.slice A0 l0.length c0, .agg #[.int .u32 a1_0, .int .i64 a1_1]] w fun e w' => e = .returned (.bool r) ∧ Below w.heap.size w w' := by
 unfold pfx_Match.f at h
 by_cases ha : allS (pfxIn a1_0 a1_1) l0 = true
 · rw [if_pos ha] at h
   have h := Option.some.inj h
   have hu1 := Try.underlying83
   have hu3 := Try.underlying48
   have hm := hr0.2.1
   have hp : PredK Try.prog 90 #[.pointer (some ⟨w.heap.size, 0, none⟩)] k83 aggV (fun x => (pfxIn a1_0 a1_1 x).getD false) (w.alloc (.cells #[.int .u32 a1_0, .int .i64 a1_1] 48)) l0 := by
    intro x hx W cs hb hk
    obtain rfl := k83_open hk
    have h0 : W.cell? ⟨w.heap.size, 0, none⟩ = some (.int .u32 a1_0) := (hb.cell (p := ⟨w.heap.size, 0, none⟩) (by simp)).trans (by simp)
    have h1 : W.cell? ⟨w.heap.size, 1, none⟩ = some (.int .i64 a1_1) := (hb.cell (p := ⟨w.heap.size, 1, none⟩) (by simp)).trans (by simp)
    refine (pfx_Match_1 w.heap.size x a1_0 a1_1 _ (allS_get ha hx) W h0 h1).mono ?_
    rintro e w' ⟨he, hb'⟩
    exact ⟨he, below_then hb (by have := hb.size; simpa using this) hb'⟩
   have H := aM (idxf_85 (fun args w => enters_ Try.func90 (by kernel_rfl) rfl args w) (c := c0) (Kd.C_below hr0 (below_alloc (Below.refl _ _) _)) hp)
   have hR := idxP_range (fun x => (pfxIn a1_0 a1_1 x).getD false) l0 0
   have HR := aM hr0
   clear hp hr0 ha
   generalize idxP (fun x => (pfxIn a1_0 a1_1 x).getD false) l0 0 = i at H h hR
   rcases hR with hR | ⟨k, hk, hR⟩
   · subst hR
     rw [if_neg (by omega)] at h
     subst h
     clear HR
     go_enter Try.func63, Try.ntmps63
     go_wp2_with ((with_reducible refine H.out.mono ?_); rintro e w' ⟨rfl, hb'⟩)
     go_ret
     exact ⟨rfl, below_step (below_alloc (Below.refl _ _) _) hb'⟩
   · rw [Nat.zero_add] at hR
     subst hR
     rw [if_pos (by omega)] at h
     subst h
     obtain ⟨ad, e, hx0, hx1, hx2, hx3, hx4⟩ := at_T83 HR.out (k : Int) (by omega) (by omega)
     subst e
     clear hx1 hx2 hx3 hx4
     have hge : ((k : Int) ≥ 0) := by omega
     have hltz : (k : Int) < (l0.length : Int) := by omega
     simp only [Int.toNat_natCast] at hx0
     go_enter Try.func63, Try.ntmps63
     go_wp2_with ((with_reducible refine H.out.mono ?_); rintro e w' ⟨rfl, hb'⟩; have hx0 := ((below_step (below_alloc (Below.refl _ _) _) hb' : Below w.heap.size w w').cell (World.block_lt_of_cell? w _ hx0)).trans hx0)
     go_ret
     exact ⟨rfl, below_step (below_alloc (Below.refl _ _) _) hb'⟩
 · rw [if_neg ha] at h; cases h
def betw (lo hi n : Int) : Bool := decide (n ≥ lo) && decide (n ≤ hi)
set_option maxHeartbeats 2000000 in
set_option maxRecDepth 100000 in
theorem cond_Holds_1 (b : Nat) (lo hi n : Int) (W : World) (h4 : W.cell? ⟨b, 4, none⟩ = some (.int .u32 lo)) (h5 : W.cell? ⟨b, 5, none⟩ = some (.int .u32 hi)) :
 Calls Try.prog 62 #[.int .u32 n, .pointer (some ⟨b, 0, none⟩)] W fun e w' => e = .returned (.bool (betw lo hi n)) ∧ Below W.heap.size W w' := by
 have hu1 := Try.underlying46
 unfold betw
 by_cases g1 : n ≥ lo
 · have e1 : decide (n ≥ lo) = true := decide_eq_true g1
   go_enter Try.func62, Try.ntmps62
   go_wp2
   go_ret
   exact ⟨by first | rfl | (rw [e1]; rfl), Below.refl _ _⟩
 · have e1 : decide (n ≥ lo) = false := decide_eq_false g1
   go_enter Try.func62, Try.ntmps62
   go_wp2
   go_ret
   exact ⟨by first | rfl | (rw [e1]; rfl), Below.refl _ _⟩
def holdsIn (k : Nat) (a0_0 : Int) (l0_1 : List S83) (l0_2 : List S61) (l0_3 : List S64) (a0_4 a0_5 : Int) (a1_0 a1_1 : Int) (l1_2 l1_3 : List Int) (a1_4 a1_5 a1_6 a1_7 : Int) : Option Bool :=
 if a0_0 = 1 then pfx_Match.f l0_1 a1_0 a1_1
 else if a0_0 = 2 then cond_TakesPath.f k l0_2 l1_2
 else if a0_0 = 3 then cond_TakesComms.f l0_3 l1_3
 else if a0_0 = 4 then some (betw a0_4 a0_5 a1_4)
 else if a0_0 = 5 then some (betw a0_4 a0_5 a1_5)
 else if a0_0 = 6 then some (if 0 ≤ a1_6 ∧ a1_6 ≤ 4294967295 then betw a0_4 a0_5 a1_6 else false)
 else pfx_Match.f l0_1 a1_7 32
def cond_Holds.f (k : Nat) (a0_0 : Int) (l0_1 : List S83) (l0_2 : List S61) (l0_3 : List S64) (a0_4 a0_5 : Int) (a1_0 a1_1 : Int) (l1_2 l1_3 : List Int) (a1_4 a1_5 a1_6 a1_7 : Int) : Option Bool :=
 (cond_Right.f k a0_0 l0_1 l0_2 l0_3 a0_4 a0_5).bind fun t => if t = true then holdsIn k a0_0 l0_1 l0_2 l0_3 a0_4 a0_5 a1_0 a1_1 l1_2 l1_3 a1_4 a1_5 a1_6 a1_7 else some false
theorem cond_Holds.mono : ∀ a0 a1 a2 a3 a4 a5 a6 a7 a8 a9 a10 a11 a12 a13 k, LeO (cond_Holds.f k a0 a1 a2 a3 a4 a5 a6 a7 a8 a9 a10 a11 a12 a13) (cond_Holds.f (k + 1) a0 a1 a2 a3 a4 a5 a6 a7 a8 a9 a10 a11 a12 a13) := by
 intro a0 a1 a2 a3 a4 a5 a6 a7 a8 a9 a10 a11 a12 a13 k
 unfold cond_Holds.f
 refine LeO.bind (cond_Right.mono _ _ _ _ _ _ k) (fun _ => LeO.ite ?_ (LeO.refl _))
 unfold holdsIn
 exact LeO.ite (LeO.refl _) (LeO.ite (cond_TakesPath.mono _ _ k) (LeO.refl _))
set_option maxHeartbeats 8000000 in
set_option maxRecDepth 100000 in
theorem Holds_pfx (k : Nat) (A0_1 : Option Addr) (c0_1 : Nat) (l0_1 : List S83) (A0_2 : Option Addr) (c0_2 : Nat) (l0_2 : List S61) (A0_3 : Option Addr) (c0_3 : Nat) (l0_3 : List S64) (a0_4 a0_5 : Int) (a1_0 a1_1 : Int) (A1_2 : Option Addr) (c1_2 : Nat) (l1_2 : List Int) (A1_3 : Option Addr) (c1_3 : Nat) (l1_3 : List Int) (a1_4 a1_5 a1_6 a1_7 : Int) (r : Bool) (w : World) (hr0_1 : Kd.C k83 w A0_1 l0_1.length l0_1) (hc0_1 : l0_1.length ≤ c0_1) (hr0_2 : Kd.C k61 w A0_2 l0_2.length l0_2) (hc0_2 : l0_2.length ≤ c0_2) (hr0_3 : Kd.C k64 w A0_3 l0_3.length l0_3) (hc0_3 : l0_3.length ≤ c0_3) (hr1_2 : Kd.C (Kd.int .u32) w A1_2 l1_2.length l1_2) (hc1_2 : l1_2.length ≤ c1_2) (hr1_3 : Kd.C (Kd.int .u32) w A1_3 l1_3.length l1_3) (hc1_3 : l1_3.length ≤ c1_3) (hR : cond_Right.f k 1 l0_1 l0_2 l0_3 a0_4 a0_5 = some true) (h2 : pfx_Match.f l0_1 a1_0 a1_1 = some r) :
 Calls Try.prog 34 #[.agg #[.int .i64 1, .slice A0_1 l0_1.length c0_1, .slice A0_2 l0_2.length c0_2, .slice A0_3 l0_3.length c0_3, .int .u32 a0_4, .int .u32 a0_5], .agg #[.int .u32 a1_0, .int .i64 a1_1, .slice A1_2 l1_2.length c1_2, .slice A1_3 l1_3.length c1_3, .int .u32 a1_4, .int .u32 a1_5, .int .i64 a1_6, .int .u32 a1_7]] w fun e w' => e = .returned (.bool r) ∧ Below w.heap.size w w' := by
 have hu1 := Try.underlying46
 have hu2 := Try.underlying50
 have hu3 := Try.underlying48
 have hB : Below w.heap.size w ((w.alloc (.cells #[.int .i64 1, .slice A0_1 l0_1.length c0_1, .slice A0_2 l0_2.length c0_2, .slice A0_3 l0_3.length c0_3, .int .u32 a0_4, .int .u32 a0_5] 46)).alloc (.cells #[.int .u32 a1_0, .int .i64 a1_1, .slice A1_2 l1_2.length c1_2, .slice A1_3 l1_3.length c1_3, .int .u32 a1_4, .int .u32 a1_5, .int .i64 a1_6, .int .u32 a1_7] 50)) := below_alloc (below_alloc (Below.refl _ _) _) _
 have H := aM (cond_Right.calls k 1 A0_1 c0_1 l0_1 A0_2 c0_2 l0_2 A0_3 c0_3 l0_3 a0_4 a0_5 true ((w.alloc (.cells #[.int .i64 1, .slice A0_1 l0_1.length c0_1, .slice A0_2 l0_2.length c0_2, .slice A0_3 l0_3.length c0_3, .int .u32 a0_4, .int .u32 a0_5] 46)).alloc (.cells #[.int .u32 a1_0, .int .i64 a1_1, .slice A1_2 l1_2.length c1_2, .slice A1_3 l1_3.length c1_3, .int .u32 a1_4, .int .u32 a1_5, .int .i64 a1_6, .int .u32 a1_7] 50)) (Kd.C_below hr0_1 hB) hc0_1 (Kd.C_below hr0_2 hB) hc0_2 (Kd.C_below hr0_3 hB) hc0_3 hR)
 have HB := aM hB
 have H2 := aM (fun W (hb : Below w.heap.size w W) => pfx_Match.calls A0_1 c0_1 l0_1 a1_0 a1_1 r W (Kd.C_below hr0_1 hb) hc0_1 h2)
 clear hB hr0_1 hr0_2 hr0_3 hr1_2 hr1_3 hR h2
 go_enter Try.func34, Try.ntmps34
 go_wp2_with (first | ((with_reducible refine H.out.mono ?_); rintro e w1 ⟨rfl, hb1⟩; have hB1 := aM (below_step HB.out hb1); have q0 : w1.cell? ⟨w.heap.size, 0, none⟩ = some (.int .i64 1) := (hb1.cell (p := ⟨w.heap.size, 0, none⟩) (by simp <;> omega)).trans (by simp); have q1 : w1.cell? ⟨w.heap.size, 1, none⟩ = some (.slice A0_1 l0_1.length c0_1) := (hb1.cell (p := ⟨w.heap.size, 1, none⟩) (by simp <;> omega)).trans (by simp); have q2 : w1.cell? ⟨w.heap.size, 2, none⟩ = some (.slice A0_2 l0_2.length c0_2) := (hb1.cell (p := ⟨w.heap.size, 2, none⟩) (by simp <;> omega)).trans (by simp); have q3 : w1.cell? ⟨w.heap.size, 3, none⟩ = some (.slice A0_3 l0_3.length c0_3) := (hb1.cell (p := ⟨w.heap.size, 3, none⟩) (by simp <;> omega)).trans (by simp); have q4 : w1.cell? ⟨w.heap.size, 4, none⟩ = some (.int .u32 a0_4) := (hb1.cell (p := ⟨w.heap.size, 4, none⟩) (by simp <;> omega)).trans (by simp); have q5 : w1.cell? ⟨w.heap.size, 5, none⟩ = some (.int .u32 a0_5) := (hb1.cell (p := ⟨w.heap.size, 5, none⟩) (by simp <;> omega)).trans (by simp); have q6 : w1.cell? ⟨w.heap.size + 1, 0, none⟩ = some (.int .u32 a1_0) := (hb1.cell (p := ⟨w.heap.size + 1, 0, none⟩) (by simp <;> omega)).trans (by simp); have q7 : w1.cell? ⟨w.heap.size + 1, 1, none⟩ = some (.int .i64 a1_1) := (hb1.cell (p := ⟨w.heap.size + 1, 1, none⟩) (by simp <;> omega)).trans (by simp); have q8 : w1.cell? ⟨w.heap.size + 1, 2, none⟩ = some (.slice A1_2 l1_2.length c1_2) := (hb1.cell (p := ⟨w.heap.size + 1, 2, none⟩) (by simp <;> omega)).trans (by simp); have q9 : w1.cell? ⟨w.heap.size + 1, 3, none⟩ = some (.slice A1_3 l1_3.length c1_3) := (hb1.cell (p := ⟨w.heap.size + 1, 3, none⟩) (by simp <;> omega)).trans (by simp); have q10 : w1.cell? ⟨w.heap.size + 1, 4, none⟩ = some (.int .u32 a1_4) := (hb1.cell (p := ⟨w.heap.size + 1, 4, none⟩) (by simp <;> omega)).trans (by simp); have q11 : w1.cell? ⟨w.heap.size + 1, 5, none⟩ = some (.int .u32 a1_5) := (hb1.cell (p := ⟨w.heap.size + 1, 5, none⟩) (by simp <;> omega)).trans (by simp); have q12 : w1.cell? ⟨w.heap.size + 1, 6, none⟩ = some (.int .i64 a1_6) := (hb1.cell (p := ⟨w.heap.size + 1, 6, none⟩) (by simp <;> omega)).trans (by simp); have q13 : w1.cell? ⟨w.heap.size + 1, 7, none⟩ = some (.int .u32 a1_7) := (hb1.cell (p := ⟨w.heap.size + 1, 7, none⟩) (by simp <;> omega)).trans (by simp)) | ((with_reducible refine (H2.out _ hB1.out).mono ?_); rintro e w2 ⟨rfl, hb2⟩))
 go_ret
 exact ⟨rfl, below_step hB1.out hb2⟩
set_option maxHeartbeats 8000000 in
set_option maxRecDepth 100000 in
theorem Holds_path (k : Nat) (A0_1 : Option Addr) (c0_1 : Nat) (l0_1 : List S83) (A0_2 : Option Addr) (c0_2 : Nat) (l0_2 : List S61) (A0_3 : Option Addr) (c0_3 : Nat) (l0_3 : List S64) (a0_4 a0_5 : Int) (a1_0 a1_1 : Int) (A1_2 : Option Addr) (c1_2 : Nat) (l1_2 : List Int) (A1_3 : Option Addr) (c1_3 : Nat) (l1_3 : List Int) (a1_4 a1_5 a1_6 a1_7 : Int) (r : Bool) (w : World) (hr0_1 : Kd.C k83 w A0_1 l0_1.length l0_1) (hc0_1 : l0_1.length ≤ c0_1) (hr0_2 : Kd.C k61 w A0_2 l0_2.length l0_2) (hc0_2 : l0_2.length ≤ c0_2) (hr0_3 : Kd.C k64 w A0_3 l0_3.length l0_3) (hc0_3 : l0_3.length ≤ c0_3) (hr1_2 : Kd.C (Kd.int .u32) w A1_2 l1_2.length l1_2) (hc1_2 : l1_2.length ≤ c1_2) (hr1_3 : Kd.C (Kd.int .u32) w A1_3 l1_3.length l1_3) (hc1_3 : l1_3.length ≤ c1_3) (hR : cond_Right.f k 2 l0_1 l0_2 l0_3 a0_4 a0_5 = some true) (h2 : cond_TakesPath.f k l0_2 l1_2 = some r) :
 Calls Try.prog 34 #[.agg #[.int .i64 2, .slice A0_1 l0_1.length c0_1, .slice A0_2 l0_2.length c0_2, .slice A0_3 l0_3.length c0_3, .int .u32 a0_4, .int .u32 a0_5], .agg #[.int .u32 a1_0, .int .i64 a1_1, .slice A1_2 l1_2.length c1_2, .slice A1_3 l1_3.length c1_3, .int .u32 a1_4, .int .u32 a1_5, .int .i64 a1_6, .int .u32 a1_7]] w fun e w' => e = .returned (.bool r) ∧ Below w.heap.size w w' := by
 have hu1 := Try.underlying46
 have hu2 := Try.underlying50
 have hu3 := Try.underlying48
 have hB : Below w.heap.size w ((w.alloc (.cells #[.int .i64 2, .slice A0_1 l0_1.length c0_1, .slice A0_2 l0_2.length c0_2, .slice A0_3 l0_3.length c0_3, .int .u32 a0_4, .int .u32 a0_5] 46)).alloc (.cells #[.int .u32 a1_0, .int .i64 a1_1, .slice A1_2 l1_2.length c1_2, .slice A1_3 l1_3.length c1_3, .int .u32 a1_4, .int .u32 a1_5, .int .i64 a1_6, .int .u32 a1_7] 50)) := below_alloc (below_alloc (Below.refl _ _) _) _
 have H := aM (cond_Right.calls k 2 A0_1 c0_1 l0_1 A0_2 c0_2 l0_2 A0_3 c0_3 l0_3 a0_4 a0_5 true ((w.alloc (.cells #[.int .i64 2, .slice A0_1 l0_1.length c0_1, .slice A0_2 l0_2.length c0_2, .slice A0_3 l0_3.length c0_3, .int .u32 a0_4, .int .u32 a0_5] 46)).alloc (.cells #[.int .u32 a1_0, .int .i64 a1_1, .slice A1_2 l1_2.length c1_2, .slice A1_3 l1_3.length c1_3, .int .u32 a1_4, .int .u32 a1_5, .int .i64 a1_6, .int .u32 a1_7] 50)) (Kd.C_below hr0_1 hB) hc0_1 (Kd.C_below hr0_2 hB) hc0_2 (Kd.C_below hr0_3 hB) hc0_3 hR)
 have HB := aM hB
 have H2 := aM (fun W (hb : Below w.heap.size w W) => cond_TakesPath.calls k A0_2 c0_2 l0_2 A1_2 c1_2 l1_2 r W (Kd.C_below hr0_2 hb) hc0_2 (Kd.C_below hr1_2 hb) hc1_2 h2)
 clear hB hr0_1 hr0_2 hr0_3 hr1_2 hr1_3 hR h2
 go_enter Try.func34, Try.ntmps34
 go_wp2_with (first | ((with_reducible refine H.out.mono ?_); rintro e w1 ⟨rfl, hb1⟩; have hB1 := aM (below_step HB.out hb1); have q0 : w1.cell? ⟨w.heap.size, 0, none⟩ = some (.int .i64 2) := (hb1.cell (p := ⟨w.heap.size, 0, none⟩) (by simp <;> omega)).trans (by simp); have q1 : w1.cell? ⟨w.heap.size, 1, none⟩ = some (.slice A0_1 l0_1.length c0_1) := (hb1.cell (p := ⟨w.heap.size, 1, none⟩) (by simp <;> omega)).trans (by simp); have q2 : w1.cell? ⟨w.heap.size, 2, none⟩ = some (.slice A0_2 l0_2.length c0_2) := (hb1.cell (p := ⟨w.heap.size, 2, none⟩) (by simp <;> omega)).trans (by simp); have q3 : w1.cell? ⟨w.heap.size, 3, none⟩ = some (.slice A0_3 l0_3.length c0_3) := (hb1.cell (p := ⟨w.heap.size, 3, none⟩) (by simp <;> omega)).trans (by simp); have q4 : w1.cell? ⟨w.heap.size, 4, none⟩ = some (.int .u32 a0_4) := (hb1.cell (p := ⟨w.heap.size, 4, none⟩) (by simp <;> omega)).trans (by simp); have q5 : w1.cell? ⟨w.heap.size, 5, none⟩ = some (.int .u32 a0_5) := (hb1.cell (p := ⟨w.heap.size, 5, none⟩) (by simp <;> omega)).trans (by simp); have q6 : w1.cell? ⟨w.heap.size + 1, 0, none⟩ = some (.int .u32 a1_0) := (hb1.cell (p := ⟨w.heap.size + 1, 0, none⟩) (by simp <;> omega)).trans (by simp); have q7 : w1.cell? ⟨w.heap.size + 1, 1, none⟩ = some (.int .i64 a1_1) := (hb1.cell (p := ⟨w.heap.size + 1, 1, none⟩) (by simp <;> omega)).trans (by simp); have q8 : w1.cell? ⟨w.heap.size + 1, 2, none⟩ = some (.slice A1_2 l1_2.length c1_2) := (hb1.cell (p := ⟨w.heap.size + 1, 2, none⟩) (by simp <;> omega)).trans (by simp); have q9 : w1.cell? ⟨w.heap.size + 1, 3, none⟩ = some (.slice A1_3 l1_3.length c1_3) := (hb1.cell (p := ⟨w.heap.size + 1, 3, none⟩) (by simp <;> omega)).trans (by simp); have q10 : w1.cell? ⟨w.heap.size + 1, 4, none⟩ = some (.int .u32 a1_4) := (hb1.cell (p := ⟨w.heap.size + 1, 4, none⟩) (by simp <;> omega)).trans (by simp); have q11 : w1.cell? ⟨w.heap.size + 1, 5, none⟩ = some (.int .u32 a1_5) := (hb1.cell (p := ⟨w.heap.size + 1, 5, none⟩) (by simp <;> omega)).trans (by simp); have q12 : w1.cell? ⟨w.heap.size + 1, 6, none⟩ = some (.int .i64 a1_6) := (hb1.cell (p := ⟨w.heap.size + 1, 6, none⟩) (by simp <;> omega)).trans (by simp); have q13 : w1.cell? ⟨w.heap.size + 1, 7, none⟩ = some (.int .u32 a1_7) := (hb1.cell (p := ⟨w.heap.size + 1, 7, none⟩) (by simp <;> omega)).trans (by simp)) | ((with_reducible refine (H2.out _ hB1.out).mono ?_); rintro e w2 ⟨rfl, hb2⟩))
 go_ret
 exact ⟨rfl, below_step hB1.out hb2⟩
set_option maxHeartbeats 8000000 in
set_option maxRecDepth 100000 in
theorem Holds_comm (k : Nat) (A0_1 : Option Addr) (c0_1 : Nat) (l0_1 : List S83) (A0_2 : Option Addr) (c0_2 : Nat) (l0_2 : List S61) (A0_3 : Option Addr) (c0_3 : Nat) (l0_3 : List S64) (a0_4 a0_5 : Int) (a1_0 a1_1 : Int) (A1_2 : Option Addr) (c1_2 : Nat) (l1_2 : List Int) (A1_3 : Option Addr) (c1_3 : Nat) (l1_3 : List Int) (a1_4 a1_5 a1_6 a1_7 : Int) (r : Bool) (w : World) (hr0_1 : Kd.C k83 w A0_1 l0_1.length l0_1) (hc0_1 : l0_1.length ≤ c0_1) (hr0_2 : Kd.C k61 w A0_2 l0_2.length l0_2) (hc0_2 : l0_2.length ≤ c0_2) (hr0_3 : Kd.C k64 w A0_3 l0_3.length l0_3) (hc0_3 : l0_3.length ≤ c0_3) (hr1_2 : Kd.C (Kd.int .u32) w A1_2 l1_2.length l1_2) (hc1_2 : l1_2.length ≤ c1_2) (hr1_3 : Kd.C (Kd.int .u32) w A1_3 l1_3.length l1_3) (hc1_3 : l1_3.length ≤ c1_3) (hR : cond_Right.f k 3 l0_1 l0_2 l0_3 a0_4 a0_5 = some true) (h2 : cond_TakesComms.f l0_3 l1_3 = some r) :
 Calls Try.prog 34 #[.agg #[.int .i64 3, .slice A0_1 l0_1.length c0_1, .slice A0_2 l0_2.length c0_2, .slice A0_3 l0_3.length c0_3, .int .u32 a0_4, .int .u32 a0_5], .agg #[.int .u32 a1_0, .int .i64 a1_1, .slice A1_2 l1_2.length c1_2, .slice A1_3 l1_3.length c1_3, .int .u32 a1_4, .int .u32 a1_5, .int .i64 a1_6, .int .u32 a1_7]] w fun e w' => e = .returned (.bool r) ∧ Below w.heap.size w w' := by
 have hu1 := Try.underlying46
 have hu2 := Try.underlying50
 have hu3 := Try.underlying48
 have hB : Below w.heap.size w ((w.alloc (.cells #[.int .i64 3, .slice A0_1 l0_1.length c0_1, .slice A0_2 l0_2.length c0_2, .slice A0_3 l0_3.length c0_3, .int .u32 a0_4, .int .u32 a0_5] 46)).alloc (.cells #[.int .u32 a1_0, .int .i64 a1_1, .slice A1_2 l1_2.length c1_2, .slice A1_3 l1_3.length c1_3, .int .u32 a1_4, .int .u32 a1_5, .int .i64 a1_6, .int .u32 a1_7] 50)) := below_alloc (below_alloc (Below.refl _ _) _) _
 have H := aM (cond_Right.calls k 3 A0_1 c0_1 l0_1 A0_2 c0_2 l0_2 A0_3 c0_3 l0_3 a0_4 a0_5 true ((w.alloc (.cells #[.int .i64 3, .slice A0_1 l0_1.length c0_1, .slice A0_2 l0_2.length c0_2, .slice A0_3 l0_3.length c0_3, .int .u32 a0_4, .int .u32 a0_5] 46)).alloc (.cells #[.int .u32 a1_0, .int .i64 a1_1, .slice A1_2 l1_2.length c1_2, .slice A1_3 l1_3.length c1_3, .int .u32 a1_4, .int .u32 a1_5, .int .i64 a1_6, .int .u32 a1_7] 50)) (Kd.C_below hr0_1 hB) hc0_1 (Kd.C_below hr0_2 hB) hc0_2 (Kd.C_below hr0_3 hB) hc0_3 hR)
 have HB := aM hB
 have H2 := aM (fun W (hb : Below w.heap.size w W) => cond_TakesComms.calls A0_3 c0_3 l0_3 A1_3 c1_3 l1_3 r W (Kd.C_below hr0_3 hb) hc0_3 (Kd.C_below hr1_3 hb) hc1_3 h2)
 clear hB hr0_1 hr0_2 hr0_3 hr1_2 hr1_3 hR h2
 go_enter Try.func34, Try.ntmps34
 go_wp2_with (first | ((with_reducible refine H.out.mono ?_); rintro e w1 ⟨rfl, hb1⟩; have hB1 := aM (below_step HB.out hb1); have q0 : w1.cell? ⟨w.heap.size, 0, none⟩ = some (.int .i64 3) := (hb1.cell (p := ⟨w.heap.size, 0, none⟩) (by simp <;> omega)).trans (by simp); have q1 : w1.cell? ⟨w.heap.size, 1, none⟩ = some (.slice A0_1 l0_1.length c0_1) := (hb1.cell (p := ⟨w.heap.size, 1, none⟩) (by simp <;> omega)).trans (by simp); have q2 : w1.cell? ⟨w.heap.size, 2, none⟩ = some (.slice A0_2 l0_2.length c0_2) := (hb1.cell (p := ⟨w.heap.size, 2, none⟩) (by simp <;> omega)).trans (by simp); have q3 : w1.cell? ⟨w.heap.size, 3, none⟩ = some (.slice A0_3 l0_3.length c0_3) := (hb1.cell (p := ⟨w.heap.size, 3, none⟩) (by simp <;> omega)).trans (by simp); have q4 : w1.cell? ⟨w.heap.size, 4, none⟩ = some (.int .u32 a0_4) := (hb1.cell (p := ⟨w.heap.size, 4, none⟩) (by simp <;> omega)).trans (by simp); have q5 : w1.cell? ⟨w.heap.size, 5, none⟩ = some (.int .u32 a0_5) := (hb1.cell (p := ⟨w.heap.size, 5, none⟩) (by simp <;> omega)).trans (by simp); have q6 : w1.cell? ⟨w.heap.size + 1, 0, none⟩ = some (.int .u32 a1_0) := (hb1.cell (p := ⟨w.heap.size + 1, 0, none⟩) (by simp <;> omega)).trans (by simp); have q7 : w1.cell? ⟨w.heap.size + 1, 1, none⟩ = some (.int .i64 a1_1) := (hb1.cell (p := ⟨w.heap.size + 1, 1, none⟩) (by simp <;> omega)).trans (by simp); have q8 : w1.cell? ⟨w.heap.size + 1, 2, none⟩ = some (.slice A1_2 l1_2.length c1_2) := (hb1.cell (p := ⟨w.heap.size + 1, 2, none⟩) (by simp <;> omega)).trans (by simp); have q9 : w1.cell? ⟨w.heap.size + 1, 3, none⟩ = some (.slice A1_3 l1_3.length c1_3) := (hb1.cell (p := ⟨w.heap.size + 1, 3, none⟩) (by simp <;> omega)).trans (by simp); have q10 : w1.cell? ⟨w.heap.size + 1, 4, none⟩ = some (.int .u32 a1_4) := (hb1.cell (p := ⟨w.heap.size + 1, 4, none⟩) (by simp <;> omega)).trans (by simp); have q11 : w1.cell? ⟨w.heap.size + 1, 5, none⟩ = some (.int .u32 a1_5) := (hb1.cell (p := ⟨w.heap.size + 1, 5, none⟩) (by simp <;> omega)).trans (by simp); have q12 : w1.cell? ⟨w.heap.size + 1, 6, none⟩ = some (.int .i64 a1_6) := (hb1.cell (p := ⟨w.heap.size + 1, 6, none⟩) (by simp <;> omega)).trans (by simp); have q13 : w1.cell? ⟨w.heap.size + 1, 7, none⟩ = some (.int .u32 a1_7) := (hb1.cell (p := ⟨w.heap.size + 1, 7, none⟩) (by simp <;> omega)).trans (by simp)) | ((with_reducible refine (H2.out _ hB1.out).mono ?_); rintro e w2 ⟨rfl, hb2⟩))
 go_ret
 exact ⟨rfl, below_step hB1.out hb2⟩
set_option maxHeartbeats 8000000 in
set_option maxRecDepth 100000 in
theorem Holds_pref (k : Nat) (A0_1 : Option Addr) (c0_1 : Nat) (l0_1 : List S83) (A0_2 : Option Addr) (c0_2 : Nat) (l0_2 : List S61) (A0_3 : Option Addr) (c0_3 : Nat) (l0_3 : List S64) (a0_4 a0_5 : Int) (a1_0 a1_1 : Int) (A1_2 : Option Addr) (c1_2 : Nat) (l1_2 : List Int) (A1_3 : Option Addr) (c1_3 : Nat) (l1_3 : List Int) (a1_4 a1_5 a1_6 a1_7 : Int) (r : Bool) (w : World) (hr0_1 : Kd.C k83 w A0_1 l0_1.length l0_1) (hc0_1 : l0_1.length ≤ c0_1) (hr0_2 : Kd.C k61 w A0_2 l0_2.length l0_2) (hc0_2 : l0_2.length ≤ c0_2) (hr0_3 : Kd.C k64 w A0_3 l0_3.length l0_3) (hc0_3 : l0_3.length ≤ c0_3) (hr1_2 : Kd.C (Kd.int .u32) w A1_2 l1_2.length l1_2) (hc1_2 : l1_2.length ≤ c1_2) (hr1_3 : Kd.C (Kd.int .u32) w A1_3 l1_3.length l1_3) (hc1_3 : l1_3.length ≤ c1_3) (hR : cond_Right.f k 4 l0_1 l0_2 l0_3 a0_4 a0_5 = some true) (h2 : betw a0_4 a0_5 a1_4 = r) :
 Calls Try.prog 34 #[.agg #[.int .i64 4, .slice A0_1 l0_1.length c0_1, .slice A0_2 l0_2.length c0_2, .slice A0_3 l0_3.length c0_3, .int .u32 a0_4, .int .u32 a0_5], .agg #[.int .u32 a1_0, .int .i64 a1_1, .slice A1_2 l1_2.length c1_2, .slice A1_3 l1_3.length c1_3, .int .u32 a1_4, .int .u32 a1_5, .int .i64 a1_6, .int .u32 a1_7]] w fun e w' => e = .returned (.bool r) ∧ Below w.heap.size w w' := by
 have hu1 := Try.underlying46
 have hu2 := Try.underlying50
 have hu3 := Try.underlying48
 have hB : Below w.heap.size w ((w.alloc (.cells #[.int .i64 4, .slice A0_1 l0_1.length c0_1, .slice A0_2 l0_2.length c0_2, .slice A0_3 l0_3.length c0_3, .int .u32 a0_4, .int .u32 a0_5] 46)).alloc (.cells #[.int .u32 a1_0, .int .i64 a1_1, .slice A1_2 l1_2.length c1_2, .slice A1_3 l1_3.length c1_3, .int .u32 a1_4, .int .u32 a1_5, .int .i64 a1_6, .int .u32 a1_7] 50)) := below_alloc (below_alloc (Below.refl _ _) _) _
 have H := aM (cond_Right.calls k 4 A0_1 c0_1 l0_1 A0_2 c0_2 l0_2 A0_3 c0_3 l0_3 a0_4 a0_5 true ((w.alloc (.cells #[.int .i64 4, .slice A0_1 l0_1.length c0_1, .slice A0_2 l0_2.length c0_2, .slice A0_3 l0_3.length c0_3, .int .u32 a0_4, .int .u32 a0_5] 46)).alloc (.cells #[.int .u32 a1_0, .int .i64 a1_1, .slice A1_2 l1_2.length c1_2, .slice A1_3 l1_3.length c1_3, .int .u32 a1_4, .int .u32 a1_5, .int .i64 a1_6, .int .u32 a1_7] 50)) (Kd.C_below hr0_1 hB) hc0_1 (Kd.C_below hr0_2 hB) hc0_2 (Kd.C_below hr0_3 hB) hc0_3 hR)
 have HB := aM hB
 subst h2
 have H2 := aM (fun W (_ : Below w.heap.size w W) h4 h5 => cond_Holds_1 w.heap.size a0_4 a0_5 a1_4 W h4 h5)
 generalize betw a0_4 a0_5 a1_4 = r at H2
 clear hB hr0_1 hr0_2 hr0_3 hr1_2 hr1_3 hR
 go_enter Try.func34, Try.ntmps34
 go_wp2_with (first | ((with_reducible refine H.out.mono ?_); rintro e w1 ⟨rfl, hb1⟩; have hB1 := aM (below_step HB.out hb1); have q0 : w1.cell? ⟨w.heap.size, 0, none⟩ = some (.int .i64 4) := (hb1.cell (p := ⟨w.heap.size, 0, none⟩) (by simp <;> omega)).trans (by simp); have q1 : w1.cell? ⟨w.heap.size, 1, none⟩ = some (.slice A0_1 l0_1.length c0_1) := (hb1.cell (p := ⟨w.heap.size, 1, none⟩) (by simp <;> omega)).trans (by simp); have q2 : w1.cell? ⟨w.heap.size, 2, none⟩ = some (.slice A0_2 l0_2.length c0_2) := (hb1.cell (p := ⟨w.heap.size, 2, none⟩) (by simp <;> omega)).trans (by simp); have q3 : w1.cell? ⟨w.heap.size, 3, none⟩ = some (.slice A0_3 l0_3.length c0_3) := (hb1.cell (p := ⟨w.heap.size, 3, none⟩) (by simp <;> omega)).trans (by simp); have q4 : w1.cell? ⟨w.heap.size, 4, none⟩ = some (.int .u32 a0_4) := (hb1.cell (p := ⟨w.heap.size, 4, none⟩) (by simp <;> omega)).trans (by simp); have q5 : w1.cell? ⟨w.heap.size, 5, none⟩ = some (.int .u32 a0_5) := (hb1.cell (p := ⟨w.heap.size, 5, none⟩) (by simp <;> omega)).trans (by simp); have q6 : w1.cell? ⟨w.heap.size + 1, 0, none⟩ = some (.int .u32 a1_0) := (hb1.cell (p := ⟨w.heap.size + 1, 0, none⟩) (by simp <;> omega)).trans (by simp); have q7 : w1.cell? ⟨w.heap.size + 1, 1, none⟩ = some (.int .i64 a1_1) := (hb1.cell (p := ⟨w.heap.size + 1, 1, none⟩) (by simp <;> omega)).trans (by simp); have q8 : w1.cell? ⟨w.heap.size + 1, 2, none⟩ = some (.slice A1_2 l1_2.length c1_2) := (hb1.cell (p := ⟨w.heap.size + 1, 2, none⟩) (by simp <;> omega)).trans (by simp); have q9 : w1.cell? ⟨w.heap.size + 1, 3, none⟩ = some (.slice A1_3 l1_3.length c1_3) := (hb1.cell (p := ⟨w.heap.size + 1, 3, none⟩) (by simp <;> omega)).trans (by simp); have q10 : w1.cell? ⟨w.heap.size + 1, 4, none⟩ = some (.int .u32 a1_4) := (hb1.cell (p := ⟨w.heap.size + 1, 4, none⟩) (by simp <;> omega)).trans (by simp); have q11 : w1.cell? ⟨w.heap.size + 1, 5, none⟩ = some (.int .u32 a1_5) := (hb1.cell (p := ⟨w.heap.size + 1, 5, none⟩) (by simp <;> omega)).trans (by simp); have q12 : w1.cell? ⟨w.heap.size + 1, 6, none⟩ = some (.int .i64 a1_6) := (hb1.cell (p := ⟨w.heap.size + 1, 6, none⟩) (by simp <;> omega)).trans (by simp); have q13 : w1.cell? ⟨w.heap.size + 1, 7, none⟩ = some (.int .u32 a1_7) := (hb1.cell (p := ⟨w.heap.size + 1, 7, none⟩) (by simp <;> omega)).trans (by simp)) | ((with_reducible refine (H2.out _ hB1.out q4 q5).mono ?_); rintro e w2 ⟨rfl, hb2⟩))
 go_ret
 exact ⟨rfl, below_step hB1.out hb2⟩
set_option maxHeartbeats 8000000 in
set_option maxRecDepth 100000 in
theorem Holds_med (k : Nat) (A0_1 : Option Addr) (c0_1 : Nat) (l0_1 : List S83) (A0_2 : Option Addr) (c0_2 : Nat) (l0_2 : List S61) (A0_3 : Option Addr) (c0_3 : Nat) (l0_3 : List S64) (a0_4 a0_5 : Int) (a1_0 a1_1 : Int) (A1_2 : Option Addr) (c1_2 : Nat) (l1_2 : List Int) (A1_3 : Option Addr) (c1_3 : Nat) (l1_3 : List Int) (a1_4 a1_5 a1_6 a1_7 : Int) (r : Bool) (w : World) (hr0_1 : Kd.C k83 w A0_1 l0_1.length l0_1) (hc0_1 : l0_1.length ≤ c0_1) (hr0_2 : Kd.C k61 w A0_2 l0_2.length l0_2) (hc0_2 : l0_2.length ≤ c0_2) (hr0_3 : Kd.C k64 w A0_3 l0_3.length l0_3) (hc0_3 : l0_3.length ≤ c0_3) (hr1_2 : Kd.C (Kd.int .u32) w A1_2 l1_2.length l1_2) (hc1_2 : l1_2.length ≤ c1_2) (hr1_3 : Kd.C (Kd.int .u32) w A1_3 l1_3.length l1_3) (hc1_3 : l1_3.length ≤ c1_3) (hR : cond_Right.f k 5 l0_1 l0_2 l0_3 a0_4 a0_5 = some true) (h2 : betw a0_4 a0_5 a1_5 = r) :
 Calls Try.prog 34 #[.agg #[.int .i64 5, .slice A0_1 l0_1.length c0_1, .slice A0_2 l0_2.length c0_2, .slice A0_3 l0_3.length c0_3, .int .u32 a0_4, .int .u32 a0_5], .agg #[.int .u32 a1_0, .int .i64 a1_1, .slice A1_2 l1_2.length c1_2, .slice A1_3 l1_3.length c1_3, .int .u32 a1_4, .int .u32 a1_5, .int .i64 a1_6, .int .u32 a1_7]] w fun e w' => e = .returned (.bool r) ∧ Below w.heap.size w w' := by
 have hu1 := Try.underlying46
 have hu2 := Try.underlying50
 have hu3 := Try.underlying48
 have hB : Below w.heap.size w ((w.alloc (.cells #[.int .i64 5, .slice A0_1 l0_1.length c0_1, .slice A0_2 l0_2.length c0_2, .slice A0_3 l0_3.length c0_3, .int .u32 a0_4, .int .u32 a0_5] 46)).alloc (.cells #[.int .u32 a1_0, .int .i64 a1_1, .slice A1_2 l1_2.length c1_2, .slice A1_3 l1_3.length c1_3, .int .u32 a1_4, .int .u32 a1_5, .int .i64 a1_6, .int .u32 a1_7] 50)) := below_alloc (below_alloc (Below.refl _ _) _) _
 have H := aM (cond_Right.calls k 5 A0_1 c0_1 l0_1 A0_2 c0_2 l0_2 A0_3 c0_3 l0_3 a0_4 a0_5 true ((w.alloc (.cells #[.int .i64 5, .slice A0_1 l0_1.length c0_1, .slice A0_2 l0_2.length c0_2, .slice A0_3 l0_3.length c0_3, .int .u32 a0_4, .int .u32 a0_5] 46)).alloc (.cells #[.int .u32 a1_0, .int .i64 a1_1, .slice A1_2 l1_2.length c1_2, .slice A1_3 l1_3.length c1_3, .int .u32 a1_4, .int .u32 a1_5, .int .i64 a1_6, .int .u32 a1_7] 50)) (Kd.C_below hr0_1 hB) hc0_1 (Kd.C_below hr0_2 hB) hc0_2 (Kd.C_below hr0_3 hB) hc0_3 hR)
 have HB := aM hB
 subst h2
 have H2 := aM (fun W (_ : Below w.heap.size w W) h4 h5 => cond_Holds_1 w.heap.size a0_4 a0_5 a1_5 W h4 h5)
 generalize betw a0_4 a0_5 a1_5 = r at H2
 clear hB hr0_1 hr0_2 hr0_3 hr1_2 hr1_3 hR
 go_enter Try.func34, Try.ntmps34
 go_wp2_with (first | ((with_reducible refine H.out.mono ?_); rintro e w1 ⟨rfl, hb1⟩; have hB1 := aM (below_step HB.out hb1); have q0 : w1.cell? ⟨w.heap.size, 0, none⟩ = some (.int .i64 5) := (hb1.cell (p := ⟨w.heap.size, 0, none⟩) (by simp <;> omega)).trans (by simp); have q1 : w1.cell? ⟨w.heap.size, 1, none⟩ = some (.slice A0_1 l0_1.length c0_1) := (hb1.cell (p := ⟨w.heap.size, 1, none⟩) (by simp <;> omega)).trans (by simp); have q2 : w1.cell? ⟨w.heap.size, 2, none⟩ = some (.slice A0_2 l0_2.length c0_2) := (hb1.cell (p := ⟨w.heap.size, 2, none⟩) (by simp <;> omega)).trans (by simp); have q3 : w1.cell? ⟨w.heap.size, 3, none⟩ = some (.slice A0_3 l0_3.length c0_3) := (hb1.cell (p := ⟨w.heap.size, 3, none⟩) (by simp <;> omega)).trans (by simp); have q4 : w1.cell? ⟨w.heap.size, 4, none⟩ = some (.int .u32 a0_4) := (hb1.cell (p := ⟨w.heap.size, 4, none⟩) (by simp <;> omega)).trans (by simp); have q5 : w1.cell? ⟨w.heap.size, 5, none⟩ = some (.int .u32 a0_5) := (hb1.cell (p := ⟨w.heap.size, 5, none⟩) (by simp <;> omega)).trans (by simp); have q6 : w1.cell? ⟨w.heap.size + 1, 0, none⟩ = some (.int .u32 a1_0) := (hb1.cell (p := ⟨w.heap.size + 1, 0, none⟩) (by simp <;> omega)).trans (by simp); have q7 : w1.cell? ⟨w.heap.size + 1, 1, none⟩ = some (.int .i64 a1_1) := (hb1.cell (p := ⟨w.heap.size + 1, 1, none⟩) (by simp <;> omega)).trans (by simp); have q8 : w1.cell? ⟨w.heap.size + 1, 2, none⟩ = some (.slice A1_2 l1_2.length c1_2) := (hb1.cell (p := ⟨w.heap.size + 1, 2, none⟩) (by simp <;> omega)).trans (by simp); have q9 : w1.cell? ⟨w.heap.size + 1, 3, none⟩ = some (.slice A1_3 l1_3.length c1_3) := (hb1.cell (p := ⟨w.heap.size + 1, 3, none⟩) (by simp <;> omega)).trans (by simp); have q10 : w1.cell? ⟨w.heap.size + 1, 4, none⟩ = some (.int .u32 a1_4) := (hb1.cell (p := ⟨w.heap.size + 1, 4, none⟩) (by simp <;> omega)).trans (by simp); have q11 : w1.cell? ⟨w.heap.size + 1, 5, none⟩ = some (.int .u32 a1_5) := (hb1.cell (p := ⟨w.heap.size + 1, 5, none⟩) (by simp <;> omega)).trans (by simp); have q12 : w1.cell? ⟨w.heap.size + 1, 6, none⟩ = some (.int .i64 a1_6) := (hb1.cell (p := ⟨w.heap.size + 1, 6, none⟩) (by simp <;> omega)).trans (by simp); have q13 : w1.cell? ⟨w.heap.size + 1, 7, none⟩ = some (.int .u32 a1_7) := (hb1.cell (p := ⟨w.heap.size + 1, 7, none⟩) (by simp <;> omega)).trans (by simp)) | ((with_reducible refine (H2.out _ hB1.out q4 q5).mono ?_); rintro e w2 ⟨rfl, hb2⟩))
 go_ret
 exact ⟨rfl, below_step hB1.out hb2⟩
set_option maxHeartbeats 8000000 in
set_option maxRecDepth 100000 in
theorem Holds_hop (k : Nat) (a0_0 : Int) (A0_1 : Option Addr) (c0_1 : Nat) (l0_1 : List S83) (A0_2 : Option Addr) (c0_2 : Nat) (l0_2 : List S61) (A0_3 : Option Addr) (c0_3 : Nat) (l0_3 : List S64) (a0_4 a0_5 : Int) (a1_0 a1_1 : Int) (A1_2 : Option Addr) (c1_2 : Nat) (l1_2 : List Int) (A1_3 : Option Addr) (c1_3 : Nat) (l1_3 : List Int) (a1_4 a1_5 a1_6 a1_7 : Int) (r : Bool) (w : World) (hr0_1 : Kd.C k83 w A0_1 l0_1.length l0_1) (hc0_1 : l0_1.length ≤ c0_1) (hr0_2 : Kd.C k61 w A0_2 l0_2.length l0_2) (hc0_2 : l0_2.length ≤ c0_2) (hr0_3 : Kd.C k64 w A0_3 l0_3.length l0_3) (hc0_3 : l0_3.length ≤ c0_3) (hr1_2 : Kd.C (Kd.int .u32) w A1_2 l1_2.length l1_2) (hc1_2 : l1_2.length ≤ c1_2) (hr1_3 : Kd.C (Kd.int .u32) w A1_3 l1_3.length l1_3) (hc1_3 : l1_3.length ≤ c1_3) (n1 : (a0_0 == 1) = false) (n2 : (a0_0 == 2) = false) (n3 : (a0_0 == 3) = false) (n4 : (a0_0 == 4) = false) (n5 : (a0_0 == 5) = false) (n6 : (a0_0 == 6) = false) (hR : cond_Right.f k a0_0 l0_1 l0_2 l0_3 a0_4 a0_5 = some true) (h2 : pfx_Match.f l0_1 a1_7 32 = some r) :
 Calls Try.prog 34 #[.agg #[.int .i64 a0_0, .slice A0_1 l0_1.length c0_1, .slice A0_2 l0_2.length c0_2, .slice A0_3 l0_3.length c0_3, .int .u32 a0_4, .int .u32 a0_5], .agg #[.int .u32 a1_0, .int .i64 a1_1, .slice A1_2 l1_2.length c1_2, .slice A1_3 l1_3.length c1_3, .int .u32 a1_4, .int .u32 a1_5, .int .i64 a1_6, .int .u32 a1_7]] w fun e w' => e = .returned (.bool r) ∧ Below w.heap.size w w' := by
 have hu1 := Try.underlying46
 have hu2 := Try.underlying50
 have hu3 := Try.underlying48
 have hB : Below w.heap.size w ((w.alloc (.cells #[.int .i64 a0_0, .slice A0_1 l0_1.length c0_1, .slice A0_2 l0_2.length c0_2, .slice A0_3 l0_3.length c0_3, .int .u32 a0_4, .int .u32 a0_5] 46)).alloc (.cells #[.int .u32 a1_0, .int .i64 a1_1, .slice A1_2 l1_2.length c1_2, .slice A1_3 l1_3.length c1_3, .int .u32 a1_4, .int .u32 a1_5, .int .i64 a1_6, .int .u32 a1_7] 50)) := below_alloc (below_alloc (Below.refl _ _) _) _
 have H := aM (cond_Right.calls k a0_0 A0_1 c0_1 l0_1 A0_2 c0_2 l0_2 A0_3 c0_3 l0_3 a0_4 a0_5 true ((w.alloc (.cells #[.int .i64 a0_0, .slice A0_1 l0_1.length c0_1, .slice A0_2 l0_2.length c0_2, .slice A0_3 l0_3.length c0_3, .int .u32 a0_4, .int .u32 a0_5] 46)).alloc (.cells #[.int .u32 a1_0, .int .i64 a1_1, .slice A1_2 l1_2.length c1_2, .slice A1_3 l1_3.length c1_3, .int .u32 a1_4, .int .u32 a1_5, .int .i64 a1_6, .int .u32 a1_7] 50)) (Kd.C_below hr0_1 hB) hc0_1 (Kd.C_below hr0_2 hB) hc0_2 (Kd.C_below hr0_3 hB) hc0_3 hR)
 have HB := aM hB
 have H2 := aM (fun W (hb : Below w.heap.size w W) => pfx_Match.calls A0_1 c0_1 l0_1 a1_7 32 r W (Kd.C_below hr0_1 hb) hc0_1 h2)
 clear hB hr0_1 hr0_2 hr0_3 hr1_2 hr1_3 hR h2
 go_enter Try.func34, Try.ntmps34
 go_wp2_with (first | ((with_reducible refine H.out.mono ?_); rintro e w1 ⟨rfl, hb1⟩; have hB1 := aM (below_step HB.out hb1); have q0 : w1.cell? ⟨w.heap.size, 0, none⟩ = some (.int .i64 a0_0) := (hb1.cell (p := ⟨w.heap.size, 0, none⟩) (by simp <;> omega)).trans (by simp); have q1 : w1.cell? ⟨w.heap.size, 1, none⟩ = some (.slice A0_1 l0_1.length c0_1) := (hb1.cell (p := ⟨w.heap.size, 1, none⟩) (by simp <;> omega)).trans (by simp); have q2 : w1.cell? ⟨w.heap.size, 2, none⟩ = some (.slice A0_2 l0_2.length c0_2) := (hb1.cell (p := ⟨w.heap.size, 2, none⟩) (by simp <;> omega)).trans (by simp); have q3 : w1.cell? ⟨w.heap.size, 3, none⟩ = some (.slice A0_3 l0_3.length c0_3) := (hb1.cell (p := ⟨w.heap.size, 3, none⟩) (by simp <;> omega)).trans (by simp); have q4 : w1.cell? ⟨w.heap.size, 4, none⟩ = some (.int .u32 a0_4) := (hb1.cell (p := ⟨w.heap.size, 4, none⟩) (by simp <;> omega)).trans (by simp); have q5 : w1.cell? ⟨w.heap.size, 5, none⟩ = some (.int .u32 a0_5) := (hb1.cell (p := ⟨w.heap.size, 5, none⟩) (by simp <;> omega)).trans (by simp); have q6 : w1.cell? ⟨w.heap.size + 1, 0, none⟩ = some (.int .u32 a1_0) := (hb1.cell (p := ⟨w.heap.size + 1, 0, none⟩) (by simp <;> omega)).trans (by simp); have q7 : w1.cell? ⟨w.heap.size + 1, 1, none⟩ = some (.int .i64 a1_1) := (hb1.cell (p := ⟨w.heap.size + 1, 1, none⟩) (by simp <;> omega)).trans (by simp); have q8 : w1.cell? ⟨w.heap.size + 1, 2, none⟩ = some (.slice A1_2 l1_2.length c1_2) := (hb1.cell (p := ⟨w.heap.size + 1, 2, none⟩) (by simp <;> omega)).trans (by simp); have q9 : w1.cell? ⟨w.heap.size + 1, 3, none⟩ = some (.slice A1_3 l1_3.length c1_3) := (hb1.cell (p := ⟨w.heap.size + 1, 3, none⟩) (by simp <;> omega)).trans (by simp); have q10 : w1.cell? ⟨w.heap.size + 1, 4, none⟩ = some (.int .u32 a1_4) := (hb1.cell (p := ⟨w.heap.size + 1, 4, none⟩) (by simp <;> omega)).trans (by simp); have q11 : w1.cell? ⟨w.heap.size + 1, 5, none⟩ = some (.int .u32 a1_5) := (hb1.cell (p := ⟨w.heap.size + 1, 5, none⟩) (by simp <;> omega)).trans (by simp); have q12 : w1.cell? ⟨w.heap.size + 1, 6, none⟩ = some (.int .i64 a1_6) := (hb1.cell (p := ⟨w.heap.size + 1, 6, none⟩) (by simp <;> omega)).trans (by simp); have q13 : w1.cell? ⟨w.heap.size + 1, 7, none⟩ = some (.int .u32 a1_7) := (hb1.cell (p := ⟨w.heap.size + 1, 7, none⟩) (by simp <;> omega)).trans (by simp)) | ((with_reducible refine (H2.out _ hB1.out).mono ?_); rintro e w2 ⟨rfl, hb2⟩))
 go_ret
 exact ⟨rfl, below_step hB1.out hb2⟩
set_option maxHeartbeats 8000000 in
set_option maxRecDepth 100000 in
theorem Holds_origin (k : Nat) (A0_1 : Option Addr) (c0_1 : Nat) (l0_1 : List S83) (A0_2 : Option Addr) (c0_2 : Nat) (l0_2 : List S61) (A0_3 : Option Addr) (c0_3 : Nat) (l0_3 : List S64) (a0_4 a0_5 : Int) (a1_0 a1_1 : Int) (A1_2 : Option Addr) (c1_2 : Nat) (l1_2 : List Int) (A1_3 : Option Addr) (c1_3 : Nat) (l1_3 : List Int) (a1_4 a1_5 a1_6 a1_7 : Int) (r : Bool) (w : World) (hr0_1 : Kd.C k83 w A0_1 l0_1.length l0_1) (hc0_1 : l0_1.length ≤ c0_1) (hr0_2 : Kd.C k61 w A0_2 l0_2.length l0_2) (hc0_2 : l0_2.length ≤ c0_2) (hr0_3 : Kd.C k64 w A0_3 l0_3.length l0_3) (hc0_3 : l0_3.length ≤ c0_3) (hr1_2 : Kd.C (Kd.int .u32) w A1_2 l1_2.length l1_2) (hc1_2 : l1_2.length ≤ c1_2) (hr1_3 : Kd.C (Kd.int .u32) w A1_3 l1_3.length l1_3) (hc1_3 : l1_3.length ≤ c1_3) (g0 : 0 ≤ a1_6) (g1 : a1_6 ≤ 4294967295) (hR : cond_Right.f k 6 l0_1 l0_2 l0_3 a0_4 a0_5 = some true) (h2 : betw a0_4 a0_5 a1_6 = r) :
 Calls Try.prog 34 #[.agg #[.int .i64 6, .slice A0_1 l0_1.length c0_1, .slice A0_2 l0_2.length c0_2, .slice A0_3 l0_3.length c0_3, .int .u32 a0_4, .int .u32 a0_5], .agg #[.int .u32 a1_0, .int .i64 a1_1, .slice A1_2 l1_2.length c1_2, .slice A1_3 l1_3.length c1_3, .int .u32 a1_4, .int .u32 a1_5, .int .i64 a1_6, .int .u32 a1_7]] w fun e w' => e = .returned (.bool r) ∧ Below w.heap.size w w' := by
 have hu1 := Try.underlying46
 have hu2 := Try.underlying50
 have hu3 := Try.underlying48
 have hB : Below w.heap.size w ((w.alloc (.cells #[.int .i64 6, .slice A0_1 l0_1.length c0_1, .slice A0_2 l0_2.length c0_2, .slice A0_3 l0_3.length c0_3, .int .u32 a0_4, .int .u32 a0_5] 46)).alloc (.cells #[.int .u32 a1_0, .int .i64 a1_1, .slice A1_2 l1_2.length c1_2, .slice A1_3 l1_3.length c1_3, .int .u32 a1_4, .int .u32 a1_5, .int .i64 a1_6, .int .u32 a1_7] 50)) := below_alloc (below_alloc (Below.refl _ _) _) _
 have H := aM (cond_Right.calls k 6 A0_1 c0_1 l0_1 A0_2 c0_2 l0_2 A0_3 c0_3 l0_3 a0_4 a0_5 true ((w.alloc (.cells #[.int .i64 6, .slice A0_1 l0_1.length c0_1, .slice A0_2 l0_2.length c0_2, .slice A0_3 l0_3.length c0_3, .int .u32 a0_4, .int .u32 a0_5] 46)).alloc (.cells #[.int .u32 a1_0, .int .i64 a1_1, .slice A1_2 l1_2.length c1_2, .slice A1_3 l1_3.length c1_3, .int .u32 a1_4, .int .u32 a1_5, .int .i64 a1_6, .int .u32 a1_7] 50)) (Kd.C_below hr0_1 hB) hc0_1 (Kd.C_below hr0_2 hB) hc0_2 (Kd.C_below hr0_3 hB) hc0_3 hR)
 have HB := aM hB
 subst h2
 have H2 := aM (fun W (_ : Below w.heap.size w W) h4 h5 => cond_Holds_1 w.heap.size a0_4 a0_5 a1_6 W h4 h5)
 generalize betw a0_4 a0_5 a1_6 = r at H2
 clear hB hr0_1 hr0_2 hr0_3 hr1_2 hr1_3 hR
 have e0 : decide (a1_6 ≥ 0) = true := decide_eq_true g0
 have e1 : decide (a1_6 ≤ 4294967295) = true := decide_eq_true g1
 have e2 : a1_6 % 4294967296 = a1_6 := by omega
 go_enter Try.func34, Try.ntmps34
 go_wp2_with (first | ((with_reducible refine H.out.mono ?_); rintro e w1 ⟨rfl, hb1⟩; have hB1 := aM (below_step HB.out hb1); have q0 : w1.cell? ⟨w.heap.size, 0, none⟩ = some (.int .i64 6) := (hb1.cell (p := ⟨w.heap.size, 0, none⟩) (by simp <;> omega)).trans (by simp); have q1 : w1.cell? ⟨w.heap.size, 1, none⟩ = some (.slice A0_1 l0_1.length c0_1) := (hb1.cell (p := ⟨w.heap.size, 1, none⟩) (by simp <;> omega)).trans (by simp); have q2 : w1.cell? ⟨w.heap.size, 2, none⟩ = some (.slice A0_2 l0_2.length c0_2) := (hb1.cell (p := ⟨w.heap.size, 2, none⟩) (by simp <;> omega)).trans (by simp); have q3 : w1.cell? ⟨w.heap.size, 3, none⟩ = some (.slice A0_3 l0_3.length c0_3) := (hb1.cell (p := ⟨w.heap.size, 3, none⟩) (by simp <;> omega)).trans (by simp); have q4 : w1.cell? ⟨w.heap.size, 4, none⟩ = some (.int .u32 a0_4) := (hb1.cell (p := ⟨w.heap.size, 4, none⟩) (by simp <;> omega)).trans (by simp); have q5 : w1.cell? ⟨w.heap.size, 5, none⟩ = some (.int .u32 a0_5) := (hb1.cell (p := ⟨w.heap.size, 5, none⟩) (by simp <;> omega)).trans (by simp); have q6 : w1.cell? ⟨w.heap.size + 1, 0, none⟩ = some (.int .u32 a1_0) := (hb1.cell (p := ⟨w.heap.size + 1, 0, none⟩) (by simp <;> omega)).trans (by simp); have q7 : w1.cell? ⟨w.heap.size + 1, 1, none⟩ = some (.int .i64 a1_1) := (hb1.cell (p := ⟨w.heap.size + 1, 1, none⟩) (by simp <;> omega)).trans (by simp); have q8 : w1.cell? ⟨w.heap.size + 1, 2, none⟩ = some (.slice A1_2 l1_2.length c1_2) := (hb1.cell (p := ⟨w.heap.size + 1, 2, none⟩) (by simp <;> omega)).trans (by simp); have q9 : w1.cell? ⟨w.heap.size + 1, 3, none⟩ = some (.slice A1_3 l1_3.length c1_3) := (hb1.cell (p := ⟨w.heap.size + 1, 3, none⟩) (by simp <;> omega)).trans (by simp); have q10 : w1.cell? ⟨w.heap.size + 1, 4, none⟩ = some (.int .u32 a1_4) := (hb1.cell (p := ⟨w.heap.size + 1, 4, none⟩) (by simp <;> omega)).trans (by simp); have q11 : w1.cell? ⟨w.heap.size + 1, 5, none⟩ = some (.int .u32 a1_5) := (hb1.cell (p := ⟨w.heap.size + 1, 5, none⟩) (by simp <;> omega)).trans (by simp); have q12 : w1.cell? ⟨w.heap.size + 1, 6, none⟩ = some (.int .i64 a1_6) := (hb1.cell (p := ⟨w.heap.size + 1, 6, none⟩) (by simp <;> omega)).trans (by simp); have q13 : w1.cell? ⟨w.heap.size + 1, 7, none⟩ = some (.int .u32 a1_7) := (hb1.cell (p := ⟨w.heap.size + 1, 7, none⟩) (by simp <;> omega)).trans (by simp)) | ((with_reducible refine (H2.out _ hB1.out q4 q5).mono ?_); rintro e w2 ⟨rfl, hb2⟩))
 go_ret
 exact ⟨rfl, below_step hB1.out hb2⟩
set_option maxHeartbeats 8000000 in
set_option maxRecDepth 100000 in
theorem Holds_origin_low (k : Nat) (A0_1 : Option Addr) (c0_1 : Nat) (l0_1 : List S83) (A0_2 : Option Addr) (c0_2 : Nat) (l0_2 : List S61) (A0_3 : Option Addr) (c0_3 : Nat) (l0_3 : List S64) (a0_4 a0_5 : Int) (a1_0 a1_1 : Int) (A1_2 : Option Addr) (c1_2 : Nat) (l1_2 : List Int) (A1_3 : Option Addr) (c1_3 : Nat) (l1_3 : List Int) (a1_4 a1_5 a1_6 a1_7 : Int) (r : Bool) (w : World) (hr0_1 : Kd.C k83 w A0_1 l0_1.length l0_1) (hc0_1 : l0_1.length ≤ c0_1) (hr0_2 : Kd.C k61 w A0_2 l0_2.length l0_2) (hc0_2 : l0_2.length ≤ c0_2) (hr0_3 : Kd.C k64 w A0_3 l0_3.length l0_3) (hc0_3 : l0_3.length ≤ c0_3) (hr1_2 : Kd.C (Kd.int .u32) w A1_2 l1_2.length l1_2) (hc1_2 : l1_2.length ≤ c1_2) (hr1_3 : Kd.C (Kd.int .u32) w A1_3 l1_3.length l1_3) (hc1_3 : l1_3.length ≤ c1_3) (g0 : a1_6 < 0) (hR : cond_Right.f k 6 l0_1 l0_2 l0_3 a0_4 a0_5 = some true) (h2 : r = false) :
 Calls Try.prog 34 #[.agg #[.int .i64 6, .slice A0_1 l0_1.length c0_1, .slice A0_2 l0_2.length c0_2, .slice A0_3 l0_3.length c0_3, .int .u32 a0_4, .int .u32 a0_5], .agg #[.int .u32 a1_0, .int .i64 a1_1, .slice A1_2 l1_2.length c1_2, .slice A1_3 l1_3.length c1_3, .int .u32 a1_4, .int .u32 a1_5, .int .i64 a1_6, .int .u32 a1_7]] w fun e w' => e = .returned (.bool r) ∧ Below w.heap.size w w' := by
 have hu1 := Try.underlying46
 have hu2 := Try.underlying50
 have hu3 := Try.underlying48
 have hB : Below w.heap.size w ((w.alloc (.cells #[.int .i64 6, .slice A0_1 l0_1.length c0_1, .slice A0_2 l0_2.length c0_2, .slice A0_3 l0_3.length c0_3, .int .u32 a0_4, .int .u32 a0_5] 46)).alloc (.cells #[.int .u32 a1_0, .int .i64 a1_1, .slice A1_2 l1_2.length c1_2, .slice A1_3 l1_3.length c1_3, .int .u32 a1_4, .int .u32 a1_5, .int .i64 a1_6, .int .u32 a1_7] 50)) := below_alloc (below_alloc (Below.refl _ _) _) _
 have H := aM (cond_Right.calls k 6 A0_1 c0_1 l0_1 A0_2 c0_2 l0_2 A0_3 c0_3 l0_3 a0_4 a0_5 true ((w.alloc (.cells #[.int .i64 6, .slice A0_1 l0_1.length c0_1, .slice A0_2 l0_2.length c0_2, .slice A0_3 l0_3.length c0_3, .int .u32 a0_4, .int .u32 a0_5] 46)).alloc (.cells #[.int .u32 a1_0, .int .i64 a1_1, .slice A1_2 l1_2.length c1_2, .slice A1_3 l1_3.length c1_3, .int .u32 a1_4, .int .u32 a1_5, .int .i64 a1_6, .int .u32 a1_7] 50)) (Kd.C_below hr0_1 hB) hc0_1 (Kd.C_below hr0_2 hB) hc0_2 (Kd.C_below hr0_3 hB) hc0_3 hR)
 have HB := aM hB
 have e0 : decide (a1_6 ≥ 0) = false := decide_eq_false (by omega)
 clear hB hr0_1 hr0_2 hr0_3 hr1_2 hr1_3 hR
 subst h2
 go_enter Try.func34, Try.ntmps34
 go_wp2_with (((with_reducible refine H.out.mono ?_); rintro e w1 ⟨rfl, hb1⟩; have hB1 := aM (below_step HB.out hb1); have q0 : w1.cell? ⟨w.heap.size, 0, none⟩ = some (.int .i64 6) := (hb1.cell (p := ⟨w.heap.size, 0, none⟩) (by simp <;> omega)).trans (by simp); have q1 : w1.cell? ⟨w.heap.size, 1, none⟩ = some (.slice A0_1 l0_1.length c0_1) := (hb1.cell (p := ⟨w.heap.size, 1, none⟩) (by simp <;> omega)).trans (by simp); have q2 : w1.cell? ⟨w.heap.size, 2, none⟩ = some (.slice A0_2 l0_2.length c0_2) := (hb1.cell (p := ⟨w.heap.size, 2, none⟩) (by simp <;> omega)).trans (by simp); have q3 : w1.cell? ⟨w.heap.size, 3, none⟩ = some (.slice A0_3 l0_3.length c0_3) := (hb1.cell (p := ⟨w.heap.size, 3, none⟩) (by simp <;> omega)).trans (by simp); have q4 : w1.cell? ⟨w.heap.size, 4, none⟩ = some (.int .u32 a0_4) := (hb1.cell (p := ⟨w.heap.size, 4, none⟩) (by simp <;> omega)).trans (by simp); have q5 : w1.cell? ⟨w.heap.size, 5, none⟩ = some (.int .u32 a0_5) := (hb1.cell (p := ⟨w.heap.size, 5, none⟩) (by simp <;> omega)).trans (by simp); have q6 : w1.cell? ⟨w.heap.size + 1, 0, none⟩ = some (.int .u32 a1_0) := (hb1.cell (p := ⟨w.heap.size + 1, 0, none⟩) (by simp <;> omega)).trans (by simp); have q7 : w1.cell? ⟨w.heap.size + 1, 1, none⟩ = some (.int .i64 a1_1) := (hb1.cell (p := ⟨w.heap.size + 1, 1, none⟩) (by simp <;> omega)).trans (by simp); have q8 : w1.cell? ⟨w.heap.size + 1, 2, none⟩ = some (.slice A1_2 l1_2.length c1_2) := (hb1.cell (p := ⟨w.heap.size + 1, 2, none⟩) (by simp <;> omega)).trans (by simp); have q9 : w1.cell? ⟨w.heap.size + 1, 3, none⟩ = some (.slice A1_3 l1_3.length c1_3) := (hb1.cell (p := ⟨w.heap.size + 1, 3, none⟩) (by simp <;> omega)).trans (by simp); have q10 : w1.cell? ⟨w.heap.size + 1, 4, none⟩ = some (.int .u32 a1_4) := (hb1.cell (p := ⟨w.heap.size + 1, 4, none⟩) (by simp <;> omega)).trans (by simp); have q11 : w1.cell? ⟨w.heap.size + 1, 5, none⟩ = some (.int .u32 a1_5) := (hb1.cell (p := ⟨w.heap.size + 1, 5, none⟩) (by simp <;> omega)).trans (by simp); have q12 : w1.cell? ⟨w.heap.size + 1, 6, none⟩ = some (.int .i64 a1_6) := (hb1.cell (p := ⟨w.heap.size + 1, 6, none⟩) (by simp <;> omega)).trans (by simp); have q13 : w1.cell? ⟨w.heap.size + 1, 7, none⟩ = some (.int .u32 a1_7) := (hb1.cell (p := ⟨w.heap.size + 1, 7, none⟩) (by simp <;> omega)).trans (by simp)))
 go_ret
 exact ⟨rfl, hB1.out⟩
set_option maxHeartbeats 8000000 in
set_option maxRecDepth 100000 in
theorem Holds_origin_high (k : Nat) (A0_1 : Option Addr) (c0_1 : Nat) (l0_1 : List S83) (A0_2 : Option Addr) (c0_2 : Nat) (l0_2 : List S61) (A0_3 : Option Addr) (c0_3 : Nat) (l0_3 : List S64) (a0_4 a0_5 : Int) (a1_0 a1_1 : Int) (A1_2 : Option Addr) (c1_2 : Nat) (l1_2 : List Int) (A1_3 : Option Addr) (c1_3 : Nat) (l1_3 : List Int) (a1_4 a1_5 a1_6 a1_7 : Int) (r : Bool) (w : World) (hr0_1 : Kd.C k83 w A0_1 l0_1.length l0_1) (hc0_1 : l0_1.length ≤ c0_1) (hr0_2 : Kd.C k61 w A0_2 l0_2.length l0_2) (hc0_2 : l0_2.length ≤ c0_2) (hr0_3 : Kd.C k64 w A0_3 l0_3.length l0_3) (hc0_3 : l0_3.length ≤ c0_3) (hr1_2 : Kd.C (Kd.int .u32) w A1_2 l1_2.length l1_2) (hc1_2 : l1_2.length ≤ c1_2) (hr1_3 : Kd.C (Kd.int .u32) w A1_3 l1_3.length l1_3) (hc1_3 : l1_3.length ≤ c1_3) (g0 : a1_6 ≥ 0) (g1 : ¬ a1_6 ≤ 4294967295) (hR : cond_Right.f k 6 l0_1 l0_2 l0_3 a0_4 a0_5 = some true) (h2 : r = false) :
 Calls Try.prog 34 #[.agg #[.int .i64 6, .slice A0_1 l0_1.length c0_1, .slice A0_2 l0_2.length c0_2, .slice A0_3 l0_3.length c0_3, .int .u32 a0_4, .int .u32 a0_5], .agg #[.int .u32 a1_0, .int .i64 a1_1, .slice A1_2 l1_2.length c1_2, .slice A1_3 l1_3.length c1_3, .int .u32 a1_4, .int .u32 a1_5, .int .i64 a1_6, .int .u32 a1_7]] w fun e w' => e = .returned (.bool r) ∧ Below w.heap.size w w' := by
 have hu1 := Try.underlying46
 have hu2 := Try.underlying50
 have hu3 := Try.underlying48
 have hB : Below w.heap.size w ((w.alloc (.cells #[.int .i64 6, .slice A0_1 l0_1.length c0_1, .slice A0_2 l0_2.length c0_2, .slice A0_3 l0_3.length c0_3, .int .u32 a0_4, .int .u32 a0_5] 46)).alloc (.cells #[.int .u32 a1_0, .int .i64 a1_1, .slice A1_2 l1_2.length c1_2, .slice A1_3 l1_3.length c1_3, .int .u32 a1_4, .int .u32 a1_5, .int .i64 a1_6, .int .u32 a1_7] 50)) := below_alloc (below_alloc (Below.refl _ _) _) _
 have H := aM (cond_Right.calls k 6 A0_1 c0_1 l0_1 A0_2 c0_2 l0_2 A0_3 c0_3 l0_3 a0_4 a0_5 true ((w.alloc (.cells #[.int .i64 6, .slice A0_1 l0_1.length c0_1, .slice A0_2 l0_2.length c0_2, .slice A0_3 l0_3.length c0_3, .int .u32 a0_4, .int .u32 a0_5] 46)).alloc (.cells #[.int .u32 a1_0, .int .i64 a1_1, .slice A1_2 l1_2.length c1_2, .slice A1_3 l1_3.length c1_3, .int .u32 a1_4, .int .u32 a1_5, .int .i64 a1_6, .int .u32 a1_7] 50)) (Kd.C_below hr0_1 hB) hc0_1 (Kd.C_below hr0_2 hB) hc0_2 (Kd.C_below hr0_3 hB) hc0_3 hR)
 have HB := aM hB
 have e0 : decide (a1_6 ≥ 0) = true := decide_eq_true g0
 have e1 : decide (a1_6 ≤ 4294967295) = false := decide_eq_false (by omega)
 clear hB hr0_1 hr0_2 hr0_3 hr1_2 hr1_3 hR
 subst h2
 go_enter Try.func34, Try.ntmps34
 go_wp2_with (((with_reducible refine H.out.mono ?_); rintro e w1 ⟨rfl, hb1⟩; have hB1 := aM (below_step HB.out hb1); have q0 : w1.cell? ⟨w.heap.size, 0, none⟩ = some (.int .i64 6) := (hb1.cell (p := ⟨w.heap.size, 0, none⟩) (by simp <;> omega)).trans (by simp); have q1 : w1.cell? ⟨w.heap.size, 1, none⟩ = some (.slice A0_1 l0_1.length c0_1) := (hb1.cell (p := ⟨w.heap.size, 1, none⟩) (by simp <;> omega)).trans (by simp); have q2 : w1.cell? ⟨w.heap.size, 2, none⟩ = some (.slice A0_2 l0_2.length c0_2) := (hb1.cell (p := ⟨w.heap.size, 2, none⟩) (by simp <;> omega)).trans (by simp); have q3 : w1.cell? ⟨w.heap.size, 3, none⟩ = some (.slice A0_3 l0_3.length c0_3) := (hb1.cell (p := ⟨w.heap.size, 3, none⟩) (by simp <;> omega)).trans (by simp); have q4 : w1.cell? ⟨w.heap.size, 4, none⟩ = some (.int .u32 a0_4) := (hb1.cell (p := ⟨w.heap.size, 4, none⟩) (by simp <;> omega)).trans (by simp); have q5 : w1.cell? ⟨w.heap.size, 5, none⟩ = some (.int .u32 a0_5) := (hb1.cell (p := ⟨w.heap.size, 5, none⟩) (by simp <;> omega)).trans (by simp); have q6 : w1.cell? ⟨w.heap.size + 1, 0, none⟩ = some (.int .u32 a1_0) := (hb1.cell (p := ⟨w.heap.size + 1, 0, none⟩) (by simp <;> omega)).trans (by simp); have q7 : w1.cell? ⟨w.heap.size + 1, 1, none⟩ = some (.int .i64 a1_1) := (hb1.cell (p := ⟨w.heap.size + 1, 1, none⟩) (by simp <;> omega)).trans (by simp); have q8 : w1.cell? ⟨w.heap.size + 1, 2, none⟩ = some (.slice A1_2 l1_2.length c1_2) := (hb1.cell (p := ⟨w.heap.size + 1, 2, none⟩) (by simp <;> omega)).trans (by simp); have q9 : w1.cell? ⟨w.heap.size + 1, 3, none⟩ = some (.slice A1_3 l1_3.length c1_3) := (hb1.cell (p := ⟨w.heap.size + 1, 3, none⟩) (by simp <;> omega)).trans (by simp); have q10 : w1.cell? ⟨w.heap.size + 1, 4, none⟩ = some (.int .u32 a1_4) := (hb1.cell (p := ⟨w.heap.size + 1, 4, none⟩) (by simp <;> omega)).trans (by simp); have q11 : w1.cell? ⟨w.heap.size + 1, 5, none⟩ = some (.int .u32 a1_5) := (hb1.cell (p := ⟨w.heap.size + 1, 5, none⟩) (by simp <;> omega)).trans (by simp); have q12 : w1.cell? ⟨w.heap.size + 1, 6, none⟩ = some (.int .i64 a1_6) := (hb1.cell (p := ⟨w.heap.size + 1, 6, none⟩) (by simp <;> omega)).trans (by simp); have q13 : w1.cell? ⟨w.heap.size + 1, 7, none⟩ = some (.int .u32 a1_7) := (hb1.cell (p := ⟨w.heap.size + 1, 7, none⟩) (by simp <;> omega)).trans (by simp)))
 go_ret
 exact ⟨rfl, hB1.out⟩
set_option maxHeartbeats 8000000 in
set_option maxRecDepth 100000 in
theorem cond_Holds.calls (k : Nat) (a0_0 : Int) (A0_1 : Option Addr) (c0_1 : Nat) (l0_1 : List S83) (A0_2 : Option Addr) (c0_2 : Nat) (l0_2 : List S61) (A0_3 : Option Addr) (c0_3 : Nat) (l0_3 : List S64) (a0_4 a0_5 : Int) (a1_0 a1_1 : Int) (A1_2 : Option Addr) (c1_2 : Nat) (l1_2 : List Int) (A1_3 : Option Addr) (c1_3 : Nat) (l1_3 : List Int) (a1_4 a1_5 a1_6 a1_7 : Int) (r : Bool) (w : World) (hr0_1 : Kd.C k83 w A0_1 l0_1.length l0_1) (hc0_1 : l0_1.length ≤ c0_1) (hr0_2 : Kd.C k61 w A0_2 l0_2.length l0_2) (hc0_2 : l0_2.length ≤ c0_2) (hr0_3 : Kd.C k64 w A0_3 l0_3.length l0_3) (hc0_3 : l0_3.length ≤ c0_3) (hr1_2 : Kd.C (Kd.int .u32) w A1_2 l1_2.length l1_2) (hc1_2 : l1_2.length ≤ c1_2) (hr1_3 : Kd.C (Kd.int .u32) w A1_3 l1_3.length l1_3) (hc1_3 : l1_3.length ≤ c1_3) (h : cond_Holds.f k a0_0 l0_1 l0_2 l0_3 a0_4 a0_5 a1_0 a1_1 l1_2 l1_3 a1_4 a1_5 a1_6 a1_7 = some r) :
 Calls Try.prog 34 #[.agg #[.int .i64 a0_0, .slice A0_1 l0_1.length c0_1, .slice A0_2 l0_2.length c0_2, .slice A0_3 l0_3.length c0_3, .int .u32 a0_4, .int .u32 a0_5], .agg #[.int .u32 a1_0, .int .i64 a1_1, .slice A1_2 l1_2.length c1_2, .slice A1_3 l1_3.length c1_3, .int .u32 a1_4, .int .u32 a1_5, .int .i64 a1_6, .int .u32 a1_7]] w fun e w' => e = .returned (.bool r) ∧ Below w.heap.size w w' := by
 unfold cond_Holds.f at h
 obtain ⟨t, hR, h⟩ := Option.bind_eq_some_iff.mp h
 by_cases ht : t = true
 · subst ht
   rw [if_pos rfl] at h
   unfold holdsIn at h
   by_cases k1 : a0_0 = 1
   · subst k1
     rw [if_pos rfl] at h
     exact Holds_pfx k A0_1 c0_1 l0_1 A0_2 c0_2 l0_2 A0_3 c0_3 l0_3 a0_4 a0_5 a1_0 a1_1 A1_2 c1_2 l1_2 A1_3 c1_3 l1_3 a1_4 a1_5 a1_6 a1_7 r w hr0_1 hc0_1 hr0_2 hc0_2 hr0_3 hc0_3 hr1_2 hc1_2 hr1_3 hc1_3 hR h
   rw [if_neg k1] at h
   by_cases k2 : a0_0 = 2
   · subst k2
     rw [if_pos rfl] at h
     exact Holds_path k A0_1 c0_1 l0_1 A0_2 c0_2 l0_2 A0_3 c0_3 l0_3 a0_4 a0_5 a1_0 a1_1 A1_2 c1_2 l1_2 A1_3 c1_3 l1_3 a1_4 a1_5 a1_6 a1_7 r w hr0_1 hc0_1 hr0_2 hc0_2 hr0_3 hc0_3 hr1_2 hc1_2 hr1_3 hc1_3 hR h
   rw [if_neg k2] at h
   by_cases k3 : a0_0 = 3
   · subst k3
     rw [if_pos rfl] at h
     exact Holds_comm k A0_1 c0_1 l0_1 A0_2 c0_2 l0_2 A0_3 c0_3 l0_3 a0_4 a0_5 a1_0 a1_1 A1_2 c1_2 l1_2 A1_3 c1_3 l1_3 a1_4 a1_5 a1_6 a1_7 r w hr0_1 hc0_1 hr0_2 hc0_2 hr0_3 hc0_3 hr1_2 hc1_2 hr1_3 hc1_3 hR h
   rw [if_neg k3] at h
   by_cases k4 : a0_0 = 4
   · subst k4
     rw [if_pos rfl] at h
     exact Holds_pref k A0_1 c0_1 l0_1 A0_2 c0_2 l0_2 A0_3 c0_3 l0_3 a0_4 a0_5 a1_0 a1_1 A1_2 c1_2 l1_2 A1_3 c1_3 l1_3 a1_4 a1_5 a1_6 a1_7 r w hr0_1 hc0_1 hr0_2 hc0_2 hr0_3 hc0_3 hr1_2 hc1_2 hr1_3 hc1_3 hR (Option.some.inj h)
   rw [if_neg k4] at h
   by_cases k5 : a0_0 = 5
   · subst k5
     rw [if_pos rfl] at h
     exact Holds_med k A0_1 c0_1 l0_1 A0_2 c0_2 l0_2 A0_3 c0_3 l0_3 a0_4 a0_5 a1_0 a1_1 A1_2 c1_2 l1_2 A1_3 c1_3 l1_3 a1_4 a1_5 a1_6 a1_7 r w hr0_1 hc0_1 hr0_2 hc0_2 hr0_3 hc0_3 hr1_2 hc1_2 hr1_3 hc1_3 hR (Option.some.inj h)
   rw [if_neg k5] at h
   by_cases k6 : a0_0 = 6
   · subst k6
     rw [if_pos rfl] at h
     have h := Option.some.inj h
     by_cases g0 : 0 ≤ a1_6
     · by_cases g1 : a1_6 ≤ 4294967295
       · rw [if_pos ⟨g0, g1⟩] at h
         exact Holds_origin k A0_1 c0_1 l0_1 A0_2 c0_2 l0_2 A0_3 c0_3 l0_3 a0_4 a0_5 a1_0 a1_1 A1_2 c1_2 l1_2 A1_3 c1_3 l1_3 a1_4 a1_5 a1_6 a1_7 r w hr0_1 hc0_1 hr0_2 hc0_2 hr0_3 hc0_3 hr1_2 hc1_2 hr1_3 hc1_3 g0 g1 hR h
       · rw [if_neg (fun z => g1 z.2)] at h
         exact Holds_origin_high k A0_1 c0_1 l0_1 A0_2 c0_2 l0_2 A0_3 c0_3 l0_3 a0_4 a0_5 a1_0 a1_1 A1_2 c1_2 l1_2 A1_3 c1_3 l1_3 a1_4 a1_5 a1_6 a1_7 r w hr0_1 hc0_1 hr0_2 hc0_2 hr0_3 hc0_3 hr1_2 hc1_2 hr1_3 hc1_3 g0 g1 hR h.symm
     · rw [if_neg (fun z => g0 z.1)] at h
       exact Holds_origin_low k A0_1 c0_1 l0_1 A0_2 c0_2 l0_2 A0_3 c0_3 l0_3 a0_4 a0_5 a1_0 a1_1 A1_2 c1_2 l1_2 A1_3 c1_3 l1_3 a1_4 a1_5 a1_6 a1_7 r w hr0_1 hc0_1 hr0_2 hc0_2 hr0_3 hc0_3 hr1_2 hc1_2 hr1_3 hc1_3 (by omega) hR h.symm
   rw [if_neg k6] at h
   exact Holds_hop k a0_0 A0_1 c0_1 l0_1 A0_2 c0_2 l0_2 A0_3 c0_3 l0_3 a0_4 a0_5 a1_0 a1_1 A1_2 c1_2 l1_2 A1_3 c1_3 l1_3 a1_4 a1_5 a1_6 a1_7 r w hr0_1 hc0_1 hr0_2 hc0_2 hr0_3 hc0_3 hr1_2 hc1_2 hr1_3 hc1_3 (beq_eq_false_iff_ne.mpr k1) (beq_eq_false_iff_ne.mpr k2) (beq_eq_false_iff_ne.mpr k3) (beq_eq_false_iff_ne.mpr k4) (beq_eq_false_iff_ne.mpr k5) (beq_eq_false_iff_ne.mpr k6) hR h
 · have ht' : t = false := Bool.eq_false_iff.2 ht
   subst ht'
   rw [if_neg ht] at h
   obtain rfl := Option.some.inj h
   have hu1 := Try.underlying46
   have hu2 := Try.underlying50
   have hB : Below w.heap.size w ((w.alloc (.cells #[.int .i64 a0_0, .slice A0_1 l0_1.length c0_1, .slice A0_2 l0_2.length c0_2, .slice A0_3 l0_3.length c0_3, .int .u32 a0_4, .int .u32 a0_5] 46)).alloc (.cells #[.int .u32 a1_0, .int .i64 a1_1, .slice A1_2 l1_2.length c1_2, .slice A1_3 l1_3.length c1_3, .int .u32 a1_4, .int .u32 a1_5, .int .i64 a1_6, .int .u32 a1_7] 50)) := below_alloc (below_alloc (Below.refl _ _) _) _
   have H := aM (cond_Right.calls k a0_0 A0_1 c0_1 l0_1 A0_2 c0_2 l0_2 A0_3 c0_3 l0_3 a0_4 a0_5 false ((w.alloc (.cells #[.int .i64 a0_0, .slice A0_1 l0_1.length c0_1, .slice A0_2 l0_2.length c0_2, .slice A0_3 l0_3.length c0_3, .int .u32 a0_4, .int .u32 a0_5] 46)).alloc (.cells #[.int .u32 a1_0, .int .i64 a1_1, .slice A1_2 l1_2.length c1_2, .slice A1_3 l1_3.length c1_3, .int .u32 a1_4, .int .u32 a1_5, .int .i64 a1_6, .int .u32 a1_7] 50)) (Kd.C_below hr0_1 hB) hc0_1 (Kd.C_below hr0_2 hB) hc0_2 (Kd.C_below hr0_3 hB) hc0_3 hR)
   have HB := aM hB
   clear hB hr0_1 hr0_2 hr0_3 hr1_2 hr1_3 hR h
   go_enter Try.func34, Try.ntmps34
   go_wp2_with ((with_reducible refine H.out.mono ?_); rintro e w1 ⟨rfl, hb1⟩)
   go_ret
   exact ⟨rfl, below_step HB.out hb1⟩
def dragomanlaw11_comm.f (a0 a1 : Int) : Option (Int × Int) := some ((65536 * a0 + a1) % 4294967296, (65536 * a0 + a1) % 4294967296)
set_option maxHeartbeats 2000000 in
set_option maxRecDepth 100000 in
theorem dragomanlaw11_comm.calls (a0 : Int) (a1 : Int) (r1 : Int) (r2 : Int) (w : World) (h : dragomanlaw11_comm.f a0 a1 = some (r1, r2)) :
 Calls Try.prog 51 #[.int .u32 a0, .int .u32 a1] w fun e w' => e = .returned (.agg #[.int .u32 r1, .int .u32 r2]) ∧ Below w.heap.size w w' := by
 have h' := Option.some.inj h
 have e1 : (65536 * a0 + a1) % 4294967296 = r1 := congrArg Prod.fst h'
 have e2 : (65536 * a0 + a1) % 4294967296 = r2 := congrArg Prod.snd h'
 clear h h'
 subst e1
 subst e2
 have hu1 := Try.underlying76
 go_enter Try.func51, Try.ntmps51
 go_wp2
 refine bodyPost_ret (results_cell_row rfl _ _ w.heap.size 76 #[.int .u32 ((65536 * a0 + a1) % 4294967296), .int .u32 ((65536 * a0 + a1) % 4294967296)] (0, 0) _ rfl (heap_alloc_new w _) hu1 rfl (by kernel_rfl)) rfl ?_
 exact ⟨rfl, below_alloc (Below.refl _ _) _⟩
def dragomanlaw11_alive.f (k : Nat)  : Option (Bool) := (dragomanlaw11_comm.f 65000 1).bind fun bt176 => ((dragomanlaw11_comm.f 65000 2).bind fun bt178 => ((some (([(⟨false, (([(⟨bt176.1, bt176.2⟩ : S76), (⟨bt178.1, bt178.2⟩ : S76)] : List (S76)))⟩ : S64)] : List (S64)) : List (S64))).bind fun y183 => ((cond_TakesComms.f y183 (([458759, 4259840001, 4259840002] : List Int))).bind fun t190 => (if t190 = true then ((cond_TakesComms.f y183 (([4259840001] : List Int))).bind fun t194 => (if t194 = true then (none) else ((cond_Holds.f k 4 ([] : List (S83)) ([] : List (S61)) ([] : List (S64)) 100 200 0 0 ([] : List Int) ([] : List Int) 200 0 0 0).bind fun t195 => (if t195 = true then ((cond_Holds.f k 4 ([] : List (S83)) ([] : List (S61)) ([] : List (S64)) 100 200 0 0 ([] : List Int) ([] : List Int) 201 0 0 0).bind fun t196 => (some (!t196))) else (none))))) else (none)))))
theorem dragomanlaw11_alive.mono : ∀ k, LeO (dragomanlaw11_alive.f k ) (dragomanlaw11_alive.f (k + 1) ) := by
 intro  k
 unfold dragomanlaw11_alive.f
 repeat' first
  | (with_reducible exact cond_Holds.mono _ _ _ _ _ _ _ _ _ _ _ _ _ _ _)
  | (with_reducible exact LeO.refl _)
  | (with_reducible exact LeO.none _)
  | (with_reducible refine LeO.ite ?_ ?_)
  | (with_reducible refine LeO.bind ?_ (fun _ => ?_))
  | exact cond_Holds.mono _ _ _ _ _ _ _ _ _ _ _ _ _ _ _
  | exact LeO.none _
  | refine LeO.ite ?_ ?_
  | refine LeO.bind ?_ (fun _ => ?_)
set_option maxHeartbeats 8000000 in
set_option maxRecDepth 100000 in
theorem dragomanlaw11_alive.calls (k : Nat)  (r : Bool) (w : World) (h : dragomanlaw11_alive.f k  = some r) :
 Calls Try.prog 27 #[] w fun e w' => e = .returned (.bool r) ∧ Below w.heap.size w w' := by
 have hu64 := Try.underlying64
 have hu46 := Try.underlying46
 have hu50 := Try.underlying50
 have HB := aM (Below.refl w.heap.size w)
 have H : ((dragomanlaw11_comm.f 65000 1).bind fun bt176 => ((dragomanlaw11_comm.f 65000 2).bind fun bt178 => ((some (([(⟨false, (([(⟨bt176.1, bt176.2⟩ : S76), (⟨bt178.1, bt178.2⟩ : S76)] : List (S76)))⟩ : S64)] : List (S64)) : List (S64))).bind fun y183 => ((cond_TakesComms.f y183 (([458759, 4259840001, 4259840002] : List Int))).bind fun t190 => (if t190 = true then ((cond_TakesComms.f y183 (([4259840001] : List Int))).bind fun t194 => (if t194 = true then (none) else ((cond_Holds.f k 4 ([] : List (S83)) ([] : List (S61)) ([] : List (S64)) 100 200 0 0 ([] : List Int) ([] : List Int) 200 0 0 0).bind fun t195 => (if t195 = true then ((cond_Holds.f k 4 ([] : List (S83)) ([] : List (S61)) ([] : List (S64)) 100 200 0 0 ([] : List Int) ([] : List Int) 201 0 0 0).bind fun t196 => (some (!t196))) else (none))))) else (none)))))) = some r := h
 clear h
 obtain ⟨⟨t176, t177⟩, A1, H⟩ := bnd_ H
 dsimp only at H
 obtain ⟨⟨t178, t179⟩, A2, H⟩ := bnd_ H
 dsimp only at H
 obtain ⟨y180, hy180⟩ : ∃ y_ : List (S76), y_ = (([(⟨t176, t177⟩ : S76), (⟨t178, t179⟩ : S76)] : List (S76))) := ⟨_, rfl⟩
 replace H : ((some (([(⟨false, y180⟩ : S64)] : List (S64)) : List (S64))).bind fun y183 => ((cond_TakesComms.f y183 (([458759, 4259840001, 4259840002] : List Int))).bind fun t190 => (if t190 = true then ((cond_TakesComms.f y183 (([4259840001] : List Int))).bind fun t194 => (if t194 = true then (none) else ((cond_Holds.f k 4 ([] : List (S83)) ([] : List (S61)) ([] : List (S64)) 100 200 0 0 ([] : List Int) ([] : List Int) 200 0 0 0).bind fun t195 => (if t195 = true then ((cond_Holds.f k 4 ([] : List (S83)) ([] : List (S61)) ([] : List (S64)) 100 200 0 0 ([] : List Int) ([] : List Int) 201 0 0 0).bind fun t196 => (some (!t196))) else (none))))) else (none)))) = some r := by first | (rw [hy180]; with_reducible exact H) | (have H2_ := (Option.bind_some _ _).symm.trans H; rw [hy180]; with_reducible exact H2_) | (have H2_ := (Option.bind_some _ _).symm.trans H; with_reducible exact H2_) | with_reducible exact H | (rw [hy180]; exact H) | exact H
 have Ny180 := aM hy180
 clear hy180
 obtain ⟨y183, hy183⟩ : ∃ y_ : List (S64), y_ = (([(⟨false, y180⟩ : S64)] : List (S64))) := ⟨_, rfl⟩
 replace H : ((cond_TakesComms.f y183 (([458759, 4259840001, 4259840002] : List Int))).bind fun t190 => (if t190 = true then ((cond_TakesComms.f y183 (([4259840001] : List Int))).bind fun t194 => (if t194 = true then (none) else ((cond_Holds.f k 4 ([] : List (S83)) ([] : List (S61)) ([] : List (S64)) 100 200 0 0 ([] : List Int) ([] : List Int) 200 0 0 0).bind fun t195 => (if t195 = true then ((cond_Holds.f k 4 ([] : List (S83)) ([] : List (S61)) ([] : List (S64)) 100 200 0 0 ([] : List Int) ([] : List Int) 201 0 0 0).bind fun t196 => (some (!t196))) else (none))))) else (none))) = some r := by first | (rw [hy183]; with_reducible exact H) | (have H2_ := (Option.bind_some _ _).symm.trans H; rw [hy183]; with_reducible exact H2_) | (have H2_ := (Option.bind_some _ _).symm.trans H; with_reducible exact H2_) | with_reducible exact H | (rw [hy183]; exact H) | exact H
 have Ny183 := aM hy183
 clear hy183
 obtain ⟨y187, hy187⟩ : ∃ y_ : List Int, y_ = (([458759, 4259840001, 4259840002] : List Int)) := ⟨_, rfl⟩
 replace H : ((cond_TakesComms.f y183 y187).bind fun t190 => (if t190 = true then ((cond_TakesComms.f y183 (([4259840001] : List Int))).bind fun t194 => (if t194 = true then (none) else ((cond_Holds.f k 4 ([] : List (S83)) ([] : List (S61)) ([] : List (S64)) 100 200 0 0 ([] : List Int) ([] : List Int) 200 0 0 0).bind fun t195 => (if t195 = true then ((cond_Holds.f k 4 ([] : List (S83)) ([] : List (S61)) ([] : List (S64)) 100 200 0 0 ([] : List Int) ([] : List Int) 201 0 0 0).bind fun t196 => (some (!t196))) else (none))))) else (none))) = some r := by first | (rw [hy187]; with_reducible exact H) | (have H2_ := (Option.bind_some _ _).symm.trans H; rw [hy187]; with_reducible exact H2_) | (have H2_ := (Option.bind_some _ _).symm.trans H; with_reducible exact H2_) | with_reducible exact H | (rw [hy187]; exact H) | exact H
 have Ny187 := aM hy187
 clear hy187
 obtain ⟨t190, A3, H⟩ := bnd_ H
 by_cases c4 : t190 = true
 rotate_left
 · replace c4 := Bool.eq_false_iff.mpr c4
   subst c4
   rw [if_neg (show ¬ (false = true) by decide)] at H
   exact absurd H (by simp)
 subst c4
 rw [if_pos rfl] at H
 obtain ⟨y191, hy191⟩ : ∃ y_ : List Int, y_ = (([4259840001] : List Int)) := ⟨_, rfl⟩
 replace H : ((cond_TakesComms.f y183 y191).bind fun t194 => (if t194 = true then (none) else ((cond_Holds.f k 4 ([] : List (S83)) ([] : List (S61)) ([] : List (S64)) 100 200 0 0 ([] : List Int) ([] : List Int) 200 0 0 0).bind fun t195 => (if t195 = true then ((cond_Holds.f k 4 ([] : List (S83)) ([] : List (S61)) ([] : List (S64)) 100 200 0 0 ([] : List Int) ([] : List Int) 201 0 0 0).bind fun t196 => (some (!t196))) else (none))))) = some r := by first | (rw [hy191]; with_reducible exact H) | (have H2_ := (Option.bind_some _ _).symm.trans H; rw [hy191]; with_reducible exact H2_) | (have H2_ := (Option.bind_some _ _).symm.trans H; with_reducible exact H2_) | with_reducible exact H | (rw [hy191]; exact H) | exact H
 have Ny191 := aM hy191
 clear hy191
 obtain ⟨t194, A5, H⟩ := bnd_ H
 by_cases c6 : t194 = true
 · subst c6
   rw [if_pos rfl] at H
   exact absurd H (by simp)
 replace c6 := Bool.eq_false_iff.mpr c6
 subst c6
 rw [if_neg (show ¬ (false = true) by decide)] at H
 obtain ⟨t195, A7, H⟩ := bnd_ H
 by_cases c8 : t195 = true
 rotate_left
 · replace c8 := Bool.eq_false_iff.mpr c8
   subst c8
   rw [if_neg (show ¬ (false = true) by decide)] at H
   exact absurd H (by simp)
 subst c8
 rw [if_pos rfl] at H
 obtain ⟨t196, A9, H⟩ := bnd_ H
 obtain rfl := Option.some.inj H
 go_enter Try.func27, Try.ntmps27
 go_wp2_with (first | ((with_reducible refine gf_ 51 rfl ?_); refine gL_ (some 3) rfl rfl Try.func51 #[.int .u32 65000, .int .u32 1] rfl ?_; (with_reducible refine (dragomanlaw11_comm.calls 65000 1 t176 t177 _ A1.out).mono ?_); rintro e w10 ⟨rfl, hb⟩; refine ⟨_, rfl, ?_⟩; replace HB := bs_ HB hb; clear hb) | ((with_reducible refine gf_ 51 rfl ?_); refine gL_ (some 4) rfl rfl Try.func51 #[.int .u32 65000, .int .u32 2] rfl ?_; (with_reducible refine (dragomanlaw11_comm.calls 65000 2 t178 t179 _ A2.out).mono ?_); rintro e w11 ⟨rfl, hb⟩; refine ⟨_, rfl, ?_⟩; replace HB := bs_ HB hb; clear hb) | ((with_reducible refine gd_ 5 rfl ?_); (try (refine gate_guard (by rfl) ?_; dsimp only)); refine Kd.R_lit k76 _ 76 ?hg (N := 5) ?hd (xs := ([(⟨t176, t177⟩ : S76), (⟨t178, t179⟩ : S76)] : List (S76))) (inner := [.int .u32 t176, .int .u32 t177, .int .u32 t178, .int .u32 t179]) (ok := fun _ => True) (okp := fun _ => True) ?hr ?hp (fun _ hk => hk) trivial (Below.refl _ _) (Nat.le_refl _) (by simp) ?_; (case hd => rfl); (case hg => rfl); (case hr => first | (go_simp; done) | (go_simp; rfl)); (case hp => exact (Reps.c2 (show Kd.M k76 _ _ _ (⟨t176, t177⟩ : S76) [.int .u32 t176, .int .u32 t177] from (k76_mkM _ _ _ (⟨t176, t177⟩ : S76) )) (Reps.c2 (show Kd.M k76 _ _ _ (⟨t178, t179⟩ : S76) [.int .u32 t178, .int .u32 t179] from (k76_mkM _ _ _ (⟨t178, t179⟩ : S76) )) (Reps.none _ _)))); intro v181 w12 ho13 hb hg_ hnew_; clear hg_ hnew_; (first | rw [← Ny180.out] at ho13 | (simp only [Int.reduceToNat] at ho13; rw [← Ny180.out] at ho13)); have HO182 := aM (Kd.R_lower ho13 (below_size (bw_ HB.out))); replace HB := bs_ HB hb; clear hb ho13; obtain ⟨Ao14, co14, eo14⟩ := Kd.R_slice HO182.out; subst eo14) | ((with_reducible refine gd_ 7 rfl ?_); (try (refine gate_guard (by rfl) ?_; dsimp only)); refine Kd.N_lit k64 _ 64 ?hg (N' := 7) ?hd (xs := ([(⟨false, y180⟩ : S64)] : List (S64))) (inner := [.bool false, .slice Ao14 y180.length co14]) (ok := (fun _ => True)) (okp := (fun _ => True)) ?hr ?hp (fun _ hk => hk) ((show ∀ k_, w12.heap.size ≤ k_ → (fun _ => True) k_ from fun k_ hk => trivial) _ (Nat.le_refl _)) (Below.refl _ _) (Nat.le_refl _) (by simp) ?_; (case hd => rfl); (case hg => rfl); (case hr => first | (go_simp; done) | (go_simp; rfl)); (case hp => exact (Reps.c2 (show Kd.FK k64 _ _ (⟨false, y180⟩ : S64) [.bool false, .slice Ao14 y180.length co14] from (k64_mkF _ _ (⟨false, y180⟩ : S64) (Kd.R_reads' (Kd.R_mono (ok' := (fun _ => True)) (HO182.out) (fun k_ hk => trivial))).2.1 (Kd.R_F (Kd.R_mono (ok' := (fun _ => True)) (HO182.out) (fun k_ hk => trivial))))) (Reps.none _ _))); intro v184 w15 ho16 hb hg_ hnew_; clear hg_ hnew_; (first | rw [← Ny183.out] at ho16 | (simp only [Int.reduceToNat] at ho16; rw [← Ny183.out] at ho16)); have HO185 := aM (Kd.N_lower ho16 (below_size (bw_ HB.out))); replace HB := bs_ HB hb; clear HO182; clear hb ho16) | ((with_reducible refine gd_ 2 rfl ?_); (try (refine gate_guard (by rfl) ?_; dsimp only)); refine be_ #[.int .i64 0, .slice none 0 0, .slice none 0 0, .slice none 0 0, .int .u32 0, .int .u32 0] 46 ?_; intro gb186 hg w17 BK186 hb; have GW186 := ge_ HB hg; have GE186 := ge_ HB hg; replace HO185 := aM (Kd.N_below (Kd.N_elderB (un_ HO185.out) gb186 (Nat.le_of_eq hg.symm)) hb); replace HB := bs_ HB hb; clear hb hg; obtain ⟨hcz18_0, hcz18_1, hcz18_2, hcz18_3, hcz18_4, hcz18_5, hfz18_0, hfz18_1, hfz18_2, hfz18_3, hfz18_4, hfz18_5⟩ := bc6_ BK186) | ((with_reducible refine gd_ 10 rfl ?_); (try (refine gate_guard (by rfl) ?_; dsimp only)); refine Kd.R_lit (Kd.int .u32) _ 36 ?hg (N := 10) ?hd (xs := ([458759, 4259840001, 4259840002] : List Int)) (inner := [.int .u32 458759, .int .u32 4259840001, .int .u32 4259840002]) (ok := fun _ => True) (okp := fun _ => True) ?hr ?hp (fun _ hk => hk) trivial (Below.refl _ _) (Nat.le_refl _) (by simp) ?_; (case hd => rfl); (case hg => rfl); (case hr => first | (go_simp; done) | (go_simp; rfl)); (case hp => exact (Reps.one (show Kd.M (Kd.int .u32) _ _ _ 458759 [.int .u32 458759] from rfl) (Reps.one (show Kd.M (Kd.int .u32) _ _ _ 4259840001 [.int .u32 4259840001] from rfl) (Reps.one (show Kd.M (Kd.int .u32) _ _ _ 4259840002 [.int .u32 4259840002] from rfl) (Reps.none _ _))))); intro v188 w19 ho20 hb hg_ hnew_; clear hg_ hnew_; (first | rw [← Ny187.out] at ho20 | (simp only [Int.reduceToNat] at ho20; rw [← Ny187.out] at ho20)); have HO189 := aM (Kd.R_lower ho20 (below_size (bw_ HB.out))); replace HO185 := aM (Kd.N_elder' (by (with_reducible repeat (first | apply Kd.N_alloc | apply Kd.N_drewN | apply Kd.N_drew)); exact (Kd.N_mono (Kd.N_far (p := ⟨gb186, 5, none⟩) (Kd.N_far (p := ⟨gb186, 4, none⟩) (Kd.N_far (p := ⟨gb186, 3, none⟩) (Kd.N_far (p := ⟨gb186, 2, none⟩) (Kd.N_far (p := ⟨gb186, 1, none⟩) (Kd.N_far (p := ⟨gb186, 0, none⟩) (Kd.N_mono HO185.out (fun k_ hk => (⟨hk, hk.2⟩ : _ ∧ k_ ≠ gb186))) (fun _ hk => hk.2) (.int .i64 4)) (fun _ hk => hk.2) (.slice none 0 0)) (fun _ hk => hk.2) (.slice none 0 0)) (fun _ hk => hk.2) (.slice none 0 0)) (fun _ hk => hk.2) (.int .u32 100)) (fun _ hk => hk.2) (.int .u32 200)) (fun _ h_ => h_.1))) (Kd.R_base ho20) hb); replace BK186 := bp_ (.cells #[.int .i64 4, .slice none 0 0, .slice none 0 0, .slice none 0 0, .int .u32 100, .int .u32 200] 46 (0, 0)) BK186 hb; replace HB := bs_ HB hb; clear hb ho20; obtain ⟨Ao21, co21, eo21⟩ := Kd.N_slice HO185.out; subst eo21; obtain ⟨Ao22, co22, eo22⟩ := Kd.R_slice HO189.out; subst eo22) | ((with_reducible refine gf_ 40 rfl ?_); refine gL_ (some 11) rfl rfl Try.func40 #[.slice Ao21 y183.length co21, .slice Ao22 y187.length co22] rfl ?_; (with_reducible refine (cond_TakesComms.calls _ _ y183 _ _ y187 true _ ?side1 ?side2 ?side3 ?side4 A3.out).mono ?_); (case side1 => exact uc_ (Kd.N_reads' HO185.out).2.2); (case side2 => exact (Kd.N_reads' HO185.out).2.1); (case side3 => exact uc_ (Kd.R_reads' HO189.out).2.2); (case side4 => exact (Kd.R_reads' HO189.out).2.1); rintro e w23 ⟨rfl, hb⟩; refine ⟨_, rfl, ?_⟩; replace HO185 := aM (Kd.N_below (un_ HO185.out) hb); replace HO189 := aM (Kd.R_below (uk_ HO189.out) hb); replace BK186 := bb_ BK186 hb; replace HB := bs_ HB hb; clear hb) | ((with_reducible refine gd_ 14 rfl ?_); (try (refine gate_guard (by rfl) ?_; dsimp only)); refine Kd.R_lit (Kd.int .u32) _ 36 ?hg (N := 14) ?hd (xs := ([4259840001] : List Int)) (inner := [.int .u32 4259840001]) (ok := fun _ => True) (okp := fun _ => True) ?hr ?hp (fun _ hk => hk) trivial (Below.refl _ _) (Nat.le_refl _) (by simp) ?_; (case hd => rfl); (case hg => rfl); (case hr => first | (go_simp; done) | (go_simp; rfl)); (case hp => exact (Reps.one (show Kd.M (Kd.int .u32) _ _ _ 4259840001 [.int .u32 4259840001] from rfl) (Reps.none _ _))); intro v192 w24 ho25 hb hg_ hnew_; clear hg_ hnew_; (first | rw [← Ny191.out] at ho25 | (simp only [Int.reduceToNat] at ho25; rw [← Ny191.out] at ho25)); have HO193 := aM (Kd.R_lower (Kd.R_new' ho25 (Kd.R_lt (uk_ HO189.out))) (below_size (bw_ HB.out))); replace HO185 := aM (Kd.N_elder' (un_ HO185.out) (Kd.R_base ho25) hb); replace HO189 := aM (Kd.R_elder' (uk_ HO189.out) (Kd.R_base ho25) hb); replace BK186 := bb_ BK186 hb; replace HB := bs_ HB hb; clear hb ho25; obtain ⟨Ao26, co26, eo26⟩ := Kd.R_slice HO193.out; subst eo26) | ((with_reducible refine gd_ 15 rfl ?_); (try (refine gate_guard (by rfl) ?_; dsimp only)); (refine gate_guard (by rfl) ?_; dsimp only); refine gL_ (some 15) rfl rfl Try.func40 #[.slice Ao21 y183.length co21, .slice Ao26 y191.length co26] rfl ?_; (with_reducible refine (cond_TakesComms.calls _ _ y183 _ _ y191 false _ ?side1 ?side2 ?side3 ?side4 A5.out).mono ?_); (case side1 => exact uc_ (Kd.N_reads' HO185.out).2.2); (case side2 => exact (Kd.N_reads' HO185.out).2.1); (case side3 => exact uc_ (Kd.R_reads' HO193.out).2.2); (case side4 => exact (Kd.R_reads' HO193.out).2.1); rintro e w27 ⟨rfl, hb⟩; refine ⟨_, rfl, ?_⟩; replace HO185 := aM (Kd.N_below (un_ HO185.out) hb); replace HO189 := aM (Kd.R_below (uk_ HO189.out) hb); replace HO193 := aM (Kd.R_below (uk_ HO193.out) hb); replace BK186 := bb_ BK186 hb; replace HB := bs_ HB hb; clear hb; obtain ⟨hcz28_0, hcz28_1, hcz28_2, hcz28_3, hcz28_4, hcz28_5, hfz28_0, hfz28_1, hfz28_2, hfz28_3, hfz28_4, hfz28_5⟩ := bc6_ BK186) | ((with_reducible refine gd_ 21 rfl ?_); (try (refine gate_guard (by rfl) ?_; dsimp only)); (refine gate_guard (by rfl) ?_; dsimp only); refine gL_ (some 21) rfl rfl Try.func34 #[.agg #[.int .i64 4, .slice none 0 0, .slice none 0 0, .slice none 0 0, .int .u32 100, .int .u32 200], .agg #[.int .u32 0, .int .i64 0, .slice none 0 0, .slice none 0 0, .int .u32 200, .int .u32 0, .int .i64 0, .int .u32 0]] rfl ?_; (refine (cond_Holds.calls k 4 _ _ ([] : List (S83)) _ _ ([] : List (S61)) _ _ ([] : List (S64)) 100 200 0 0 _ _ ([] : List Int) _ _ ([] : List Int) 200 0 0 0 true _ ?side1 ?side2 ?side3 ?side4 ?side5 ?side6 ?side7 ?side8 ?side9 ?side10 A7.out).mono ?_); (case side1 => exact Kd.C_nil _ _); (case side2 => exact Nat.le_refl _); (case side3 => exact Kd.C_nil _ _); (case side4 => exact Nat.le_refl _); (case side5 => exact Kd.C_nil _ _); (case side6 => exact Nat.le_refl _); (case side7 => exact Kd.C_nil _ _); (case side8 => exact Nat.le_refl _); (case side9 => exact Kd.C_nil _ _); (case side10 => exact Nat.le_refl _); rintro e w29 ⟨rfl, hb⟩; refine ⟨_, rfl, ?_⟩; replace HO185 := aM (Kd.N_below (un_ HO185.out) hb); replace HO189 := aM (Kd.R_below (uk_ HO189.out) hb); replace HO193 := aM (Kd.R_below (uk_ HO193.out) hb); replace BK186 := bb_ BK186 hb; replace HB := bs_ HB hb; clear hb; obtain ⟨hcz30_0, hcz30_1, hcz30_2, hcz30_3, hcz30_4, hcz30_5, hfz30_0, hfz30_1, hfz30_2, hfz30_3, hfz30_4, hfz30_5⟩ := bc6_ BK186) | ((with_reducible refine gd_ 26 rfl ?_); (try (refine gate_guard (by rfl) ?_; dsimp only)); (refine gate_guard (by rfl) ?_; dsimp only); refine gL_ (some 26) rfl rfl Try.func34 #[.agg #[.int .i64 4, .slice none 0 0, .slice none 0 0, .slice none 0 0, .int .u32 100, .int .u32 200], .agg #[.int .u32 0, .int .i64 0, .slice none 0 0, .slice none 0 0, .int .u32 201, .int .u32 0, .int .i64 0, .int .u32 0]] rfl ?_; (refine (cond_Holds.calls k 4 _ _ ([] : List (S83)) _ _ ([] : List (S61)) _ _ ([] : List (S64)) 100 200 0 0 _ _ ([] : List Int) _ _ ([] : List Int) 201 0 0 0 t196 _ ?side1 ?side2 ?side3 ?side4 ?side5 ?side6 ?side7 ?side8 ?side9 ?side10 A9.out).mono ?_); (case side1 => exact Kd.C_nil _ _); (case side2 => exact Nat.le_refl _); (case side3 => exact Kd.C_nil _ _); (case side4 => exact Nat.le_refl _); (case side5 => exact Kd.C_nil _ _); (case side6 => exact Nat.le_refl _); (case side7 => exact Kd.C_nil _ _); (case side8 => exact Nat.le_refl _); (case side9 => exact Kd.C_nil _ _); (case side10 => exact Nat.le_refl _); rintro e w31 ⟨rfl, hb⟩; refine ⟨_, rfl, ?_⟩; replace HO185 := aM (Kd.N_below (un_ HO185.out) hb); replace HO189 := aM (Kd.R_below (uk_ HO189.out) hb); replace HO193 := aM (Kd.R_below (uk_ HO193.out) hb); replace BK186 := bb_ BK186 hb; replace HB := bs_ HB hb; clear hb))
 first | go_ret | refine ⟨_, results_tmp rfl _ _ _, ?_⟩
 exact fin_ HB
end Go.Proofs.Ytlkjfjlmjgkheaa.H
