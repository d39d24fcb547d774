import Derived.Test.YtlkjfjlmjgkheaaHx0
import Derived.Test.YtlkjfjlmjgkheaaHx5
namespace Go.Proofs.Ytlkjfjlmjgkheaa.H
open Go.RowKit Go.Proofs.YtlkjfjlmjgkheaaW.PrintWords Go.Proofs.YtlkjfjlmjgkheaaW.PrintLast Go.Proofs.YtlkjfjlmjgkheaaW.PrintMore
attribute [local go_sem] max2_int min2_int max_two min_two max_three min_three max_four min_four
set_option linter.unusedVariables false
set_option linter.unusedSimpArgs false
set_option maxHeartbeats 2000000 in
set_option maxRecDepth 100000 in
theorem span_In_1 (b : Nat) (x : S66) (n : Int) (W : World) (hc : W.cell? ⟨b, 0, none⟩ = some (.int .u32 n)) :
 Calls Try.prog 100 #[.agg #[.int .u32 x.f0, .int .u32 x.f1], .pointer (some ⟨b, 0, none⟩)] W fun e w' => e = .returned (.bool (decide (x.f0 ≤ n) && decide (n ≤ x.f1))) ∧ Below W.heap.size W w' := by
 have hu66 := Try.underlying66
 have hlt : b < W.heap.size := World.block_lt_of_cell? W _ hc
 by_cases h1 : x.f0 ≤ n
 · have hd : decide (x.f0 ≤ n) = true := decide_eq_true h1
   go_enter Try.func100, Try.ntmps100
   go_wp2
   go_ret
   exact ⟨by simp [hd], below_alloc (Below.refl _ _) _⟩
 · have hd : decide (x.f0 ≤ n) = false := decide_eq_false h1
   go_enter Try.func100, Try.ntmps100
   go_wp2
   go_ret
   exact ⟨by simp [hd], below_alloc (Below.refl _ _) _⟩
def span_In.f (l0 : List S66) (a1 : Int) : Option Bool := some (l0.any fun s => decide (s.f0 ≤ a1) && decide (a1 ≤ s.f1))
set_option maxHeartbeats 2000000 in
set_option maxRecDepth 100000 in
theorem span_In.calls (A0 : Option Addr) (c0 : Nat) (l0 : List S66) (a1 : Int) (r : Bool) (w : World) (hr0 : Kd.C k66 w A0 l0.length l0) (hc0 : l0.length ≤ c0) (h : span_In.f l0 a1 = some r) :
 Calls Try.prog 81 #[.slice A0 l0.length c0, .int .u32 a1] w fun e w' => e = .returned (.bool r) ∧ Below w.heap.size w w' := by
 obtain rfl := Option.some.inj h
 have hp : PredK Try.prog 100 #[.pointer (some ⟨w.heap.size, 0, none⟩)] k66 aggV (fun s : S66 => decide (s.f0 ≤ a1) && decide (a1 ≤ s.f1)) (w.alloc (.cells #[.int .u32 a1] 36)) l0 := by
  intro x hx W cs hb hk
  obtain rfl := k66_open hk
  have hc : W.cell? ⟨w.heap.size, 0, none⟩ = some (.int .u32 a1) := (hb.cell (p := ⟨w.heap.size, 0, none⟩) (by simp)).trans (by simp)
  refine (span_In_1 w.heap.size x a1 W hc).mono ?_
  rintro e w' ⟨he, hb'⟩
  exact ⟨he, below_then hb (by have := hb.size; simpa using this) hb'⟩
 have H := aM (conf_99 (fun args w => enters_ Try.func100 (by kernel_rfl) rfl args w) (c := c0) (Kd.C_below hr0 (below_alloc (Below.refl _ _) _)) hp)
 clear hp hr0 h
 go_enter Try.func81, Try.ntmps81
 go_wp2_with ((with_reducible refine H.out.mono ?_); rintro e w' ⟨rfl, hb'⟩)
 go_ret
 exact ⟨rfl, below_step (below_alloc (Below.refl _ _) _) hb'⟩
theorem idx71 (y0 y1 y2 y3 : Value) (W : World) : (Instr.index 71 (.agg #[y0, y1, y2, y3]) (.int .i64 0)).run Try.prog W = .ok y0 W ∧ (Instr.index 71 (.agg #[y0, y1, y2, y3]) (.int .i64 1)).run Try.prog W = .ok y1 W ∧ (Instr.index 71 (.agg #[y0, y1, y2, y3]) (.int .i64 2)).run Try.prog W = .ok y2 W ∧ (Instr.index 71 (.agg #[y0, y1, y2, y3]) (.int .i64 3)).run Try.prog W = .ok y3 W := ⟨by kernel_rfl, by kernel_rfl, by kernel_rfl, by kernel_rfl⟩
def pat_places_with.f (x0 x1 x2 x3 y0 y1 y2 y3 : Int) : Option (Int × Int × Int × Int) := some (Go.bits .or .u64 x0 y0, Go.bits .or .u64 x1 y1, Go.bits .or .u64 x2 y2, Go.bits .or .u64 x3 y3)
def withAt (k : Nat) (x y : Int) (j : Nat) : Int := if j < k then Go.bits .or .u64 x y else x
set_option maxHeartbeats 4000000 in
set_option maxRecDepth 100000 in
theorem pat_places_with.calls (a0_0 : Int) (a0_1 : Int) (a0_2 : Int) (a0_3 : Int) (a1_0 : Int) (a1_1 : Int) (a1_2 : Int) (a1_3 : Int) (r1 r2 r3 r4 : Int) (w : World) (h : pat_places_with.f a0_0 a0_1 a0_2 a0_3 a1_0 a1_1 a1_2 a1_3 = some (r1, r2, r3, r4)) :
 Calls Try.prog 82 #[.agg #[.int .u64 a0_0, .int .u64 a0_1, .int .u64 a0_2, .int .u64 a0_3], .agg #[.int .u64 a1_0, .int .u64 a1_1, .int .u64 a1_2, .int .u64 a1_3]] w fun e w' => e = .returned (.agg #[.int .u64 r1, .int .u64 r2, .int .u64 r3, .int .u64 r4]) ∧ Below w.heap.size w w' := by
 simp only [pat_places_with.f, Option.some.injEq, Prod.mk.injEq] at h
 obtain ⟨rfl, rfl, rfl, rfl⟩ := h
 have hu71 := Try.underlying71
 go_enter Try.func82, Try.ntmps82
 go_wp2
 go_loopg [5, 6, 8] 5 (fun gg _ _ s8 wr => ∃ kk : Nat, kk ≤ 4 ∧ 4 - kk ≤ gg ∧ s8 = .int .i64 kk ∧ Aside0 (Below w.heap.size w wr) ∧ Aside0 (wr.heap[w.heap.size]? = some (.cells #[.int .u64 (withAt kk a0_0 a1_0 0), .int .u64 (withAt kk a0_1 a1_1 1), .int .u64 (withAt kk a0_2 a1_2 2), .int .u64 (withAt kk a0_3 a1_3 3)] 71 (0, 0))) ∧ Aside0 (wr.heap[w.heap.size + 2]? = some (.cells #[.int .u64 0, .int .u64 0, .int .u64 0, .int .u64 0] 71 (0, 0))))
 case atStart => exact ⟨0, by omega, by omega, rfl, ⟨below_alloc (below_alloc (below_alloc (Below.refl _ _) _) _) _⟩, ⟨blk_alloc (blk_alloc (heap_alloc_new w _) _) _⟩, ⟨by simpa using heap_alloc_new ((w.alloc _).alloc _) _⟩⟩
 case round =>
  obtain ⟨kk, hkk, hg, rfl, BW, HK, HR⟩ := hrel
  have hb := HK.out
  have hr := HR.out
  have hc0 : wr.cell? ⟨w.heap.size, 0, none⟩ = some (.int .u64 (withAt kk a0_0 a1_0 0)) := (blk_cell hb 0).trans rfl
  have hc1 : wr.cell? ⟨w.heap.size, 1, none⟩ = some (.int .u64 (withAt kk a0_1 a1_1 1)) := (blk_cell hb 1).trans rfl
  have hc2 : wr.cell? ⟨w.heap.size, 2, none⟩ = some (.int .u64 (withAt kk a0_2 a1_2 2)) := (blk_cell hb 2).trans rfl
  have hc3 : wr.cell? ⟨w.heap.size, 3, none⟩ = some (.int .u64 (withAt kk a0_3 a1_3 3)) := (blk_cell hb 3).trans rfl
  have hd0 : wr.cell? ⟨w.heap.size + 2, 0, none⟩ = some (.int .u64 0) := (blk_cell hr 0).trans rfl
  have hd1 : wr.cell? ⟨w.heap.size + 2, 1, none⟩ = some (.int .u64 0) := (blk_cell hr 1).trans rfl
  have hd2 : wr.cell? ⟨w.heap.size + 2, 2, none⟩ = some (.int .u64 0) := (blk_cell hr 2).trans rfl
  have hd3 : wr.cell? ⟨w.heap.size + 2, 3, none⟩ = some (.int .u64 0) := (blk_cell hr 3).trans rfl
  have hf0 := bF hb 0
  have hf1 := bF hb 1
  have hf2 := bF hb 2
  have hf3 := bF hb 3
  have hg0 := bF hr 0
  have hg1 := bF hr 1
  have hg2 := bF hr 2
  have hg3 := bF hr 3
  have hi := fun W => idx71 (.int .u64 a1_0) (.int .u64 a1_1) (.int .u64 a1_2) (.int .u64 a1_3) W
  have hi0 := fun W => (hi W).1
  have hi1 := fun W => (hi W).2.1
  have hi2 := fun W => (hi W).2.2.1
  have hi3 := fun W => (hi W).2.2.2
  clear hi hb hr
  match kk, hkk with
  | 0, _ =>
   go_wp2
   go_roundg (4 - 1)
   case measure => omega
   case rel => exact ⟨1, by omega, by omega, by rfl, ⟨below_set (by with_reducible exact BW.out) (Nat.le_refl _)⟩, ⟨by have := blk_set HK.out 0 (.int .u64 (Go.bits .or .u64 a0_0 a1_0)); simpa [withAt] using this⟩, ⟨blk_far HR.out (by show w.heap.size + 2 ≠ w.heap.size; omega) _⟩⟩
  | 1, _ =>
   go_wp2
   go_roundg (4 - 2)
   case measure => omega
   case rel => exact ⟨2, by omega, by omega, by rfl, ⟨below_set (by with_reducible exact BW.out) (Nat.le_refl _)⟩, ⟨by have := blk_set HK.out 1 (.int .u64 (Go.bits .or .u64 a0_1 a1_1)); simpa [withAt] using this⟩, ⟨blk_far HR.out (by show w.heap.size + 2 ≠ w.heap.size; omega) _⟩⟩
  | 2, _ =>
   go_wp2
   go_roundg (4 - 3)
   case measure => omega
   case rel => exact ⟨3, by omega, by omega, by rfl, ⟨below_set (by with_reducible exact BW.out) (Nat.le_refl _)⟩, ⟨by have := blk_set HK.out 2 (.int .u64 (Go.bits .or .u64 a0_2 a1_2)); simpa [withAt] using this⟩, ⟨blk_far HR.out (by show w.heap.size + 2 ≠ w.heap.size; omega) _⟩⟩
  | 3, _ =>
   go_wp2
   go_roundg (4 - 4)
   case measure => omega
   case rel => exact ⟨4, by omega, by omega, by rfl, ⟨below_set (by with_reducible exact BW.out) (Nat.le_refl _)⟩, ⟨by have := blk_set HK.out 3 (.int .u64 (Go.bits .or .u64 a0_3 a1_3)); simpa [withAt] using this⟩, ⟨blk_far HR.out (by show w.heap.size + 2 ≠ w.heap.size; omega) _⟩⟩
  | 4, _ =>
   go_wp2
   refine bodyPost_ret (results_cell_row rfl _ _ (w.heap.size + 2) 71 #[.int .u64 (Go.bits .or .u64 a0_0 a1_0), .int .u64 (Go.bits .or .u64 a0_1 a1_1), .int .u64 (Go.bits .or .u64 a0_2 a1_2), .int .u64 (Go.bits .or .u64 a0_3 a1_3)] (0, 0) _ rfl (by have h0 := blk_put (cs := #[.int .u64 0, .int .u64 0, .int .u64 0, .int .u64 0]) HR.out 0 (.int .u64 (Go.bits .or .u64 a0_0 a1_0)) rfl; have h1 := blk_put h0 1 (.int .u64 (Go.bits .or .u64 a0_1 a1_1)) rfl; have h2 := blk_put h1 2 (.int .u64 (Go.bits .or .u64 a0_2 a1_2)) rfl; exact blk_put h2 3 (.int .u64 (Go.bits .or .u64 a0_3 a1_3)) rfl) Try.underlying71 rfl (by kernel_rfl)) rfl ?_
   exact ⟨rfl, below_set (below_set (below_set (below_set (by with_reducible exact BW.out) (by omega)) (by omega)) (by omega)) (by omega)⟩
end Go.Proofs.Ytlkjfjlmjgkheaa.H
