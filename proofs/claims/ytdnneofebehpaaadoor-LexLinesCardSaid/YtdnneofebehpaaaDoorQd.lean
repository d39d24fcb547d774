/- LexLines, plainly. -/
import Derived.Test.YtdnneofebehpaaaDoorQc
import Derived.Test.YtdnneofebehpaaaDoorLx13
namespace Go.Proofs.YtdnneofebehpaaaDoor.L
open Go.RowKit Go.Proofs.YtdnneofebehpaaaDoorW.PrintWords Go.Proofs.YtdnneofebehpaaaDoorW.PrintLast Go.Proofs.YtdnneofebehpaaaDoorW.PrintMore Go.Proofs.YtdnneofebehpaaaDoor.LexPlain
theorem rdL1 (xs : List (List ByteArray)) (j : Nat) (h : j < xs.length) : rd_L1 xs (j : Int) = xs[j] := by
  simp [rd_L1, List.getD_eq_getElem?_getD, List.getElem?_eq_getElem h]
theorem ask_size {s : ByteArray} (h : askV s = 0) : s.size ≤ 65536 := by
  apply Classical.byContradiction
  intro q
  unfold askV at h
  rw [if_pos (by omega)] at h
  exact absurd h (by decide)
theorem linesV_len (s : ByteArray) : (linesV s).1.length ≤ 65537 ∧ ∀ x ∈ (linesV s).1, x.length ≤ 65537 := by
  have hsz := Lib.size_eq s
  unfold linesV
  by_cases h : askV s = 0
  · rw [if_pos h]
    have hs := ask_size h
    obtain ⟨hp, hq⟩ := pcs_len nlB s.data.toList []
    unfold linesB linesL
    refine ⟨?_, fun x hx => ?_⟩
    · rw [List.length_map]
      refine Nat.le_trans (List.length_filter_le _ _) ?_
      rw [List.length_map]
      omega
    · obtain ⟨y, hy, rfl⟩ := List.mem_map.1 hx
      obtain ⟨z, hz, rfl⟩ := List.mem_map.1 (List.mem_filter.1 hy).1
      rw [List.length_map]
      unfold wordsL
      refine Nat.le_trans (List.length_filter_le _ _) ?_
      have := (pcs_len wordB z []).1
      have := hq z hz
      simp at this
      omega
  · rw [if_neg h]
    exact ⟨by simp, fun x hx => by simp at hx⟩
theorem lines_loop (l : List (List ByteArray)) (hl : l.length ≤ 65537) (hx : ∀ x ∈ l, x.length ≤ 65537) : ∀ (m i : Nat), i + m = l.length → Ev (fun k => dragomanlaw14_LexLines.l0 k l l (l.length : Int) (i : Int)) true := by
  intro m
  induction m with
  | zero =>
    intro i hi
    refine Ev.step (by intro k; rw [dragomanlaw14_LexLines.l0]) ?_
    exact Ev.ite_neg (by omega) (Ev.now _)
  | succ m ih =>
    intro i hi
    have hlt : i < l.length := by omega
    refine Ev.step (by intro k; rw [dragomanlaw14_LexLines.l0]) ?_
    refine Ev.ite_pos (by omega) (Ev.ite_pos (by omega) (Ev.ite_pos (by omega) (Ev.ite_pos (by omega) ?_)))
    rw [rdL1 l i hlt, w64s i (by omega)]
    refine Ev.bind1 _ (strings_ev l[i] (by have := hx _ (List.getElem_mem hlt); omega)) ?_
    exact Ev.ite_pos rfl (ih (i + 1) (by omega))
theorem lexLines_ev (s : ByteArray) : Ev (fun k => dragomanlaw14_LexLines.f k s) true := by
  refine Ev.congr (fun k => by rw [dragomanlaw14_LexLines.f]) ?_
  refine Ev.bind1 _ alive_ev ?_
  refine Ev.ite_pos rfl ?_
  obtain ⟨hl, hx⟩ := linesV_len s
  have j0 : Ev (fun k => dragomanlaw14_LexLines.j0 k s false) true := by
    refine Ev.step (by intro k; rw [dragomanlaw14_LexLines.j0]) ?_
    refine Ev.ite_neg (by decide) ?_
    refine Ev.bind1 _ (llines_ev s) ?_
    refine Ev.bind1 _ (rlines_ev s) ?_
    refine Ev.ite_pos rfl ?_
    have e : (((linesV s).1.length : Int) != ((linesV s).1.length : Int)) = false := by simp
    rw [e]
    refine Ev.step (by intro k; rw [dragomanlaw14_LexLines.j1]) ?_
    refine Ev.ite_neg (by decide) ?_
    exact lines_loop (linesV s).1 hl hx _ 0 (by rw [Nat.zero_add])
  by_cases h : (s.size : Int) > 3000
  · refine Ev.ite_pos h ?_
    by_cases h2 : (s.size : Int) ≤ 65536
    · rw [decide_eq_true h2]
      refine Ev.step (by intro k; rw [dragomanlaw14_LexLines.j0]) ?_
      exact Ev.ite_pos rfl (Ev.now _)
    · rw [decide_eq_false h2]
      exact j0
  · exact Ev.ite_neg h j0
end Go.Proofs.YtdnneofebehpaaaDoor.L
