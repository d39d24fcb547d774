/- Lines, plainly: what the program's and the reference's functions on lines answer. -/
import Derived.Test.YtdnneofebehpaaaDoorLx12
import Derived.Test.YtdnneofebehpaaaDoorEv
import Derived.Test.YtdnneofebehpaaaDoorPlLn
namespace Go.Proofs.YtdnneofebehpaaaDoor.L
open Go.RowKit Go.Proofs.YtdnneofebehpaaaDoorW.PrintWords Go.Proofs.YtdnneofebehpaaaDoorW.PrintLast Go.Proofs.YtdnneofebehpaaaDoorW.PrintMore Go.Proofs.YtdnneofebehpaaaDoor.LexPlain
def toB (l : List UInt8) : ByteArray := ⟨l.toArray⟩
theorem toB_list (l : List UInt8) : (toB l).data.toList = l := by simp [toB]
theorem toB_of (s : ByteArray) : toB s.data.toList = s := by
  obtain ⟨⟨l⟩⟩ := s
  rfl
theorem toB_size (l : List UInt8) : (toB l).size = l.length := by rw [Lib.size_eq, toB_list]
theorem bt_list (s : ByteArray) (j : Nat) (h : j < s.data.toList.length) : bt s (j : Int) = ((s.data.toList[j]).toNat : Int) := by
  have h' : (j : Int).toNat < s.size := by rw [Lib.size_eq]; omega
  rw [← bt_at s (j : Int) h']
  rfl
theorem rdB (xs : List ByteArray) (j : Nat) (h : j < xs.length) : rdOf ByteArray.empty xs (j : Int) = xs[j] := by
  simp [rdOf, List.getD_eq_getElem?_getD, List.getElem?_eq_getElem h]
theorem mayB_iff (b : UInt8) : mayB b = true ↔ (32 ≤ b.toNat ∧ b.toNat ≤ 126) ∨ b.toNat = 9 ∨ b.toNat = 10 := by
  unfold mayB
  have e9 : (b == 9) = decide (b.toNat = 9) := by
    rw [Bool.eq_iff_iff, beq_iff_eq, decide_eq_true_iff]
    exact ⟨fun q => by rw [q]; rfl, fun q => UInt8.toNat_inj.1 q⟩
  have e10 : (b == 10) = decide (b.toNat = 10) := by
    rw [Bool.eq_iff_iff, beq_iff_eq, decide_eq_true_iff]
    exact ⟨fun q => by rw [q]; rfl, fun q => UInt8.toNat_inj.1 q⟩
  rw [e9, e10]
  simp [or_assoc]
def askV (s : ByteArray) : Int := if 65536 < s.size then 6 else if s.data.toList.all mayB then 0 else 4
theorem ask_loop (s : ByteArray) (hs : s.size ≤ 65536) : ∀ (m j : Nat), j + m = s.size → Ev (fun k => lex_ask.l0 k s (s.size : Int) (j : Int)) (if (s.data.toList.drop j).all mayB then 0 else 4) := by
  intro m
  have hsz := Lib.size_eq s
  induction m with
  | zero =>
    intro j hj
    refine Ev.step (by intro k; rw [lex_ask.l0]) ?_
    refine Ev.ite_neg (by omega) ?_
    rw [List.drop_of_length_le (by omega)]
    exact Ev.now _
  | succ m ih =>
    intro j hj
    have hlt : j < s.data.toList.length := by omega
    refine Ev.step (by intro k; rw [lex_ask.l0]) ?_
    refine Ev.ite_pos (by omega) (Ev.ite_pos (by omega) (Ev.ite_pos (by omega) ?_))
    rw [bt_list s j hlt, w64s j (by omega), dropc _ j hlt, List.all_cons]
    have next := ih (j + 1) (by omega)
    generalize s.data.toList[j] = b
    have hm := mayB_iff b
    by_cases h : mayB b = true
    · have h' := hm.1 h
      rw [h, Bool.true_and]
      by_cases c1 : (b.toNat : Int) < 32
      · refine Ev.ite_pos c1 ?_
        by_cases c2 : (b.toNat : Int) = 9
        · exact Ev.ite_pos c2 next
        · exact Ev.ite_neg c2 (Ev.ite_pos (by omega) next)
      · exact Ev.ite_neg c1 (Ev.ite_neg (by omega) next)
    · have h' : ¬ ((32 ≤ b.toNat ∧ b.toNat ≤ 126) ∨ b.toNat = 9 ∨ b.toNat = 10) := fun q => h (hm.2 q)
      rw [Bool.eq_false_iff.2 h, Bool.false_and, if_neg (by decide)]
      by_cases c1 : (b.toNat : Int) < 32
      · exact Ev.ite_pos c1 (Ev.ite_neg (by omega) (Ev.ite_neg (by omega) (Ev.now _)))
      · exact Ev.ite_neg c1 (Ev.ite_pos (by omega) (Ev.ite_neg (by omega) (Ev.ite_neg (by omega) (Ev.now _))))
theorem ask_ev (s : ByteArray) : Ev (fun k => lex_ask.f k s) (askV s) := by
  refine Ev.congr (fun k => by rw [lex_ask.f]) ?_
  unfold askV
  by_cases h : 65536 < s.size
  · rw [if_pos h]
    exact Ev.ite_pos (by omega) (Ev.now _)
  · rw [if_neg h]
    refine Ev.ite_neg (by omega) ?_
    have := ask_loop s (by omega) s.size 0 (by omega)
    rw [List.drop_zero] at this
    exact this
theorem may_loop (s : ByteArray) (hs : s.size ≤ 65536) : ∀ (m j : Nat), j + m = s.size → Ev (fun k => dragomanref14_may.l0 k s (j : Int)) ((s.data.toList.drop j).all mayB) := by
  intro m
  have hsz := Lib.size_eq s
  induction m with
  | zero =>
    intro j hj
    refine Ev.step (by intro k; rw [dragomanref14_may.l0]) ?_
    refine Ev.ite_neg (by omega) ?_
    rw [List.drop_of_length_le (by omega)]
    exact Ev.now _
  | succ m ih =>
    intro j hj
    have hlt : j < s.data.toList.length := by omega
    refine Ev.step (by intro k; rw [dragomanref14_may.l0]) ?_
    refine Ev.ite_pos (by omega) (Ev.ite_pos (by omega) ?_)
    rw [bt_list s j hlt, w64s j (by omega), dropc _ j hlt, List.all_cons]
    have next := ih (j + 1) (by omega)
    generalize s.data.toList[j] = b
    have hm := mayB_iff b
    by_cases h : mayB b = true
    · have h' := hm.1 h
      rw [h, Bool.true_and]
      by_cases c1 : (b.toNat : Int) ≥ 32
      · exact Ev.ite_pos c1 (Ev.ite_pos (by omega) next)
      · refine Ev.ite_neg c1 ?_
        by_cases c2 : (b.toNat : Int) = 9
        · exact Ev.ite_pos c2 next
        · exact Ev.ite_neg c2 (Ev.ite_pos (by omega) next)
    · have h' : ¬ ((32 ≤ b.toNat ∧ b.toNat ≤ 126) ∨ b.toNat = 9 ∨ b.toNat = 10) := fun q => h (hm.2 q)
      rw [Bool.eq_false_iff.2 h, Bool.false_and]
      by_cases c1 : (b.toNat : Int) ≥ 32
      · exact Ev.ite_pos c1 (Ev.ite_neg (by omega) (Ev.ite_neg (by omega) (Ev.ite_neg (by omega) (Ev.now _))))
      · exact Ev.ite_neg c1 (Ev.ite_neg (by omega) (Ev.ite_neg (by omega) (Ev.now _)))
theorem may_ev (s : ByteArray) (hs : s.size ≤ 65536) : Ev (fun k => dragomanref14_may.f k s) (s.data.toList.all mayB) := by
  refine Ev.congr (fun k => by rw [dragomanref14_may.f]) ?_
  have := may_loop s hs s.size 0 (by omega)
  rw [List.drop_zero] at this
  exact this
theorem extract_one (s : ByteArray) (i : Nat) (h : i < s.data.toList.length) : s.extract i (i + 1) = toB [s.data.toList[i]] := by
  rw [Lib.extract_eq]
  unfold toB
  congr 2
  rw [dropc _ i h, show i + 1 - i = 1 by omega]
  rfl
theorem pcs_len (p : UInt8 → Bool) : ∀ (s cur : List UInt8), (pcs p cur s).length ≤ s.length + 1 ∧ ∀ x ∈ pcs p cur s, x.length ≤ cur.length + s.length
  | [], cur => by simp [pcs]
  | b :: s, cur => by
    rw [pcs]
    split
    · obtain ⟨h1, h2⟩ := pcs_len p s []
      refine ⟨by simp only [List.length_cons]; omega, fun x hx => ?_⟩
      rcases List.mem_cons.1 hx with rfl | hx
      · omega
      · have := h2 x hx
        simp only [List.length_cons, List.length_nil] at this ⊢
        omega
    · obtain ⟨h1, h2⟩ := pcs_len p s (cur ++ [b])
      refine ⟨by simp only [List.length_cons]; omega, fun x hx => ?_⟩
      have := h2 x hx
      simp only [List.length_append, List.length_cons, List.length_nil] at this ⊢
      omega
theorem words_ne {s w : List UInt8} (h : w ∈ wordsL s) : w ≠ [] := by
  unfold wordsL at h
  have := (List.mem_filter.1 h).2
  intro q
  rw [q] at this
  simp at this
def linesB (s : List UInt8) : List (List ByteArray) := (linesL s).map (·.map toB)
theorem kept_cons (w : List UInt8) (ws : List (List UInt8)) (h : w ≠ []) : ∃ b, ∃ (hb : 0 < w.length), w[0] = b ∧ keptW (w :: ws) = !(b == 33) := by
  cases w with
  | nil => exact absurd rfl h
  | cons b w =>
    refine ⟨b, by simp, rfl, ?_⟩
    simp [keptW]
theorem line_step (x : List UInt8) (f : Nat → List (List ByteArray) → Option (List (List ByteArray) × Int)) (acc : List (List ByteArray)) (r : List (List ByteArray) × Int) (ha : acc.length ≤ 70000)
    (h1 : keptW (wordsL x) = false → Ev (fun k => f k acc) r) (h2 : keptW (wordsL x) = true → Ev (fun k => f k (acc ++ [(wordsL x).map toB])) r) :
    Ev (fun k => if (((wordsL x).map toB).length : Int) > 0 then (if 0 < (((wordsL x).map toB).length : Int) then (if 0 < ((rdOf ByteArray.empty ((wordsL x).map toB) 0).size : Int) then (if (bt (rdOf ByteArray.empty ((wordsL x).map toB) 0) 0) = 33 then f k acc else (if acc.length < 5864062014805 then f k (acc ++ [(wordsL x).map toB]) else (none))) else (none)) else (none)) else f k acc) r := by
  cases hw : wordsL x with
  | nil =>
    rw [hw] at h1 h2
    exact Ev.ite_neg (by simp) (h1 rfl)
  | cons w ws =>
    rw [hw] at h1 h2
    have hne : w ≠ [] := words_ne (s := x) (by rw [hw]; simp)
    obtain ⟨b, hb, hwb, hk⟩ := kept_cons w ws hne
    have e0 : rdOf ByteArray.empty ((w :: ws).map toB) 0 = toB w := rfl
    have e1 : bt (toB w) 0 = (b.toNat : Int) := by
      have := bt_list (toB w) 0 (by rw [toB_list]; exact hb)
      rw [show ((0 : Nat) : Int) = 0 from rfl] at this
      rw [this]
      simp only [toB_list, hwb]
    refine Ev.ite_pos (by simp) (Ev.ite_pos (by simp) (Ev.ite_pos (by rw [e0, toB_size]; omega) ?_))
    rw [e0, e1]
    by_cases h33 : b = 33
    · subst h33
      exact Ev.ite_pos rfl (h1 (by rw [hk]; rfl))
    · refine Ev.ite_neg (fun q => h33 (UInt8.toNat_inj.1 (by have : (33 : UInt8).toNat = 33 := rfl; omega))) (Ev.ite_pos (by omega) (h2 ?_))
      rw [hk]
      simp [h33]
def linesV (s : ByteArray) : List (List ByteArray) × Int := if askV s = 0 then (linesB s.data.toList, 0) else ([], askV s)
theorem split_pcs (s : ByteArray) (c : UInt8) : Lib.splitB ⟨#[c]⟩ 0 (Lib.countB s ⟨#[c]⟩) s = (pcs (fun b => b == c) [] s.data.toList).map toB := by
  have h := Lib.splitB_data ⟨#[c]⟩ 0 (Lib.countB s ⟨#[c]⟩) s
  have h2 : ∀ l : List ByteArray, l = (l.map (·.data.toList)).map toB := by
    intro l
    rw [List.map_map]
    induction l with
    | nil => rfl
    | cons a l ih => rw [List.map_cons, ← ih]; simp only [Function.comp, toB_of]
  rw [h2 (Lib.splitB ⟨#[c]⟩ 0 (Lib.countB s ⟨#[c]⟩) s), h]
  congr 1
  rw [← split_one]
  rfl
theorem llines_loop (s : List UInt8) (hs : ∀ b ∈ s, mayB b = true) (l : List (List UInt8)) (hl : l.length ≤ 65537) (hx : ∀ x ∈ l, x.length ≤ 65536 ∧ x ∈ Lib.split s [10]) : ∀ (m i : Nat) (acc : List (List ByteArray)), i + m = l.length → acc.length ≤ i →
    Ev (fun k => lex_Lines.l0 k acc (l.map toB) ((l.map toB).length : Int) (i : Int)) (acc ++ (((l.drop i).map wordsL).filter keptW).map (·.map toB), 0) := by
  intro m
  induction m with
  | zero =>
    intro i acc hi ha
    refine Ev.step (by intro k; rw [lex_Lines.l0]) ?_
    refine Ev.ite_neg (by rw [List.length_map]; omega) ?_
    rw [List.drop_of_length_le (by omega)]
    simp only [List.filter_nil, List.map_nil, List.append_nil]
    exact Ev.now _
  | succ m ih =>
    intro i acc hi ha
    have hlt : i < l.length := by omega
    obtain ⟨hlen, hmem⟩ := hx _ (List.getElem_mem hlt)
    refine Ev.step (by intro k; rw [lex_Lines.l0]) ?_
    refine Ev.ite_pos (by rw [List.length_map]; omega) (Ev.ite_pos (by omega) (Ev.ite_pos (by rw [List.length_map]; omega) ?_))
    rw [rdB _ i (by rw [List.length_map]; exact hlt), List.getElem_map, w64s i (by omega), dropc _ i hlt]
    have hF : strings_Fields.f (toB l[i]) = some ((wordsL l[i]).map toB) := by
      unfold strings_Fields.f
      have ha : asciiB (toB l[i]) = true := by
        unfold asciiB
        rw [toB_list, List.all_eq_true]
        intro b hb
        rw [split_one] at hmem
        rcases pcs_mem _ s [] _ hmem b hb with h | ⟨h1, _⟩
        · simp at h
        · have := (mayB_iff b).1 (hs b h1)
          exact decide_eq_true (by omega)
      rw [if_pos ⟨by rw [toB_size]; omega, ha⟩, toB_list, words_line hs hmem]
      rfl
    rw [hF]
    refine Ev.some ?_
    rw [List.map_cons, List.filter_cons]
    refine line_step l[i] (fun k a => lex_Lines.l0 k a (l.map toB) ((l.map toB).length : Int) ((i + 1 : Nat) : Int)) acc _ (by omega) (fun h => ?_) (fun h => ?_)
    · rw [h, if_neg (by decide)]
      exact ih (i + 1) acc (by omega) (by omega)
    · rw [h, if_pos rfl]
      have := ih (i + 1) (acc ++ [(wordsL l[i]).map toB]) (by omega) (by simp; omega)
      rw [List.append_assoc] at this
      exact this
theorem llines_ev (s : ByteArray) : Ev (fun k => lex_Lines.f k s) (linesV s) := by
  refine Ev.congr (fun k => by rw [lex_Lines.f]) ?_
  have hsz := Lib.size_eq s
  refine Ev.bind1 _ (ask_ev s) ?_
  unfold linesV
  by_cases h : askV s = 0
  · rw [if_pos h]
    refine Ev.ite_pos h ?_
    have h1 : ¬ 65536 < s.size := by intro q; unfold askV at h; rw [if_pos q] at h; exact absurd h (by decide)
    have h2 : s.data.toList.all mayB = true := by
      unfold askV at h
      rw [if_neg h1] at h
      by_cases g : s.data.toList.all mayB = true
      · exact g
      · rw [if_neg g] at h; exact absurd h (by decide)
    have hS : strings_Split.f s ⟨#[10]⟩ = some ((pcs nlB [] s.data.toList).map toB) := by
      unfold strings_Split.f
      rw [if_pos ⟨by omega, by decide⟩, split_pcs]
      rfl
    rw [hS]
    refine Ev.some ?_
    obtain ⟨hp, hq⟩ := pcs_len nlB s.data.toList []
    have := llines_loop s.data.toList (fun b hb => List.all_eq_true.1 h2 b hb) (pcs nlB [] s.data.toList) (by omega) (fun x hx => ⟨by have := hq x hx; simp at this; omega, by rw [split_one]; exact hx⟩) _ 0 [] (by rw [Nat.zero_add]) (by simp)
    rw [List.drop_zero] at this
    exact this
  · rw [if_neg h]
    exact Ev.ite_neg h (Ev.now _)
theorem strings_loop (l : List ByteArray) (hl : l.length ≤ 8796093022208) : ∀ (m i : Nat), i + m = l.length → Ev (fun k => dragomanref14_Strings.l0 k l l (l.length : Int) (i : Int)) true := by
  intro m
  induction m with
  | zero =>
    intro i hi
    refine Ev.step (by intro k; rw [dragomanref14_Strings.l0]) ?_
    exact Ev.ite_neg (by omega) (Ev.now _)
  | succ m ih =>
    intro i hi
    refine Ev.step (by intro k; rw [dragomanref14_Strings.l0]) ?_
    refine Ev.ite_pos (by omega) (Ev.ite_pos (by omega) (Ev.ite_pos (by omega) (Ev.ite_pos (by omega) (Ev.ite_pos rfl ?_))))
    rw [w64s i (by omega)]
    exact ih (i + 1) (by omega)
theorem strings_ev (l : List ByteArray) (hl : l.length ≤ 8796093022208) : Ev (fun k => dragomanref14_Strings.f k l l) true := by
  refine Ev.congr (fun k => by rw [dragomanref14_Strings.f]) ?_
  exact Ev.ite_pos rfl (strings_loop l hl l.length 0 (by omega))
end Go.Proofs.YtdnneofebehpaaaDoor.L
